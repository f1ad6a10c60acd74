/- Chapter 16: a number's text; lists of numbers compared. Chapter 16: trees with another name. Chapter 16: a name that stands nowhere. Chapter 16: what a variable more does to names and numbers, in plain Lean. -/
import Derived.Test.YtnbokmbjiioooaaSc3
import Derived.Test.YtnbokmbjiioooaaAl4
set_option linter.unusedSimpArgs false
set_option linter.unusedVariables false
namespace Go.Al
/-- a number's digits -/
def digs (n : Nat) : Str := if n ≤ 9 then [UInt8.ofNat (48 + n)] else digs (n / 10) ++ [UInt8.ofNat (48 + n % 10)]
termination_by n
decreasing_by omega
theorem digs_len (n : Nat) : 1 ≤ (digs n).length ∧ (digs n).length ≤ n + 1 := by
  induction n using Nat.strongRecOn with
  | _ n ih =>
    rw [digs]
    split
    · simp
    · have := ih (n / 10) (by omega)
      rw [List.length_append, List.length_singleton]
      omega
/-- a text's number -/
def valD (s : Str) : Nat := s.foldl (fun a c => 10 * a + (c.toNat - 48)) 0
theorem valD_digs (n : Nat) : valD (digs n) = n := by
  induction n using Nat.strongRecOn with
  | _ n ih =>
    rw [digs]
    split
    · simp only [valD, List.foldl_cons, List.foldl_nil]
      rw [UInt8.toNat_ofNat']
      omega
    · have := ih (n / 10) (by omega)
      rw [valD] at this
      rw [valD, List.foldl_append, this]
      simp only [List.foldl_cons, List.foldl_nil]
      rw [UInt8.toNat_ofNat']
      omega
theorem digs_inj {n m : Nat} (h : digs n = digs m) : n = m := by rw [← valD_digs n, h, valD_digs]
end Go.Al
namespace Go.Proofs.Ytnbokmbjiioooaa
open Go.Al
theorem Text_con (n : Nat) (h : n < 4294967296) : PCon env 37 [.int .u32 (n : Int)] (.str (digs n)) := by
  refine con_of 23 [.tmp 2] Try.func37 rfl rfl rfl rfl ?_
  refine awp_seq_k fun K hK => ?_
  refine awp_region rfl ?_
  simp only [RR, seval]
  refine hK _ _ ?_; clear hK K
  refine awp_seq_k fun K hK => ?_
  refine awp_region rfl ?_
  simp only [RR, seval]
  refine hK _ _ ?_; clear hK K
  refine awp_seq ?_
  refine awp_name fun F1 M1 hfr hH => ?_
  have g0 := hfr 0
  have g2 := hfr 2
  have g3 := hfr 3
  try simp only [RR, seval] at g0 g2 g3
  have f0 := g0; clear g0
  have f2 := g2; clear g2
  have f3 := g3; clear g3
  clear hfr hH
  refine awp_block ?_
  refine awp_while [2] (n) (fun m fr M => m ≤ n ∧ fr 0 = .int .u32 (m : Nat) ∧ ∃ s : Str, fr 3 = .str s ∧ digs n = digs m ++ s ∧ s.length + m ≤ n) ⟨Nat.le_refl _, f0, [], f3, (by rw [List.append_nil]), (by simp)⟩ ?_
  rintro m F2 M2 ⟨hm, f0, s, f3, hs, hsl⟩ agx K0 hK0
  have f2 := (agx 2 rfl).trans f2
  have ag0 := agree.refl [2] F2
  clear agx
  refine awp_seq ?_
  refine awp_seq_k fun K hK => ?_
  refine awp_region rfl ?_
  simp only [f2, f0, f3, RR, seval]
  refine hK _ _ ?_; clear hK K
  refine awp_if _ rfl (fun hc => ?_) (fun hc => ?_)
  · have hw0 := hc; clear hc
    have hw := of_decide_eq_true hw0
    have e1 : (m : Int).tmod 10 = ((m % 10 : Nat) : Int) := IntWalk.up_tmod rfl rfl
    have e2 : IntKind.wrap .u32 (48 + ((m % 10 : Nat) : Int)) = ((48 + m % 10 : Nat) : Int) := by rw [IntWalk.u32_in _ (by omega)]; omega
    have e3 : IntKind.wrap .u8 ((48 + m % 10 : Nat) : Int) = ((48 + m % 10 : Nat) : Int) := IntWalk.u8_in _ (by omega)
    have e4 : (m : Int).tdiv 10 = ((m / 10 : Nat) : Int) := IntWalk.up_tdiv rfl rfl
    have e5 : IntKind.wrap .u32 ((m / 10 : Nat) : Int) = ((m / 10 : Nat) : Int) := IntWalk.u32_in _ (by omega)
    have e6 : 1 + s.length ≤ maxLen := by simp only [maxLen]; omega
    refine awp_skip ?_; try simp only [RR]
    refine awp_block ?_
    refine awp_seq_k fun K hK => ?_
    refine awp_region rfl ?_
    simp only [f2, f0, f3, e1, e2, e3, e4, e5, e6, RR, seval]
    refine awpB_sealed ?_
    simp only [f2, f0, f3, e1, e2, e3, e4, e5, e6, RR, seval]
    refine hK _ _ ?_; clear hK K
    refine awp_region rfl ?_
    simp only [f2, f0, f3, e1, e2, e3, e4, e5, e6, RR, seval]
    try rw [IntWalk.i64_in _ (by omega)]
    refine hK0 (m / 10) _ _ (by omega) ⟨(by omega), rfl, _, rfl, (by rw [hs, digs, if_neg (by omega), List.append_assoc]; rfl), (by simp only [List.length_cons]; omega)⟩ (by repeat (first | exact ag0 | refine agree.upd rfl ?_))
  · have hw0 := hc; clear hc
    have hw := of_decide_eq_false hw0
    have e2 : IntKind.wrap .u32 (48 + (m : Int)) = ((48 + m : Nat) : Int) := by rw [IntWalk.u32_in _ (by omega)]; omega
    have e3 : IntKind.wrap .u8 ((48 + m : Nat) : Int) = ((48 + m : Nat) : Int) := IntWalk.u8_in _ (by omega)
    have e6 : 1 + s.length ≤ maxLen := by simp only [maxLen]; omega
    refine awp_exit ?_; simp only [RR, seval]
    refine awp_seq_k fun K hK => ?_
    refine awp_region rfl ?_
    simp only [f2, f0, f3, e2, e3, e6, RR, seval]
    refine awpB_sealed ?_
    simp only [f2, f0, f3, e2, e3, e6, RR, seval]
    refine hK _ _ ?_; clear hK K
    refine awp_ret ?_; simp only [bodyQ, aresult, ares, f2, f0, f3, e2, e3, e6, RR, seval]
    refine Gives.pure ?_
    rw [hs, digs, if_pos (by omega)]
    rfl
theorem Ints_con (l m : List Int) (hl : l.length ≤ 1000000) (hm : m.length ≤ 1000000) : PCon env 23 [.isl 1 (l.map intRow), .isl 1 (m.map intRow)] (.bool (decide (l = m))) := by
  refine con_of 26 [.tmp 4] Try.func23 rfl rfl rfl rfl ?_
  refine awp_seq_k fun K hK => ?_
  refine awp_region rfl ?_
  simp only [List.length_map, RR, seval]
  refine hK _ _ ?_; clear hK K
  refine awp_seq ?_
  refine awp_seq_k fun K hK => ?_
  refine awp_region rfl ?_
  simp only [List.length_map, RR, seval]
  refine hK _ _ ?_; clear hK K
  refine awp_if _ rfl (fun hc1 => ?_) (fun hc1 => ?_)
  · refine awp_seq_k fun K hK => ?_
    refine awp_region rfl ?_
    simp only [List.length_map, RR, seval]
    refine hK _ _ ?_; clear hK K
    refine awp_ret ?_; simp only [bodyQ, aresult, ares, List.length_map, RR, seval]
    refine Gives.pure ?_
    rw [decide_eq_false]
    rintro rfl
    simp at hc1
  · have hlen : l.length = m.length := by
      have : decide ((l.length : Int) = (m.length : Int)) = true := by simpa using hc1
      have := of_decide_eq_true this
      omega
    refine awp_skip ?_; try simp only [RR]
    refine awp_seq ?_
    refine awp_seq_k fun K hK => ?_
    refine awp_region rfl ?_
    simp only [List.length_map, RR, seval]
    refine hK _ _ ?_; clear hK K
    refine awp_name fun F1 M1 hfr hH => ?_
    have g0 := hfr 0
    have g1 := hfr 1
    have g4 := hfr 4
    have g5 := hfr 5
    try simp only [List.length_map, RR, seval] at g0 g1 g4 g5
    have f0 := g0; clear g0
    have f1 := g1; clear g1
    have f4 := g4; clear g4
    have f5 := g5; clear g5
    clear hfr hH
    refine awp_block ?_
    refine awp_each [0, 1] (l.length) (fun k fr M => fr 5 = .int .i64 (k : Nat) ∧ l.take k = m.take k) ⟨f5, rfl⟩ ?_
    rintro k F2 M2 hk0 ⟨fx, hk⟩ agx K0 hK0
    have f0 := (agx 0 rfl).trans f0
    have f1 := (agx 1 rfl).trans f1
    have f5 := fx; clear fx
    have ag0 := agree.refl [0, 1] F2
    clear agx
    refine awp_seq ?_
    refine awp_seq_k fun K hK => ?_
    refine awp_region rfl ?_
    simp only [f0, f1, f5, List.length_map, RR, seval]
    refine hK _ _ ?_; clear hK K
    refine awp_if _ rfl (fun hc => ?_) (fun hc => ?_)
    · have hlt0 : k < l.length := by have := of_decide_eq_true hc; omega
      clear hc
      have ga := getI (List.getElem?_eq_getElem hlt0)
      have gb := getI (List.getElem?_eq_getElem (show k < m.length by omega))
      refine awp_skip ?_; try simp only [RR]
      refine awp_seq ?_
      refine awp_block ?_
      refine awp_seq_k fun K hK => ?_
      refine awp_region_draw2 (fun x => True) [(0, 1), (1, 1), (2, 1), (3, 1), (4, 1), (5, 1), (6, 1), (7, 1), (8, 1)] [] draws (by kernel_rfl) rfl rfl ?_
      simp only [emitF, markOf, ne_eq, not_true_eq_false, and_false, false_and, not_false_eq_true, f0, f1, f5, List.length_map, ga, gb, RR, seval]
      refine hK _ _ ?_; clear hK K
      refine awp_if _ rfl (fun hc6 => ?_) (fun hc6 => ?_)
      · refine awp_seq_k fun K hK => ?_
        refine awp_region rfl ?_
        simp only [f0, f1, f5, List.length_map, ga, gb, RR, seval]
        refine hK _ _ ?_; clear hK K
        refine awp_ret ?_; simp only [bodyQ, aresult, ares, f0, f1, f5, List.length_map, ga, gb, RR, seval]
        refine Gives.pure ?_
        rw [decide_eq_false]
        rintro rfl
        simp at hc6
      · refine awp_skip ?_; try simp only [RR]
        refine awp_region rfl ?_
        simp only [f0, f1, f5, List.length_map, ga, gb, RR, seval]
        try rw [IntWalk.i64_in _ (by omega)]
        refine hK0 _ _ hlt0 ⟨by first | rfl | (simp only [upd_app, seval]; rfl), by rw [List.take_succ_eq_append_getElem hlt0, List.take_succ_eq_append_getElem (show k < m.length by omega), hk, show l[k] = m[k] by simpa using hc6]⟩ (by repeat (first | exact ag0 | refine agree.upd rfl ?_))
    · have hkn0 : k = l.length := by have := of_decide_eq_false hc; omega
      clear hc
      refine awp_exit ?_; simp only [RR, seval]
      refine awp_seq_k fun K hK => ?_
      refine awp_region rfl ?_
      simp only [f0, f1, f5, List.length_map, RR, seval]
      refine hK _ _ ?_; clear hK K
      refine awp_ret ?_; simp only [bodyQ, aresult, ares, f0, f1, f5, List.length_map, RR, seval]
      refine Gives.pure ?_
      rw [hkn0, List.take_length, hlen, List.take_length] at hk
      rw [decide_eq_true hk]
end Go.Proofs.Ytnbokmbjiioooaa

namespace Go.Al
mutual
def renX (a b : Str) : Ex → Ex
  | .mk k o n s l => .mk k o n (if (decide (k = 2) && decide (s = a)) = true then b else s) (renE a b l)
def renE (a b : Str) : List Ex → List Ex
  | [] => []
  | e :: l => renX a b e :: renE a b l
end
theorem renE_map (a b : Str) : ∀ l : List Ex, renE a b l = l.map (renX a b)
  | [] => by simp only [renE, List.map_nil]
  | e :: l => by simp only [renE, List.map_cons, renE_map a b l]
theorem renX_row (a b : Str) (e : Ex) : (renX a b e).row = [.int .i64 e.kind, .int .i64 e.op, .int .u32 e.num, .str (if (decide (e.kind = 2) && decide (e.name = a)) = true then b else e.name), .isl 5 ((e.kids.map (renX a b)).map Ex.row)] := by
  cases e; simp only [renX, Ex.row_eq, Ex.kind, Ex.op, Ex.num, Ex.name, Ex.kids, renE_map]; rfl
mutual
def renM (a b : Str) : Sm → Sm
  | .mk k s l t u => .mk k (if (decide (k = 1) && decide (s = a)) = true then b else s) (l.map (renX a b)) (renS a b t) (renS a b u)
def renS (a b : Str) : List Sm → List Sm
  | [] => []
  | e :: l => renM a b e :: renS a b l
end
theorem renS_map (a b : Str) : ∀ l : List Sm, renS a b l = l.map (renM a b)
  | [] => by simp only [renS, List.map_nil]
  | e :: l => by simp only [renS, List.map_cons, renS_map a b l]
theorem renM_row (a b : Str) (e : Sm) : (renM a b e).row = [.int .i64 e.kind, .str (if (decide (e.kind = 1) && decide (e.name = a)) = true then b else e.name), .isl 5 ((e.es.map (renX a b)).map Ex.row), .isl 5 ((e.thn.map (renM a b)).map Sm.row), .isl 5 ((e.els.map (renM a b)).map Sm.row)] := by
  cases e; simp only [renM, Sm.row_eq, Sm.kind, Sm.name, Sm.es, Sm.thn, Sm.els, renS_map]; rfl
theorem len_szE : ∀ l : List Ex, l.length ≤ szE l
  | [] => by simp [szE]
  | e :: l => by have := len_szE l; have := e.sz_eq; simp only [List.length_cons, szE]; omega
theorem len_szS : ∀ l : List Sm, l.length ≤ szS l
  | [] => by simp [szS]
  | e :: l => by have := len_szS l; have := e.sz_eq; simp only [List.length_cons, szS]; omega
end Go.Al
namespace Go.Proofs.Ytnbokmbjiioooaa
open Go.Al
theorem rename_con (a b : Str) (n : Nat) : ∀ l : List Ex, szE l ≤ n → n ≤ 1000000 → PCon env 40 [.isl 5 (l.map Ex.row), .str a, .str b] (.isl 5 ((l.map (renX a b)).map Ex.row)) := by
  induction n using Nat.strongRecOn with
  | _ n ih =>
    intro l hn hb
    have hll := len_szE l
    refine con_of 42 [.tmp 6] Try.func40 rfl rfl rfl rfl ?_
    refine awp_seq_k fun K hK => ?_
    refine awp_region rfl ?_
    simp only [List.length_map, RR, seval]
    refine hK _ _ ?_; clear hK K
    refine awp_seq_k fun K hK => ?_
    refine awp_region rfl ?_
    simp only [List.length_map, RR, seval]
    refine hK _ _ ?_; clear hK K
    refine awp_seq ?_
    refine awp_seq_k fun K hK => ?_
    refine awp_region rfl ?_
    simp only [List.length_map, RR, seval]
    refine hK _ _ ?_; clear hK K
    refine awp_name fun F1 M1 hfr hH => ?_
    have g0 := hfr 0
    have g1 := hfr 1
    have g2 := hfr 2
    have g6 := hfr 6
    have g7 := hfr 7
    have g8 := hfr 8
    try simp only [List.length_map, RR, seval] at g0 g1 g2 g6 g7 g8
    have f0 := g0; clear g0
    have f1 := g1; clear g1
    have f2 := g2; clear g2
    have f6 := g6; clear g6
    have f7 := g7; clear g7
    have f8 := g8; clear g8
    clear hfr hH
    refine awp_block ?_
    refine awp_each [0, 1, 2, 6] (l.length) (fun k fr M => fr 8 = .int .i64 (k : Nat) ∧ OwnL 5 (fr 7) (((l.take k).map (renX a b)).map Ex.row) M) ⟨f8, .inl ⟨f7, rfl⟩⟩ ?_
    rintro k F2 M2 hk0 ⟨fx, hown⟩ agx K0 hK0
    have f0 := (agx 0 rfl).trans f0
    have f1 := (agx 1 rfl).trans f1
    have f2 := (agx 2 rfl).trans f2
    have f6 := (agx 6 rfl).trans f6
    have f8 := fx; clear fx
    have ag0 := agree.refl [0, 1, 2, 6] F2
    clear agx
    obtain ⟨v7, f7⟩ : ∃ v, F2 7 = v := ⟨_, rfl⟩
    rw [f7] at hown
    refine awp_seq ?_
    refine awp_seq_k fun K hK => ?_
    refine awp_region rfl ?_
    simp only [f0, f1, f2, f6, f8, f7, List.length_map, RR, seval]
    refine hK _ _ ?_; clear hK K
    refine awp_if _ rfl (fun hc => ?_) (fun hc => ?_)
    · have hlt0 : k < l.length := by have := of_decide_eq_true hc; omega
      clear hc
      have hg := getE (List.getElem?_eq_getElem hlt0)
      have hsz := szE_mem (List.getElem_mem hlt0)
      have htk : l.take (k + 1) = l.take k ++ [l[k]] := List.take_succ_eq_append_getElem hlt0
      have htl : (l.take k).length ≤ l.length := by rw [List.length_take]; omega
      generalize l[k] = e at hg hsz htk
      have hr := renX_row a b e
      have hz := e.sz_eq
      have hih := ih (szE e.kids) (by omega) e.kids (Nat.le_refl _) (by omega)
      generalize z1 : decide (e.kind = 2) = B1 at hr
      generalize z2 : decide (e.name = a) = B2 at hr
      cases B1 <;> cases B2
      all_goals
        refine awp_skip ?_; try simp only [RR]
        refine awp_seq ?_
        refine awp_block ?_
        refine awp_seq_k fun K hK => ?_
        refine awp_region rfl ?_
        simp only [f0, f1, f2, f6, f8, f7, List.length_map, hg, z1, z2, RR, seval]
        refine awpN_intro fun b9 hn9 => ?_
        simp only [f0, f1, f2, f6, f8, f7, List.length_map, hg, z1, z2, RR, seval]
        refine hK _ _ ?_; clear hK K
        have ho9 := hown.new hn9
        refine awp_seq ?_
        refine awp_seq_k fun K hK => ?_
        refine awp_region rfl ?_
        simp only [f0, f1, f2, f6, f8, f7, List.length_map, hg, z1, z2, RR, seval]
        refine hK _ _ ?_; clear hK K
        refine awp_if _ rfl (fun hc6 => ?_) (fun hc6 => ?_)
        · try (cases hc6; done)
          all_goals
            refine awp_region rfl ?_
            simp only [f0, f1, f2, f6, f8, f7, List.length_map, hg, z1, z2, RR, seval]
            refine awp_seq_k fun K hK => ?_
            refine awp_region rfl ?_
            simp only [f0, f1, f2, f6, f8, f7, List.length_map, hg, z1, z2, RR, seval]
            refine awpC_pure' (hih) ?_
            simp only [f0, f1, f2, f6, f8, f7, List.length_map, hg, z1, z2, RR, seval]
            refine hK _ _ ?_; clear hK K
            refine awp_name fun F3 M3 hfr hH => ?_
            have g0 := hfr 0
            have g1 := hfr 1
            have g2 := hfr 2
            have g6 := hfr 6
            have g7 := hfr 7
            have g8 := hfr 8
            have g9 := hfr 9
            have gb9 := hH b9
            try simp only [f0, f1, f2, f6, f8, f7, List.length_map, hg, z1, z2, RR, seval] at g0 g1 g2 g6 g7 g8 g9 gb9
            have ag0 : agree [0, 1, 2, 6] F2 F3 := agree.same hfr (by repeat (first | exact ag0 | refine agree.upd rfl ?_))
            have hown := OwnL.same (sz := 5) (v := v7) (rows := ((l.take k).map (renX a b)).map Ex.row) (by repeat (first | exact hown | refine OwnL.off ?_ ho9 _)) hH
            have f0 := g0; clear g0
            have f1 := g1; clear g1
            have f2 := g2; clear g2
            have f6 := g6; clear g6
            have f7 := g7; clear g7
            have f8 := g8; clear g8
            have f9 := g9; clear g9
            have hb9 := gb9; clear gb9
            clear hfr hH
            refine awp_region rfl ?_
            simp only [f0, f1, f2, f6, f7, f8, f9, hb9, List.length_map, hg, z1, z2, RR, seval]
            refine awpB_sealed ?_
            simp only [f0, f1, f2, f6, f7, f8, f9, hb9, List.length_map, hg, z1, z2, RR, seval]
            refine awpA_own hown (by simp only [List.length_map, List.length_cons, List.length_nil]; omega) (fun _ => trivial) fun v9 M4 hown' hk' => ?_
            simp only [f0, f1, f2, f6, f7, f8, f9, hb9, List.length_map, hg, z1, z2, RR, seval]
            have gb9 := hk' b9 _ hb9 (by first | exact (hown).nb' hb9 (by decide) | exact ho9 _ _ | assumption | (intro e; simp_all))
            have hb9 := gb9; clear gb9
            refine awp_region rfl ?_
            simp only [f0, f1, f2, f6, f7, f8, f9, hb9, List.length_map, hg, z1, z2, RR, seval]
            try rw [IntWalk.i64_in _ (by omega)]
            refine hK0 _ _ hlt0 ⟨by first | rfl | (simp only [upd_app, seval]; rfl), by rw [htk, List.map_append, List.map_append, List.map_singleton, List.map_singleton, hr]; exact hown'⟩ (by repeat (first | exact ag0 | refine agree.upd rfl ?_))
        · try (cases hc6; done)
          all_goals
            refine awp_skip ?_; try simp only [RR]
            refine awp_seq_k fun K hK => ?_
            refine awp_region rfl ?_
            simp only [f0, f1, f2, f6, f8, f7, List.length_map, hg, z1, z2, RR, seval]
            refine awpC_pure' (hih) ?_
            simp only [f0, f1, f2, f6, f8, f7, List.length_map, hg, z1, z2, RR, seval]
            refine hK _ _ ?_; clear hK K
            refine awp_name fun F5 M5 hfr hH => ?_
            have g0 := hfr 0
            have g1 := hfr 1
            have g2 := hfr 2
            have g6 := hfr 6
            have g7 := hfr 7
            have g8 := hfr 8
            have g9 := hfr 9
            have gb9 := hH b9
            try simp only [f0, f1, f2, f6, f8, f7, List.length_map, hg, z1, z2, RR, seval] at g0 g1 g2 g6 g7 g8 g9 gb9
            have ag0 : agree [0, 1, 2, 6] F2 F5 := agree.same hfr (by repeat (first | exact ag0 | refine agree.upd rfl ?_))
            have hown := OwnL.same (sz := 5) (v := v7) (rows := ((l.take k).map (renX a b)).map Ex.row) (by repeat (first | exact hown | refine OwnL.off ?_ ho9 _)) hH
            have f0 := g0; clear g0
            have f1 := g1; clear g1
            have f2 := g2; clear g2
            have f6 := g6; clear g6
            have f7 := g7; clear g7
            have f8 := g8; clear g8
            have f9 := g9; clear g9
            have hb9 := gb9; clear gb9
            clear hfr hH
            refine awp_region rfl ?_
            simp only [f0, f1, f2, f6, f7, f8, f9, hb9, List.length_map, hg, z1, z2, RR, seval]
            refine awpB_sealed ?_
            simp only [f0, f1, f2, f6, f7, f8, f9, hb9, List.length_map, hg, z1, z2, RR, seval]
            refine awpA_own hown (by simp only [List.length_map, List.length_cons, List.length_nil]; omega) (fun _ => trivial) fun v9 M6 hown' hk' => ?_
            simp only [f0, f1, f2, f6, f7, f8, f9, hb9, List.length_map, hg, z1, z2, RR, seval]
            have gb9 := hk' b9 _ hb9 (by first | exact (hown).nb' hb9 (by decide) | exact ho9 _ _ | assumption | (intro e; simp_all))
            have hb9 := gb9; clear gb9
            refine awp_region rfl ?_
            simp only [f0, f1, f2, f6, f7, f8, f9, hb9, List.length_map, hg, z1, z2, RR, seval]
            try rw [IntWalk.i64_in _ (by omega)]
            refine hK0 _ _ hlt0 ⟨by first | rfl | (simp only [upd_app, seval]; rfl), by rw [htk, List.map_append, List.map_append, List.map_singleton, List.map_singleton, hr]; exact hown'⟩ (by repeat (first | exact ag0 | refine agree.upd rfl ?_))
    · have hkn0 : k = l.length := by have := of_decide_eq_false hc; omega
      clear hc
      refine awp_exit ?_; simp only [RR, seval]
      refine awp_name fun F7 M7 hfr hH => ?_
      have g6 := hfr 6
      have g7 := hfr 7
      try simp only [f0, f1, f2, f6, f8, f7, List.length_map, RR, seval] at g6 g7
      have hown := hown.same hH
      have f6 := g6; clear g6
      have f7 := g7; clear g7
      clear hfr hH
      rw [hkn0, List.take_length] at hown
      refine awp_seal2 (i := 7) (by rw [f7]; exact hown) fun F8 M8 hs hf' hk' => ?_
      have g6 := (hf' 6 (by decide) (by rw [f6]; first | exact apart_ptr _ _ _ _ _ | exact apart_int _ _ _ | exact apart_str _ _ | exact apart_isl _ _ _ | exact apart_bool _ _ | exact apart_bool' _ | exact apart_undef _ | exact apart_tup _ _ | exact apart_mp _ _ | assumption)).trans f6
      have g7 := hs
      have f6 := g6; clear g6
      have f7 := g7; clear g7
      clear hs hf' hk'
      refine awp_seq_k fun K hK => ?_
      refine awp_region rfl ?_
      simp only [f6, f7, List.length_map, RR, seval]
      refine hK _ _ ?_; clear hK K
      refine awp_ret ?_; simp only [bodyQ, aresult, ares, f6, f7, List.length_map, RR, seval]
      refine Gives.pure ?_
      rfl
theorem renamed_con (a b : Str) (n : Nat) : ∀ l : List Sm, szS l ≤ n → n ≤ 1000000 → PCon env 22 [.isl 5 (l.map Sm.row), .str a, .str b] (.isl 5 ((l.map (renM a b)).map Sm.row)) := by
  induction n using Nat.strongRecOn with
  | _ n ih =>
    intro l hn hb
    have hll := len_szS l
    refine con_of 54 [.tmp 6] Try.func22 rfl rfl rfl rfl ?_
    refine awp_seq_k fun K hK => ?_
    refine awp_region rfl ?_
    simp only [List.length_map, RR, seval]
    refine hK _ _ ?_; clear hK K
    refine awp_seq_k fun K hK => ?_
    refine awp_region rfl ?_
    simp only [List.length_map, RR, seval]
    refine hK _ _ ?_; clear hK K
    refine awp_seq ?_
    refine awp_seq_k fun K hK => ?_
    refine awp_region rfl ?_
    simp only [List.length_map, RR, seval]
    refine hK _ _ ?_; clear hK K
    refine awp_name fun F1 M1 hfr hH => ?_
    have g0 := hfr 0
    have g1 := hfr 1
    have g2 := hfr 2
    have g6 := hfr 6
    have g7 := hfr 7
    have g8 := hfr 8
    try simp only [List.length_map, RR, seval] at g0 g1 g2 g6 g7 g8
    have f0 := g0; clear g0
    have f1 := g1; clear g1
    have f2 := g2; clear g2
    have f6 := g6; clear g6
    have f7 := g7; clear g7
    have f8 := g8; clear g8
    clear hfr hH
    refine awp_block ?_
    refine awp_each [0, 1, 2, 6] (l.length) (fun k fr M => fr 8 = .int .i64 (k : Nat) ∧ OwnL 5 (fr 7) (((l.take k).map (renM a b)).map Sm.row) M) ⟨f8, .inl ⟨f7, rfl⟩⟩ ?_
    rintro k F2 M2 hk0 ⟨fx, hown⟩ agx K0 hK0
    have f0 := (agx 0 rfl).trans f0
    have f1 := (agx 1 rfl).trans f1
    have f2 := (agx 2 rfl).trans f2
    have f6 := (agx 6 rfl).trans f6
    have f8 := fx; clear fx
    have ag0 := agree.refl [0, 1, 2, 6] F2
    clear agx
    obtain ⟨v7, f7⟩ : ∃ v, F2 7 = v := ⟨_, rfl⟩
    rw [f7] at hown
    refine awp_seq ?_
    refine awp_seq_k fun K hK => ?_
    refine awp_region rfl ?_
    simp only [f0, f1, f2, f6, f8, f7, List.length_map, RR, seval]
    refine hK _ _ ?_; clear hK K
    refine awp_if _ rfl (fun hc => ?_) (fun hc => ?_)
    · have hlt0 : k < l.length := by have := of_decide_eq_true hc; omega
      clear hc
      have hg := getS (List.getElem?_eq_getElem hlt0)
      have hsz := szS_mem (List.getElem_mem hlt0)
      have htk : l.take (k + 1) = l.take k ++ [l[k]] := List.take_succ_eq_append_getElem hlt0
      have htl : (l.take k).length ≤ l.length := by rw [List.length_take]; omega
      generalize l[k] = e at hg hsz htk
      have hr := renM_row a b e
      have hz := e.sz_eq
      have hx := rename_con a b (szE e.es) e.es (Nat.le_refl _) (by omega)
      have ht := ih (szS e.thn) (by omega) e.thn (Nat.le_refl _) (by omega)
      have hu := ih (szS e.els) (by omega) e.els (Nat.le_refl _) (by omega)
      generalize z1 : decide (e.kind = 1) = B1 at hr
      generalize z2 : decide (e.name = a) = B2 at hr
      cases B1 <;> cases B2
      all_goals
        refine awp_skip ?_; try simp only [RR]
        refine awp_seq ?_
        refine awp_block ?_
        refine awp_seq_k fun K hK => ?_
        refine awp_region rfl ?_
        simp only [f0, f1, f2, f6, f8, f7, List.length_map, hg, z1, z2, RR, seval]
        refine awpN_intro fun b9 hn9 => ?_
        simp only [f0, f1, f2, f6, f8, f7, List.length_map, hg, z1, z2, RR, seval]
        refine hK _ _ ?_; clear hK K
        have ho9 := hown.new hn9
        refine awp_seq ?_
        refine awp_seq_k fun K hK => ?_
        refine awp_region rfl ?_
        simp only [f0, f1, f2, f6, f8, f7, List.length_map, hg, z1, z2, RR, seval]
        refine hK _ _ ?_; clear hK K
        refine awp_if _ rfl (fun hc6 => ?_) (fun hc6 => ?_)
        · try (cases hc6; done)
          all_goals
            refine awp_region rfl ?_
            simp only [f0, f1, f2, f6, f8, f7, List.length_map, hg, z1, z2, RR, seval]
            refine awp_seq_k fun K hK => ?_
            refine awp_region_draw2 (fun x => x ≠ b9) [(0, 1), (1, 1), (2, 1), (3, 1), (5, 0), (6, 0), (7, 0), (8, 0), (10, 0), (11, 0), (12, 0), (13, 0), (4, 1), (15, 0), (9, 1), (14, 1)] [(16, 1), (17, 1), (18, 1), (19, 1), (20, 1)] draws (by kernel_rfl) rfl rfl ?_
            simp only [emitF, markOf, ne_eq, not_true_eq_false, and_false, false_and, not_false_eq_true, f0, f1, f2, f6, f8, f7, List.length_map, hg, z1, z2, RR, seval]
            refine awpC_pure' (hx) ?_
            simp only [emitF, markOf, ne_eq, not_true_eq_false, and_false, false_and, not_false_eq_true, f0, f1, f2, f6, f8, f7, List.length_map, hg, z1, z2, RR, seval]
            refine awpC_pure' (ht) ?_
            simp only [emitF, markOf, ne_eq, not_true_eq_false, and_false, false_and, not_false_eq_true, f0, f1, f2, f6, f8, f7, List.length_map, hg, z1, z2, RR, seval]
            refine awpC_pure' (hu) ?_
            simp only [emitF, markOf, ne_eq, not_true_eq_false, and_false, false_and, not_false_eq_true, f0, f1, f2, f6, f8, f7, List.length_map, hg, z1, z2, RR, seval]
            refine hK _ _ ?_; clear hK K
            refine awp_name fun F3 M3 hfr hH => ?_
            have g0 := hfr 0
            have g1 := hfr 1
            have g2 := hfr 2
            have g6 := hfr 6
            have g7 := hfr 7
            have g8 := hfr 8
            have g9 := hfr 9
            have gb9 := hH b9
            try simp only [f0, f1, f2, f6, f8, f7, List.length_map, hg, z1, z2, RR, seval] at g0 g1 g2 g6 g7 g8 g9 gb9
            have ag0 : agree [0, 1, 2, 6] F2 F3 := agree.same hfr (by repeat (first | exact ag0 | refine agree.upd rfl ?_))
            have hown := OwnL.same (sz := 5) (v := v7) (rows := ((l.take k).map (renM a b)).map Sm.row) (by repeat (first | exact hown | refine OwnL.off ?_ ho9 _)) hH
            have f0 := g0; clear g0
            have f1 := g1; clear g1
            have f2 := g2; clear g2
            have f6 := g6; clear g6
            have f7 := g7; clear g7
            have f8 := g8; clear g8
            have f9 := g9; clear g9
            have hb9 := gb9; clear gb9
            clear hfr hH
            refine awp_region rfl ?_
            simp only [f0, f1, f2, f6, f7, f8, f9, hb9, List.length_map, hg, z1, z2, RR, seval]
            refine awpB_sealed ?_
            simp only [f0, f1, f2, f6, f7, f8, f9, hb9, List.length_map, hg, z1, z2, RR, seval]
            refine awpA_own hown (by simp only [List.length_map, List.length_cons, List.length_nil]; omega) (fun _ => trivial) fun v9 M4 hown' hk' => ?_
            simp only [f0, f1, f2, f6, f7, f8, f9, hb9, List.length_map, hg, z1, z2, RR, seval]
            have gb9 := hk' b9 _ hb9 (by first | exact (hown).nb' hb9 (by decide) | exact ho9 _ _ | assumption | (intro e; simp_all))
            have hb9 := gb9; clear gb9
            refine awp_region rfl ?_
            simp only [f0, f1, f2, f6, f7, f8, f9, hb9, List.length_map, hg, z1, z2, RR, seval]
            try rw [IntWalk.i64_in _ (by omega)]
            refine hK0 _ _ hlt0 ⟨by first | rfl | (simp only [upd_app, seval]; rfl), by rw [htk, List.map_append, List.map_append, List.map_singleton, List.map_singleton, hr]; exact hown'⟩ (by repeat (first | exact ag0 | refine agree.upd rfl ?_))
        · try (cases hc6; done)
          all_goals
            refine awp_skip ?_; try simp only [RR]
            refine awp_seq_k fun K hK => ?_
            refine awp_region_draw2 (fun x => x ≠ b9) [(0, 1), (1, 1), (2, 1), (3, 1), (5, 0), (6, 0), (7, 0), (8, 0), (10, 0), (11, 0), (12, 0), (13, 0), (4, 1), (15, 0), (9, 1), (14, 1)] [(16, 1), (17, 1), (18, 1), (19, 1), (20, 1)] draws (by kernel_rfl) rfl rfl ?_
            simp only [emitF, markOf, ne_eq, not_true_eq_false, and_false, false_and, not_false_eq_true, f0, f1, f2, f6, f8, f7, List.length_map, hg, z1, z2, RR, seval]
            refine awpC_pure' (hx) ?_
            simp only [emitF, markOf, ne_eq, not_true_eq_false, and_false, false_and, not_false_eq_true, f0, f1, f2, f6, f8, f7, List.length_map, hg, z1, z2, RR, seval]
            refine awpC_pure' (ht) ?_
            simp only [emitF, markOf, ne_eq, not_true_eq_false, and_false, false_and, not_false_eq_true, f0, f1, f2, f6, f8, f7, List.length_map, hg, z1, z2, RR, seval]
            refine awpC_pure' (hu) ?_
            simp only [emitF, markOf, ne_eq, not_true_eq_false, and_false, false_and, not_false_eq_true, f0, f1, f2, f6, f8, f7, List.length_map, hg, z1, z2, RR, seval]
            refine hK _ _ ?_; clear hK K
            refine awp_name fun F5 M5 hfr hH => ?_
            have g0 := hfr 0
            have g1 := hfr 1
            have g2 := hfr 2
            have g6 := hfr 6
            have g7 := hfr 7
            have g8 := hfr 8
            have g9 := hfr 9
            have gb9 := hH b9
            try simp only [f0, f1, f2, f6, f8, f7, List.length_map, hg, z1, z2, RR, seval] at g0 g1 g2 g6 g7 g8 g9 gb9
            have ag0 : agree [0, 1, 2, 6] F2 F5 := agree.same hfr (by repeat (first | exact ag0 | refine agree.upd rfl ?_))
            have hown := OwnL.same (sz := 5) (v := v7) (rows := ((l.take k).map (renM a b)).map Sm.row) (by repeat (first | exact hown | refine OwnL.off ?_ ho9 _)) hH
            have f0 := g0; clear g0
            have f1 := g1; clear g1
            have f2 := g2; clear g2
            have f6 := g6; clear g6
            have f7 := g7; clear g7
            have f8 := g8; clear g8
            have f9 := g9; clear g9
            have hb9 := gb9; clear gb9
            clear hfr hH
            refine awp_region rfl ?_
            simp only [f0, f1, f2, f6, f7, f8, f9, hb9, List.length_map, hg, z1, z2, RR, seval]
            refine awpB_sealed ?_
            simp only [f0, f1, f2, f6, f7, f8, f9, hb9, List.length_map, hg, z1, z2, RR, seval]
            refine awpA_own hown (by simp only [List.length_map, List.length_cons, List.length_nil]; omega) (fun _ => trivial) fun v9 M6 hown' hk' => ?_
            simp only [f0, f1, f2, f6, f7, f8, f9, hb9, List.length_map, hg, z1, z2, RR, seval]
            have gb9 := hk' b9 _ hb9 (by first | exact (hown).nb' hb9 (by decide) | exact ho9 _ _ | assumption | (intro e; simp_all))
            have hb9 := gb9; clear gb9
            refine awp_region rfl ?_
            simp only [f0, f1, f2, f6, f7, f8, f9, hb9, List.length_map, hg, z1, z2, RR, seval]
            try rw [IntWalk.i64_in _ (by omega)]
            refine hK0 _ _ hlt0 ⟨by first | rfl | (simp only [upd_app, seval]; rfl), by rw [htk, List.map_append, List.map_append, List.map_singleton, List.map_singleton, hr]; exact hown'⟩ (by repeat (first | exact ag0 | refine agree.upd rfl ?_))
    · have hkn0 : k = l.length := by have := of_decide_eq_false hc; omega
      clear hc
      refine awp_exit ?_; simp only [RR, seval]
      refine awp_name fun F7 M7 hfr hH => ?_
      have g6 := hfr 6
      have g7 := hfr 7
      try simp only [f0, f1, f2, f6, f8, f7, List.length_map, RR, seval] at g6 g7
      have hown := hown.same hH
      have f6 := g6; clear g6
      have f7 := g7; clear g7
      clear hfr hH
      rw [hkn0, List.take_length] at hown
      refine awp_seal2 (i := 7) (by rw [f7]; exact hown) fun F8 M8 hs hf' hk' => ?_
      have g6 := (hf' 6 (by decide) (by rw [f6]; first | exact apart_ptr _ _ _ _ _ | exact apart_int _ _ _ | exact apart_str _ _ | exact apart_isl _ _ _ | exact apart_bool _ _ | exact apart_bool' _ | exact apart_undef _ | exact apart_tup _ _ | exact apart_mp _ _ | assumption)).trans f6
      have g7 := hs
      have f6 := g6; clear g6
      have f7 := g7; clear g7
      clear hs hf' hk'
      refine awp_seq_k fun K hK => ?_
      refine awp_region rfl ?_
      simp only [f6, f7, List.length_map, RR, seval]
      refine hK _ _ ?_; clear hK K
      refine awp_ret ?_; simp only [bodyQ, aresult, ares, f6, f7, List.length_map, RR, seval]
      refine Gives.pure ?_
      rfl
end Go.Proofs.Ytnbokmbjiioooaa

namespace Go.Al
theorem placeN_none : ∀ (l : List Str) (s : Str), placeN l s = none ↔ s ∉ l
  | [], s => by simp [placeN]
  | t :: l, s => by
    have ih := placeN_none l s
    simp only [placeN]
    by_cases h : t = s
    · subst h; simp
    · have h' : ¬ s = t := fun e => h e.symm
      simp [h, h', ih]
theorem sub_len {α : Type} [DecidableEq α] : ∀ (xs l : List α), xs.Nodup → (∀ x ∈ xs, x ∈ l) → xs.length ≤ l.length
  | [], l, _, _ => by simp
  | x :: xs, l, hn, hs => by
    have hx := hs x (List.mem_cons_self ..)
    rw [List.nodup_cons] at hn
    have := sub_len xs (l.erase x) hn.2 fun y hy => by
      refine (List.mem_erase_of_ne fun e => ?_).2 (hs y (List.mem_cons_of_mem _ hy))
      subst e; exact hn.1 hy
    rw [List.length_erase_of_mem hx] at this
    have : 0 < l.length := List.length_pos_of_mem hx
    simp only [List.length_cons]; omega
def qn (n : Nat) : Str := 113 :: digs n
theorem qn_inj {n m : Nat} (h : qn n = qn m) : n = m := digs_inj (by simpa [qn] using h)
theorem nodup_map {α β : Type} (f : α → β) (hf : ∀ a b, f a = f b → a = b) : ∀ l : List α, l.Nodup → (l.map f).Nodup
  | [], _ => by simp
  | x :: l, h => by
    rw [List.nodup_cons] at h
    rw [List.map_cons, List.nodup_cons]
    refine ⟨fun hm => ?_, nodup_map f hf l h.2⟩
    obtain ⟨y, hy, e⟩ := List.mem_map.1 hm
    rw [hf _ _ e] at hy
    exact h.1 hy
theorem least {P : Nat → Prop} (n : Nat) (h : P n) : ∃ m, m ≤ n ∧ P m ∧ ∀ k, k < m → ¬ P k := by
  induction n using Nat.strongRecOn with
  | _ n ih =>
    by_cases hk : ∃ k, k < n ∧ P k
    · obtain ⟨k, hk1, hk2⟩ := hk
      obtain ⟨m, h1, h2⟩ := ih k hk1 hk2
      exact ⟨m, by omega, h2⟩
    · exact ⟨n, Nat.le_refl _, h, fun k hk1 hk2 => hk ⟨k, hk1, hk2⟩⟩
theorem fresh_least (A : List Str) : ∃ n, n ≤ A.length ∧ qn n ∉ A ∧ ∀ k, k < n → qn k ∈ A := by
  have : ∃ n, n ≤ A.length ∧ qn n ∉ A := by
    by_cases h : ∃ n, n ≤ A.length ∧ qn n ∉ A
    · exact h
    · have h2 : ∀ n, n ≤ A.length → qn n ∈ A := fun n hn => by
        by_cases h3 : qn n ∈ A
        · exact h3
        · exact absurd ⟨n, hn, h3⟩ h
      have := sub_len ((List.range (A.length + 1)).map qn) A (nodup_map qn (fun _ _ => qn_inj) _ List.nodup_range) fun x hx => by
        obtain ⟨n, hn, rfl⟩ := List.mem_map.1 hx
        exact h2 n (by have := List.mem_range.1 hn; omega)
      simp at this
      omega
  obtain ⟨n, hn, hp⟩ := this
  obtain ⟨m, h1, h2, h3⟩ := least (P := fun n => qn n ∉ A) n hp
  exact ⟨m, by omega, h2, fun k hk => by have := h3 k hk; simpa using this⟩
/-- all names that a function has -/
def frF (f : Fu) : List Str := namesL f ++ (usesS f.body).map Us.name
def allN (p : Pg) : List Str := globL p ++ p.funs.flatMap frF
theorem oneS (us : List Us) : ((us.map Us.name).map strRow).all (fun r => r.all one) = true := oneN _
end Go.Al
namespace Go.Proofs.Ytnbokmbjiioooaa
open Go.Al
theorem Fresh_con (p : Pg) (hp : p.few) : ∃ n, qn n ∉ allN p ∧ n ≤ 1000000000 ∧ PCon env 17 [p.av] (.str (qn n)) := by
  have hgl := hp.gl
  have hpf := hp.f
  have hnl := hp.nl
  have hfs := hp.fs
  have hokf := hp.ok.funs
  have hG := Globals_own p hp
  have hav : p.av = .agg p.row := rfl
  have hrow : p.row = [.isl 1 (p.vars.map strRow), .isl 2 (p.arrs.map Ar.row), .isl 5 (p.funs.map Fu.row)] := rfl
  have hflen : ∀ f ∈ p.funs, (frF f).length ≤ 30000 := fun f hf => by
    have := hnl f hf
    have h2 := usesS_len _ f.body rfl
    have h3 := hfs f hf
    simp only [frF, List.length_append, List.length_map]; omega
  have hfm : ∀ l : List Fu, (∀ f ∈ l, f ∈ p.funs) → (l.flatMap frF).length ≤ l.length * 30000 := by
    intro l
    induction l with
    | nil => simp
    | cons f l ih =>
      intro h
      have h1 := hflen f (h f (List.mem_cons_self ..))
      have h2 := ih fun g hg => h g (List.mem_cons_of_mem _ hg)
      rw [List.flatMap_cons, List.length_append, List.length_cons]; omega
  have htot : (allN p).length ≤ 300030000 := by
    have := hfm p.funs fun _ h => h
    simp only [allN, List.length_append]; omega
  obtain ⟨n0, h0, h1, h2⟩ := fresh_least (allN p)
  refine ⟨n0, h1, by omega, ?_⟩
  rw [hav, hrow] at hG ⊢
  have hAll : allN p = globL p ++ p.funs.flatMap frF := rfl
  refine con_of 57 [.tmp 2] Try.func17 rfl rfl rfl rfl ?_
  refine awp_seq_k fun K hK => ?_
  refine awp_region rfl ?_
  simp only [List.length_map, RR, seval]
  refine awpN_intro fun b1 hn1 => ?_
  simp only [List.length_map, RR, seval]
  refine hK _ _ ?_; clear hK K
  refine awp_name fun F1 M1 hfr hH => ?_
  have g1 := hfr 1
  have g2 := hfr 2
  have gb1 := hH b1
  try simp only [List.length_map, RR, seval] at g1 g2 gb1
  have f1 := g1; clear g1
  have f2 := g2; clear g2
  have hb1 := gb1; clear gb1
  clear hfr hH
  refine awp_seq_k fun K hK => ?_
  refine awp_region rfl ?_
  simp only [f1, f2, hb1, List.length_map, RR, seval]
  refine awpC_own (hG) fun v10 M2 hv10 hk' ho' => ?_
  have gb1 := hk' b1 _ hb1
  have hb1 := gb1; clear gb1
  simp only [f1, f2, hb1, List.length_map, RR, seval]
  refine hK _ _ ?_; clear hK K
  refine awp_seq ?_
  refine awp_seq_k fun K hK => ?_
  refine awp_region rfl ?_
  simp only [f1, f2, hb1, List.length_map, RR, seval]
  refine hK _ _ ?_; clear hK K
  refine awp_name fun F3 M3 hfr hH => ?_
  have g1 := hfr 1
  have g2 := hfr 2
  have g3 := hfr 3
  have g4 := hfr 4
  have gb1 := hH b1
  try simp only [f1, f2, hb1, List.length_map, RR, seval] at g1 g2 g3 g4 gb1
  have hv10 := hv10.same hH
  have f1 := g1; clear g1
  have f2 := g2; clear g2
  have f3 := g3; clear g3
  have f4 := g4; clear g4
  have hb1 := gb1; clear gb1
  clear hfr hH
  refine awp_block ?_
  refine awp_each [1, 2] (p.funs.length) (fun k fr M => fr 4 = .int .i64 (k : Nat) ∧ M b1 = M3 b1 ∧ ∃ A : List Str, OwnL 1 (fr 3) (A.map strRow) M ∧ A = globL p ++ (p.funs.take k).flatMap frF) ⟨f4, rfl, ⟨globL p, (by rw [f3]; exact hv10), (by simp)⟩⟩ ?_
  rintro k F4 M4 hk0 ⟨fx, gb1, ⟨A, hown, hA⟩⟩ agx K0 hK0
  have f1 := (agx 1 rfl).trans f1
  have f2 := (agx 2 rfl).trans f2
  have f4 := fx; clear fx
  have hb1 := gb1.trans hb1
  have ag0 := agree.refl [1, 2] F4
  have e0_b1 := gb1; clear gb1
  clear agx
  obtain ⟨v3, f3⟩ : ∃ v, F4 3 = v := ⟨_, rfl⟩
  rw [f3] at hown
  have hAl : A.length ≤ 30000 + k * 30000 := by
    have := hfm (p.funs.take k) fun f hf => List.mem_of_mem_take hf
    rw [List.length_take] at this
    have h3 : min k p.funs.length * 30000 ≤ k * 30000 := Nat.mul_le_mul_right _ (Nat.min_le_left _ _)
    rw [hA, List.length_append]; omega
  refine awp_seq ?_
  refine awp_seq_k fun K hK => ?_
  refine awp_region rfl ?_
  simp only [f1, f2, f4, f3, hb1, List.length_map, RR, seval]
  refine hK _ _ ?_; clear hK K
  refine awp_if _ rfl (fun hc => ?_) (fun hc => ?_)
  · have hlt0 : k < p.funs.length := by have := of_decide_eq_true hc; omega
    clear hc
    have hg0 := List.getElem?_eq_getElem hlt0
    have hg := getF hg0
    have hgm := List.getElem_mem hlt0
    have hfsk := hfs _ hgm
    have hokk := hokf _ hgm
    have hnk := hnl _ hgm
    have htk : p.funs.take (k + 1) = p.funs.take k ++ [p.funs[k]] := List.take_succ_eq_append_getElem hlt0
    generalize p.funs[k] = g at hg hfsk hokk hnk htk
    have hnm := Names_con g (by omega) (by omega)
    have hus := Uses_con _ g.body rfl (by omega) hokk.body
    have hul := usesS_len _ g.body rfl
    have hone := oneN (namesL g)
    simp only [Fu.row] at hnm
    refine awp_skip ?_; try simp only [RR]
    refine awp_seq ?_
    refine awp_block ?_
    refine awp_seq_k fun K hK => ?_
    refine awp_region rfl ?_
    simp only [f1, f2, f4, f3, hb1, List.length_map, hg, hone, RR, seval]
    refine awpC_pure' (hnm) ?_
    simp only [f1, f2, f4, f3, hb1, List.length_map, hg, hone, RR, seval]
    refine awpA_own hown (by simp only [List.length_map, List.length_cons, List.length_nil]; omega) (fun _ => trivial) fun v5 M5 hown' hk' => ?_
    simp only [f1, f2, f4, f3, hb1, List.length_map, hg, hone, RR, seval]
    have gb1 := hk' b1 _ hb1 (by first | exact (hown).nb' hb1 (by decide) | exact ho1 _ _ | assumption | (intro e; simp_all))
    have e0_b1 := (gb1.trans hb1.symm).trans e0_b1
    have hb1 := gb1; clear gb1
    refine hK _ _ ?_; clear hK K
    rw [← List.map_append] at hown'
    refine awp_seq_k fun K hK => ?_
    refine awp_region rfl ?_
    simp only [f1, f2, f4, f3, hb1, List.length_map, hg, hone, RR, seval]
    refine awpC_pure' (hus) ?_
    simp only [f1, f2, f4, f3, hb1, List.length_map, hg, hone, RR, seval]
    refine hK _ _ ?_; clear hK K
    have hfr : frF g = namesL g ++ (usesS g.body).map Us.name := rfl
    generalize usesS g.body = us at hul hfr
    refine awp_seq_k fun K hK => ?_
    refine awp_region rfl ?_
    simp only [f1, f2, f4, f3, hb1, List.length_map, hg, hone, RR, seval]
    refine hK _ _ ?_; clear hK K
    refine awp_name fun F6 M6 hfr hH => ?_
    have g1 := hfr 1
    have g2 := hfr 2
    have g3 := hfr 3
    have g4 := hfr 4
    have g5 := hfr 5
    have g6 := hfr 6
    have gb1 := hH b1
    try simp only [f1, f2, f4, f3, hb1, List.length_map, hg, hone, RR, seval] at g1 g2 g3 g4 g5 g6 gb1
    have ag0 : agree [1, 2] F4 F6 := agree.same hfr (by repeat (first | exact ag0 | refine agree.upd rfl ?_))
    have e0_b1 := (hH b1).trans (by first | exact e0_b1 | (simp only [upd_app, seval]; first | done | exact e0_b1))
    have hown := hown'.same hH
    have f1 := g1; clear g1
    have f2 := g2; clear g2
    have f3 := g3; clear g3
    have f4 := g4; clear g4
    have f5 := g5; clear g5
    have f6 := g6; clear g6
    have hb1 := gb1; clear gb1
    clear hfr hH
    refine awp_block ?_
    refine awp_each [1, 2, 4, 5] (us.length) (fun j fr M => fr 6 = .int .i64 (j : Nat) ∧ M b1 = M6 b1 ∧ OwnL 1 (fr 3) ((A ++ namesL g ++ (us.take j).map Us.name).map strRow) M) ⟨f6, rfl, by rw [List.take_zero, List.map_nil, List.append_nil, f3]; exact hown⟩ ?_
    rintro j F7 M7 hk2 ⟨fx, gb1, hown⟩ agx K2 hK2
    have f1 := (agx 1 rfl).trans f1
    have f2 := (agx 2 rfl).trans f2
    have f4 := (agx 4 rfl).trans f4
    have f5 := (agx 5 rfl).trans f5
    have f6 := fx; clear fx
    have hb1 := gb1.trans hb1
    have ag0 : agree [1, 2] F4 F7 := agree.sub agx rfl ag0
    have e0_b1 := gb1.trans e0_b1
    have ag2 := agree.refl [1, 2, 4, 5] F7
    have e2_b1 := gb1; clear gb1
    clear agx
    obtain ⟨v3, f3⟩ : ∃ v, F7 3 = v := ⟨_, rfl⟩
    rw [f3] at hown
    refine awp_seq ?_
    refine awp_seq_k fun K hK => ?_
    refine awp_region rfl ?_
    simp only [f1, f2, f4, f5, f6, f3, hb1, List.length_map, hg, hone, RR, seval]
    refine hK _ _ ?_; clear hK K
    refine awp_if _ rfl (fun hc => ?_) (fun hc => ?_)
    · have hlt2 : j < us.length := by have := of_decide_eq_true hc; omega
      clear hc
      have hgu := getU (List.getElem?_eq_getElem hlt2)
      have htj : (us.take (j + 1)).map Us.name = (us.take j).map Us.name ++ [us[j].name] := by rw [List.take_succ_eq_append_getElem hlt2, List.map_append]; rfl
      have htl : (us.take j).length ≤ us.length := by rw [List.length_take]; omega
      generalize us[j] = u at hgu htj
      refine awp_skip ?_; try simp only [RR]
      refine awp_seq ?_
      refine awp_block ?_
      refine awp_region rfl ?_
      simp only [f1, f2, f4, f5, f6, f3, hb1, List.length_map, hg, hone, hgu, RR, seval]
      refine awpB_sealed ?_
      simp only [f1, f2, f4, f5, f6, f3, hb1, List.length_map, hg, hone, hgu, RR, seval]
      refine awpA_own hown (by simp only [List.length_map, List.length_cons, List.length_nil]; (simp only [List.length_append, List.length_map]; omega)) (fun _ => trivial) fun v10 M8 hown' hk' => ?_
      simp only [f1, f2, f4, f5, f6, f3, hb1, List.length_map, hg, hone, hgu, RR, seval]
      have gb1 := hk' b1 _ hb1 (by first | exact (hown).nb' hb1 (by decide) | exact ho1 _ _ | assumption | (intro e; simp_all))
      have e0_b1 := (gb1.trans hb1.symm).trans e0_b1
      have e2_b1 := (gb1.trans hb1.symm).trans e2_b1
      have hb1 := gb1; clear gb1
      refine awp_region rfl ?_
      simp only [f1, f2, f4, f5, f6, f3, hb1, List.length_map, hg, hone, hgu, RR, seval]
      try rw [IntWalk.i64_in _ (by omega)]
      refine hK2 _ _ hlt2 ⟨by first | rfl | (simp only [upd_app, seval]; rfl), (by first | exact e2_b1 | (simp only [upd_app, seval]; first | done | exact e2_b1)), by rw [htj, ← List.append_assoc, List.map_append]; exact hown'⟩ (by repeat (first | exact ag2 | refine agree.upd rfl ?_))
    · have hkn2 : j = us.length := by have := of_decide_eq_false hc; omega
      clear hc
      rw [hkn2, List.take_length] at hown
      refine awp_exit ?_; simp only [RR, seval]
      refine awp_region rfl ?_
      simp only [f1, f2, f4, f5, f6, f3, hb1, List.length_map, hg, hone, RR, seval]
      try rw [IntWalk.i64_in _ (by omega)]
      refine hK0 _ _ hlt0 ⟨by first | rfl | (simp only [upd_app, seval]; rfl), (by first | exact e0_b1 | (simp only [upd_app, seval]; first | done | exact e0_b1)), ⟨A ++ namesL g ++ us.map Us.name, (by simp only [upd_app, f3, seval]; exact hown), by rw [htk, List.flatMap_append, List.flatMap_singleton, hfr, hA]; simp only [List.append_assoc]⟩⟩ (by repeat (first | exact ag0 | refine agree.upd rfl ?_))
  · have hkn0 : k = p.funs.length := by have := of_decide_eq_false hc; omega
    clear hc
    rw [hkn0, List.take_length, ← hAll] at hA
    subst hA
    refine awp_exit ?_; simp only [RR, seval]
    refine awp_name fun F9 M9 hfr hH => ?_
    have g2 := hfr 2
    have g3 := hfr 3
    have gb1 := hH b1
    try simp only [f1, f2, f4, f3, hb1, List.length_map, RR, seval] at g2 g3 gb1
    have hown := hown.same hH
    have f2 := g2; clear g2
    have f3 := g3; clear g3
    have hb1 := gb1; clear gb1
    clear hfr hH
    refine awp_seal2 (i := 3) (by rw [f3]; exact hown) fun F10 M10 hs hf' hk' => ?_
    have g2 := (hf' 2 (by decide) (by rw [f2]; first | exact apart_ptr _ _ _ _ _ | exact apart_int _ _ _ | exact apart_str _ _ | exact apart_isl _ _ _ | exact apart_bool _ _ | exact apart_bool' _ | exact apart_undef _ | exact apart_tup _ _ | exact apart_mp _ _ | assumption)).trans f2
    have g3 := hs
    have gb1 := hk' b1 _ hb1 (by rw [f3]; first | exact (hown).nb' hb1 (by decide) | exact ho1 _ _ | assumption | (intro e; simp_all))
    have hb1 := gb1; clear gb1
    have f2 := g2; clear g2
    have f3 := g3; clear g3
    clear hs hf' hk'
    refine awp_seq_k fun K hK => ?_
    refine awp_region rfl ?_
    simp only [f2, f3, hb1, List.length_map, RR, seval]
    refine hK _ _ ?_; clear hK K
    refine awp_name fun F11 M11 hfr hH => ?_
    have g2 := hfr 2
    have g3 := hfr 3
    have g7 := hfr 7
    have gb1 := hH b1
    try simp only [f2, f3, hb1, List.length_map, RR, seval] at g2 g3 g7 gb1
    have f2 := g2; clear g2
    have f3 := g3; clear g3
    have f7 := g7; clear g7
    have hb1 := gb1; clear gb1
    clear hfr hH
    refine awp_block ?_
    refine awp_while [3] (n0) (fun m fr M => M b1 = M11 b1 ∧ ∃ n : Nat, fr 7 = .int .u32 (n : Nat) ∧ n + m = n0) ⟨rfl, ⟨0, f7, by omega⟩⟩ ?_
    rintro m F12 M12 ⟨gb1, ⟨n, f7, hn⟩⟩ agx K4 hK4
    have f3 := (agx 3 rfl).trans f3
    have hb1 := gb1.trans hb1
    have ag4 := agree.refl [3] F12
    have e4_b1 := gb1; clear gb1
    clear agx
    have ht := Text_con n (by omega)
    have hdl := digs_len n
    have e6 : 1 + (digs n).length ≤ maxLen := by simp only [maxLen]; omega
    have hpl := place_con (allN p) (113 :: digs n) (by simp only [fitL]; omega)
    have hpn := placeN_none (allN p) (113 :: digs n)
    generalize placeN (allN p) (113 :: digs n) = pl at hpl hpn
    refine awp_seq ?_
    refine awp_block ?_
    refine awp_seq_k fun K hK => ?_
    refine awp_region rfl ?_
    simp only [f3, f7, hb1, List.length_map, e6, RR, seval]
    refine awpC_pure' (ht) ?_
    simp only [f3, f7, hb1, List.length_map, e6, RR, seval]
    refine hK _ _ ?_; clear hK K
    refine awp_seq_k fun K hK => ?_
    refine awp_region rfl ?_
    simp only [f3, f7, hb1, List.length_map, e6, RR, seval]
    refine awpC_pure' (hpl) ?_
    simp only [f3, f7, hb1, List.length_map, e6, RR, seval]
    refine hK _ _ ?_; clear hK K
    refine awp_if _ rfl (fun hc14 => ?_) (fun hc14 => ?_)
    · have hno : pl = none := by cases pl with | none => rfl | some x => simp only [optI] at hc14; have := of_decide_eq_true hc14; omega
      have hn0 : n = n0 := by
        by_cases hlt : n < n0
        · exact absurd (h2 n hlt) (hpn.1 hno)
        · omega
      refine awp_seq_k fun K hK => ?_
      refine awp_region rfl ?_
      simp only [f3, f7, hb1, List.length_map, e6, RR, seval]
      refine hK _ _ ?_; clear hK K
      refine awp_ret ?_; simp only [bodyQ, aresult, ares, f3, f7, hb1, List.length_map, e6, RR, seval]
      refine Gives.pure ?_
      rw [hn0]
      rfl
    · have hne : n ≠ n0 := by
        rintro rfl
        cases pl with
        | none => simp [optI] at hc14
        | some x => exact h1 (by have := mt hpn.2; simpa [qn] using this)
      have e7 : IntKind.wrap .u32 ((n : Int) + 1) = ((n + 1 : Nat) : Int) := by rw [IntWalk.u32_in _ (by omega)]; omega
      refine awp_skip ?_; try simp only [RR]
      refine awp_region rfl ?_
      simp only [f3, f7, hb1, List.length_map, e6, e7, RR, seval]
      refine hK4 (m - 1) _ _ (by omega) ⟨(by first | exact e4_b1 | (simp only [upd_app, seval]; first | done | exact e4_b1)), ⟨n + 1, rfl, by omega⟩⟩ (by repeat (first | exact ag4 | refine agree.upd rfl ?_))
end Go.Proofs.Ytnbokmbjiioooaa

namespace Go.Al
/-- what a name is outside of functions, list by list -/
def findL (vs aa fs : List Str) (s : Str) : Int × Int := match placeN vs s with
  | some k => (2, k)
  | none => match placeN aa s with
    | some k => (3, k)
    | none => match placeN fs s with
      | some k => (4, k)
      | none => (0, -1)
theorem findG_eq (p : Pg) (s : Str) : findG p s = findL p.vars (p.arrs.map Ar.name) (p.funs.map Fu.name) s := by
  unfold findG findL globL
  rw [placeN_append, placeN_append]
  cases h1 : placeN p.vars s with
  | some k =>
    have := (placeN_lt _ _ _ h1).1
    simp [this]
  | none =>
    cases h2 : placeN (p.arrs.map Ar.name) s with
    | some k =>
      have := (placeN_lt _ _ _ h2).1
      rw [List.length_map] at this
      simp only [Option.map_some]
      rw [if_neg (by omega), if_pos (by omega)]
      simp
    | none =>
      cases h3 : placeN (p.funs.map Fu.name) s with
      | none => simp
      | some k =>
        simp only [Option.map_none, Option.map_some, List.length_append, List.length_map]
        rw [if_neg (by omega), if_neg (by omega)]
        congr 2
        omega
theorem findL_none {vs aa fs : List Str} {s : Str} (h1 : s ∉ vs) (h2 : s ∉ aa) (h3 : s ∉ fs) : findL vs aa fs s = (0, -1) := by
  unfold findL
  rw [(placeN_none _ _).2 h1, (placeN_none _ _).2 h2, (placeN_none _ _).2 h3]
theorem findL_more (vs aa fs : List Str) {s t : Str} (h : t ≠ s) : findL (vs ++ [s]) aa fs t = findL vs aa fs t := by
  unfold findL
  rw [placeN_append]
  have : placeN [s] t = none := by simp [placeN, Ne.symm h]
  rw [this]
  cases placeN vs t <;> rfl
theorem namesFrom_congr (p q : Pg) : ∀ (l m : List Fu) (i : Nat), l.length = m.length → (∀ (j : Nat) f g, l[j]? = some f → m[j]? = some g → decide (namesL f).Nodup = decide (namesL g).Nodup ∧ (usesS f.body).all (okUse p (i + j)) = (usesS g.body).all (okUse q (i + j))) → namesFrom p i l = namesFrom q i m
  | [], [], _, _, _ => rfl
  | f :: l, g :: m, i, hl, h => by
    simp only [namesFrom]
    have h0 := h 0 f g rfl rfl
    rw [Nat.add_zero] at h0
    rw [h0.1, h0.2, namesFrom_congr p q l m (i + 1) (by simpa using hl) fun j f g hf hg => by
      have := h (j + 1) f g (by simpa using hf) (by simpa using hg)
      rwa [show i + (j + 1) = i + 1 + j by omega] at this]
  | [], _ :: _, _, hl, _ => by simp at hl
  | _ :: _, [], _, hl, _ => by simp at hl
theorem numsFrom_congr (p q : Pg) : ∀ (l m : List Fu) (i : Nat), l.length = m.length → (∀ (j : Nat) f g, l[j]? = some f → m[j]? = some g → (usesS f.body).all (numU p (i + j)) = (usesS g.body).all (numU q (i + j))) → numsFrom p i l = numsFrom q i m
  | [], [], _, _, _ => rfl
  | f :: l, g :: m, i, hl, h => by
    simp only [numsFrom]
    have h0 := h 0 f g rfl rfl
    rw [Nat.add_zero] at h0
    rw [h0, numsFrom_congr p q l m (i + 1) (by simpa using hl) fun j f g hf hg => by
      have := h (j + 1) f g (by simpa using hf) (by simpa using hg)
      rwa [show i + (j + 1) = i + 1 + j by omega] at this]
  | [], _ :: _, _, hl, _ => by simp at hl
  | _ :: _, [], _, hl, _ => by simp at hl
theorem all_congr {α : Type} {l : List α} {f g : α → Bool} (h : ∀ x ∈ l, f x = g x) : l.all f = l.all g := by
  rw [Bool.eq_iff_iff, List.all_eq_true, List.all_eq_true]
  exact ⟨fun h1 x hx => by rw [← h x hx]; exact h1 x hx, fun h1 x hx => by rw [h x hx]; exact h1 x hx⟩
theorem use_allN (p : Pg) {j : Nat} {f : Fu} (hf : p.funs[j]? = some f) {u : Us} (hu : u ∈ usesS f.body) : u.name ∈ allN p := by
  simp only [allN, List.mem_append, List.mem_flatMap]
  exact .inr ⟨f, List.mem_of_getElem? hf, by simp only [frF, List.mem_append, List.mem_map]; exact .inr ⟨u, hu, rfl⟩⟩
theorem check_same (p q : Pg) (hn : namesB q = namesB p) (hm : numsB q = numsB p) : checkI q = checkI p := by
  simp only [checkI, hn, hm]
/-- a variable more -/
def moreV (p : Pg) (s : Str) : Pg := ⟨p.vars ++ [s], p.arrs, p.funs⟩
theorem moreV_find (p : Pg) (s : Str) (i : Nat) {t : Str} (h : t ≠ s) : findF (moreV p s) i t = findF p i t := by
  unfold findF
  rw [findG_eq, findG_eq]
  show (match (p.funs[i]?).bind fun g => placeN (namesL g) t with | some k => ((1 : Int), (k : Int)) | none => findL (p.vars ++ [s]) (p.arrs.map Ar.name) (p.funs.map Fu.name) t) = _
  rw [findL_more _ _ _ h]
  rfl
theorem nodup_perm (a b c : List Str) (s : Str) : (a ++ [s] ++ b ++ c).Nodup ↔ s ∉ a ++ b ++ c ∧ (a ++ b ++ c).Nodup := by
  have hp : (a ++ [s] ++ b ++ c).Perm (s :: (a ++ b ++ c)) := by
    simp only [List.append_assoc]
    exact List.perm_middle
  rw [hp.nodup_iff, List.nodup_cons]
theorem moreV_glob (p : Pg) (s : Str) : (globL (moreV p s)).Nodup ↔ s ∉ globL p ∧ (globL p).Nodup := nodup_perm p.vars (p.arrs.map Ar.name) (p.funs.map Fu.name) s
theorem moreV_twice (p : Pg) (s : Str) (h : s ∈ globL p) : checkI (moreV p s) = 4 := by
  have : namesB (moreV p s) = false := by
    simp only [namesB, Bool.and_eq_false_iff]
    left
    refine decide_eq_false fun hn => ?_
    exact ((moreV_glob p s).1 hn).1 h
  simp [checkI, this]
theorem moreV_fresh (p : Pg) (s : Str) (h : s ∉ allN p) : checkI (moreV p s) = checkI p := by
  have hg : s ∉ globL p := fun c => h (by simp only [allN, List.mem_append]; exact .inl c)
  have hf : ∀ (i : Nat) (f : Fu), p.funs[i]? = some f → ∀ u ∈ usesS f.body, ∀ k, findF (moreV p s) k u.name = findF p k u.name := fun i f hi u hu k =>
    moreV_find p s k fun e => h (by rw [← e]; exact use_allN p hi hu)
  refine check_same _ _ ?_ ?_
  · simp only [namesB]
    congr 1
    · rw [Bool.eq_iff_iff, decide_eq_true_eq, decide_eq_true_eq, moreV_glob]
      exact ⟨fun h => h.2, fun h => ⟨hg, h⟩⟩
    · refine namesFrom_congr _ _ _ _ 0 rfl fun j f g h1 h2 => ?_
      have h1' : p.funs[j]? = some f := h1
      have e : f = g := by rw [h1'] at h2; cases h2; rfl
      subst e
      refine ⟨rfl, all_congr fun u hu => ?_⟩
      simp only [okUse, hf j f h1' u hu]
  · simp only [numsB]
    congr 1
    refine numsFrom_congr _ _ _ _ 0 rfl fun j f g h1 h2 => ?_
    have h1' : p.funs[j]? = some f := h1
    have e : f = g := by rw [h1'] at h2; cases h2; rfl
    subst e
    refine all_congr fun u hu => ?_
    simp only [numU, hf j f h1' u hu]
    rfl
/-- a program with few parts, closely -/
structure Pg.small (p : Pg) : Prop where
  ok : p.ok
  v : p.vars.length ≤ 5000
  a : p.arrs.length ≤ 5000
  f : p.funs.length ≤ 5000
  fs : ∀ f ∈ p.funs, f.params.length ≤ 5000 ∧ f.locs.length ≤ 5000 ∧ szS f.body ≤ 5000
theorem Pg.small.few {p : Pg} (h : p.small) : p.few := ⟨h.ok, by have := h.v; omega, by have := h.a; omega, by have := h.f; omega, fun f hf => by have := h.fs f hf; omega⟩
theorem okN_more {l : List Str} (h : okN l) (hl : l.length ≤ 5000) {s : Str} (hs : fitL s) : okN (l ++ [s]) :=
  ⟨by simp only [fitL, List.length_append, List.length_singleton]; omega, fun x hx => by
    rcases List.mem_append.1 hx with hx | hx
    · exact h.all x hx
    · rw [List.mem_singleton] at hx; rw [hx]; exact hs⟩
theorem moreV_few {p : Pg} (h : p.small) {s : Str} (hs : fitL s) : (moreV p s).few :=
  ⟨⟨okN_more h.ok.vars h.v hs, h.ok.afit, h.ok.arrs, h.ok.ffit, h.ok.funs⟩, by have := h.v; simp only [moreV, List.length_append, List.length_singleton]; omega, h.few.a, h.few.f, h.few.fs⟩
end Go.Al
namespace Go.Proofs.Ytnbokmbjiioooaa
open Go.Al
theorem few16_small (p : Pg) (hp : p.ok) (h : few16 p = true) : p.small ∧ 1 ≤ p.funs.length ∧ ∀ s ∈ globL p, s.length ≤ 60 := by
  simp only [few16, fewB, rightP, Bool.and_eq_true, decide_eq_true_eq, List.all_eq_true] at h
  obtain ⟨⟨⟨⟨⟨⟨h1, h2⟩, h3⟩, h4⟩, h5⟩, h6⟩, ⟨⟨⟨_, h7⟩, _⟩, _⟩, _⟩ := h
  have hs := (leftF_sz _ _ h6).2
  refine ⟨⟨hp, ?_, by omega, by omega, fun f hf => ?_⟩, h7, fun s hs => ?_⟩
  · have := (shortB_len h1).1; omega
  · have hff := h5 f hf
    simp only [fewF, Bool.and_eq_true] at hff
    have q1 := (shortB_len hff.1.1).1
    have q2 := (shortB_len hff.1.2).1
    have := hs f hf
    refine ⟨by omega, by omega, by omega⟩
  · simp only [globL, List.mem_append, List.mem_map] at hs
    rcases hs with (hs | ⟨a, ha, rfl⟩) | ⟨f, hf, rfl⟩
    · exact (shortB_len h1).2 s hs
    · exact h4 a ha
    · have := h5 f hf
      simp only [fewF, Bool.and_eq_true, decide_eq_true_eq] at this
      exact this.2
end Go.Proofs.Ytnbokmbjiioooaa
