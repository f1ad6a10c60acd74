/- Chapter 16: the law's own examples. Chapter 16: alive. Chapter 16: few; the first law's contract. Chapter 16: the first law's contract. -/
import Derived.Test.YtnbokmbjiioooaaSc2
import Derived.Test.YtnbokmbjiioooaaAl4
import Derived.Test.YtnbokmbjiioooaaSy2
set_option linter.unusedSimpArgs false
set_option linter.unusedVariables false
namespace Go.Proofs.Ytnbokmbjiioooaa
open Go.Al
theorem num_con (n : Int) : PCon env 19 [.int .u32 n] (.agg (Ex.mk 1 0 n [] []).row) := by
  refine pcon_weak (v := .agg [.int .i64 1, .int .i64 0, .int .u32 n, .str [], .nsl]) ?_ ?_
  · refine con_of 5 [.cell 2 47] Try.func19 rfl rfl rfl rfl ?_
    refine awp_seq_k fun K hK => ?_; refine awp_region rfl ?_; simp only [RR, seval]
    refine awpN_intro fun b hb => ?_; simp only [RR, seval]
    refine hK _ _ ?_; clear hK K
    refine awp_seq_k fun K hK => ?_; refine awp_region rfl ?_; simp only [RR, seval]
    refine hK _ _ ?_; clear hK K
    refine awp_ret ?_
    simp only [thenQ, blockQ, bodyQ, aresult, ares, argF, upd_same, RR, seval]
    exact Gives.pure rfl
  · exact Sub.aggR (.cons (Sub.refl _) (.cons (Sub.refl _) (.cons (Sub.refl _) (.cons (Sub.refl _) (.cons (Sub.nsl 5) .nil)))))
theorem put_con (e : Ex) : PCon env 18 [.agg e.row] (.agg (Sm.mk 3 [] [e] [] []).row) := by
  refine pcon_weak (v := .agg [.int .i64 3, .str [], .isl 5 [e.row], .nsl, .nsl]) ?_ ?_
  · rw [e.row_eq]
    refine con_of 6 [.cell 2 43] Try.func18 rfl rfl rfl rfl ?_
    refine awp_cutK (fun fr H => ∃ b1 b2, fr 1 = .ptr 5 b1 0 0 ∧ fr 2 = .ptr 5 b2 0 0 ∧ H b1 = some (.rows 5 [e.row]) ∧ (∃ r, H b2 = some (.rows 5 [r]) ∧ r.length = 5)) (fun K hK => ?_) ?_
    · refine awp_region rfl ?_; simp only [RR, seval]
      refine awpN_intro fun b1 hb1 => ?_
      simp only [RR, seval]
      refine awpN_intro fun b2 hb2 => ?_
      simp only [RR, seval]
      have hne : b1 ≠ b2 := fun e => by rw [← e, upd_same] at hb2; cases hb2
      exact hK _ _ ⟨b1, b2, rfl, rfl, by rw [e.row_eq]; simp [upd, hne], _, upd_same _ _ _, rfl⟩
    rintro fr H ⟨b1, b2, f1, f2, hb1, r, hb2, hr⟩
    rw [e.row_eq] at hb1
    have hr' := e.row_eq
    generalize hL : e.kids.map Ex.row = kl at *
    match r, hr with
    | [r0, r1, r2, r3, r4], _ =>
    refine awp_seq_k fun K hK => ?_; refine awp_region rfl ?_; simp only [RR, seval]
    simp only [f1, f2, hb1, hb2, RR, seval]
    refine awpB_sealed ?_
    simp only [f1, f2, hb1, hb2, RR, seval]
    refine hK _ _ ?_; clear hK K
    refine awp_ret ?_
    simp only [thenQ, blockQ, bodyQ, aresult, ares, argF, f2, upd_same, RR, seval]
    exact Gives.pure rfl
  · rw [Sm.row_eq]
    exact Sub.aggR (.cons (Sub.refl _) (.cons (Sub.refl _) (.cons (Sub.refl _) (.cons (Sub.nsl 5) (.cons (Sub.nsl 5) .nil)))))
/-- the example: f called with arguments -/
def plainP (name : Str) (args : List Ex) : Pg :=
  ⟨[], [], [⟨[102], [[97]], [], true, [.mk 7 [] [.mk 2 0 0 [97] []] [] []]⟩, ⟨[109, 97, 105, 110], [], [], false, [.mk 3 [] [.mk 4 0 0 name args] [] []]⟩]⟩
theorem plain_con (name : Str) (args : List Ex) : PCon env 24 [.str name, .isl 5 (args.map Ex.row)] (plainP name args).av := by
  have hput := put_con (.mk 4 0 0 name args)
  rw [Ex.row_eq, Sm.row_eq] at hput
  simp only [Ex.row_eq, Ex.kind, Ex.op, Ex.num, Ex.name, Ex.kids, Sm.kind, Sm.name, Sm.es, Sm.thn, Sm.els, List.map_cons, List.map_nil] at hput
  refine pcon_weak (v := .agg [.nsl, .nsl, .isl 5 [[.str [102], .isl 1 [[.str [97]]], .nsl, .bool true, .isl 5 [[.int .i64 7, .str [], .isl 5 [[.int .i64 2, .int .i64 0, .int .u32 0, .str [97], .nsl]], .nsl, .nsl]]], [.str [109, 97, 105, 110], .nsl, .nsl, .bool false, .isl 5 [[.int .i64 3, .str [], .isl 5 [[.int .i64 4, .int .i64 0, .int .u32 0, .str name, .isl 5 (args.map Ex.row)]], .isl 5 [], .isl 5 []]]]]]) ?_ ?_
  · refine con_of 23 [.cell 4 26] Try.func24 rfl rfl rfl rfl ?_
    refine awp_cutK (fun fr H => ∃ b4, fr 0 = .str name ∧ fr 1 = .isl 5 (args.map Ex.row) ∧ fr 4 = .ptr 3 b4 0 0 ∧ H b4 = some (.rows 3 [[.nsl, .nsl, .nsl]])) (fun K hK => ?_) ?_
    · refine awp_region rfl ?_; simp only [RR, seval]
      refine awpN_intro fun b4 hb4 => ?_
      simp only [RR, seval]
      exact hK _ _ ⟨b4, rfl, rfl, rfl, upd_same _ _ _⟩
    rintro fr H ⟨b4, f0, f1, f4, hb4⟩
    refine awp_cutK (fun fr H => ∃ b5, fr 0 = .str name ∧ fr 1 = .isl 5 (args.map Ex.row) ∧ fr 4 = .ptr 3 b4 0 0 ∧ fr 5 = .ptr 5 b5 0 0 ∧ H b4 = some (.rows 3 [[.nsl, .nsl, .nsl]]) ∧ H b5 = some (.rows 5 [[.str [102], .isl 1 [[.str [97]]], .nsl, .bool true, .isl 5 [[.int .i64 7, .str [], .isl 5 [[.int .i64 2, .int .i64 0, .int .u32 0, .str [97], .nsl]], .nsl, .nsl]]]])) (fun K hK => ?_) ?_
    · refine awp_region rfl ?_; simp only [RR, seval]
      repeat' (refine awpB_sealed ?_; simp only [RR, seval])
      refine awpN_intro fun b5 hb5 => ?_
      simp only [RR, seval]
      have q : b4 ≠ b5 := fun e => by rw [e, hb5] at hb4; cases hb4
      exact hK _ _ ⟨b5, f0, f1, f4, rfl, by simp only [upd, if_neg q]; exact hb4, upd_same _ _ _⟩
    rintro fr H ⟨b5, f0, f1, f4, f5, hb4, hb5⟩
    refine awp_cutK (fun fr H => ∃ b6, fr 4 = .ptr 3 b4 0 0 ∧ fr 5 = .ptr 5 b5 0 0 ∧ fr 6 = .ptr 5 b6 0 0 ∧ H b4 = some (.rows 3 [[.nsl, .nsl, .nsl]]) ∧ H b5 = some (.rows 5 [[.str [102], .isl 1 [[.str [97]]], .nsl, .bool true, .isl 5 [[.int .i64 7, .str [], .isl 5 [[.int .i64 2, .int .i64 0, .int .u32 0, .str [97], .nsl]], .nsl, .nsl]]]]) ∧ H b6 = some (.rows 5 [[.str [109, 97, 105, 110], .nsl, .nsl, .bool false, .isl 5 [[.int .i64 3, .str [], .isl 5 [[.int .i64 4, .int .i64 0, .int .u32 0, .str name, .isl 5 (args.map Ex.row)]], .isl 5 [], .isl 5 []]]]])) (fun K hK => ?_) ?_
    · refine awp_region rfl ?_
      simp only [f0, f1, RR, seval]
      refine awpC_pure' hput ?_
      simp only [RR, seval]
      repeat' (refine awpB_sealed ?_; simp only [RR, seval])
      refine awpN_intro fun b6 hb6 => ?_
      simp only [RR, seval]
      have q : b4 ≠ b6 := fun e => by rw [e, hb6] at hb4; cases hb4
      have q' : b5 ≠ b6 := fun e => by rw [e, hb6] at hb5; cases hb5
      exact hK _ _ ⟨b6, f4, f5, rfl, by simp only [upd, if_neg q]; exact hb4, by simp only [upd, if_neg q']; exact hb5, upd_same _ _ _⟩
    rintro fr H ⟨b6, f4, f5, f6, hb4, hb5, hb6⟩
    refine awp_seq_k fun K hK => ?_; refine awp_region rfl ?_; simp only [RR, seval]
    simp only [f4, f5, f6, hb4, hb5, hb6, RR, seval]
    refine awpB_sealed ?_
    simp only [f4, f5, f6, hb4, hb5, hb6, RR, seval]
    refine hK _ _ ?_; clear hK K
    refine awp_ret ?_
    simp only [thenQ, blockQ, bodyQ, aresult, ares, argF, f4, upd_same, RR, seval]
    exact Gives.pure rfl
  · simp only [plainP, Pg.av, Pg.row, Fu.row, List.map_cons, List.map_nil, Sm.row_eq, Ex.row_eq, strRow, Ex.kind, Ex.op, Ex.num, Ex.name, Ex.kids, Sm.kind, Sm.name, Sm.es, Sm.thn, Sm.els]
    refine Sub.aggR ?_
    repeat' (first | exact SubR.nil | exact SubRs.nil | exact Sub.nsl _ | exact Sub.refl _ | refine SubR.cons ?_ ?_ | refine SubRs.cons ?_ ?_ | refine Sub.isl ?_)
end Go.Proofs.Ytnbokmbjiioooaa

namespace Go.Proofs.Ytnbokmbjiioooaa
open Go.Al
abbrev nE (n : Int) : Ex := .mk 1 0 n [] []
def P1 : Pg := plainP [102] [nE 1]
def P2 : Pg := plainP [102] [nE 1, nE 2]
def P3 : Pg := plainP [103] [nE 1]
def P4 : Pg := plainP [109, 97, 105, 110] []
theorem P1_c : checkI P1 = 0 := by
  simp only [checkI, namesB, numsB, namesFrom, numsFrom, P1, plainP, usesS_cons, usesE_cons, usesS, usesE, Ex.kids, Sm.es, Sm.thn, Sm.els]
  decide +kernel
theorem P2_c : checkI P2 = 1 := by
  simp only [checkI, namesB, numsB, namesFrom, numsFrom, P2, plainP, usesS_cons, usesE_cons, usesS, usesE, Ex.kids, Sm.es, Sm.thn, Sm.els]
  decide +kernel
theorem P3_c : checkI P3 = 4 := by
  simp only [checkI, namesB, numsB, namesFrom, numsFrom, P3, plainP, usesS_cons, usesE_cons, usesS, usesE, Ex.kids, Sm.es, Sm.thn, Sm.els]
  decide +kernel
theorem P4_c : checkI P4 = 4 := by
  simp only [checkI, namesB, numsB, namesFrom, numsFrom, P4, plainP, usesS_cons, usesE_cons, usesS, usesE, Ex.kids, Sm.es, Sm.thn, Sm.els]
  decide +kernel
theorem P1_l : callsP P1 = [[], [0]] := by
  simp only [callsP, callsFrom, callsRow, P1, plainP, usesS_cons, usesE_cons, usesS, usesE, Ex.kids, Sm.es, Sm.thn, Sm.els]
  decide +kernel
theorem okE_nil : okE [] := ⟨(by simp [fitL, i64R, u32R]), fun e h => by cases h⟩
theorem okS_nil : okS [] := ⟨(by simp [fitL, i64R, u32R]), fun e h => by cases h⟩
theorem nE_ok (n : Int) (h : u32R n) : (nE n).ok := .mk _ _ _ _ _ (by simp [fitL, i64R, u32R]) (by simp [fitL, i64R, u32R]) h (by simp [fitL, i64R, u32R]) (by simp [fitL, i64R, u32R]) (fun e h => by cases h)
theorem plainP_few (name : Str) (hn : fitL name) (args : List Ex) (ha : okE args) (hs : szE args ≤ 100) : (plainP name args).few := by
  have hf : okS [.mk 7 [] [.mk 2 0 0 [97] []] [] []] := ⟨(by simp [fitL, i64R, u32R]), fun e he => by
    simp only [List.mem_singleton] at he
    subst he
    exact .mk _ _ _ _ _ (by simp [fitL, i64R, u32R]) (by simp [fitL, i64R, u32R]) ⟨(by simp [fitL, i64R, u32R]), fun e he => by
      simp only [List.mem_singleton] at he
      subst he
      exact .mk _ _ _ _ _ (by simp [fitL, i64R, u32R]) (by simp [fitL, i64R, u32R]) (by simp [fitL, i64R, u32R]) (by simp [fitL, i64R, u32R]) (by simp [fitL, i64R, u32R]) (fun e h => by cases h)⟩ (by simp [fitL, i64R, u32R]) (fun e h => by cases h) (by simp [fitL, i64R, u32R]) (fun e h => by cases h)⟩
  have hm : okS [.mk 3 [] [.mk 4 0 0 name args] [] []] := ⟨(by simp [fitL, i64R, u32R]), fun e he => by
    simp only [List.mem_singleton] at he
    subst he
    exact .mk _ _ _ _ _ (by simp [fitL, i64R, u32R]) (by simp [fitL, i64R, u32R]) ⟨(by simp [fitL, i64R, u32R]), fun e he => by
      simp only [List.mem_singleton] at he
      subst he
      exact .mk _ _ _ _ _ (by simp [fitL, i64R, u32R]) (by simp [fitL, i64R, u32R]) (by simp [fitL, i64R, u32R]) hn ha.fit ha.2⟩ (by simp [fitL, i64R, u32R]) (fun e h => by cases h) (by simp [fitL, i64R, u32R]) (fun e h => by cases h)⟩
  have hA : okN [[97]] := ⟨(by simp [fitL]), fun s h => by simp only [List.mem_singleton] at h; subst h; simp [fitL]⟩
  have hN : okN [] := ⟨(by simp [fitL]), fun s h => by cases h⟩
  refine ⟨⟨hN, (by simp [plainP, fitL]), fun a h => (by cases h), (by simp [plainP, fitL]), fun f hmem => ?_⟩, (by simp [plainP]), (by simp [plainP]), (by simp [plainP]), fun f hmem => ?_⟩
  · simp only [plainP, List.mem_cons, List.not_mem_nil, or_false] at hmem
    rcases hmem with rfl | rfl
    · exact ⟨(by simp [fitL]), hA, hN, hf⟩
    · exact ⟨(by simp [fitL]), hN, hN, hm⟩
  · simp only [plainP, List.mem_cons, List.not_mem_nil, or_false] at hmem
    rcases hmem with rfl | rfl
    · simp [szS, szE, Sm.sz, Ex.sz]
    · simp [szS, szE, Sm.sz, Ex.sz]; omega
theorem one_ok (n : Int) (h : u32R n) : okE [nE n] := ⟨(by simp [fitL]), fun e he => by simp only [List.mem_singleton] at he; subst he; exact nE_ok n h⟩
theorem two_ok (n m : Int) (h : u32R n) (h' : u32R m) : okE [nE n, nE m] := ⟨(by simp [fitL]), fun e he => by
  simp only [List.mem_cons, List.not_mem_nil, or_false] at he
  rcases he with rfl | rfl
  · exact nE_ok n h
  · exact nE_ok m h'⟩
theorem P1_few : P1.few := plainP_few _ (by simp [fitL]) _ (one_ok 1 (by simp [u32R])) (by simp [szE, Ex.sz])
theorem P2_few : P2.few := plainP_few _ (by simp [fitL]) _ (two_ok 1 2 (by simp [u32R]) (by simp [u32R])) (by simp [szE, Ex.sz])
theorem P3_few : P3.few := plainP_few _ (by simp [fitL]) _ (one_ok 1 (by simp [u32R])) (by simp [szE, Ex.sz])
theorem P4_few : P4.few := plainP_few _ (by simp [fitL]) _ okE_nil (by simp [szE])
set_option maxHeartbeats 2000000 in
theorem alive_con : PCon env 9 [] (.bool true) := by
  have hn := fun n => num_con n
  simp only [Ex.row_eq, Ex.kind, Ex.op, Ex.num, Ex.name, Ex.kids, List.map_nil] at hn
  have h1 := plain_con [102] [nE 1]
  have h2 := plain_con [102] [nE 1, nE 2]
  have h3 := plain_con [103] [nE 1]
  have h4 := plain_con [109, 97, 105, 110] []
  rw [show plainP [102] [nE 1] = P1 from rfl] at h1
  rw [show plainP [102] [nE 1, nE 2] = P2 from rfl] at h2
  rw [show plainP [103] [nE 1] = P3 from rfl] at h3
  rw [show plainP [109, 97, 105, 110] [] = P4 from rfl] at h4
  simp only [List.map_cons, List.map_nil, Ex.row_eq, Ex.kind, Ex.op, Ex.num, Ex.name, Ex.kids] at h1 h2 h3 h4
  have c1 := Check_con P1 P1_few (by decide)
  have c2 := Check_con P2 P2_few (by decide)
  have c3 := Check_con P3 P3_few (by decide)
  have c4 := Check_con P4 P4_few (by decide)
  rw [P1_c] at c1
  rw [P2_c] at c2
  rw [P3_c] at c3
  rw [P4_c] at c4
  have l1 := Calls_con P1 P1_few
  rw [P1_l] at l1
  have hs := Same16_con [[], [0]] [[], [0]] (by simp) (by simp) (by simp) (by simp)
  rw [decide_eq_true rfl] at hs
  simp only [List.map_cons, List.map_nil, intsRow, intRow] at l1 hs
  generalize P1.av = v1 at *
  generalize P2.av = v2 at *
  generalize P3.av = v3 at *
  generalize P4.av = v4 at *
  refine con_of 37 [.tmp 0] Try.func9 rfl rfl rfl rfl ?_
  refine awp_seq_k fun K hK => ?_; refine awp_region rfl ?_; simp only [RR, seval]
  refine hK _ _ ?_; clear hK K
  refine awp_seq_k fun K hK => ?_; refine awp_region rfl ?_; simp only [RR, seval]
  repeat' (first | (refine awpC_pure' (hn _) ?_; simp only [RR, seval]) | (refine awpC_pure' h1 ?_; simp only [RR, seval]) | (refine awpC_pure' l1 ?_; simp only [RR, seval]) | (refine awpB_sealed ?_; simp only [RR, seval]))
  refine hK _ _ ?_; clear hK K
  refine awp_seq_k fun K hK => ?_; refine awp_region rfl ?_; simp only [RR, seval]
  repeat' (first | (refine awpC_pure' (hn _) ?_; simp only [RR, seval]) | (refine awpC_pure' h1 ?_; simp only [RR, seval]) | (refine awpC_pure hs (SubL.cons (Sub.refl _) (SubL.cons (Sub.isl (.cons (.cons (Sub.nsl 1) .nil) (.cons (.cons (Sub.refl _) .nil) .nil))) (SubL.refl []))) ?_; simp only [RR, seval]) | (refine awpC_pure h4 (SubL.cons (Sub.refl _) (SubL.cons (Sub.nsl 5) (SubL.refl []))) ?_; simp only [RR, seval]) | (refine awpC_pure' h2 ?_; simp only [RR, seval]) | (refine awpC_pure' h3 ?_; simp only [RR, seval]) | (refine awpC_pure' h4 ?_; simp only [RR, seval]) | (refine awpC_pure' c1 ?_; simp only [RR, seval]) | (refine awpC_pure' c2 ?_; simp only [RR, seval]) | (refine awpC_pure' c3 ?_; simp only [RR, seval]) | (refine awpC_pure' c4 ?_; simp only [RR, seval]) | (refine awpB_sealed ?_; simp only [RR, seval]))
  refine hK _ _ ?_; clear hK K
  refine awp_ret ?_; simp only [thenQ, blockQ, bodyQ, aresult, ares, argF, RR, seval]; refine Gives.pure ?_
  rfl
end Go.Proofs.Ytnbokmbjiioooaa

namespace Go.Al
theorem leftE_sz (n : Nat) : ∀ (l : List Ex) (left deep : Int), szE l ≤ n → 0 ≤ leftE l left deep → leftE l left deep + szE l = left := by
  induction n using Nat.strongRecOn with
  | _ n ih =>
    intro l left deep hn h
    cases l with
    | nil => rw [leftE, szE]; simp
    | cons e l =>
      have hs := e.sz_eq
      rw [szE] at hn ⊢
      rw [leftE_cons] at h ⊢
      split at h
      · omega
      · rename_i h1
        rw [if_neg h1]
        split at h
        · omega
        · rename_i h2
          rw [if_neg h2]
          have i1 := ih (szE l) (by omega) l _ deep (Nat.le_refl _) h
          have i2 := ih (szE e.kids) (by omega) e.kids (left - 1) (deep - 1) (Nat.le_refl _) (by omega)
          omega
theorem leftS_sz (n : Nat) : ∀ (l : List Sm) (left deep : Int), szS l ≤ n → 0 ≤ leftS l left deep → leftS l left deep + szS l = left := by
  induction n using Nat.strongRecOn with
  | _ n ih =>
    intro l left deep hn h
    cases l with
    | nil => rw [leftS, szS]; simp
    | cons e l =>
      have hs := e.sz_eq
      rw [szS] at hn ⊢
      rw [leftS_cons] at h ⊢
      split at h
      · omega
      · rename_i h1
        rw [if_neg h1]
        split at h
        · omega
        · rename_i h2
          rw [if_neg h2]
          have i1 := ih (szS l) (by omega) l _ deep (Nat.le_refl _) h
          have i2 := ih (szS e.els) (by omega) e.els (leftS e.thn (leftE e.es (left - 1) (deep - 1)) (deep - 1)) (deep - 1) (Nat.le_refl _) (by omega)
          have i3 := ih (szS e.thn) (by omega) e.thn (leftE e.es (left - 1) (deep - 1)) (deep - 1) (Nat.le_refl _) (by omega)
          have i4 := leftE_sz _ e.es (left - 1) (deep - 1) (Nat.le_refl _) (by omega)
          omega
theorem leftF_sz : ∀ (l : List Fu) (left : Int), 0 ≤ leftF l left → leftF l left ≤ left ∧ ∀ f ∈ l, (szS f.body : Int) ≤ left
  | [], left, h => ⟨by rw [leftF]; exact Int.le_refl _, fun f hf => by cases hf⟩
  | f :: l, left, h => by
    rw [leftF] at h ⊢
    obtain ⟨h1, h2⟩ := leftF_sz l _ h
    have h3 := leftS_sz _ f.body (left - f.params.length - f.locs.length) 60 (Nat.le_refl _) (by omega)
    refine ⟨by omega, fun g hg => ?_⟩
    rcases List.mem_cons.mp hg with rfl | hg
    · omega
    · have := h2 g hg; omega
end Go.Al
namespace Go.Proofs.Ytnbokmbjiioooaa
open Go.Al
def few16 (p : Pg) : Bool := fewB p 400 && rightP p
theorem few16_few (p : Pg) (hp : p.ok) (h : few16 p = true) : p.few ∧ 1 ≤ p.funs.length := by
  simp only [few16, fewB, rightP, Bool.and_eq_true, decide_eq_true_eq, List.all_eq_true] at h
  obtain ⟨⟨⟨⟨⟨⟨h1, h2⟩, h3⟩, h4⟩, h5⟩, h6⟩, ⟨⟨⟨_, h7⟩, _⟩, _⟩, _⟩ := h
  have hs := (leftF_sz _ _ h6).2
  refine ⟨⟨hp, ?_, by omega, by omega, fun f hf => ?_⟩, h7⟩
  · have := (shortB_len h1).1; omega
  · have hff := h5 f hf
    simp only [fewF, Bool.and_eq_true] at hff
    have q1 := (shortB_len hff.1.1).1
    have q2 := (shortB_len hff.1.2).1
    have := hs f hf
    refine ⟨by omega, by omega, by omega⟩
theorem fewB_params (p : Pg) (h : fewB p 400 = true) : ∀ f ∈ p.funs, f.params.length ≤ 1000000 := fun f hf => by
  simp only [fewB, Bool.and_eq_true, List.all_eq_true] at h
  have hff := h.1.2 f hf
  simp only [fewF, Bool.and_eq_true] at hff
  have q1 := (shortB_len hff.1.1).1
  omega
theorem few_con (p : Pg) (hp : p.ok) : PCon env 10 [p.av] (.bool (few16 p)) := by
  have hF := Few_con p hp 400 (by omega) (by omega)
  have hR := fun h => Right_con p hp (fewB_params p h)
  have hd : few16 p = (fewB p 400 && rightP p) := rfl
  generalize few16 p = res at *
  simp only [Pg.av, Pg.row] at *
  refine con_of 9 [.tmp 2] Try.func10 rfl rfl rfl rfl ?_
  refine awp_seq_k fun K hK => ?_; refine awp_region rfl ?_; simp only [RR, seval]
  refine awpN_intro fun b hb => ?_; simp only [RR, seval]
  refine hK _ _ ?_; clear hK K
  refine awp_seq_k fun K hK => ?_; refine awp_region rfl ?_; simp only [RR, seval]
  refine awpC_pure' hF ?_
  cases hc : fewB p 400 with
  | false =>
    simp only [RR, seval]
    refine hK _ _ ?_; clear hK K
    refine awp_ret ?_; simp only [thenQ, blockQ, bodyQ, aresult, ares, argF, RR, seval]; refine Gives.pure ?_
    rw [hd, hc]; rfl
  | true =>
    simp only [RR, seval]
    refine awpC_pure' (hR hc) ?_
    simp only [RR, seval]
    refine hK _ _ ?_; clear hK K
    refine awp_ret ?_; simp only [thenQ, blockQ, bodyQ, aresult, ares, argF, RR, seval]; refine Gives.pure ?_
    rw [hd, hc, Bool.true_and]
end Go.Proofs.Ytnbokmbjiioooaa

namespace Go.Proofs.Ytnbokmbjiioooaa
open Go.Al
theorem callsFrom_row (p : Pg) : ∀ (l : List Fu) (i : Nat), ∀ x ∈ callsFrom p i l, x.length ≤ p.funs.length
  | [], i, x, h => by simp [callsFrom] at h
  | f :: l, i, x, h => by
    simp only [callsFrom, List.mem_cons] at h
    rcases h with rfl | h
    · simp only [callsRow, List.length_map]
      have := List.length_filter_le (fun n => (usesS f.body).any (isCall p i n)) (List.range p.funs.length)
      rwa [List.length_range] at this
    · exact callsFrom_row p l (i + 1) x h
theorem ScopeChecks_con (p : Pg) (hp : p.ok) : PCon env 3 [p.av] (.bool true) := by
  have hfew := few_con p hp
  have hall := few16_few p hp
  have hav : p.av = .agg p.row := rfl
  have hrow : p.row = [.isl 1 (p.vars.map strRow), .isl 2 (p.arrs.map Ar.row), .isl 5 (p.funs.map Fu.row)] := rfl
  rw [hav, hrow] at hfew ⊢
  refine con_of 20 [.tmp 2] Try.func3 rfl rfl rfl rfl ?_
  refine awp_seq_k fun K hK => ?_; refine awp_region rfl ?_; simp only [RR, seval]
  refine awpN_intro fun b hb => ?_; simp only [RR, seval]
  refine hK _ _ ?_; clear hK K
  refine awp_seq ?_
  refine awp_seq_k fun K hK => ?_; refine awp_region rfl ?_; simp only [RR, seval]
  refine awpC_pure' alive_con ?_
  simp only [RR, seval]
  refine hK _ _ ?_; clear hK K
  refine awp_if false rfl (fun hc => by cases hc) (fun _ => ?_)
  refine awp_skip ?_; simp only [thenQ, blockQ]
  refine awp_seq ?_
  refine awp_seq_k fun K hK => ?_; refine awp_region rfl ?_; simp only [RR, seval]
  refine awpC_pure' hfew ?_
  simp only [RR, seval]
  refine hK _ _ ?_; clear hK K
  cases hc : few16 p with
  | false =>
    refine awp_if true rfl (fun _ => ?_) (fun hc => by cases hc)
    repeat' (first | (refine awp_seq_k fun K hK => ?_; refine awp_region rfl ?_; simp only [upd_same, RR, seval]; refine hK _ _ ?_; clear hK K) | (refine awp_seq ?_) | (refine awp_block ?_) | (refine awp_if true rfl (fun _ => ?_) (fun hc => by cases hc)) | (refine awp_if false rfl (fun hc => by cases hc) (fun _ => ?_)) | (refine awp_skip ?_; simp only [thenQ, blockQ]) | (refine awp_exit ?_; simp only [thenQ, blockQ, reduceIte, Nat.reduceEqDiff]) | (refine awp_region rfl ?_; simp only [upd_same, thenQ, blockQ, RR, seval]) | (refine awpG_splitN (fun h => ?_) (fun h => ?_) <;> simp only [h, upd_same, thenQ, blockQ, RR, seval]) | (refine awpG_split (fun h => ?_) (fun h => ?_) <;> simp only [h, upd_same, thenQ, blockQ, RR, seval]) | (refine awp_if _ rfl (fun h => ?_) (fun h => ?_)) | (refine awp_ret ?_; simp only [thenQ, blockQ, bodyQ, aresult, ares, argF, upd_same, RR, seval]; refine Gives.pure ?_))
    rfl
  | true =>
    obtain ⟨hf, h1⟩ := hall hc
    refine awp_if false rfl (fun hc => by cases hc) (fun _ => ?_)
    refine awp_skip ?_; simp only [thenQ, blockQ]
    have c1 := Check_con p hf h1
    have c2 := rCheck_con p hf h1
    have l1 := Calls_con p hf
    have l2 := rCalls_con p hf
    have hs := Same16_con (callsP p) (callsP p) (by rw [callsP, callsFrom_len]; have := hf.f; omega) (by rw [callsP, callsFrom_len]; have := hf.f; omega) (fun x hx => by have := callsFrom_row p _ _ x hx; have := hf.f; omega) (fun x hx => by have := callsFrom_row p _ _ x hx; have := hf.f; omega)
    rw [decide_eq_true rfl] at hs
    rw [hav, hrow] at c1 c2 l1 l2
    generalize checkI p = ck at *
    generalize (callsP p).map intsRow = cl at *
    refine awp_seq_k fun K hK => ?_
    refine awp_region_draw (fun x => x ≠ b) [(0, true), (2, false), (1, true), (3, true), (4, true), (5, true), (6, true), (8, false), (7, true), (9, true), (10, true), (11, true), (12, true)] draws (by kernel_rfl) rfl ?_
    simp only [emit, markOf, awpL_entry, touch_ptr, touch_ipt, upd_same, RR, seval]
    repeat' (first | (refine awpC_pure' c1 ?_; simp only [awpL_entry, touch_ptr, touch_ipt, upd_same, decide_true, RR, seval]) | (refine awpC_pure' c2 ?_; simp only [awpL_entry, touch_ptr, touch_ipt, upd_same, decide_true, RR, seval]) | (refine awpC_pure' l1 ?_; simp only [awpL_entry, touch_ptr, touch_ipt, upd_same, decide_true, RR, seval]) | (refine awpC_pure' l2 ?_; simp only [awpL_entry, touch_ptr, touch_ipt, upd_same, decide_true, RR, seval]) | (refine awpC_pure' hs ?_; simp only [awpL_entry, touch_ptr, touch_ipt, upd_same, decide_true, RR, seval]))
    refine hK _ _ ?_; clear hK K
    refine awp_ret ?_; simp only [thenQ, blockQ, bodyQ, aresult, ares, argF, RR, seval]; refine Gives.pure ?_
    rfl
end Go.Proofs.Ytnbokmbjiioooaa
