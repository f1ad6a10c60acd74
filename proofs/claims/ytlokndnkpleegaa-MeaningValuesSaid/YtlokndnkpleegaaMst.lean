/- Chapter 18: the law's own trees. Chapter 18: the value of an expression alone. Chapter 18: the law's guard. -/
import Derived.Test.YtlokndnkpleegaaM18r
import Derived.Test.YtlokndnkpleegaaAlZa
set_option linter.unusedSimpArgs false
set_option linter.unusedVariables false
set_option maxRecDepth 10000
namespace Go.Al
def numX (n : Int) : Ex := .mk 1 0 n [] []
def opX (k : Int) (a b : Ex) : Ex := .mk 6 k 0 [] [a, b]
def nameX (s : Str) : Ex := .mk 2 0 0 s []
def putS (e : Ex) : Sm := .mk 3 [] [e] [] []
def setS (s : Str) (e : Ex) : Sm := .mk 1 s [e] [] []
def whileS (e : Ex) (l : List Sm) : Sm := .mk 5 [] [e] l []
def mainN : Str := [109, 97, 105, 110]
def progP (v : Str) (l : List Sm) : Pg := ⟨[v], [], [⟨mainN, [], [], false, l⟩]⟩
end Go.Al
namespace Go.Proofs.Ytlokndnkpleegaa
open Go.Al
theorem lnum_con (n : Int) : PCon env 17 [.int .u32 n] (.agg (numX n).row) := by
  refine pcon_weak (v := .agg [.int .i64 1, .int .i64 0, .int .u32 n, .str [], .nsl]) ?_ ?_
  · skip
    refine con_of 5 [.cell 2 42] Try.func17 rfl rfl rfl rfl ?_
    refine awp_seq_k fun K hK => ?_
    refine awp_region rfl ?_
    simp only [RR, seval]
    refine awpN_intro fun b2 hn2 => ?_
    simp only [RR, seval]
    refine hK _ _ ?_; clear hK K
    refine awp_seq_k fun K hK => ?_
    refine awp_region rfl ?_
    simp only [RR, seval]
    refine hK _ _ ?_; clear hK K
    refine awp_ret ?_; simp only [bodyQ, aresult, ares, RR, seval]
    refine Gives.pure ?_
    rfl
  · simp only [numX, Ex.row, rowsE]
    refine Sub.aggR ?_
    repeat' (first | exact SubR.nil | exact SubRs.nil | exact Sub.refl _ | exact Sub.nsl _ | refine SubR.cons ?_ ?_ | refine SubRs.cons ?_ ?_ | refine Sub.isl ?_)
theorem lname_con (s : Str) : PCon env 22 [.str s] (.agg (nameX s).row) := by
  refine pcon_weak (v := .agg [.int .i64 2, .int .i64 0, .int .u32 0, .str s, .nsl]) ?_ ?_
  · skip
    refine con_of 5 [.cell 2 42] Try.func22 rfl rfl rfl rfl ?_
    refine awp_seq_k fun K hK => ?_
    refine awp_region rfl ?_
    simp only [RR, seval]
    refine awpN_intro fun b2 hn2 => ?_
    simp only [RR, seval]
    refine hK _ _ ?_; clear hK K
    refine awp_seq_k fun K hK => ?_
    refine awp_region rfl ?_
    simp only [RR, seval]
    refine hK _ _ ?_; clear hK K
    refine awp_ret ?_; simp only [bodyQ, aresult, ares, RR, seval]
    refine Gives.pure ?_
    rfl
  · simp only [nameX, Ex.row, rowsE]
    refine Sub.aggR ?_
    repeat' (first | exact SubR.nil | exact SubRs.nil | exact Sub.refl _ | exact Sub.nsl _ | refine SubR.cons ?_ ?_ | refine SubRs.cons ?_ ?_ | refine Sub.isl ?_)
theorem lop_con (k : Int) (a b : Ex) : PCon env 21 [.int .i64 k, .agg a.row, .agg b.row] (.agg (opX k a b).row) := by
  simp only [opX, Ex.row, rowsE]
  rw [a.row_eq, b.row_eq]
  generalize a.kids.map Ex.row = x
  generalize b.kids.map Ex.row = y
  refine con_of 12 [.cell 6 42] Try.func21 rfl rfl rfl rfl ?_
  refine awp_seq_k fun K hK => ?_
  refine awp_region rfl ?_
  simp only [RR, seval]
  refine awpN_intro fun b4 hn4 => ?_
  simp only [RR, seval]
  refine awpN_intro fun b5 hn5 => ?_
  have nb5_b4 : b5 ≠ b4 := fun e => by rw [e] at hn5; simp only [RR, seval, reduceCtorEq] at hn5
  have nb4_b5 : b4 ≠ b5 := fun e => nb5_b4 e.symm
  simp only [nb5_b4, nb4_b5, RR, seval]
  refine awpN_intro fun b6 hn6 => ?_
  have nb6_b4 : b6 ≠ b4 := fun e => by rw [e] at hn6; simp only [nb5_b4, nb4_b5, RR, seval, reduceCtorEq] at hn6
  have nb4_b6 : b4 ≠ b6 := fun e => nb6_b4 e.symm
  have nb6_b5 : b6 ≠ b5 := fun e => by rw [e] at hn6; simp only [nb5_b4, nb4_b5, RR, seval, reduceCtorEq] at hn6
  have nb5_b6 : b5 ≠ b6 := fun e => nb6_b5 e.symm
  simp only [nb5_b4, nb4_b5, nb6_b4, nb4_b6, nb6_b5, nb5_b6, RR, seval]
  refine hK _ _ ?_; clear hK K
  refine awp_seq_k fun K hK => ?_
  refine awp_region rfl ?_
  simp only [nb5_b4, nb4_b5, nb6_b4, nb4_b6, nb6_b5, nb5_b6, RR, seval]
  refine awpB_sealed ?_
  simp only [nb5_b4, nb4_b5, nb6_b4, nb4_b6, nb6_b5, nb5_b6, RR, seval]
  refine hK _ _ ?_; clear hK K
  refine awp_ret ?_; simp only [bodyQ, aresult, ares, nb5_b4, nb4_b5, nb6_b4, nb4_b6, nb6_b5, nb5_b6, RR, seval]
  refine Gives.pure ?_
  rfl
theorem lput_con (e : Ex) : PCon env 16 [.agg e.row] (.agg (putS e).row) := by
  refine pcon_weak (v := .agg [.int .i64 3, .str [], .isl 5 [e.row], .nsl, .nsl]) ?_ ?_
  · rw [e.row_eq]
    generalize e.kids.map Ex.row = x
    refine con_of 6 [.cell 2 38] Try.func16 rfl rfl rfl rfl ?_
    refine awp_seq_k fun K hK => ?_
    refine awp_region rfl ?_
    simp only [RR, seval]
    refine awpN_intro fun b1 hn1 => ?_
    simp only [RR, seval]
    refine awpN_intro fun b2 hn2 => ?_
    have nb2_b1 : b2 ≠ b1 := fun e => by rw [e] at hn2; simp only [RR, seval, reduceCtorEq] at hn2
    have nb1_b2 : b1 ≠ b2 := fun e => nb2_b1 e.symm
    simp only [nb2_b1, nb1_b2, RR, seval]
    refine hK _ _ ?_; clear hK K
    refine awp_seq_k fun K hK => ?_
    refine awp_region rfl ?_
    simp only [nb2_b1, nb1_b2, RR, seval]
    refine awpB_sealed ?_
    simp only [nb2_b1, nb1_b2, RR, seval]
    refine hK _ _ ?_; clear hK K
    refine awp_ret ?_; simp only [bodyQ, aresult, ares, nb2_b1, nb1_b2, RR, seval]
    refine Gives.pure ?_
    rfl
  · simp only [putS, Sm.row, rowsE, rowsS, exs]
    refine Sub.aggR ?_
    repeat' (first | exact SubR.nil | exact SubRs.nil | exact Sub.refl _ | exact Sub.nsl _ | refine SubR.cons ?_ ?_ | refine SubRs.cons ?_ ?_ | refine Sub.isl ?_)
theorem lset_con (s : Str) (e : Ex) : PCon env 19 [.str s, .agg e.row] (.agg (setS s e).row) := by
  refine pcon_weak (v := .agg [.int .i64 1, .str s, .isl 5 [e.row], .nsl, .nsl]) ?_ ?_
  · rw [e.row_eq]
    generalize e.kids.map Ex.row = x
    refine con_of 9 [.cell 4 38] Try.func19 rfl rfl rfl rfl ?_
    refine awp_seq_k fun K hK => ?_
    refine awp_region rfl ?_
    simp only [RR, seval]
    refine awpN_intro fun b3 hn3 => ?_
    simp only [RR, seval]
    refine awpN_intro fun b4 hn4 => ?_
    have nb4_b3 : b4 ≠ b3 := fun e => by rw [e] at hn4; simp only [RR, seval, reduceCtorEq] at hn4
    have nb3_b4 : b3 ≠ b4 := fun e => nb4_b3 e.symm
    simp only [nb4_b3, nb3_b4, RR, seval]
    refine hK _ _ ?_; clear hK K
    refine awp_seq_k fun K hK => ?_
    refine awp_region rfl ?_
    simp only [nb4_b3, nb3_b4, RR, seval]
    refine awpB_sealed ?_
    simp only [nb4_b3, nb3_b4, RR, seval]
    refine hK _ _ ?_; clear hK K
    refine awp_ret ?_; simp only [bodyQ, aresult, ares, nb4_b3, nb3_b4, RR, seval]
    refine Gives.pure ?_
    rfl
  · simp only [setS, Sm.row, rowsE, rowsS, exs]
    refine Sub.aggR ?_
    repeat' (first | exact SubR.nil | exact SubRs.nil | exact Sub.refl _ | exact Sub.nsl _ | refine SubR.cons ?_ ?_ | refine SubRs.cons ?_ ?_ | refine Sub.isl ?_)
theorem lwhile_con (e : Ex) (l : List Sm) : PCon env 20 [.agg e.row, .isl 5 (l.map Sm.row)] (.agg (whileS e l).row) := by
  have hr : (whileS e l).row = [.int .i64 5, .str [], .isl 5 [e.row], .isl 5 (l.map Sm.row), .isl 5 []] := by rw [Sm.row_eq]; rfl
  refine pcon_weak (v := .agg [.int .i64 5, .str [], .isl 5 [e.row], .isl 5 (l.map Sm.row), .nsl]) ?_ ?_
  · rw [e.row_eq]
    generalize e.kids.map Ex.row = x
    generalize l.map Sm.row = y
    clear hr
    refine con_of 9 [.cell 4 38] Try.func20 rfl rfl rfl rfl ?_
    refine awp_seq_k fun K hK => ?_
    refine awp_region rfl ?_
    simp only [RR, seval]
    refine awpN_intro fun b2 hn2 => ?_
    simp only [RR, seval]
    refine awpN_intro fun b4 hn4 => ?_
    have nb4_b2 : b4 ≠ b2 := fun e => by rw [e] at hn4; simp only [RR, seval, reduceCtorEq] at hn4
    have nb2_b4 : b2 ≠ b4 := fun e => nb4_b2 e.symm
    simp only [nb4_b2, nb2_b4, RR, seval]
    refine hK _ _ ?_; clear hK K
    refine awp_seq_k fun K hK => ?_
    refine awp_region rfl ?_
    simp only [nb4_b2, nb2_b4, RR, seval]
    refine awpB_sealed ?_
    simp only [nb4_b2, nb2_b4, RR, seval]
    refine hK _ _ ?_; clear hK K
    refine awp_ret ?_; simp only [bodyQ, aresult, ares, nb4_b2, nb2_b4, RR, seval]
    refine Gives.pure ?_
    rfl
  · rw [hr]
    refine Sub.aggR ?_
    repeat' (first | exact SubR.nil | exact SubRs.nil | exact Sub.refl _ | exact Sub.nsl _ | refine SubR.cons ?_ ?_ | refine SubRs.cons ?_ ?_ | refine Sub.isl ?_)
theorem lprog_con (v : Str) (l : List Sm) : PCon env 18 [.str v, .isl 5 (l.map Sm.row)] (progP v l).av := by
  have hr : (progP v l).av = .agg [.isl 1 [[.str v]], .isl 2 [], .isl 5 [[.str mainN, .isl 1 [], .isl 1 [], .bool false, .isl 5 (l.map Sm.row)]]] := rfl
  refine pcon_weak (v := .agg [.isl 1 [[.str v]], .nsl, .isl 5 [[.str mainN, .nsl, .nsl, .bool false, .isl 5 (l.map Sm.row)]]]) ?_ ?_
  · generalize l.map Sm.row = y
    clear hr
    refine con_of 11 [.cell 4 26] Try.func18 rfl rfl rfl rfl ?_
    refine awp_seq_k fun K hK => ?_
    refine awp_region rfl ?_
    simp only [RR, seval]
    refine awpN_intro fun b4 hn4 => ?_
    simp only [RR, seval]
    refine hK _ _ ?_; clear hK K
    refine awp_seq_k fun K hK => ?_
    refine awp_region rfl ?_
    simp only [RR, seval]
    refine awpB_sealed ?_
    simp only [RR, seval]
    refine awpB_sealed ?_
    simp only [RR, seval]
    refine hK _ _ ?_; clear hK K
    refine awp_ret ?_; simp only [bodyQ, aresult, ares, RR, seval]
    refine Gives.pure ?_
    rfl
  · rw [hr]
    refine Sub.aggR ?_
    repeat' (first | exact SubR.nil | exact SubRs.nil | exact Sub.refl _ | exact Sub.nsl _ | refine SubR.cons ?_ ?_ | refine SubRs.cons ?_ ?_ | refine Sub.isl ?_)
end Go.Proofs.Ytlokndnkpleegaa

namespace Go.Al
mutual
def plX : Ex → Bool
  | .mk k _ _ _ l => !(decide (k = 2) || decide (k = 3) || decide (k = 4) || decide (k = 5)) && plE l
def plE : List Ex → Bool
  | [] => true
  | e :: l => plX e && plE l
end
theorem plE_all : ∀ l : List Ex, plE l = l.all plX
  | [] => by simp only [plE, List.all_nil]
  | e :: l => by simp only [plE, List.all_cons, plE_all l]
theorem plX_eq (k o m : Int) (s : Str) (l : List Ex) : plX (.mk k o m s l) = (!(decide (k = 2) || decide (k = 3) || decide (k = 4) || decide (k = 5)) && l.all plX) := by
  simp only [plX, plE_all]
def valX : Nat → Ex → Option (Int × Int)
  | 0, _ => none
  | n + 1, .mk k o m _ l => if k = 1 then some (m, 0) else
    (l[0]?).bind fun a => (valX n a).bind fun p => if ¬ p.2 = 0 then some (0, p.2) else if k = 7 then some (if p.1 = 0 then 1 else 0, 0)
      else if (k = 8 ∧ p.1 = 0) ∨ (k = 9 ∧ ¬ p.1 = 0) then some (p.1, 0)
      else (l[1]?).bind fun b => (valX n b).bind fun q => if ¬ q.2 = 0 then some (0, q.2) else if k = 6 then some (applyI o p.1 q.1) else some (q.1, 0)
theorem valX_u : ∀ (n : Nat) (e : Ex) (p : Int × Int), e.ok → valX n e = some p → u32R p.1
  | 0, _, _, _, h => by simp [valX] at h
  | n + 1, .mk k o m s l, p, he, h => by
    have z : u32R 0 := by simp [u32R]
    have hm : u32R m := he.num
    have hk : okE l := he.kids
    rw [valX] at h
    by_cases h1 : k = 1
    · rw [if_pos h1] at h; cases h; exact hm
    rw [if_neg h1] at h
    obtain ⟨a, ha, h⟩ := Option.bind_eq_some_iff.1 h
    obtain ⟨x, hx, h⟩ := Option.bind_eq_some_iff.1 h
    have ux := valX_u n a x (hk.all _ (List.mem_of_getElem? ha)) hx
    split at h
    · cases h; exact z
    split at h
    · cases h; dsimp only; split <;> simp [u32R]
    split at h
    · cases h; exact ux
    obtain ⟨b, hb, h⟩ := Option.bind_eq_some_iff.1 h
    obtain ⟨y, hy, h⟩ := Option.bind_eq_some_iff.1 h
    have uy := valX_u n b y (hk.all _ (List.mem_of_getElem? hb)) hy
    split at h
    · cases h; exact z
    split at h
    · cases h; exact applyI_u o ux uy
    · cases h; exact uy
def valV (e : Ex) (p : Int × Int) : Int × Int := if plX e then p else (0, 1)
end Go.Al
namespace Go.Proofs.Ytlokndnkpleegaa
open Go.Al
theorem mplain_con (n : Nat) : ∀ e : Ex, e.sz ≤ n → e.ok → PCon env 39 [.agg e.row] (.bool (plX e)) := by
  induction n using Nat.strongRecOn with
  | _ n ih =>
    intro e hn he
    have hz := e.sz_eq
    have hk := he.kids
    rw [e.row_eq]
    obtain ⟨k, o, m, s, l⟩ := e
    simp only [Ex.kind, Ex.op, Ex.num, Ex.name, Ex.kids] at *
    have hq := plX_eq k o m s l
    have hl := hk.fit
    simp only [fitL] at hl
    generalize plX (.mk k o m s l) = res at *
    refine con_of 23 [.tmp 2] Try.func39 rfl rfl rfl rfl ?_
    refine awp_seq_k fun K hK => ?_
    refine awp_region rfl ?_
    simp only [List.length_map, RR, seval]
    refine awpN_intro fun b1 hn1 => ?_
    simp only [List.length_map, RR, seval]
    refine hK _ _ ?_; clear hK K
    refine awp_seq ?_
    refine awp_seq_k fun K hK => ?_
    refine awp_region rfl ?_
    simp only [List.length_map, RR, seval]
    refine hK _ _ ?_; clear hK K
    refine awp_block ?_
    refine awp_seq ?_
    refine awp_seq_k fun K hK => ?_
    refine awp_region rfl ?_
    simp only [List.length_map, RR, seval]
    refine hK _ _ ?_; clear hK K
    refine awp_name fun F1 M1 hfr hH => ?_
    have g1 := hfr 1
    have g2 := hfr 2
    have g6 := hfr 6
    have g7 := hfr 7
    have gb1 := hH b1
    try simp only [List.length_map, RR, seval] at g1 g2 g6 g7 gb1
    have f1 := g1; clear g1
    have f2 := g2; clear g2
    have f6 := g6; clear g6
    have f7 := g7; clear g7
    have hb1 := gb1; clear gb1
    clear hfr hH
    refine awp_cutP (fun fr M => agree [1, 2] F1 fr ∧ M b1 = M1 b1 ∧ fr 7 = .bool (decide (k = 2) || decide (k = 3) || decide (k = 4) || decide (k = 5))) (fun KC2 hKC2 => ?_) ?_
    · have agC2 := agree.refl [1, 2] F1
      have eC2_b1 : M1 b1 = M1 b1 := rfl
      refine awp_if _ (by first | rfl | exact f7) (fun hc2 => ?_) (fun hc2 => ?_)
      · refine awp_skip ?_; try simp only [RR]
        refine hKC2 _ _ ⟨(by repeat (first | exact agC2 | refine agree.upd rfl ?_)), (by first | exact eC2_b1 | (simp only [upd_app, seval]; first | done | exact eC2_b1)), ?_⟩
        first | (rw [f7, hc2]; rfl) | (rw [f7]; simp [hc2]; done) | (simp only [upd_app, seval, f7]; simp [*]; done) | (simp [*]; done) | skip
      · refine awp_seq_k fun K hK => ?_
        refine awp_region rfl ?_
        simp only [f6, List.length_map, RR, seval]
        refine hK _ _ ?_; clear hK K
        refine awp_if _ (by first | rfl | exact f7) (fun hc3 => ?_) (fun hc3 => ?_)
        · refine awp_skip ?_; try simp only [RR]
          refine hKC2 _ _ ⟨(by repeat (first | exact agC2 | refine agree.upd rfl ?_)), (by first | exact eC2_b1 | (simp only [upd_app, seval]; first | done | exact eC2_b1)), ?_⟩
          first | (rw [f7, hc2]; rfl) | (rw [f7]; simp [hc2]; done) | (simp only [upd_app, seval, f7]; simp [*]; done) | (simp [*]; done) | skip
        · refine awp_seq_k fun K hK => ?_
          refine awp_region rfl ?_
          simp only [f6, List.length_map, RR, seval]
          refine hK _ _ ?_; clear hK K
          refine awp_if _ (by first | rfl | exact f7) (fun hc4 => ?_) (fun hc4 => ?_)
          · refine awp_skip ?_; try simp only [RR]
            refine hKC2 _ _ ⟨(by repeat (first | exact agC2 | refine agree.upd rfl ?_)), (by first | exact eC2_b1 | (simp only [upd_app, seval]; first | done | exact eC2_b1)), ?_⟩
            first | (rw [f7, hc2]; rfl) | (rw [f7]; simp [hc2]; done) | (simp only [upd_app, seval, f7]; simp [*]; done) | (simp [*]; done) | skip
          · refine awp_region rfl ?_
            simp only [f6, List.length_map, RR, seval]
            refine hKC2 _ _ ⟨(by repeat (first | exact agC2 | refine agree.upd rfl ?_)), (by first | exact eC2_b1 | (simp only [upd_app, seval]; first | done | exact eC2_b1)), ?_⟩
            first | (rw [f7, hc2]; rfl) | (rw [f7]; simp [hc2]; done) | (simp only [upd_app, seval, f7]; simp [*]; done) | (simp [*]; done) | skip
    rintro F2 M2 ⟨agx, gb1, f7⟩
    have f1 := (agx 1 rfl).trans f1
    have f2 := (agx 2 rfl).trans f2
    have hb1 := gb1.trans hb1
    clear agx
    clear gb1
    simp only [RR, seval]
    generalize (decide (k = 2) || decide (k = 3) || decide (k = 4) || decide (k = 5)) = bk at *
    refine awp_if _ (by first | rfl | exact f7) (fun hc5 => ?_) (fun hc5 => ?_)
    · refine awp_seq_k fun K hK => ?_
      refine awp_region rfl ?_
      simp only [List.length_map, RR, seval]
      refine hK _ _ ?_; clear hK K
      refine awp_ret ?_; simp only [bodyQ, aresult, ares, f2, List.length_map, RR, seval]
      refine Gives.pure ?_
      rw [hq, hc5]; rfl
    · refine awp_skip ?_; try simp only [RR]
      refine awp_seq ?_
      refine awp_seq_k fun K hK => ?_
      refine awp_region rfl ?_
      simp only [f1, hb1, List.length_map, RR, seval]
      refine hK _ _ ?_; clear hK K
      refine awp_name fun F3 M3 hfr hH => ?_
      have g2 := hfr 2
      have g13 := hfr 13
      have g14 := hfr 14
      have g15 := hfr 15
      have gb1 := hH b1
      try simp only [f1, f2, f7, hb1, List.length_map, RR, seval] at g2 g13 g14 g15 gb1
      have f2 := g2; clear g2
      have f13 := g13; clear g13
      have f14 := g14; clear g14
      have f15 := g15; clear g15
      have hb1 := gb1; clear gb1
      clear hfr hH
      refine awp_block ?_
      refine awp_each [13, 14] (l.length) (fun k1 fr M => fr 15 = .int .i64 (k1 : Nat) ∧ M b1 = M3 b1 ∧ l.all plX = (l.drop k1).all plX) ⟨f15, rfl, rfl⟩ ?_
      rintro k1 F4 M4 hk1 ⟨fx, gb1, hall⟩ agx K1 hK1
      have f13 := (agx 13 rfl).trans f13
      have f14 := (agx 14 rfl).trans f14
      have f15 := fx; clear fx
      have hb1 := gb1.trans hb1
      have ag1 := agree.refl [13, 14] F4
      have e1_b1 := gb1; clear gb1
      clear agx
      refine awp_seq_k fun K hK => ?_
      refine awp_region rfl ?_
      simp only [f14, f15, List.length_map, RR, seval]
      refine hK _ _ ?_; clear hK K
      refine awp_seq ?_
      refine awp_if _ rfl (fun hc => ?_) (fun hc => ?_)
      · have hlt1 : k1 < l.length := by have := of_decide_eq_true hc; omega
        clear hc
        have hg := getE (List.getElem?_eq_getElem hlt1)
        have hsz := szE_mem (List.getElem_mem hlt1)
        have heo := hk.all _ (List.getElem_mem hlt1)
        rw [List.drop_eq_getElem_cons hlt1, List.all_cons] at hall
        generalize l[k1] = e at *
        have hih := ih e.sz (by omega) e (Nat.le_refl _) heo
        rw [e.row_eq] at hih
        refine awp_skip ?_; try simp only [RR]
        refine awp_seq ?_
        refine awp_block ?_
        refine awp_seq_k fun K hK => ?_
        refine awp_region rfl ?_
        simp only [f13, f15, hb1, List.length_map, hg, RR, seval]
        refine awpN_intro fun b4 hn4 => ?_
        have nb4_b1 : b4 ≠ b1 := fun e => by rw [e] at hn4; simp only [hb1, RR, seval, reduceCtorEq] at hn4
        have nb1_b4 : b1 ≠ b4 := fun e => nb4_b1 e.symm
        simp only [f13, f15, hb1, nb4_b1, nb1_b4, List.length_map, hg, RR, seval]
        refine hK _ _ ?_; clear hK K
        refine awp_seq_k fun K hK => ?_
        refine awp_region rfl ?_
        simp only [hb1, nb4_b1, nb1_b4, List.length_map, hg, RR, seval]
        refine awpC_pure' (hih) ?_
        simp only [hb1, nb4_b1, nb1_b4, List.length_map, hg, RR, seval]
        refine hK _ _ ?_; clear hK K
        refine awp_if _ rfl (fun hc10 => ?_) (fun hc10 => ?_)
        · refine awp_seq_k fun K hK => ?_
          refine awp_region rfl ?_
          simp only [List.length_map, hg, RR, seval]
          refine hK _ _ ?_; clear hK K
          refine awp_ret ?_; simp only [bodyQ, aresult, ares, List.length_map, hg, RR, seval]
          refine Gives.pure ?_
          simp_all
        · refine awp_skip ?_; try simp only [RR]
          refine awp_region rfl ?_
          simp only [f15, List.length_map, hg, RR, seval]
          try rw [IntWalk.i64_in _ (by omega)]
          refine hK1 _ _ hlt1 ⟨by first | rfl | (simp only [upd_app, seval]; rfl), (by first | exact e1_b1 | (simp only [nb4_b1, nb1_b4, upd_app, seval]; first | done | exact e1_b1)), by rw [hall]; simp_all⟩ (by repeat (first | exact ag1 | refine agree.upd rfl ?_))
      · have hkn1 : k1 = l.length := by have := of_decide_eq_false hc; omega
        clear hc
        rw [hkn1, List.drop_length, List.all_nil] at hall
        refine awp_exit ?_; simp only [RR, seval]
        refine awp_seq_k fun K hK => ?_
        refine awp_region rfl ?_
        simp only [List.length_map, RR, seval]
        refine hK _ _ ?_; clear hK K
        refine awp_ret ?_; simp only [bodyQ, aresult, ares, List.length_map, RR, seval]
        refine Gives.pure ?_
        simp_all
set_option maxHeartbeats 4000000 in
/-- one step, its kids' values known -/
theorem plainValue_con (n : Nat) : ∀ (e : Ex) (p : Int × Int), valX n e = some p → e.ok → PCon env 40 [.agg e.row] (.tup [.int .u32 p.1, .int .i64 p.2]) := by
  induction n with
  | zero => intro e p h; simp [valX] at h
  | succ n ih =>
    intro e p h he
    have hk := he.kids
    rw [e.row_eq]
    obtain ⟨k, o, m, s, l⟩ := e
    simp only [Ex.kind, Ex.op, Ex.num, Ex.name, Ex.kids] at *
    rw [valX] at h
    by_cases h1 : k = 1
    · rw [if_pos h1] at h
      cases h
      have d1 : decide (k = 1) = true := decide_eq_true h1
      refine con_of 73 [.tmp 2, .tmp 3] Try.func40 rfl rfl rfl rfl ?_
      refine awp_seq_k fun K hK => ?_
      refine awp_region rfl ?_
      simp only [d1, RR, seval]
      refine awpN_intro fun b1 hn1 => ?_
      simp only [d1, RR, seval]
      refine hK _ _ ?_; clear hK K
      refine awp_seq ?_
      refine awp_seq_k fun K hK => ?_
      refine awp_region rfl ?_
      simp only [d1, RR, seval]
      refine hK _ _ ?_; clear hK K
      refine awp_if true rfl (fun _ => ?_) (fun hc => by cases hc)
      refine awp_seq_k fun K hK => ?_
      refine awp_region rfl ?_
      simp only [d1, RR, seval]
      refine hK _ _ ?_; clear hK K
      refine awp_ret ?_; simp only [bodyQ, aresult, ares, d1, RR, seval]
      refine Gives.pure ?_
      rfl
    rw [if_neg h1] at h
    have d1 : decide (k = 1) = false := decide_eq_false h1
    obtain ⟨a, ha, h⟩ := Option.bind_eq_some_iff.1 h
    obtain ⟨⟨x, f⟩, hx, h⟩ := Option.bind_eq_some_iff.1 h
    have hca := ih a _ hx (hk.all _ (List.mem_of_getElem? ha))
    have hga := getE ha
    rw [a.row_eq] at hca
    have hl0 : ((0 : Nat) : Int) < (l.length : Int) := by have := (List.getElem?_eq_some_iff.1 ha).1; omega
    dsimp only at h hca
    by_cases h2 : ¬ f = 0
    · rw [if_pos h2] at h
      cases h
      have d2 : (!decide (f = 0)) = true := by simp [h2]
      refine con_of 73 [.tmp 2, .tmp 3] Try.func40 rfl rfl rfl rfl ?_
      refine awp_seq_k fun K hK => ?_
      refine awp_region rfl ?_
      simp only [d1, hga, d2, RR, seval]
      refine awpN_intro fun b1 hn1 => ?_
      simp only [d1, hga, d2, RR, seval]
      refine hK _ _ ?_; clear hK K
      refine awp_seq ?_
      refine awp_seq_k fun K hK => ?_
      refine awp_region rfl ?_
      simp only [d1, hga, d2, RR, seval]
      refine hK _ _ ?_; clear hK K
      refine awp_if false rfl (fun hc => by cases hc) (fun _ => ?_)
      refine awp_skip ?_; try simp only [RR]
      refine awp_seq_k fun K hK => ?_
      refine awp_region rfl ?_
      simp only [d1, hga, d2, RR, seval]
      refine awpC_pure' (hca) ?_
      simp only [d1, hga, d2, RR, seval]
      refine hK _ _ ?_; clear hK K
      refine awp_seq ?_
      refine awp_seq_k fun K hK => ?_
      refine awp_region rfl ?_
      simp only [d1, hga, d2, RR, seval]
      refine hK _ _ ?_; clear hK K
      refine awp_if true rfl (fun _ => ?_) (fun hc => by cases hc)
      refine awp_seq_k fun K hK => ?_
      refine awp_region rfl ?_
      simp only [d1, hga, d2, RR, seval]
      refine hK _ _ ?_; clear hK K
      refine awp_ret ?_; simp only [bodyQ, aresult, ares, d1, hga, d2, RR, seval]
      refine Gives.pure ?_
      rfl
    rw [if_neg h2] at h
    have h2' : f = 0 := by omega
    subst h2'
    have d2 : (!decide ((0 : Int) = 0)) = false := rfl
    by_cases h3 : k = 7
    · rw [if_pos h3] at h
      cases h
      subst h3
      by_cases h4 : x = 0
      · subst h4
        refine con_of 73 [.tmp 2, .tmp 3] Try.func40 rfl rfl rfl rfl ?_
        refine awp_seq_k fun K hK => ?_
        refine awp_region rfl ?_
        simp only [d1, hga, d2, RR, seval]
        refine awpN_intro fun b1 hn1 => ?_
        simp only [d1, hga, d2, RR, seval]
        refine hK _ _ ?_; clear hK K
        refine awp_seq ?_
        refine awp_seq_k fun K hK => ?_
        refine awp_region rfl ?_
        simp only [d1, hga, d2, RR, seval]
        refine hK _ _ ?_; clear hK K
        refine awp_if false rfl (fun hc => by cases hc) (fun _ => ?_)
        refine awp_skip ?_; try simp only [RR]
        refine awp_seq_k fun K hK => ?_
        refine awp_region rfl ?_
        simp only [d1, hga, d2, RR, seval]
        refine awpC_pure' (hca) ?_
        simp only [d1, hga, d2, RR, seval]
        refine hK _ _ ?_; clear hK K
        refine awp_seq ?_
        refine awp_seq_k fun K hK => ?_
        refine awp_region rfl ?_
        simp only [d1, hga, d2, RR, seval]
        refine hK _ _ ?_; clear hK K
        refine awp_if false rfl (fun hc => by cases hc) (fun _ => ?_)
        refine awp_skip ?_; try simp only [RR]
        refine awp_seq ?_
        refine awp_block ?_
        refine awp_seq_k fun K hK => ?_
        refine awp_region rfl ?_
        simp only [d1, hga, d2, RR, seval]
        repeat' ((first | refine awpG_splitN (fun h => ?_) (fun h => ?_) | refine awpG_split (fun h => ?_) (fun h => ?_)) <;> simp only [h, d1, hga, d2, RR, seval])
        all_goals
          refine hK _ _ ?_; clear hK K
          refine awp_if true rfl (fun _ => ?_) (fun hc => by cases hc)
          refine awp_seq_k fun K hK => ?_
          refine awp_region rfl ?_
          simp only [d1, hga, d2, RR, seval]
          refine hK _ _ ?_; clear hK K
          refine awp_ret ?_; simp only [bodyQ, aresult, ares, d1, hga, d2, RR, seval]
          refine Gives.pure ?_
          rfl
      · have d4 : decide (x = 0) = false := decide_eq_false h4
        rw [if_neg h4]
        refine con_of 73 [.tmp 2, .tmp 3] Try.func40 rfl rfl rfl rfl ?_
        refine awp_seq_k fun K hK => ?_
        refine awp_region rfl ?_
        simp only [d1, hga, d2, d4, RR, seval]
        refine awpN_intro fun b1 hn1 => ?_
        simp only [d1, hga, d2, d4, RR, seval]
        refine hK _ _ ?_; clear hK K
        refine awp_seq ?_
        refine awp_seq_k fun K hK => ?_
        refine awp_region rfl ?_
        simp only [d1, hga, d2, d4, RR, seval]
        refine hK _ _ ?_; clear hK K
        refine awp_if false rfl (fun hc => by cases hc) (fun _ => ?_)
        refine awp_skip ?_; try simp only [RR]
        refine awp_seq_k fun K hK => ?_
        refine awp_region rfl ?_
        simp only [d1, hga, d2, d4, RR, seval]
        refine awpC_pure' (hca) ?_
        simp only [d1, hga, d2, d4, RR, seval]
        refine hK _ _ ?_; clear hK K
        refine awp_seq ?_
        refine awp_seq_k fun K hK => ?_
        refine awp_region rfl ?_
        simp only [d1, hga, d2, d4, RR, seval]
        refine hK _ _ ?_; clear hK K
        refine awp_if false rfl (fun hc => by cases hc) (fun _ => ?_)
        refine awp_skip ?_; try simp only [RR]
        refine awp_seq ?_
        refine awp_block ?_
        refine awp_seq_k fun K hK => ?_
        refine awp_region rfl ?_
        simp only [d1, hga, d2, d4, RR, seval]
        repeat' ((first | refine awpG_splitN (fun h => ?_) (fun h => ?_) | refine awpG_split (fun h => ?_) (fun h => ?_)) <;> simp only [h, d1, hga, d2, d4, RR, seval])
        all_goals
          refine hK _ _ ?_; clear hK K
          refine awp_if false rfl (fun hc => by cases hc) (fun _ => ?_)
          refine awp_seq_k fun K hK => ?_
          refine awp_region rfl ?_
          simp only [d1, hga, d2, d4, RR, seval]
          refine hK _ _ ?_; clear hK K
          refine awp_if true rfl (fun _ => ?_) (fun hc => by cases hc)
          refine awp_seq_k fun K hK => ?_
          refine awp_region rfl ?_
          simp only [d1, hga, d2, d4, RR, seval]
          refine hK _ _ ?_; clear hK K
          refine awp_ret ?_; simp only [bodyQ, aresult, ares, d1, hga, d2, d4, RR, seval]
          refine Gives.pure ?_
          rfl
    rw [if_neg h3] at h
    have d3 : decide (k = 7) = false := decide_eq_false h3
    by_cases h4 : (k = 8 ∧ x = 0) ∨ (k = 9 ∧ ¬ x = 0)
    · rw [if_pos h4] at h
      cases h
      rcases h4 with ⟨rfl, rfl⟩ | ⟨rfl, h4⟩
      · skip
        refine con_of 73 [.tmp 2, .tmp 3] Try.func40 rfl rfl rfl rfl ?_
        refine awp_seq_k fun K hK => ?_
        refine awp_region rfl ?_
        simp only [d1, hga, d2, d3, RR, seval]
        refine awpN_intro fun b1 hn1 => ?_
        simp only [d1, hga, d2, d3, RR, seval]
        refine hK _ _ ?_; clear hK K
        refine awp_seq ?_
        refine awp_seq_k fun K hK => ?_
        refine awp_region rfl ?_
        simp only [d1, hga, d2, d3, RR, seval]
        refine hK _ _ ?_; clear hK K
        refine awp_if false rfl (fun hc => by cases hc) (fun _ => ?_)
        refine awp_skip ?_; try simp only [RR]
        refine awp_seq_k fun K hK => ?_
        refine awp_region rfl ?_
        simp only [d1, hga, d2, d3, RR, seval]
        refine awpC_pure' (hca) ?_
        simp only [d1, hga, d2, d3, RR, seval]
        refine hK _ _ ?_; clear hK K
        refine awp_seq ?_
        refine awp_seq_k fun K hK => ?_
        refine awp_region rfl ?_
        simp only [d1, hga, d2, d3, RR, seval]
        refine hK _ _ ?_; clear hK K
        refine awp_if false rfl (fun hc => by cases hc) (fun _ => ?_)
        refine awp_skip ?_; try simp only [RR]
        refine awp_seq ?_
        refine awp_block ?_
        refine awp_seq_k fun K hK => ?_
        refine awp_region rfl ?_
        simp only [d1, hga, d2, d3, RR, seval]
        repeat' ((first | refine awpG_splitN (fun h => ?_) (fun h => ?_) | refine awpG_split (fun h => ?_) (fun h => ?_)) <;> simp only [h, d1, hga, d2, d3, RR, seval])
        all_goals
          refine hK _ _ ?_; clear hK K
          refine awp_if false rfl (fun hc => by cases hc) (fun _ => ?_)
          refine awp_seq_k fun K hK => ?_
          refine awp_region rfl ?_
          simp only [d1, hga, d2, d3, RR, seval]
          refine hK _ _ ?_; clear hK K
          refine awp_if false rfl (fun hc => by cases hc) (fun _ => ?_)
          refine awp_seq ?_
          refine awp_seq_k fun K hK => ?_
          refine awp_region rfl ?_
          simp only [d1, hga, d2, d3, RR, seval]
          repeat' ((first | refine awpG_splitN (fun h => ?_) (fun h => ?_) | refine awpG_split (fun h => ?_) (fun h => ?_)) <;> simp only [h, d1, hga, d2, d3, RR, seval])
          all_goals
            refine hK _ _ ?_; clear hK K
            refine awp_if true rfl (fun _ => ?_) (fun hc => by cases hc)
            refine awp_skip ?_; try simp only [RR]
            refine awp_if true rfl (fun _ => ?_) (fun hc => by cases hc)
            refine awp_seq_k fun K hK => ?_
            refine awp_region rfl ?_
            simp only [d1, hga, d2, d3, RR, seval]
            refine hK _ _ ?_; clear hK K
            refine awp_ret ?_; simp only [bodyQ, aresult, ares, d1, hga, d2, d3, RR, seval]
            refine Gives.pure ?_
            rfl
      · have d4 : decide (x = 0) = false := decide_eq_false h4
        refine con_of 73 [.tmp 2, .tmp 3] Try.func40 rfl rfl rfl rfl ?_
        refine awp_seq_k fun K hK => ?_
        refine awp_region rfl ?_
        simp only [d1, hga, d2, d3, d4, RR, seval]
        refine awpN_intro fun b1 hn1 => ?_
        simp only [d1, hga, d2, d3, d4, RR, seval]
        refine hK _ _ ?_; clear hK K
        refine awp_seq ?_
        refine awp_seq_k fun K hK => ?_
        refine awp_region rfl ?_
        simp only [d1, hga, d2, d3, d4, RR, seval]
        refine hK _ _ ?_; clear hK K
        refine awp_if false rfl (fun hc => by cases hc) (fun _ => ?_)
        refine awp_skip ?_; try simp only [RR]
        refine awp_seq_k fun K hK => ?_
        refine awp_region rfl ?_
        simp only [d1, hga, d2, d3, d4, RR, seval]
        refine awpC_pure' (hca) ?_
        simp only [d1, hga, d2, d3, d4, RR, seval]
        refine hK _ _ ?_; clear hK K
        refine awp_seq ?_
        refine awp_seq_k fun K hK => ?_
        refine awp_region rfl ?_
        simp only [d1, hga, d2, d3, d4, RR, seval]
        refine hK _ _ ?_; clear hK K
        refine awp_if false rfl (fun hc => by cases hc) (fun _ => ?_)
        refine awp_skip ?_; try simp only [RR]
        refine awp_seq ?_
        refine awp_block ?_
        refine awp_seq_k fun K hK => ?_
        refine awp_region rfl ?_
        simp only [d1, hga, d2, d3, d4, RR, seval]
        repeat' ((first | refine awpG_splitN (fun h => ?_) (fun h => ?_) | refine awpG_split (fun h => ?_) (fun h => ?_)) <;> simp only [h, d1, hga, d2, d3, d4, RR, seval])
        all_goals
          refine hK _ _ ?_; clear hK K
          refine awp_if false rfl (fun hc => by cases hc) (fun _ => ?_)
          refine awp_seq_k fun K hK => ?_
          refine awp_region rfl ?_
          simp only [d1, hga, d2, d3, d4, RR, seval]
          refine hK _ _ ?_; clear hK K
          refine awp_if false rfl (fun hc => by cases hc) (fun _ => ?_)
          refine awp_seq ?_
          refine awp_seq_k fun K hK => ?_
          refine awp_region rfl ?_
          simp only [d1, hga, d2, d3, d4, RR, seval]
          repeat' ((first | refine awpG_splitN (fun h => ?_) (fun h => ?_) | refine awpG_split (fun h => ?_) (fun h => ?_)) <;> simp only [h, d1, hga, d2, d3, d4, RR, seval])
          all_goals
            refine hK _ _ ?_; clear hK K
            refine awp_if false rfl (fun hc => by cases hc) (fun _ => ?_)
            refine awp_region rfl ?_
            simp only [d1, hga, d2, d3, d4, RR, seval]
            repeat' ((first | refine awpG_splitN (fun h => ?_) (fun h => ?_) | refine awpG_split (fun h => ?_) (fun h => ?_)) <;> simp only [h, d1, hga, d2, d3, d4, RR, seval])
            all_goals
              refine awp_if true rfl (fun _ => ?_) (fun hc => by cases hc)
              refine awp_seq_k fun K hK => ?_
              refine awp_region rfl ?_
              simp only [d1, hga, d2, d3, d4, RR, seval]
              refine hK _ _ ?_; clear hK K
              refine awp_ret ?_; simp only [bodyQ, aresult, ares, d1, hga, d2, d3, d4, RR, seval]
              refine Gives.pure ?_
              rfl
    rw [if_neg h4] at h
    obtain ⟨b, hb, h⟩ := Option.bind_eq_some_iff.1 h
    obtain ⟨⟨y, g⟩, hy, h⟩ := Option.bind_eq_some_iff.1 h
    have hcb := ih b _ hy (hk.all _ (List.mem_of_getElem? hb))
    have uy := valX_u n b _ (hk.all _ (List.mem_of_getElem? hb)) hy
    have hgb := getE hb
    rw [b.row_eq] at hcb
    dsimp only at h hcb uy
    have d8 : (decide (k = 8) && decide (x = 0)) = false := by by_cases k = 8 <;> by_cases x = 0 <;> simp_all
    have d9 : (decide (k = 9) && !decide (x = 0)) = false := by by_cases k = 9 <;> by_cases x = 0 <;> simp_all
    clear h4
    obtain ⟨B8, b8⟩ : ∃ B, decide (k = 8) = B := ⟨_, rfl⟩
    obtain ⟨B9, b9⟩ : ∃ B, decide (k = 9) = B := ⟨_, rfl⟩
    obtain ⟨B0, b0⟩ : ∃ B, decide (x = 0) = B := ⟨_, rfl⟩
    rw [b8, b0] at d8
    rw [b9, b0] at d9
    cases B8 <;> cases B9 <;> cases B0 <;> (try (cases d8; done)) <;> (try (cases d9; done))
    all_goals
      by_cases h5 : ¬ g = 0
      · rw [if_pos h5] at h
        cases h
        have d5 : (!decide (g = 0)) = true := by simp [h5]
        refine con_of 73 [.tmp 2, .tmp 3] Try.func40 rfl rfl rfl rfl ?_
        refine awp_seq_k fun K hK => ?_
        refine awp_region rfl ?_
        simp only [d1, hga, d2, d3, b8, b9, b0, hgb, d5, RR, seval]
        refine awpN_intro fun b1 hn1 => ?_
        simp only [d1, hga, d2, d3, b8, b9, b0, hgb, d5, RR, seval]
        refine hK _ _ ?_; clear hK K
        refine awp_seq ?_
        refine awp_seq_k fun K hK => ?_
        refine awp_region rfl ?_
        simp only [d1, hga, d2, d3, b8, b9, b0, hgb, d5, RR, seval]
        refine hK _ _ ?_; clear hK K
        refine awp_if false rfl (fun hc => by cases hc) (fun _ => ?_)
        refine awp_skip ?_; try simp only [RR]
        refine awp_seq_k fun K hK => ?_
        refine awp_region rfl ?_
        simp only [d1, hga, d2, d3, b8, b9, b0, hgb, d5, RR, seval]
        refine awpC_pure' (hca) ?_
        simp only [d1, hga, d2, d3, b8, b9, b0, hgb, d5, RR, seval]
        refine hK _ _ ?_; clear hK K
        refine awp_seq ?_
        refine awp_seq_k fun K hK => ?_
        refine awp_region rfl ?_
        simp only [d1, hga, d2, d3, b8, b9, b0, hgb, d5, RR, seval]
        refine hK _ _ ?_; clear hK K
        refine awp_if false rfl (fun hc => by cases hc) (fun _ => ?_)
        refine awp_skip ?_; try simp only [RR]
        refine awp_seq ?_
        refine awp_block ?_
        refine awp_seq_k fun K hK => ?_
        refine awp_region rfl ?_
        simp only [d1, hga, d2, d3, b8, b9, b0, hgb, d5, RR, seval]
        repeat' ((first | refine awpG_splitN (fun h => ?_) (fun h => ?_) | refine awpG_split (fun h => ?_) (fun h => ?_)) <;> simp only [h, d1, hga, d2, d3, b8, b9, b0, hgb, d5, RR, seval])
        all_goals
          refine hK _ _ ?_; clear hK K
          refine awp_if false rfl (fun hc => by cases hc) (fun _ => ?_)
          refine awp_seq_k fun K hK => ?_
          refine awp_region rfl ?_
          simp only [d1, hga, d2, d3, b8, b9, b0, hgb, d5, RR, seval]
          refine hK _ _ ?_; clear hK K
          refine awp_if false rfl (fun hc => by cases hc) (fun _ => ?_)
          refine awp_seq ?_
          refine awp_seq_k fun K hK => ?_
          refine awp_region rfl ?_
          simp only [d1, hga, d2, d3, b8, b9, b0, hgb, d5, RR, seval]
          repeat' ((first | refine awpG_splitN (fun h => ?_) (fun h => ?_) | refine awpG_split (fun h => ?_) (fun h => ?_)) <;> simp only [h, d1, hga, d2, d3, b8, b9, b0, hgb, d5, RR, seval])
          all_goals
            refine hK _ _ ?_; clear hK K
            refine awp_if false rfl (fun hc => by cases hc) (fun _ => ?_)
            refine awp_region rfl ?_
            simp only [d1, hga, d2, d3, b8, b9, b0, hgb, d5, RR, seval]
            repeat' ((first | refine awpG_splitN (fun h => ?_) (fun h => ?_) | refine awpG_split (fun h => ?_) (fun h => ?_)) <;> simp only [h, d1, hga, d2, d3, b8, b9, b0, hgb, d5, RR, seval])
            all_goals
              refine awp_if false rfl (fun hc => by cases hc) (fun _ => ?_)
              refine awp_skip ?_; try simp only [RR]
              refine awp_seq_k fun K hK => ?_
              refine awp_region rfl ?_
              simp only [d1, hga, d2, d3, b8, b9, b0, hgb, d5, RR, seval]
              refine awpC_pure' (hcb) ?_
              simp only [d1, hga, d2, d3, b8, b9, b0, hgb, d5, RR, seval]
              refine hK _ _ ?_; clear hK K
              refine awp_seq ?_
              refine awp_seq_k fun K hK => ?_
              refine awp_region rfl ?_
              simp only [d1, hga, d2, d3, b8, b9, b0, hgb, d5, RR, seval]
              refine hK _ _ ?_; clear hK K
              refine awp_if true rfl (fun _ => ?_) (fun hc => by cases hc)
              refine awp_seq_k fun K hK => ?_
              refine awp_region rfl ?_
              simp only [d1, hga, d2, d3, b8, b9, b0, hgb, d5, RR, seval]
              refine hK _ _ ?_; clear hK K
              refine awp_ret ?_; simp only [bodyQ, aresult, ares, d1, hga, d2, d3, b8, b9, b0, hgb, d5, RR, seval]
              refine Gives.pure ?_
              rfl
      rw [if_neg h5] at h
      have h5' : g = 0 := by omega
      subst h5'
      by_cases h6 : k = 6
      · rw [if_pos h6] at h
        cases h
        have hap := Apply_con o x y uy
        have d6 : decide (k = 6) = true := decide_eq_true h6
        refine con_of 73 [.tmp 2, .tmp 3] Try.func40 rfl rfl rfl rfl ?_
        refine awp_seq_k fun K hK => ?_
        refine awp_region rfl ?_
        simp only [d1, hga, d2, d3, b8, b9, b0, hgb, d6, RR, seval]
        refine awpN_intro fun b1 hn1 => ?_
        simp only [d1, hga, d2, d3, b8, b9, b0, hgb, d6, RR, seval]
        refine hK _ _ ?_; clear hK K
        refine awp_seq ?_
        refine awp_seq_k fun K hK => ?_
        refine awp_region rfl ?_
        simp only [d1, hga, d2, d3, b8, b9, b0, hgb, d6, RR, seval]
        refine hK _ _ ?_; clear hK K
        refine awp_if false rfl (fun hc => by cases hc) (fun _ => ?_)
        refine awp_skip ?_; try simp only [RR]
        refine awp_seq_k fun K hK => ?_
        refine awp_region rfl ?_
        simp only [d1, hga, d2, d3, b8, b9, b0, hgb, d6, RR, seval]
        refine awpC_pure' (hca) ?_
        simp only [d1, hga, d2, d3, b8, b9, b0, hgb, d6, RR, seval]
        refine hK _ _ ?_; clear hK K
        refine awp_seq ?_
        refine awp_seq_k fun K hK => ?_
        refine awp_region rfl ?_
        simp only [d1, hga, d2, d3, b8, b9, b0, hgb, d6, RR, seval]
        refine hK _ _ ?_; clear hK K
        refine awp_if false rfl (fun hc => by cases hc) (fun _ => ?_)
        refine awp_skip ?_; try simp only [RR]
        refine awp_seq ?_
        refine awp_block ?_
        refine awp_seq_k fun K hK => ?_
        refine awp_region rfl ?_
        simp only [d1, hga, d2, d3, b8, b9, b0, hgb, d6, RR, seval]
        repeat' ((first | refine awpG_splitN (fun h => ?_) (fun h => ?_) | refine awpG_split (fun h => ?_) (fun h => ?_)) <;> simp only [h, d1, hga, d2, d3, b8, b9, b0, hgb, d6, RR, seval])
        all_goals
          refine hK _ _ ?_; clear hK K
          refine awp_if false rfl (fun hc => by cases hc) (fun _ => ?_)
          refine awp_seq_k fun K hK => ?_
          refine awp_region rfl ?_
          simp only [d1, hga, d2, d3, b8, b9, b0, hgb, d6, RR, seval]
          refine hK _ _ ?_; clear hK K
          refine awp_if false rfl (fun hc => by cases hc) (fun _ => ?_)
          refine awp_seq ?_
          refine awp_seq_k fun K hK => ?_
          refine awp_region rfl ?_
          simp only [d1, hga, d2, d3, b8, b9, b0, hgb, d6, RR, seval]
          repeat' ((first | refine awpG_splitN (fun h => ?_) (fun h => ?_) | refine awpG_split (fun h => ?_) (fun h => ?_)) <;> simp only [h, d1, hga, d2, d3, b8, b9, b0, hgb, d6, RR, seval])
          all_goals
            refine hK _ _ ?_; clear hK K
            refine awp_if false rfl (fun hc => by cases hc) (fun _ => ?_)
            refine awp_region rfl ?_
            simp only [d1, hga, d2, d3, b8, b9, b0, hgb, d6, RR, seval]
            repeat' ((first | refine awpG_splitN (fun h => ?_) (fun h => ?_) | refine awpG_split (fun h => ?_) (fun h => ?_)) <;> simp only [h, d1, hga, d2, d3, b8, b9, b0, hgb, d6, RR, seval])
            all_goals
              refine awp_if false rfl (fun hc => by cases hc) (fun _ => ?_)
              refine awp_skip ?_; try simp only [RR]
              refine awp_seq_k fun K hK => ?_
              refine awp_region rfl ?_
              simp only [d1, hga, d2, d3, b8, b9, b0, hgb, d6, RR, seval]
              refine awpC_pure' (hcb) ?_
              simp only [d1, hga, d2, d3, b8, b9, b0, hgb, d6, RR, seval]
              refine hK _ _ ?_; clear hK K
              refine awp_seq ?_
              refine awp_seq_k fun K hK => ?_
              refine awp_region rfl ?_
              simp only [d1, hga, d2, d3, b8, b9, b0, hgb, d6, RR, seval]
              refine hK _ _ ?_; clear hK K
              refine awp_if false rfl (fun hc => by cases hc) (fun _ => ?_)
              refine awp_skip ?_; try simp only [RR]
              refine awp_seq ?_
              refine awp_seq_k fun K hK => ?_
              refine awp_region rfl ?_
              simp only [d1, hga, d2, d3, b8, b9, b0, hgb, d6, RR, seval]
              refine hK _ _ ?_; clear hK K
              refine awp_if true rfl (fun _ => ?_) (fun hc => by cases hc)
              refine awp_seq_k fun K hK => ?_
              refine awp_region rfl ?_
              simp only [d1, hga, d2, d3, b8, b9, b0, hgb, d6, RR, seval]
              refine awpC_pure' (hap) ?_
              simp only [d1, hga, d2, d3, b8, b9, b0, hgb, d6, RR, seval]
              refine hK _ _ ?_; clear hK K
              refine awp_ret ?_; simp only [bodyQ, aresult, ares, d1, hga, d2, d3, b8, b9, b0, hgb, d6, RR, seval]
              refine Gives.pure ?_
              rfl
      · rw [if_neg h6] at h
        cases h
        have d6 : decide (k = 6) = false := decide_eq_false h6
        refine con_of 73 [.tmp 2, .tmp 3] Try.func40 rfl rfl rfl rfl ?_
        refine awp_seq_k fun K hK => ?_
        refine awp_region rfl ?_
        simp only [d1, hga, d2, d3, b8, b9, b0, hgb, d6, RR, seval]
        refine awpN_intro fun b1 hn1 => ?_
        simp only [d1, hga, d2, d3, b8, b9, b0, hgb, d6, RR, seval]
        refine hK _ _ ?_; clear hK K
        refine awp_seq ?_
        refine awp_seq_k fun K hK => ?_
        refine awp_region rfl ?_
        simp only [d1, hga, d2, d3, b8, b9, b0, hgb, d6, RR, seval]
        refine hK _ _ ?_; clear hK K
        refine awp_if false rfl (fun hc => by cases hc) (fun _ => ?_)
        refine awp_skip ?_; try simp only [RR]
        refine awp_seq_k fun K hK => ?_
        refine awp_region rfl ?_
        simp only [d1, hga, d2, d3, b8, b9, b0, hgb, d6, RR, seval]
        refine awpC_pure' (hca) ?_
        simp only [d1, hga, d2, d3, b8, b9, b0, hgb, d6, RR, seval]
        refine hK _ _ ?_; clear hK K
        refine awp_seq ?_
        refine awp_seq_k fun K hK => ?_
        refine awp_region rfl ?_
        simp only [d1, hga, d2, d3, b8, b9, b0, hgb, d6, RR, seval]
        refine hK _ _ ?_; clear hK K
        refine awp_if false rfl (fun hc => by cases hc) (fun _ => ?_)
        refine awp_skip ?_; try simp only [RR]
        refine awp_seq ?_
        refine awp_block ?_
        refine awp_seq_k fun K hK => ?_
        refine awp_region rfl ?_
        simp only [d1, hga, d2, d3, b8, b9, b0, hgb, d6, RR, seval]
        repeat' ((first | refine awpG_splitN (fun h => ?_) (fun h => ?_) | refine awpG_split (fun h => ?_) (fun h => ?_)) <;> simp only [h, d1, hga, d2, d3, b8, b9, b0, hgb, d6, RR, seval])
        all_goals
          refine hK _ _ ?_; clear hK K
          refine awp_if false rfl (fun hc => by cases hc) (fun _ => ?_)
          refine awp_seq_k fun K hK => ?_
          refine awp_region rfl ?_
          simp only [d1, hga, d2, d3, b8, b9, b0, hgb, d6, RR, seval]
          refine hK _ _ ?_; clear hK K
          refine awp_if false rfl (fun hc => by cases hc) (fun _ => ?_)
          refine awp_seq ?_
          refine awp_seq_k fun K hK => ?_
          refine awp_region rfl ?_
          simp only [d1, hga, d2, d3, b8, b9, b0, hgb, d6, RR, seval]
          repeat' ((first | refine awpG_splitN (fun h => ?_) (fun h => ?_) | refine awpG_split (fun h => ?_) (fun h => ?_)) <;> simp only [h, d1, hga, d2, d3, b8, b9, b0, hgb, d6, RR, seval])
          all_goals
            refine hK _ _ ?_; clear hK K
            refine awp_if false rfl (fun hc => by cases hc) (fun _ => ?_)
            refine awp_region rfl ?_
            simp only [d1, hga, d2, d3, b8, b9, b0, hgb, d6, RR, seval]
            repeat' ((first | refine awpG_splitN (fun h => ?_) (fun h => ?_) | refine awpG_split (fun h => ?_) (fun h => ?_)) <;> simp only [h, d1, hga, d2, d3, b8, b9, b0, hgb, d6, RR, seval])
            all_goals
              refine awp_if false rfl (fun hc => by cases hc) (fun _ => ?_)
              refine awp_skip ?_; try simp only [RR]
              refine awp_seq_k fun K hK => ?_
              refine awp_region rfl ?_
              simp only [d1, hga, d2, d3, b8, b9, b0, hgb, d6, RR, seval]
              refine awpC_pure' (hcb) ?_
              simp only [d1, hga, d2, d3, b8, b9, b0, hgb, d6, RR, seval]
              refine hK _ _ ?_; clear hK K
              refine awp_seq ?_
              refine awp_seq_k fun K hK => ?_
              refine awp_region rfl ?_
              simp only [d1, hga, d2, d3, b8, b9, b0, hgb, d6, RR, seval]
              refine hK _ _ ?_; clear hK K
              refine awp_if false rfl (fun hc => by cases hc) (fun _ => ?_)
              refine awp_skip ?_; try simp only [RR]
              refine awp_seq ?_
              refine awp_seq_k fun K hK => ?_
              refine awp_region rfl ?_
              simp only [d1, hga, d2, d3, b8, b9, b0, hgb, d6, RR, seval]
              refine hK _ _ ?_; clear hK K
              refine awp_if false rfl (fun hc => by cases hc) (fun _ => ?_)
              refine awp_skip ?_; try simp only [RR]
              refine awp_seq_k fun K hK => ?_
              refine awp_region rfl ?_
              simp only [d1, hga, d2, d3, b8, b9, b0, hgb, d6, RR, seval]
              refine hK _ _ ?_; clear hK K
              refine awp_ret ?_; simp only [bodyQ, aresult, ares, d1, hga, d2, d3, b8, b9, b0, hgb, d6, RR, seval]
              refine Gives.pure ?_
              rfl
theorem Value_con (n : Nat) (e : Ex) (p : Int × Int) (hp : plX e = true → valX n e = some p) (he : e.ok) : PCon env 25 [.agg e.row] (.tup [.int .u32 (if plX e then p.1 else 0), .int .i64 (if plX e then p.2 else 1)]) := by
  have h1 := mplain_con _ e (Nat.le_refl _) he
  have h2 := fun h => plainValue_con n e p (hp h) he
  rw [e.row_eq] at *
  cases hx : plX e with
  | false =>
    rw [hx] at h1
    refine con_of 11 [.tmp 2, .tmp 3] Try.func25 rfl rfl rfl rfl ?_
    refine awp_seq_k fun K hK => ?_
    refine awp_region rfl ?_
    simp only [RR, seval]
    refine awpN_intro fun b1 hn1 => ?_
    simp only [RR, seval]
    refine hK _ _ ?_; clear hK K
    refine awp_seq ?_
    refine awp_seq_k fun K hK => ?_
    refine awp_region rfl ?_
    simp only [RR, seval]
    refine awpC_pure' (h1) ?_
    simp only [RR, seval]
    refine hK _ _ ?_; clear hK K
    refine awp_if true rfl (fun _ => ?_) (fun hc => by cases hc)
    refine awp_seq_k fun K hK => ?_
    refine awp_region rfl ?_
    simp only [RR, seval]
    refine hK _ _ ?_; clear hK K
    refine awp_ret ?_; simp only [bodyQ, aresult, ares, RR, seval]
    refine Gives.pure ?_
    rfl
  | true =>
    rw [hx] at h1
    have h2 := h2 hx
    refine con_of 11 [.tmp 2, .tmp 3] Try.func25 rfl rfl rfl rfl ?_
    refine awp_seq_k fun K hK => ?_
    refine awp_region rfl ?_
    simp only [RR, seval]
    refine awpN_intro fun b1 hn1 => ?_
    simp only [RR, seval]
    refine hK _ _ ?_; clear hK K
    refine awp_seq ?_
    refine awp_seq_k fun K hK => ?_
    refine awp_region rfl ?_
    simp only [RR, seval]
    refine awpC_pure' (h1) ?_
    simp only [RR, seval]
    refine hK _ _ ?_; clear hK K
    refine awp_if false rfl (fun hc => by cases hc) (fun _ => ?_)
    refine awp_skip ?_; try simp only [RR]
    refine awp_seq_k fun K hK => ?_
    refine awp_region rfl ?_
    simp only [RR, seval]
    refine awpC_pure' (h2) ?_
    simp only [RR, seval]
    refine hK _ _ ?_; clear hK K
    refine awp_ret ?_; simp only [bodyQ, aresult, ares, RR, seval]
    refine Gives.pure ?_
    rfl
end Go.Proofs.Ytlokndnkpleegaa

namespace Go.Al
theorem numX_ok {n : Int} (h : u32R n) : (numX n).ok := .mk _ _ _ _ _ (by simp [i64R]) (by simp [i64R]) h (by simp [fitL]) (by simp [fitL]) (fun e h => by cases h)
theorem nameX_ok {s : Str} (h : fitL s) : (nameX s).ok := .mk _ _ _ _ _ (by simp [i64R]) (by simp [i64R]) (by simp [u32R]) h (by simp [fitL]) (fun e h => by cases h)
theorem opX_ok {k : Int} (hk : i64R k) {a b : Ex} (ha : a.ok) (hb : b.ok) : (opX k a b).ok := .mk _ _ _ _ _ (by simp [i64R]) hk (by simp [u32R]) (by simp [fitL]) (by simp [fitL]) (fun e h => by
  rcases List.mem_cons.1 h with rfl | h
  · exact ha
  · rw [List.mem_singleton] at h; rw [h]; exact hb)
theorem putS_ok {e : Ex} (he : e.ok) : (putS e).ok := .mk _ _ _ _ _ (by simp [i64R]) (by simp [fitL]) ⟨by simp [fitL], fun x h => by rw [List.mem_singleton] at h; rw [h]; exact he⟩ (by simp [fitL]) (fun e h => by cases h) (by simp [fitL]) (fun e h => by cases h)
theorem setS_ok {s : Str} (hs : fitL s) {e : Ex} (he : e.ok) : (setS s e).ok := .mk _ _ _ _ _ (by simp [i64R]) hs ⟨by simp [fitL], fun x h => by rw [List.mem_singleton] at h; rw [h]; exact he⟩ (by simp [fitL]) (fun e h => by cases h) (by simp [fitL]) (fun e h => by cases h)
theorem whileS_ok {e : Ex} (he : e.ok) {l : List Sm} (hl : okS l) : (whileS e l).ok := .mk _ _ _ _ _ (by simp [i64R]) (by simp [fitL]) ⟨by simp [fitL], fun x h => by rw [List.mem_singleton] at h; rw [h]; exact he⟩ hl.fit hl.all (by simp [fitL]) (fun e h => by cases h)
theorem okS_nil : okS [] := ⟨by simp [fitL], fun e h => by cases h⟩
theorem okS_1 {a : Sm} (h : a.ok) : okS [a] := ⟨by simp [fitL], fun x hx => by rw [List.mem_singleton] at hx; rw [hx]; exact h⟩
theorem okS_2 {a b : Sm} (h : a.ok) (h' : b.ok) : okS [a, b] := ⟨by simp [fitL], fun x hx => by
  rcases List.mem_cons.1 hx with rfl | hx
  · exact h
  · rw [List.mem_singleton] at hx; rw [hx]; exact h'⟩
theorem val1 : valX 5 (opX 6 (numX 6) (numX 7)) = some (42, 0) := by decide +kernel
theorem val2 : valX 5 (opX 7 (numX 6) (numX 0)) = some (0, 14) := by decide +kernel
theorem pl1 (k a b : Int) : plX (opX k (numX a) (numX b)) = true := rfl
theorem pl3 (s : Str) : plX (nameX s) = false := rfl
end Go.Al
namespace Go.Proofs.Ytlokndnkpleegaa
open Go.Al
theorem progP_ok {v : Str} (hv : fitL v) (hne : v ≠ mainN) {l : List Sm} (hl : okS l) (hs : szS l ≤ 1000000) : RunOk (progP v l) := by
  refine ⟨⟨⟨by simp [progP, fitL], fun s hs => ?_⟩, by simp [progP, fitL], (fun a h => by cases h), by simp [progP, fitL], fun f hf => ?_⟩, ?_, fun f hf => ?_, by simp [progP], by simp [progP], by simp [progP], by simp [progP], fun f hf => ?_, fun a h => by cases h⟩
  · simp only [progP, List.mem_singleton] at hs; subst hs; exact hv
  · simp only [progP, List.mem_singleton] at hf
    subst hf
    exact ⟨by simp [mainN, fitL], ⟨by simp [fitL], (fun s h => by cases h)⟩, ⟨by simp [fitL], fun s h => by cases h⟩, hl⟩
  · simp [globL, progP, hne]
  · simp only [progP, List.mem_singleton] at hf
    subst hf
    simp [namesL]
  · simp only [progP, List.mem_singleton] at hf
    subst hf
    exact ⟨by simp, by simp, hs⟩
def pW : Pg := progP [97] [putS (numX 65), whileS (opX 15 (numX 1) (numX 1)) []]
theorem pW_run : runR (cxP pW [] 5) 30 pW.vars.length (pW.arrs.map fun a => a.size.toNat) = some (5, [65], 5) := by decide +kernel
theorem awake_con : PCon env 13 [] (.bool true) := by
  have u (n : Int) (h : u32R n) := numX_ok h
  have o1 := u 1 (by simp [u32R])
  have hpW : RunOk pW := progP_ok (by simp [fitL]) (by decide) (okS_2 (putS_ok (u 65 (by simp [u32R]))) (whileS_ok (opX_ok (by simp [i64R]) o1 o1) okS_nil)) (by simp [szS, Sm.sz, szE, Ex.sz, putS, whileS, opX, numX])
  have hr := Run_con pW hpW [] (by simp) 5 (by simp [i64R]) pW_run
  have v1 := Value_con 5 _ _ (fun _ => val1) (opX_ok (by simp [i64R]) (u 6 (by simp [u32R])) (u 7 (by simp [u32R])))
  have v2 := Value_con 5 _ _ (fun _ => val2) (opX_ok (by simp [i64R]) (u 6 (by simp [u32R])) (u 0 (by simp [u32R])))
  have v3 := Value_con 5 (nameX [97]) (0, 0) (fun h => by rw [pl3] at h; cases h) (nameX_ok (by simp [fitL]))
  rw [pl1] at v1 v2
  rw [pl3] at v3
  have a1 := lnum_con 65
  have a2 := lput_con (numX 65)
  have a3 := lnum_con 1
  have a4 := lop_con 15 (numX 1) (numX 1)
  have a5 := lwhile_con (opX 15 (numX 1) (numX 1)) []
  have a6 := lprog_con [97] [putS (numX 65), whileS (opX 15 (numX 1) (numX 1)) []]
  have w1 := lnum_con 6
  have w2 := lnum_con 7
  have w3 := lop_con 6 (numX 6) (numX 7)
  have w4 := lnum_con 0
  have w5 := lop_con 7 (numX 6) (numX 0)
  have w6 := lname_con [97]
  clear hpW u o1
  simp only [pW, progP, mainN, putS, whileS, opX, numX, nameX, Pg.av, Pg.row, Fu.row, Ex.row_eq, Sm.row_eq, List.map_cons, List.map_nil, strRow, Ex.kind, Ex.op, Ex.num, Ex.name, Ex.kids, Sm.kind, Sm.name, Sm.es, Sm.thn, Sm.els, resV, if_true, Bool.false_eq_true, if_false] at *
  refine con_of 57 [.tmp 0] Try.func13 rfl rfl rfl rfl ?_
  refine awp_seq_k fun K hK => ?_
  refine awp_region rfl ?_
  simp only [RR, seval]
  refine hK _ _ ?_; clear hK K
  refine awp_seq_k fun K hK => ?_
  refine awp_region rfl ?_
  simp only [RR, seval]
  refine awpC_pure' (a1) ?_
  simp only [RR, seval]
  refine awpC_pure' (a2) ?_
  simp only [RR, seval]
  refine awpC_pure' (a3) ?_
  simp only [RR, seval]
  refine awpC_pure' (a3) ?_
  simp only [RR, seval]
  refine awpC_pure' (a4) ?_
  simp only [RR, seval]
  refine awpC_pure a5 (by refine SubR.list ?_; repeat' (first | exact SubR.nil | exact SubRs.nil | exact Sub.refl _ | exact Sub.nsl _ | refine SubR.cons ?_ ?_ | refine SubRs.cons ?_ ?_ | refine Sub.isl ?_ | refine Sub.aggR ?_)) ?_
  simp only [RR, seval]
  refine awpB_sealed ?_
  simp only [RR, seval]
  refine awpC_pure' (a6) ?_
  simp only [RR, seval]
  refine awpN_intro fun b1 hn1 => ?_
  simp only [RR, seval]
  refine hK _ _ ?_; clear hK K
  refine awp_seq_k fun K hK => ?_
  refine awp_region rfl ?_
  simp only [RR, seval]
  refine awpC_pure' (hr) ?_
  simp only [RR, seval]
  refine awpN_intro fun b2 hn2 => ?_
  have nb2_b1 : b2 ≠ b1 := fun e => by rw [e] at hn2; simp only [RR, seval, reduceCtorEq] at hn2
  have nb1_b2 : b1 ≠ b2 := fun e => nb2_b1 e.symm
  simp only [nb2_b1, nb1_b2, RR, seval]
  refine hK _ _ ?_; clear hK K
  refine awp_seq_k fun K hK => ?_
  refine awp_region rfl ?_
  simp only [nb2_b1, nb1_b2, RR, seval]
  refine awpC_pure' (w1) ?_
  simp only [nb2_b1, nb1_b2, RR, seval]
  refine awpC_pure' (w2) ?_
  simp only [nb2_b1, nb1_b2, RR, seval]
  refine awpC_pure' (w3) ?_
  simp only [nb2_b1, nb1_b2, RR, seval]
  refine awpC_pure' (v1) ?_
  simp only [nb2_b1, nb1_b2, RR, seval]
  refine hK _ _ ?_; clear hK K
  refine awp_seq_k fun K hK => ?_
  refine awp_region rfl ?_
  simp only [nb2_b1, nb1_b2, RR, seval]
  refine awpC_pure' (w1) ?_
  simp only [nb2_b1, nb1_b2, RR, seval]
  refine awpC_pure' (w4) ?_
  simp only [nb2_b1, nb1_b2, RR, seval]
  refine awpC_pure' (w5) ?_
  simp only [nb2_b1, nb1_b2, RR, seval]
  refine awpC_pure' (v2) ?_
  simp only [nb2_b1, nb1_b2, RR, seval]
  refine hK _ _ ?_; clear hK K
  refine awp_seq_k fun K hK => ?_
  refine awp_region rfl ?_
  simp only [nb2_b1, nb1_b2, RR, seval]
  refine awpC_pure' (w6) ?_
  simp only [nb2_b1, nb1_b2, RR, seval]
  refine awpC_pure' (v3) ?_
  simp only [nb2_b1, nb1_b2, RR, seval]
  refine hK _ _ ?_; clear hK K
  refine awp_seq_k fun K hK => ?_
  refine awp_region rfl ?_
  simp only [nb2_b1, nb1_b2, RR, seval]
  repeat' ((first | refine awpG_splitN (fun h => ?_) (fun h => ?_) | refine awpG_split (fun h => ?_) (fun h => ?_)) <;> simp only [h, nb2_b1, nb1_b2, RR, seval])
  all_goals
    refine hK _ _ ?_; clear hK K
    refine awp_ret ?_; simp only [bodyQ, aresult, ares, RR, seval]
    refine Gives.pure ?_
    rfl
end Go.Proofs.Ytlokndnkpleegaa
