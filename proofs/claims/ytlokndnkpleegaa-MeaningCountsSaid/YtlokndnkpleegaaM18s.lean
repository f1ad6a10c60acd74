/- Chapter 18: the law's own trees. -/
import Derived.Test.YtlokndnkpleegaaM18r
import Derived.Test.YtlokndnkpleegaaAlZa
set_option linter.unusedSimpArgs false
set_option linter.unusedVariables false
set_option maxRecDepth 10000
namespace Go.Al
def numX (n : Int) : Ex := .mk 1 0 n [] []
def opX (k : Int) (a b : Ex) : Ex := .mk 6 k 0 [] [a, b]
def nameX (s : Str) : Ex := .mk 2 0 0 s []
def putS (e : Ex) : Sm := .mk 3 [] [e] [] []
def setS (s : Str) (e : Ex) : Sm := .mk 1 s [e] [] []
def whileS (e : Ex) (l : List Sm) : Sm := .mk 5 [] [e] l []
def mainN : Str := [109, 97, 105, 110]
def progP (v : Str) (l : List Sm) : Pg := ⟨[v], [], [⟨mainN, [], [], false, l⟩]⟩
end Go.Al
namespace Go.Proofs.Ytlokndnkpleegaa
open Go.Al
theorem lnum_con (n : Int) : PCon env 17 [.int .u32 n] (.agg (numX n).row) := by
  refine pcon_weak (v := .agg [.int .i64 1, .int .i64 0, .int .u32 n, .str [], .nsl]) ?_ ?_
  · skip
    refine con_of 5 [.cell 2 42] Try.func17 rfl rfl rfl rfl ?_
    refine awp_seq_k fun K hK => ?_
    refine awp_region rfl ?_
    simp only [RR, seval]
    refine awpN_intro fun b2 hn2 => ?_
    simp only [RR, seval]
    refine hK _ _ ?_; clear hK K
    refine awp_seq_k fun K hK => ?_
    refine awp_region rfl ?_
    simp only [RR, seval]
    refine hK _ _ ?_; clear hK K
    refine awp_ret ?_; simp only [bodyQ, aresult, ares, RR, seval]
    refine Gives.pure ?_
    rfl
  · simp only [numX, Ex.row, rowsE]
    refine Sub.aggR ?_
    repeat' (first | exact SubR.nil | exact SubRs.nil | exact Sub.refl _ | exact Sub.nsl _ | refine SubR.cons ?_ ?_ | refine SubRs.cons ?_ ?_ | refine Sub.isl ?_)
theorem lname_con (s : Str) : PCon env 22 [.str s] (.agg (nameX s).row) := by
  refine pcon_weak (v := .agg [.int .i64 2, .int .i64 0, .int .u32 0, .str s, .nsl]) ?_ ?_
  · skip
    refine con_of 5 [.cell 2 42] Try.func22 rfl rfl rfl rfl ?_
    refine awp_seq_k fun K hK => ?_
    refine awp_region rfl ?_
    simp only [RR, seval]
    refine awpN_intro fun b2 hn2 => ?_
    simp only [RR, seval]
    refine hK _ _ ?_; clear hK K
    refine awp_seq_k fun K hK => ?_
    refine awp_region rfl ?_
    simp only [RR, seval]
    refine hK _ _ ?_; clear hK K
    refine awp_ret ?_; simp only [bodyQ, aresult, ares, RR, seval]
    refine Gives.pure ?_
    rfl
  · simp only [nameX, Ex.row, rowsE]
    refine Sub.aggR ?_
    repeat' (first | exact SubR.nil | exact SubRs.nil | exact Sub.refl _ | exact Sub.nsl _ | refine SubR.cons ?_ ?_ | refine SubRs.cons ?_ ?_ | refine Sub.isl ?_)
theorem lop_con (k : Int) (a b : Ex) : PCon env 21 [.int .i64 k, .agg a.row, .agg b.row] (.agg (opX k a b).row) := by
  simp only [opX, Ex.row, rowsE]
  rw [a.row_eq, b.row_eq]
  generalize a.kids.map Ex.row = x
  generalize b.kids.map Ex.row = y
  refine con_of 12 [.cell 6 42] Try.func21 rfl rfl rfl rfl ?_
  refine awp_seq_k fun K hK => ?_
  refine awp_region rfl ?_
  simp only [RR, seval]
  refine awpN_intro fun b4 hn4 => ?_
  simp only [RR, seval]
  refine awpN_intro fun b5 hn5 => ?_
  have nb5_b4 : b5 ≠ b4 := fun e => by rw [e] at hn5; simp only [RR, seval, reduceCtorEq] at hn5
  have nb4_b5 : b4 ≠ b5 := fun e => nb5_b4 e.symm
  simp only [nb5_b4, nb4_b5, RR, seval]
  refine awpN_intro fun b6 hn6 => ?_
  have nb6_b4 : b6 ≠ b4 := fun e => by rw [e] at hn6; simp only [nb5_b4, nb4_b5, RR, seval, reduceCtorEq] at hn6
  have nb4_b6 : b4 ≠ b6 := fun e => nb6_b4 e.symm
  have nb6_b5 : b6 ≠ b5 := fun e => by rw [e] at hn6; simp only [nb5_b4, nb4_b5, RR, seval, reduceCtorEq] at hn6
  have nb5_b6 : b5 ≠ b6 := fun e => nb6_b5 e.symm
  simp only [nb5_b4, nb4_b5, nb6_b4, nb4_b6, nb6_b5, nb5_b6, RR, seval]
  refine hK _ _ ?_; clear hK K
  refine awp_seq_k fun K hK => ?_
  refine awp_region rfl ?_
  simp only [nb5_b4, nb4_b5, nb6_b4, nb4_b6, nb6_b5, nb5_b6, RR, seval]
  refine awpB_sealed ?_
  simp only [nb5_b4, nb4_b5, nb6_b4, nb4_b6, nb6_b5, nb5_b6, RR, seval]
  refine hK _ _ ?_; clear hK K
  refine awp_ret ?_; simp only [bodyQ, aresult, ares, nb5_b4, nb4_b5, nb6_b4, nb4_b6, nb6_b5, nb5_b6, RR, seval]
  refine Gives.pure ?_
  rfl
theorem lput_con (e : Ex) : PCon env 16 [.agg e.row] (.agg (putS e).row) := by
  refine pcon_weak (v := .agg [.int .i64 3, .str [], .isl 5 [e.row], .nsl, .nsl]) ?_ ?_
  · rw [e.row_eq]
    generalize e.kids.map Ex.row = x
    refine con_of 6 [.cell 2 38] Try.func16 rfl rfl rfl rfl ?_
    refine awp_seq_k fun K hK => ?_
    refine awp_region rfl ?_
    simp only [RR, seval]
    refine awpN_intro fun b1 hn1 => ?_
    simp only [RR, seval]
    refine awpN_intro fun b2 hn2 => ?_
    have nb2_b1 : b2 ≠ b1 := fun e => by rw [e] at hn2; simp only [RR, seval, reduceCtorEq] at hn2
    have nb1_b2 : b1 ≠ b2 := fun e => nb2_b1 e.symm
    simp only [nb2_b1, nb1_b2, RR, seval]
    refine hK _ _ ?_; clear hK K
    refine awp_seq_k fun K hK => ?_
    refine awp_region rfl ?_
    simp only [nb2_b1, nb1_b2, RR, seval]
    refine awpB_sealed ?_
    simp only [nb2_b1, nb1_b2, RR, seval]
    refine hK _ _ ?_; clear hK K
    refine awp_ret ?_; simp only [bodyQ, aresult, ares, nb2_b1, nb1_b2, RR, seval]
    refine Gives.pure ?_
    rfl
  · simp only [putS, Sm.row, rowsE, rowsS, exs]
    refine Sub.aggR ?_
    repeat' (first | exact SubR.nil | exact SubRs.nil | exact Sub.refl _ | exact Sub.nsl _ | refine SubR.cons ?_ ?_ | refine SubRs.cons ?_ ?_ | refine Sub.isl ?_)
theorem lset_con (s : Str) (e : Ex) : PCon env 19 [.str s, .agg e.row] (.agg (setS s e).row) := by
  refine pcon_weak (v := .agg [.int .i64 1, .str s, .isl 5 [e.row], .nsl, .nsl]) ?_ ?_
  · rw [e.row_eq]
    generalize e.kids.map Ex.row = x
    refine con_of 9 [.cell 4 38] Try.func19 rfl rfl rfl rfl ?_
    refine awp_seq_k fun K hK => ?_
    refine awp_region rfl ?_
    simp only [RR, seval]
    refine awpN_intro fun b3 hn3 => ?_
    simp only [RR, seval]
    refine awpN_intro fun b4 hn4 => ?_
    have nb4_b3 : b4 ≠ b3 := fun e => by rw [e] at hn4; simp only [RR, seval, reduceCtorEq] at hn4
    have nb3_b4 : b3 ≠ b4 := fun e => nb4_b3 e.symm
    simp only [nb4_b3, nb3_b4, RR, seval]
    refine hK _ _ ?_; clear hK K
    refine awp_seq_k fun K hK => ?_
    refine awp_region rfl ?_
    simp only [nb4_b3, nb3_b4, RR, seval]
    refine awpB_sealed ?_
    simp only [nb4_b3, nb3_b4, RR, seval]
    refine hK _ _ ?_; clear hK K
    refine awp_ret ?_; simp only [bodyQ, aresult, ares, nb4_b3, nb3_b4, RR, seval]
    refine Gives.pure ?_
    rfl
  · simp only [setS, Sm.row, rowsE, rowsS, exs]
    refine Sub.aggR ?_
    repeat' (first | exact SubR.nil | exact SubRs.nil | exact Sub.refl _ | exact Sub.nsl _ | refine SubR.cons ?_ ?_ | refine SubRs.cons ?_ ?_ | refine Sub.isl ?_)
theorem lwhile_con (e : Ex) (l : List Sm) : PCon env 20 [.agg e.row, .isl 5 (l.map Sm.row)] (.agg (whileS e l).row) := by
  have hr : (whileS e l).row = [.int .i64 5, .str [], .isl 5 [e.row], .isl 5 (l.map Sm.row), .isl 5 []] := by rw [Sm.row_eq]; rfl
  refine pcon_weak (v := .agg [.int .i64 5, .str [], .isl 5 [e.row], .isl 5 (l.map Sm.row), .nsl]) ?_ ?_
  · rw [e.row_eq]
    generalize e.kids.map Ex.row = x
    generalize l.map Sm.row = y
    clear hr
    refine con_of 9 [.cell 4 38] Try.func20 rfl rfl rfl rfl ?_
    refine awp_seq_k fun K hK => ?_
    refine awp_region rfl ?_
    simp only [RR, seval]
    refine awpN_intro fun b2 hn2 => ?_
    simp only [RR, seval]
    refine awpN_intro fun b4 hn4 => ?_
    have nb4_b2 : b4 ≠ b2 := fun e => by rw [e] at hn4; simp only [RR, seval, reduceCtorEq] at hn4
    have nb2_b4 : b2 ≠ b4 := fun e => nb4_b2 e.symm
    simp only [nb4_b2, nb2_b4, RR, seval]
    refine hK _ _ ?_; clear hK K
    refine awp_seq_k fun K hK => ?_
    refine awp_region rfl ?_
    simp only [nb4_b2, nb2_b4, RR, seval]
    refine awpB_sealed ?_
    simp only [nb4_b2, nb2_b4, RR, seval]
    refine hK _ _ ?_; clear hK K
    refine awp_ret ?_; simp only [bodyQ, aresult, ares, nb4_b2, nb2_b4, RR, seval]
    refine Gives.pure ?_
    rfl
  · rw [hr]
    refine Sub.aggR ?_
    repeat' (first | exact SubR.nil | exact SubRs.nil | exact Sub.refl _ | exact Sub.nsl _ | refine SubR.cons ?_ ?_ | refine SubRs.cons ?_ ?_ | refine Sub.isl ?_)
theorem lprog_con (v : Str) (l : List Sm) : PCon env 18 [.str v, .isl 5 (l.map Sm.row)] (progP v l).av := by
  have hr : (progP v l).av = .agg [.isl 1 [[.str v]], .isl 2 [], .isl 5 [[.str mainN, .isl 1 [], .isl 1 [], .bool false, .isl 5 (l.map Sm.row)]]] := rfl
  refine pcon_weak (v := .agg [.isl 1 [[.str v]], .nsl, .isl 5 [[.str mainN, .nsl, .nsl, .bool false, .isl 5 (l.map Sm.row)]]]) ?_ ?_
  · generalize l.map Sm.row = y
    clear hr
    refine con_of 11 [.cell 4 26] Try.func18 rfl rfl rfl rfl ?_
    refine awp_seq_k fun K hK => ?_
    refine awp_region rfl ?_
    simp only [RR, seval]
    refine awpN_intro fun b4 hn4 => ?_
    simp only [RR, seval]
    refine hK _ _ ?_; clear hK K
    refine awp_seq_k fun K hK => ?_
    refine awp_region rfl ?_
    simp only [RR, seval]
    refine awpB_sealed ?_
    simp only [RR, seval]
    refine awpB_sealed ?_
    simp only [RR, seval]
    refine hK _ _ ?_; clear hK K
    refine awp_ret ?_; simp only [bodyQ, aresult, ares, RR, seval]
    refine Gives.pure ?_
    rfl
  · rw [hr]
    refine Sub.aggR ?_
    repeat' (first | exact SubR.nil | exact SubRs.nil | exact Sub.refl _ | exact Sub.nsl _ | refine SubR.cons ?_ ?_ | refine SubRs.cons ?_ ?_ | refine Sub.isl ?_)
end Go.Proofs.Ytlokndnkpleegaa
