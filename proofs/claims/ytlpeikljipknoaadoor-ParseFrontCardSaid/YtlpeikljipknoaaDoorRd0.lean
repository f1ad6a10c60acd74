/- Chapter 15, the program's: all of a text is read. Chapter 15, the program's: read, which recovers. Chapter 15, the program's: a source's program, an expression's text. Chapter 15, the judge's: its lexer's answers; a program of one expression. -/
import Derived.Test.YtlpeikljipknoaaDoorRc
import Derived.Test.YtlpeikljipknoaaDoorGDf
import Derived.Test.YtlpeikljipknoaaDoorSy3
import Derived.Test.YtlpeikljipknoaaDoorLx
set_option linter.unusedSimpArgs false
set_option linter.unusedVariables false
set_option maxRecDepth 10000
namespace Go.Proofs.YtlpeikljipknoaaDoor
open Go.Al
def rd2H (b bp : Nat) (T : List Tok) (n e sz : Nat) (z : List AV) : Hp := upd (rdH b T n e) bp (some (.rows sz [z]))
def wpost {α : Type} (b bp : Nat) (T : List Tok) (e sz : Nat) (f : α → List AV) (r : PR α) : AEnd → Hp → Prop := fun ae H' =>
  match r with
  | .ok a n => ae = .ret (.tup []) ∧ H' = rd2H b bp T n e sz (f a)
  | .bad n => ae = .pan (wrongV (atI T e n))
def WCon {α : Type} (g : FuncId) (b bp : Nat) (T : List Tok) (n e sz : Nat) (z : List AV) (f : α → List AV) (r : PR α) : Prop :=
  Con env g [.ptr 3 b 0 0, .ptr sz bp 0 0] (rd2H b bp T n e sz z) (wpost b bp T e sz f r)
theorem rd2H_sub {b bp : Nat} {T : List Tok} {n e sz : Nat} {z : List AV} {H : Hp} (h : H b = some (.rows 3 [[.isl 4 (T.map Tok.row), .int .i64 (n : Nat), .int .i64 (e : Nat)]])) (h2 : H bp = some (.rows sz [z])) : hsub (rd2H b bp T n e sz z) H := fun x o hx => by
  by_cases c : x = bp
  · subst c; rw [rd2H, upd_same] at hx; rw [h2]; exact hx
  · rw [rd2H, upd_ne _ _ c] at hx; exact rdH_sub h x o hx
theorem awpC_what {α : Type} {F : Nat → Prop} {ds : List (Option Nat)} {Q : APost} {d : Option Nat} {rest : List Oper} {fr : Fr} {H : Hp} {g : FuncId} {b bp : Nat} {T : List Tok} {n e sz : Nat} {z : List AV} {f : α → List AV} {r : PR α}
    (hc : WCon g b bp T n e sz z f r) (hne : b ≠ bp) (hb : H b = some (.rows 3 [[.isl 4 (T.map Tok.row), .int .i64 (n : Nat), .int .i64 (e : Nat)]])) (hp : H bp = some (.rows sz [z])) (hF : ∀ b, F b)
    (hbad : ∀ n' H', r = .bad n' → (∀ x o, x ≠ b → x ≠ bp → H x = some o → H' x = some o) → Q (.pan (wrongV (atI T e n'))) frU H')
    (hok : ∀ a n' H2, r = .ok a n' → H2 b = some (.rows 3 [[.isl 4 (T.map Tok.row), .int .i64 (n' : Nat), .int .i64 (e : Nat)]]) → H2 bp = some (.rows sz [f a]) → (∀ x o, x ≠ b → x ≠ bp → H x = some o → H2 x = some o) → awpL env F ds Q rest (putF fr d (.tup [])) H2) :
    awpC env F ds Q d rest fr H g [.ptr 3 b 0 0, .ptr sz bp 0 0] := by
  refine awpC_con hc (SubL.refl _) (rd2H_sub hb hp) (fun x _ => hF x) fun ae H' hr hnew => ?_
  have keep : ∀ x o, x ≠ b → x ≠ bp → H x = some o → hjoin H' (rd2H b bp T n e sz z) H x = some o := fun x o h1 h2 hx => by
    have h0 : rd2H b bp T n e sz z x = none := by rw [rd2H, upd_ne _ _ h2, rdH, upd_ne _ _ h1]; rfl
    have h' : H' x = none := by
      cases h : H' x with
      | none => rfl
      | some o' =>
        rcases hnew x (by rw [h]; simp) with c | c
        · exact absurd h0 c
        · rw [hx] at c; cases c
    simp only [hjoin, h', h0, hx, Option.isSome_none, Bool.false_eq_true, if_false]
  cases r with
  | ok a n' =>
    obtain ⟨rfl, rfl⟩ := hr
    refine hok a n' _ rfl ?_ ?_ keep
    · simp only [hjoin, rd2H, upd_ne _ _ hne, rdH_at]
    · simp only [hjoin, rd2H, upd_same]
  | bad n' =>
    obtain rfl := hr
    exact hbad n' _ rfl keep
theorem wgives {α : Type} {b bp : Nat} {T : List Tok} {e sz n : Nat} {f : α → List AV} {r : PR α} {H : Hp} {a : α} (hb : H b = some (.rows 3 [[.isl 4 (T.map Tok.row), .int .i64 (n : Nat), .int .i64 (e : Nat)]])) (hp : H bp = some (.rows sz [f a])) (hr : r = .ok a n) : Gives (wpost b bp T e sz f r) (.tup []) H := by
  subst hr
  exact ⟨.tup [], _, Turn.drop (rd2H_sub hb hp), rfl, rfl⟩
theorem prog1_con (r0 b1 : Nat) {T : List Tok} (hT : Sz T) (n e : Nat) (hn : n ≤ T.length) (hne : r0 ≠ b1) (z1 z2 z3 : AV) : WCon 24 r0 b1 T n e 3 [z1, z2, z3] Pg.row (progP T n) := by
  unfold WCon
  generalize hres : progP T n = res
  generalize hH0 : rd2H r0 b1 T n e 3 [z1, z2, z3] = H0
  have hr0 : H0 r0 = some (.rows 3 [[.isl 4 (T.map Tok.row), .int .i64 (n : Nat), .int .i64 (e : Nat)]]) := by rw [← hH0, rd2H, upd_ne _ _ hne]; exact rdH_at _ _ _ _
  have hb1 : H0 b1 = some (.rows 3 [[z1, z2, z3]]) := by rw [← hH0, rd2H, upd_same]
  clear hH0
  have nb1_r0 : b1 ≠ r0 := fun e => hne e.symm
  have nr0_b1 : r0 ≠ b1 := hne
  refine con_of 5 [] Tryd.func24 rfl rfl rfl rfl ?_
  refine awp_region rfl ?_
  simp only [hr0, hb1, nb1_r0, nr0_b1, List.length_map, pgV, RR, seval]
  refine awpC_rd (prog_con r0 hT n e hn) (by first | exact hr0 | (simp only [hr0, hb1, nb1_r0, nr0_b1, List.length_map, pgV, upd_app, RR, seval]; done)) trivial ?_ ?_
  · intro n4x H4x hbd
    subst hres
    rw [hbd]
    simp only [thenQ_pan, blockQ_pan, bodyQ_pan, wpost]
  intro a4 m4 M1 ho4 hn4x hk4x
  skip
  have gb1 := hk4x b1 _ (by first | exact nb1_r0 | exact blk_ne hb1 hr0 (by decide) | (intro e; subst e; simp_all)) (by first | exact hb1 | exact upd_same _ _ _ | (simp only [hr0, hb1, nb1_r0, nr0_b1, List.length_map, pgV, upd_app, RR, seval]; rfl))
  have hb1 := gb1; clear gb1
  have hr0 := hn4x; clear hn4x hk4x
  simp only [hr0, hb1, nb1_r0, nr0_b1, List.length_map, pgV, RR, seval]
  try simp only [bodyQ, aresult, ares, hr0, hb1, nb1_r0, nr0_b1, List.length_map, pgV, RR, seval]
  refine wgives (by first | exact hr0 | (simp only [hr0, hb1, nb1_r0, nr0_b1, List.length_map, pgV, upd_app, RR, seval]; done)) (by first | exact upd_same _ _ _ | (simp only [hr0, hb1, nb1_r0, nr0_b1, List.length_map, pgV, upd_app, RR, seval]; rfl)) (hres.symm.trans ho4)
theorem expr1_con (r0 b1 : Nat) {T : List Tok} (hT : Sz T) (n e : Nat) (hn : n ≤ T.length) (hne : r0 ≠ b1) (z1 z2 z3 z4 z5 : AV) : WCon 32 r0 b1 T n e 5 [z1, z2, z3, z4, z5] (fun x : Ex => [.int .i64 x.kind, .int .i64 x.op, .int .u32 x.num, .str x.name, .isl 5 (x.kids.map Ex.row)]) (exprP T 1 n) := by
  unfold WCon
  generalize hres : exprP T 1 n = res
  generalize hH0 : rd2H r0 b1 T n e 5 [z1, z2, z3, z4, z5] = H0
  have hr0 : H0 r0 = some (.rows 3 [[.isl 4 (T.map Tok.row), .int .i64 (n : Nat), .int .i64 (e : Nat)]]) := by rw [← hH0, rd2H, upd_ne _ _ hne]; exact rdH_at _ _ _ _
  have hb1 : H0 b1 = some (.rows 5 [[z1, z2, z3, z4, z5]]) := by rw [← hH0, rd2H, upd_same]
  clear hH0
  have nb1_r0 : b1 ≠ r0 := fun e => hne e.symm
  have nr0_b1 : r0 ≠ b1 := hne
  refine con_of 5 [] Tryd.func32 rfl rfl rfl rfl ?_
  refine awp_region rfl ?_
  simp only [hr0, hb1, nb1_r0, nr0_b1, List.length_map, exV, RR, seval]
  refine awpC_rd (expr_con r0 hT n e hn) (by first | exact hr0 | (simp only [hr0, hb1, nb1_r0, nr0_b1, List.length_map, exV, upd_app, RR, seval]; done)) trivial ?_ ?_
  · intro n4x H4x hbd
    subst hres
    rw [hbd]
    simp only [thenQ_pan, blockQ_pan, bodyQ_pan, wpost]
  intro a4 m4 M1 ho4 hn4x hk4x
  skip
  have gb1 := hk4x b1 _ (by first | exact nb1_r0 | exact blk_ne hb1 hr0 (by decide) | (intro e; subst e; simp_all)) (by first | exact hb1 | exact upd_same _ _ _ | (simp only [hr0, hb1, nb1_r0, nr0_b1, List.length_map, exV, upd_app, RR, seval]; rfl))
  have hb1 := gb1; clear gb1
  have hr0 := hn4x; clear hn4x hk4x
  simp only [hr0, hb1, nb1_r0, nr0_b1, List.length_map, exV, RR, seval]
  try simp only [bodyQ, aresult, ares, hr0, hb1, nb1_r0, nr0_b1, List.length_map, exV, RR, seval]
  refine wgives (by first | exact hr0 | (simp only [hr0, hb1, nb1_r0, nr0_b1, List.length_map, exV, upd_app, RR, seval]; done)) (by first | exact upd_same _ _ _ | (simp only [hr0, hb1, nb1_r0, nr0_b1, List.length_map, exV, upd_app, RR, seval]; rfl)) (hres.symm.trans ho4)
end Go.Proofs.YtlpeikljipknoaaDoor

namespace Go.Proofs.YtlpeikljipknoaaDoor
open Go.Al
def frR (b4 b5 : Nat) : Fr := upd (upd (fun _ => .undef) 4 (.ptr 1 b4 0 0)) 5 (.ptr 1 b5 0 0)
noncomputable def Bg : Code := restOf Tryd.f43.body
theorem read_dn (b4 b5 : Nat) (H : Hp) (R : AEnd → Hp → Prop) (x y : Int) (h4 : H b4 = some (.rows 1 [[.int .i64 x]])) (h5 : H b5 = some (.rows 1 [[.int .i64 y]])) (hR : Gives R (.tup [.int .i64 x, .int .i64 y]) H) :
    DRun env 13 Bg [.ptr 1 b4 0 0, .ptr 1 b5 0 0] 5 [.cell 4 3, .cell 5 28] (frR b4 b5) R .nif H := by
  unfold DRun Bg
  have hres : aresult env.P (frR b4 b5) H [.cell 4 3, .cell 5 28] = some (.tup [.int .i64 x, .int .i64 y]) := by
    simp only [aresult, ares, frR, h4, h5, RR, seval]
  refine awp_block ?_
  refine awp_seq_k fun K hK => ?_
  refine awp_region rfl ?_
  simp only [anil.eq_1, isK.eq_1, RR, seval]
  refine hK _ _ ?_; clear hK K
  refine awp_if true rfl (fun _ => ?_) (fun hc => by cases hc)
  refine awp_region rfl ?_
  simp only [anil.eq_1, isK.eq_1, RR, seval]
  exact ⟨.inl trivial, _, hres, hR⟩
theorem read_dp (b4 b5 : Nat) (H : Hp) (R : AEnd → Hp → Prop) (x y i : Int) (hne : b4 ≠ b5) (h4 : H b4 = some (.rows 1 [[.int .i64 x]])) (h5 : H b5 = some (.rows 1 [[.int .i64 y]])) (hR : R (.ret (.tup [.int .i64 i, .int .i64 3])) emp) :
    DRun env 13 Bg [.ptr 1 b4 0 0, .ptr 1 b5 0 0] 5 [.cell 4 3, .cell 5 28] (frR b4 b5) R (wrongV i) H := by
  unfold DRun Bg wrongV
  have nb4_b5 : b4 ≠ b5 := hne
  have nb5_b4 : b5 ≠ b4 := fun e => hne e.symm
  have hb4 := h4
  have hb5 := h5
  clear h4 h5
  have hC := @awpL_typeAssert
  refine awp_block ?_
  refine awp_seq_k fun K hK => ?_
  refine awp_region rfl ?_
  simp only [anil.eq_1, isK.eq_1, awpL_typeAssert, aq, RR, seval]
  refine hK _ _ ?_; clear hK K
  refine awp_if false rfl (fun hc => by cases hc) (fun _ => ?_)
  refine awp_seq_k fun K hK => ?_
  refine awp_region rfl ?_
  simp only [hb4, hb5, nb4_b5, nb5_b4, anil.eq_1, isK.eq_1, awpL_typeAssert, aq, RR, seval]
  refine hK _ _ ?_; clear hK K
  refine awp_if true rfl (fun _ => ?_) (fun hc => by cases hc)
  refine awp_seq_k fun K hK => ?_
  refine awp_region rfl ?_
  simp only [hb4, hb5, nb4_b5, nb5_b4, anil.eq_1, isK.eq_1, awpL_typeAssert, aq, RR, seval]
  refine awpN_intro fun b3 hn3 => ?_
  have nb3_b4 : b3 ≠ b4 := fun e => by rw [e] at hn3; simp only [hb4, nb4_b5, nb5_b4, RR, seval, reduceCtorEq] at hn3
  have nb4_b3 : b4 ≠ b3 := fun e => nb3_b4 e.symm
  have nb3_b5 : b3 ≠ b5 := fun e => by rw [e] at hn3; simp only [hb5, nb4_b5, nb5_b4, RR, seval, reduceCtorEq] at hn3
  have nb5_b3 : b5 ≠ b3 := fun e => nb3_b5 e.symm
  simp only [hb4, hb5, nb4_b5, nb5_b4, nb3_b4, nb4_b3, nb3_b5, nb5_b3, anil.eq_1, isK.eq_1, awpL_typeAssert, aq, RR, seval]
  refine hK _ _ ?_; clear hK K
  refine awp_region rfl ?_
  simp only [hb4, hb5, nb4_b5, nb5_b4, nb3_b4, nb4_b3, nb3_b5, nb5_b3, anil.eq_1, isK.eq_1, awpL_typeAssert, aq, RR, seval]
  try simp only [bodyQ, aresult, ares, hb4, hb5, nb4_b5, nb5_b4, nb3_b4, nb4_b3, nb3_b5, nb5_b3, anil.eq_1, isK.eq_1, awpL_typeAssert, aq, RR, seval]
  refine ⟨.inl trivial, .tup [.int .i64 i, .int .i64 3], ?_, ⟨_, emp, Turn.drop (hsub_emp _), hR⟩⟩
  simp only [frR, hb4, hb5, nb4_b5, nb5_b4, nb3_b4, nb4_b3, nb3_b5, nb5_b3, anil.eq_1, isK.eq_1, awpL_typeAssert, aq, RR, seval]
def readPost {α : Type} (s : Str) (bp sz : Nat) (z : List AV) (f : α → List AV) (P : List Tok → PR α) : AEnd → Hp → Prop := fun ae H' =>
  match lexS s with
  | .error (i, e) => ae = .ret (.tup [.int .i64 (i : Nat), .int .i64 e]) ∧ H' = upd emp bp (some (.rows sz [z]))
  | .ok T => match P T with
    | .bad m => ae = .ret (.tup [.int .i64 (atI T s.length m), .int .i64 3]) ∧ H' = emp
    | .ok a m => if m < T.length then ae = .ret (.tup [.int .i64 (atI T s.length m), .int .i64 3]) ∧ H' = emp
      else ae = .ret (.tup [.int .i64 0, .int .i64 0]) ∧ H' = upd emp bp (some (.rows sz [f a]))
theorem one_sub {b : Nat} {o : AObj} {H : Hp} (h : H b = some o) : hsub (upd emp b (some o)) H := fun x o' hx => by
  by_cases c : x = b
  · subst c; rw [upd_same] at hx; rw [h]; exact hx
  · rw [upd_ne _ _ c] at hx; cases hx
theorem slV_sub (sz : Nat) (rows : List (List AV)) : Al.Sub (slV sz rows) (.isl sz rows) := by
  cases rows with
  | nil => exact Sub.nsl sz
  | cons => exact Sub.refl _
theorem Lex_err {s : Str} (hs : s.length ≤ 1000000) {i : Nat} {e : Int} (h : lexS s = .error (i, e)) : PCon env 42 [.str s] (.tup [.nsl, .int .i64 (i : Nat), .int .i64 e]) := by
  have := Lex_con s hs
  rw [h] at this
  exact this
theorem Lex_ok {s : Str} (hs : s.length ≤ 1000000) {T : List Tok} (h : lexS s = .ok T) : PCon env 42 [.str s] (.tup [.isl 4 (T.map Tok.row), .int .i64 0, .int .i64 0]) := by
  have := Lex_con s hs
  rw [h] at this
  exact pcon_weak this (Sub.tup (SubL.cons (slV_sub 4 _) (SubL.refl _)))
theorem lex_err_ne : ∀ (s : Str) (k i : Nat) (x : Nat × Int), lexH s k i = .error x → x.2 ≠ 0
  | [], k, i, x, h => by cases k <;> simp [lexH] at h
  | c :: r, k + 1, i, x, h => by
    rw [lexH] at h; exact lex_err_ne r k (i + 1) x h
  | c :: r, 0, i, x, h => by
    rw [lexH] at h
    split at h
    · exact lex_err_ne r 0 (i + 1) x h
    split at h
    · exact lex_err_ne r _ (i + 1) x h
    split at h
    · cases hl : lexH r ((firstS (c :: r)).1.text.length - 1) (i + 1) with
      | ok l => rw [hl] at h; cases h
      | error y => rw [hl] at h; cases h; exact lex_err_ne r _ _ _ hl
    · rename_i h1; cases h; exact h1
theorem lexS_err {s : Str} {i : Nat} {e : Int} (h : lexS s = .error (i, e)) : e ≠ 0 := by
  unfold lexS at h
  split at h
  · cases h; decide
  · exact lex_err_ne _ _ _ _ h
theorem read_err {α : Type} (s : Str) (hs : s.length ≤ 1000000) (g : FuncId) (bp sz : Nat) (z : List AV) (f : α → List AV) (P : List Tok → PR α) {i : Nat} {e : Int} (h : lexS s = .error (i, e)) : Con env 23 [.str s, .fn (.func g) [] [.ptr sz bp 0 0]] (upd emp bp (some (.rows sz [z]))) (readPost s bp sz z f P) := by
  have hL := Lex_err hs h
  have he := lexS_err h
  have hp : ∀ ae H', (ae = .ret (.tup [.int .i64 (i : Nat), .int .i64 e]) ∧ H' = upd emp bp (some (.rows sz [z]))) → readPost s bp sz z f P ae H' := fun ae H' hh => by
    unfold readPost; rw [h]; exact hh
  refine Con.mono ?_ hp
  generalize hH0 : upd emp bp (some (.rows sz [z])) = H0
  have hbp : H0 bp = some (.rows sz [z]) := by rw [← hH0, upd_same]
  have hd : decide (e = 0) = false := decide_eq_false he
  refine con_of 41 [.cell 4 3, .cell 5 28] Tryd.func23 rfl rfl rfl rfl ?_
  refine awp_seq_k fun K hK => ?_
  refine awp_region rfl ?_
  simp only [hbp, hd, RR, seval]
  refine awpN_intro fun b4 hn4 => ?_
  have nb4_bp : b4 ≠ bp := fun e => by rw [e] at hn4; simp only [hbp, RR, seval, reduceCtorEq] at hn4
  have nbp_b4 : bp ≠ b4 := fun e => nb4_bp e.symm
  simp only [hbp, nb4_bp, nbp_b4, hd, RR, seval]
  refine awpN_intro fun b5 hn5 => ?_
  have nb5_bp : b5 ≠ bp := fun e => by rw [e] at hn5; simp only [hbp, nb4_bp, nbp_b4, RR, seval, reduceCtorEq] at hn5
  have nbp_b5 : bp ≠ b5 := fun e => nb5_bp e.symm
  have nb5_b4 : b5 ≠ b4 := fun e => by rw [e] at hn5; simp only [nb4_bp, nbp_b4, RR, seval, reduceCtorEq] at hn5
  have nb4_b5 : b4 ≠ b5 := fun e => nb5_b4 e.symm
  simp only [hbp, nb4_bp, nbp_b4, nb5_bp, nbp_b5, nb5_b4, nb4_b5, hd, RR, seval]
  refine hK _ _ ?_; clear hK K
  refine awp_seq_k fun K hK => ?_
  refine awp_region rfl ?_
  simp only [hbp, nb4_bp, nbp_b4, nb5_bp, nbp_b5, nb5_b4, nb4_b5, hd, RR, seval]
  refine awpC_pure' (hL) ?_
  simp only [hbp, nb4_bp, nbp_b4, nb5_bp, nbp_b5, nb5_b4, nb4_b5, hd, RR, seval]
  refine hK _ _ ?_; clear hK K
  refine awp_seq ?_
  refine awp_seq_k fun K hK => ?_
  refine awp_region rfl ?_
  simp only [hd, RR, seval]
  refine hK _ _ ?_; clear hK K
  refine awp_if true rfl (fun _ => ?_) (fun hc => by cases hc)
  refine awp_seq_k fun K hK => ?_
  refine awp_region rfl ?_
  simp only [hbp, nb4_bp, nbp_b4, nb5_bp, nbp_b5, nb5_b4, nb4_b5, hd, RR, seval]
  refine hK _ _ ?_; clear hK K
  refine awp_ret ?_; simp only [bodyQ, aresult, ares, hbp, nb4_bp, nbp_b4, nb5_bp, nbp_b5, nb5_b4, nb4_b5, hd, RR, seval]
  rw [← hH0]
  refine ⟨_, _, Turn.drop (one_sub (o := .rows sz [z]) ?_), rfl, rfl⟩
  first | exact hbp | (simp only [hbp, nb4_bp, nbp_b4, nb5_bp, nbp_b5, nb5_b4, nb4_b5, hd, upd_app, RR, seval]; done)
theorem awpC_rdp {F : Nat → Prop} {ds : List (Option Nat)} {Q : APost} {d : Option Nat} {rest : List Oper} {fr : Fr} {H : Hp} {g : FuncId} {args : List AV} {b : Nat} {T : List Tok} {n n' e : Nat} {f : Unit → AV}
    (hc : RCon g args b T n e f (.bad n')) (hb : H b = some (.rows 3 [[.isl 4 (T.map Tok.row), .int .i64 (n : Nat), .int .i64 (e : Nat)]])) (hF : F b)
    (hbad : ∀ H', (∀ x o, x ≠ b → H x = some o → H' x = some o) → Q (.pan (wrongV (atI T e n'))) frU H') : awpC env F ds Q d rest fr H g (.ptr 3 b 0 0 :: args) := by
  refine awpC_con hc (SubL.refl _) (rdH_sub hb) (fun x hx => ?_) fun ae H' hr hnew => ?_
  · by_cases c : x = b
    · subst c; exact hF
    · rw [rdH, upd_ne _ _ c] at hx; exact absurd rfl hx
  · obtain rfl := hr
    refine hbad _ fun x o h1 hx => ?_
    have h0 : rdH b T n e x = none := by rw [rdH, upd_ne _ _ h1]; rfl
    have h' : H' x = none := by
      cases h : H' x with
      | none => rfl
      | some o' =>
        rcases hnew x (by rw [h]; simp) with c | c
        · exact absurd h0 c
        · rw [hx] at c; cases c
    simp only [hjoin, h', h0, hx, Option.isSome_none, Bool.false_eq_true, if_false]
theorem read_ok {α : Type} (s : Str) (hs : s.length ≤ 1000000) (g : FuncId) (bp sz : Nat) (z : List AV) (f : α → List AV) (P : List Tok → PR α) {T : List Tok} (h : lexS s = .ok T) (hT : Sz T) (hP : ∀ a m, P T = .ok a m → m ≤ T.length)
    (hW : ∀ b, b ≠ bp → WCon g b bp T 0 s.length sz z f (P T)) : Con env 23 [.str s, .fn (.func g) [] [.ptr sz bp 0 0]] (upd emp bp (some (.rows sz [z]))) (readPost s bp sz z f P) := by
  have hL := Lex_ok hs h
  have hp : readPost s bp sz z f P = fun (ae : AEnd) (H' : Hp) => match P T with
    | .bad m => ae = AEnd.ret (.tup [.int .i64 (atI T s.length m), .int .i64 3]) ∧ H' = emp
    | .ok a m => if m < T.length then ae = AEnd.ret (.tup [.int .i64 (atI T s.length m), .int .i64 3]) ∧ H' = emp
      else ae = AEnd.ret (.tup [.int .i64 0, .int .i64 0]) ∧ H' = upd emp bp (some (.rows sz [f a])) := by
    funext ae H'
    unfold readPost; rw [h]
  rw [hp]
  generalize hR : (fun (ae : AEnd) (H' : Hp) => match P T with
    | .bad m => ae = AEnd.ret (.tup [.int .i64 (atI T s.length m), .int .i64 3]) ∧ H' = emp
    | .ok a m => if m < T.length then ae = AEnd.ret (.tup [.int .i64 (atI T s.length m), .int .i64 3]) ∧ H' = emp
      else ae = AEnd.ret (.tup [.int .i64 0, .int .i64 0]) ∧ H' = upd emp bp (some (.rows sz [f a]))) = R
  have rbad : ∀ m, P T = .bad m → R (.ret (.tup [.int .i64 (atI T s.length m), .int .i64 3])) emp := fun m hm => by
    rw [← hR]; simp only [hm]; refine ⟨?_, ?_⟩ <;> first | rfl | trivial
  have rmid : ∀ a m, P T = .ok a m → m < T.length → R (.ret (.tup [.int .i64 (atI T s.length m), .int .i64 3])) emp := fun a m hm hl => by
    rw [← hR]; simp only [hm, if_pos hl]; refine ⟨?_, ?_⟩ <;> first | rfl | trivial
  have rok : ∀ a m, P T = .ok a m → ¬ m < T.length → R (.ret (.tup [.int .i64 0, .int .i64 0])) (upd emp bp (some (.rows sz [f a]))) := fun a m hm hl => by
    rw [← hR]; simp only [hm, if_neg hl]; refine ⟨?_, ?_⟩ <;> first | rfl | trivial
  clear hR hp
  generalize hH0 : upd emp bp (some (.rows sz [z])) = H0
  have hbp : H0 bp = some (.rows sz [z]) := by rw [← hH0, upd_same]
  clear hH0
  refine con_of_X 41 Tryd.func23 rfl rfl rfl ?_
  refine awpX_seq_k fun K hK => ?_
  refine awp_region rfl ?_
  simp only [hbp, List.length_map, RR, seval]
  refine awpN_intro fun b4 hn4 => ?_
  have nb4_bp : b4 ≠ bp := fun e => by rw [e] at hn4; simp only [hbp, RR, seval, reduceCtorEq] at hn4
  have nbp_b4 : bp ≠ b4 := fun e => nb4_bp e.symm
  simp only [hbp, nb4_bp, nbp_b4, List.length_map, RR, seval]
  refine awpN_intro fun b5 hn5 => ?_
  have nb5_bp : b5 ≠ bp := fun e => by rw [e] at hn5; simp only [hbp, nb4_bp, nbp_b4, RR, seval, reduceCtorEq] at hn5
  have nbp_b5 : bp ≠ b5 := fun e => nb5_bp e.symm
  have nb5_b4 : b5 ≠ b4 := fun e => by rw [e] at hn5; simp only [nb4_bp, nbp_b4, RR, seval, reduceCtorEq] at hn5
  have nb4_b5 : b4 ≠ b5 := fun e => nb5_b4 e.symm
  simp only [hbp, nb4_bp, nbp_b4, nb5_bp, nbp_b5, nb5_b4, nb4_b5, List.length_map, RR, seval]
  refine hK _ _ ?_; clear hK K
  refine awpX_seq_k fun K hK => ?_
  refine awp_region rfl ?_
  simp only [hbp, nb4_bp, nbp_b4, nb5_bp, nbp_b5, nb5_b4, nb4_b5, List.length_map, RR, seval]
  refine awpC_pure' (hL) ?_
  simp only [hbp, nb4_bp, nbp_b4, nb5_bp, nbp_b5, nb5_b4, nb4_b5, List.length_map, RR, seval]
  refine hK _ _ ?_; clear hK K
  refine awpX_seq ?_
  refine awp_seq_k fun K hK => ?_
  refine awp_region rfl ?_
  simp only [List.length_map, RR, seval]
  refine hK _ _ ?_; clear hK K
  refine awp_if false rfl (fun hc => by cases hc) (fun _ => ?_)
  refine awp_skip ?_; try simp only [RR]
  refine awpX_defer (lo := 6) (caps := [.ptr 1 b4 0 0, .ptr 1 b5 0 0]) (Q := deferQ (DRun env 13 Bg [.ptr 1 b4 0 0, .ptr 1 b5 0 0] 5 [.cell 4 3, .cell 5 28] (frR b4 b5) R)) (by simp only [List.map_cons, List.map_nil, upd_app, RR, seval]) rfl (by decide) (by decide) (by decide) ?_ ?_
  rotate_left
  · intro γ γ' e' a' w' g1 g2 g3 g4 hpin hl
    refine leaves_of (Ng := 13) (fn := Tryd.f23) (gfn := Tryd.f43) rfl Tryd.func43 rfl rfl rfl rfl (by decide) rfl rfl g1 g2 g3 g4 (fun hh S w tt => ?_) hl
    show VRel S w (frR b4 b5 tt) _
    unfold frR
    by_cases ht : tt = 5
    · subst ht
      rw [upd_same, hh.2 5 (by decide), hpin 5 1 b5 0 0 (by decide) (by decide) (by simp only [upd_app, RR, seval])]
      simp only [VRel]
    · rw [upd_ne _ _ ht]
      by_cases ht : tt = 4
      · subst ht
        rw [upd_same, hh.2 4 (by decide), hpin 4 1 b4 0 0 (by decide) (by decide) (by simp only [upd_app, RR, seval])]
        simp only [VRel]
      · rw [upd_ne _ _ ht]
        simp only [VRel]
  refine awp_seq_k fun K hK => ?_
  refine awp_region rfl ?_
  simp only [hbp, nb4_bp, nbp_b4, nb5_bp, nbp_b5, nb5_b4, nb4_b5, List.length_map, RR, seval]
  refine awpN_intro fun b25 hn25 => ?_
  have nb25_bp : b25 ≠ bp := fun e => by rw [e] at hn25; simp only [hbp, nb4_bp, nbp_b4, nb5_bp, nbp_b5, RR, seval, reduceCtorEq] at hn25
  have nbp_b25 : bp ≠ b25 := fun e => nb25_bp e.symm
  have nb25_b4 : b25 ≠ b4 := fun e => by rw [e] at hn25; simp only [nb4_bp, nbp_b4, nb5_bp, nbp_b5, nb5_b4, nb4_b5, RR, seval, reduceCtorEq] at hn25
  have nb4_b25 : b4 ≠ b25 := fun e => nb25_b4 e.symm
  have nb25_b5 : b25 ≠ b5 := fun e => by rw [e] at hn25; simp only [nb4_bp, nbp_b4, nb5_bp, nbp_b5, nb5_b4, nb4_b5, RR, seval, reduceCtorEq] at hn25
  have nb5_b25 : b5 ≠ b25 := fun e => nb25_b5 e.symm
  simp only [hbp, nb4_bp, nbp_b4, nb5_bp, nbp_b5, nb5_b4, nb4_b5, nb25_bp, nbp_b25, nb25_b4, nb4_b25, nb25_b5, nb5_b25, List.length_map, RR, seval]
  refine hK _ _ ?_; clear hK K
  refine awp_name fun F1 M1 hfr hH => ?_
  have g1 := hfr 1
  have g4 := hfr 4
  have g5 := hfr 5
  have g9 := hfr 9
  have gbp := hH bp
  have gb4 := hH b4
  have gb5 := hH b5
  have gb25 := hH b25
  try simp only [hbp, nb4_bp, nbp_b4, nb5_bp, nbp_b5, nb5_b4, nb4_b5, nb25_bp, nbp_b25, nb25_b4, nb4_b25, nb25_b5, nb5_b25, List.length_map, RR, seval] at g1 g4 g5 g9 gbp gb4 gb5 gb25
  have f1 := g1; clear g1
  have f4 := g4; clear g4
  have f5 := g5; clear g5
  have f9 := g9; clear g9
  have hbp := gbp; clear gbp
  have hb4 := gb4; clear gb4
  have hb5 := gb5; clear gb5
  have hb25 := gb25; clear gb25
  clear hfr hH
  refine awp_seq_k fun K hK => ?_
  refine awp_region rfl ?_
  simp only [f1, f9, hbp, hb4, hb5, hb25, nb4_bp, nbp_b4, nb5_bp, nbp_b5, nb5_b4, nb4_b5, nb25_bp, nbp_b25, nb25_b4, nb4_b25, nb25_b5, nb5_b25, List.length_map, RR, seval]
  refine awpC_what (hW b25 nb25_bp) nb25_bp hb25 hbp (fun _ => trivial) ?_ ?_
  · intro n1 H1 hbd hk
    simp only [thenQ_pan, blockQ_pan]
    exact read_dp b4 b5 H1 R 0 0 _ nb4_b5 (hk b4 _ nb4_b25 nb4_bp hb4) (hk b5 _ nb5_b25 nb5_bp hb5) (rbad n1 hbd)
  intro a m M9 hpo hr25 hrbp hk
  have hm := hP a m hpo
  have hb4 := hk b4 _ nb4_b25 nb4_bp hb4
  have hb5 := hk b5 _ nb5_b25 nb5_bp hb5
  have hb25 := hr25
  have hbp := hrbp
  clear hk hr25 hrbp
  simp only [f1, f4, f5, f9, hbp, hb4, hb5, hb25, nb4_bp, nbp_b4, nb5_bp, nbp_b5, nb5_b4, nb4_b5, nb25_bp, nbp_b25, nb25_b4, nb4_b25, nb25_b5, nb5_b25, List.length_map, List.length_map, RR, seval]
  refine hK _ _ ?_; clear hK K
  refine awp_seq ?_
  refine awp_seq_k fun K hK => ?_
  refine awp_region_draw2 (fun x => x ≠ bp ∧ x ≠ b4 ∧ x ≠ b5 ∧ x ≠ b25) [(0, 3), (1, 3), (2, 3), (3, 1), (4, 3), (5, 3), (6, 3), (7, 1), (8, 3), (9, 3)] [] draws (by kernel_rfl) rfl rfl ?_
  simp only [emitF, markOf, EM, f9, hbp, hb4, hb5, hb25, nb4_bp, nbp_b4, nb5_bp, nbp_b5, nb5_b4, nb4_b5, nb25_bp, nbp_b25, nb25_b4, nb4_b25, nb25_b5, nb5_b25, List.length_map, RR, seval]
  refine hK _ _ ?_; clear hK K
  refine awp_if _ rfl (fun hc7 => ?_) (fun hc7 => ?_)
  · have hlt : m < T.length := by have := of_decide_eq_true hc7; omega
    refine awp_region rfl ?_
    simp only [f9, hbp, hb4, hb5, hb25, nb4_bp, nbp_b4, nb5_bp, nbp_b5, nb5_b4, nb4_b5, nb25_bp, nbp_b25, nb25_b4, nb4_b25, nb25_b5, nb5_b25, List.length_map, RR, seval]
    refine awpC_rdp (fail_con b25 T m s.length hm (fun _ : Unit => .tup [])) hb25 trivial fun H1 hk => ?_
    simp only [thenQ_pan, blockQ_pan]
    exact read_dp b4 b5 H1 R 0 0 _ nb4_b5 (hk b4 _ nb4_b25 hb4) (hk b5 _ nb5_b25 hb5) (rmid a m hpo hlt)
  · have hlt : ¬ m < T.length := by have := of_decide_eq_false hc7; omega
    refine awp_skip ?_; try simp only [RR]
    refine awp_seq_k fun K hK => ?_
    refine awp_region rfl ?_
    simp only [f4, f5, hbp, hb4, hb5, hb25, nb4_bp, nbp_b4, nb5_bp, nbp_b5, nb5_b4, nb4_b5, nb25_bp, nbp_b25, nb25_b4, nb4_b25, nb25_b5, nb5_b25, List.length_map, RR, seval]
    refine hK _ _ ?_; clear hK K
    refine awp_ret ?_
    refine read_dn b4 b5 _ R 0 0 (by simp only [f1, f4, f5, f9, hbp, hb4, hb5, hb25, nb4_bp, nbp_b4, nb5_bp, nbp_b5, nb5_b4, nb4_b5, nb25_bp, nbp_b25, nb25_b4, nb4_b25, nb25_b5, nb5_b25, List.length_map, upd_app, RR, seval]) (by simp only [f1, f4, f5, f9, hbp, hb4, hb5, hb25, nb4_bp, nbp_b4, nb5_bp, nbp_b5, nb5_b4, nb4_b5, nb25_bp, nbp_b25, nb25_b4, nb4_b25, nb25_b5, nb5_b25, List.length_map, upd_app, RR, seval]) ⟨_, _, Turn.drop (one_sub (o := .rows sz [f a]) ?_), rok a m hpo hlt⟩
    first | exact hbp | (simp only [f1, f4, f5, f9, hbp, hb4, hb5, hb25, nb4_bp, nbp_b4, nb5_bp, nbp_b5, nb5_b4, nb4_b5, nb25_bp, nbp_b25, nb25_b4, nb4_b25, nb25_b5, nb5_b25, List.length_map, upd_app, RR, seval]; done)
end Go.Proofs.YtlpeikljipknoaaDoor

namespace Go.Proofs.YtlpeikljipknoaaDoor
open Go.Al
def resP (r : Pg × Int × Int) : AV := .tup [r.1.av, .int .i64 r.2.1, .int .i64 r.2.2]
def resE (r : Ex × Int × Int) : AV := .tup [.agg r.1.row, .int .i64 r.2.1, .int .i64 r.2.2]
theorem progP_end {T : List Tok} {p : Pg} {m : Nat} (h : progP T 0 = .ok p m) : m = T.length := by
  unfold progP at h
  obtain ⟨va, a1, h1, h⟩ := PR.bind_eq_ok h
  obtain ⟨g, a2, h2, h⟩ := PR.bind_eq_ok h
  obtain ⟨fs, a3, h3, h⟩ := PR.bind_eq_ok h
  cases h
  have := funP_far h2
  exact funsP_far (by omega) h3
theorem pg_sub0 : SubL [.nsl, .nsl, .nsl] pgZ.row := SubL.cons (Sub.nsl 1) (SubL.cons (Sub.nsl 2) (SubL.cons (Sub.nsl 5) (SubL.refl _)))
theorem awpC_read {α : Type} {F : Nat → Prop} {ds : List (Option Nat)} {Q : APost} {d : Option Nat} {rest : List Oper} {fr : Fr} {H : Hp} {g : FuncId} {s : Str} {bp sz : Nat} {z : List AV} {f : α → List AV} {P : List Tok → PR α}
    (hc : Con env 23 [.str s, .fn (.func g) [] [.ptr sz bp 0 0]] (upd emp bp (some (.rows sz [z]))) (readPost s bp sz z f P)) (hp : H bp = some (.rows sz [z])) (hF : ∀ b, F b)
    (h : ∀ i j H', ((j ≠ 0 ∧ (match lexS s with | .error (a, b) => i = (a : Int) ∧ j = b | .ok T => j = 3 ∧ match P T with | .bad m => i = atI T s.length m | .ok _ m => m < T.length ∧ i = atI T s.length m)) ∨
      (i = 0 ∧ j = 0 ∧ ∃ T a m, lexS s = .ok T ∧ P T = .ok a m ∧ ¬ m < T.length ∧ H' bp = some (.rows sz [f a]))) → (∀ x o, x ≠ bp → H x = some o → H' x = some o) → awpL env F ds Q rest (putF fr d (.tup [.int .i64 i, .int .i64 j])) H') :
    awpC env F ds Q d rest fr H 23 [.str s, .fn (.func g) [] [.ptr sz bp 0 0]] := by
  refine awpC_con hc (SubL.refl _) (one_sub hp) (fun x _ => hF x) fun ae H' hr hnew => ?_
  have keep : ∀ x o, x ≠ bp → H x = some o → hjoin H' (upd emp bp (some (.rows sz [z]))) H x = some o := fun x o h1 hx => by
    have h0 : upd emp bp (some (.rows sz [z])) x = none := by rw [upd_ne _ _ h1]; rfl
    have h' : H' x = none := by
      cases h : H' x with
      | none => rfl
      | some o' =>
        rcases hnew x (by rw [h]; simp) with c | c
        · exact absurd h0 c
        · rw [hx] at c; cases c
    simp only [hjoin, h', h0, hx, Option.isSome_none, Bool.false_eq_true, if_false]
  unfold readPost at hr
  cases hl : lexS s with
  | error x =>
    obtain ⟨i, e⟩ := x
    rw [hl] at hr
    simp only at hr
    obtain ⟨rfl, rfl⟩ := hr
    exact h _ _ _ (.inl ⟨lexS_err hl, by rw [hl]; exact ⟨rfl, rfl⟩⟩) keep
  | ok T =>
    rw [hl] at hr
    simp only at hr
    cases hpt : P T with
    | bad m =>
      rw [hpt] at hr
      obtain ⟨rfl, rfl⟩ := hr
      exact h _ _ _ (.inl ⟨by decide, by rw [hl]; simp only [hpt]; exact ⟨trivial, trivial⟩⟩) keep
    | ok a m =>
      rw [hpt] at hr
      simp only at hr
      split at hr
      · rename_i hlt
        obtain ⟨rfl, rfl⟩ := hr
        exact h _ _ _ (.inl ⟨by decide, by rw [hl]; simp only [hpt]; exact ⟨trivial, hlt, trivial⟩⟩) keep
      · rename_i hlt
        obtain ⟨rfl, rfl⟩ := hr
        exact h _ _ _ (.inr ⟨rfl, rfl, T, a, m, hl, hpt, hlt, by simp only [hjoin, upd_same]⟩) keep
theorem read_con {α : Type} (s : Str) (hs : s.length ≤ 1000000) (g : FuncId) (bp sz : Nat) (z : List AV) (f : α → List AV) (P : List Tok → PR α) (hP : ∀ T a m, P T = .ok a m → m ≤ T.length)
    (hW : ∀ T, Sz T → ∀ b, b ≠ bp → WCon g b bp T 0 s.length sz z f (P T)) : Con env 23 [.str s, .fn (.func g) [] [.ptr sz bp 0 0]] (upd emp bp (some (.rows sz [z]))) (readPost s bp sz z f P) := by
  cases h : lexS s with
  | error x => obtain ⟨i, e⟩ := x; exact read_err s hs g bp sz z f P h
  | ok T => exact read_ok s hs g bp sz z f P h (lexS_sz h) (hP T) (hW T (lexS_sz h))
set_option maxHeartbeats 4000000 in
theorem pProg_con (s : Str) (hs : s.length ≤ 1000000) : PCon env 12 [.str s] (resP (srcP s)) := by
  have hrd := fun bp => read_con s hs 24 bp 3 [.nsl, .nsl, .nsl] Pg.row (fun T => progP T 0) (fun T a m h => by have := progP_end h; omega) fun T hT b hne => prog1_con b bp hT 0 s.length (Nat.zero_le _) hne .nsl .nsl .nsl
  generalize hres : srcP s = res
  unfold srcP at hres
  have hz : Al.Sub (.agg [.nsl, .nsl, .nsl]) pgZ.av := Sub.agg pg_sub0
  refine con_of 24 [.cell 2 27, .tmp 3, .tmp 4] Tryd.func12 rfl rfl rfl rfl ?_
  refine awp_seq_k fun K hK => ?_
  refine awp_region rfl ?_
  simp only [RR, seval]
  refine awpN_intro fun b2 hn2 => ?_
  simp only [RR, seval]
  refine hK _ _ ?_; clear hK K
  refine awp_seq_k fun K hK => ?_
  refine awp_region rfl ?_
  simp only [RR, seval]
  refine awpN_intro fun b5 hn5 => ?_
  have nb5_b2 : b5 ≠ b2 := fun e => by rw [e] at hn5; simp only [RR, seval, reduceCtorEq] at hn5
  have nb2_b5 : b2 ≠ b5 := fun e => nb5_b2 e.symm
  simp only [nb5_b2, nb2_b5, RR, seval]
  refine hK _ _ ?_; clear hK K
  refine awp_name fun F1 M1 hfr hH => ?_
  have g0 := hfr 0
  have g2 := hfr 2
  have g3 := hfr 3
  have g4 := hfr 4
  have g5 := hfr 5
  have gb2 := hH b2
  have gb5 := hH b5
  try simp only [nb5_b2, nb2_b5, RR, seval] at g0 g2 g3 g4 g5 gb2 gb5
  have f0 := g0; clear g0
  have f2 := g2; clear g2
  have f3 := g3; clear g3
  have f4 := g4; clear g4
  have f5 := g5; clear g5
  have hb2 := gb2; clear gb2
  have hb5 := gb5; clear gb5
  clear hfr hH
  refine awp_seq_k fun K hK => ?_
  refine awp_region rfl ?_
  simp only [f0, f5, hb2, hb5, nb5_b2, nb2_b5, RR, seval]
  refine awpC_read (hrd b5) hb5 (fun _ => trivial) (fun i j M9 hij hk => ?_)
  have hb2 := hk b2 _ nb2_b5 hb2
  clear hk
  simp only [hb2, RR, seval]
  refine hK _ _ ?_; clear hK K
  refine awp_seq ?_
  refine awp_seq_k fun K hK => ?_
  refine awp_region rfl ?_
  simp only [RR, seval]
  refine hK _ _ ?_; clear hK K
  refine awp_if _ rfl (fun hc3 => ?_) (fun hc3 => ?_)
  · have hj : j ≠ 0 := by simpa using hc3
    have hr : res = (pgZ, i, j) := by
      rcases hij with ⟨_, hij⟩ | ⟨_, h0, _⟩
      · rw [← hres]
        cases hl : lexS s with
        | error x => rw [hl] at hij; obtain ⟨rfl, rfl⟩ := hij; rfl
        | ok T =>
          rw [hl] at hij
          obtain ⟨rfl, hij⟩ := hij
          simp only
          cases hp : progP T 0 with
          | bad m => simp only [hp] at hij ⊢; rw [hij]
          | ok p m => simp only [hp] at hij ⊢; rw [if_pos hij.1, hij.2]
      · exact absurd h0 hj
    subst hr
    refine awp_seq_k fun K hK => ?_
    refine awp_region rfl ?_
    simp only [f2, hb2, nb5_b2, nb2_b5, RR, seval]
    refine hK _ _ ?_; clear hK K
    refine awp_ret ?_; simp only [bodyQ, aresult, ares, f0, f2, f3, f4, f5, hb2, nb5_b2, nb2_b5, RR, seval]
    refine ⟨resP _, emp, (Turn.sub ?_).trans (Turn.drop (hsub_emp _)), rfl, rfl⟩
    first | exact Sub.refl _ | exact Sub.tup (SubL.cons hz (SubL.refl _))
  · have hj : j = 0 := by simpa using hc3
    obtain ⟨T, p, m, hl, hp, hm, hb5⟩ : ∃ T p m, lexS s = .ok T ∧ progP T 0 = .ok p m ∧ ¬ m < T.length ∧ M9 b5 = some (.rows 3 [Pg.row p]) := by
      rcases hij with ⟨h0, _⟩ | ⟨_, _, h⟩
      · exact absurd hj h0
      · exact h
    simp only [hl, hp, if_neg hm] at hres
    have hT := lexS_sz hl
    have hok := progP_ok hT (Nat.zero_le _) hp
    have hR := pRight_con p hok.1
    rw [Pg.row] at hb5
    rw [Pg.av, Pg.row] at hR
    refine awp_skip ?_; try simp only [RR]
    refine awp_seq ?_
    refine awp_seq_k fun K hK => ?_
    refine awp_region rfl ?_
    simp only [f5, hb2, hb5, nb5_b2, nb2_b5, RR, seval]
    refine awpC_pure' (hR) ?_
    simp only [f5, hb2, hb5, nb5_b2, nb2_b5, RR, seval]
    refine hK _ _ ?_; clear hK K
    refine awp_if _ rfl (fun hc5 => ?_) (fun hc5 => ?_)
    · have hr : ¬ rightP p = true := by simpa using hc5
      rw [if_neg hr] at hres
      subst hres
      refine awp_seq_k fun K hK => ?_
      refine awp_region rfl ?_
      simp only [f2, hb2, hb5, nb5_b2, nb2_b5, RR, seval]
      refine hK _ _ ?_; clear hK K
      refine awp_ret ?_; simp only [bodyQ, aresult, ares, f0, f2, f3, f4, f5, hb2, hb5, nb5_b2, nb2_b5, RR, seval]
      refine ⟨resP _, emp, (Turn.sub ?_).trans (Turn.drop (hsub_emp _)), rfl, rfl⟩
      first | exact Sub.refl _ | exact Sub.tup (SubL.cons hz (SubL.refl _))
    · have hr : rightP p = true := by simpa using hc5
      rw [if_pos hr] at hres
      subst hres
      refine awp_skip ?_; try simp only [RR]
      refine awp_seq_k fun K hK => ?_
      refine awp_region rfl ?_
      simp only [f2, f5, hb2, hb5, nb5_b2, nb2_b5, RR, seval]
      refine hK _ _ ?_; clear hK K
      refine awp_ret ?_; simp only [bodyQ, aresult, ares, f0, f2, f3, f4, f5, hb2, hb5, nb5_b2, nb2_b5, RR, seval]
      refine ⟨resP _, emp, (Turn.sub ?_).trans (Turn.drop (hsub_emp _)), rfl, rfl⟩
      first | exact Sub.refl _ | exact Sub.tup (SubL.cons hz (SubL.refl _))
theorem alone_ok {e : Ex} (he : e.ok) : (aloneP e).ok := by
  refine ⟨⟨by simp [aloneP, fitL], fun s h => by cases h⟩, by simp [aloneP, fitL], (fun a h => by cases h), by simp [aloneP, fitL], fun f hf => ?_⟩
  simp only [aloneP, List.mem_singleton] at hf
  subst hf
  exact ⟨by simp [fitL], ⟨by simp [fitL], (fun s h => by cases h)⟩, ⟨by simp [fitL], fun s h => by cases h⟩, ⟨by simp [fitL], fun s hs => by rw [List.mem_singleton] at hs; rw [hs]; exact sm_mk _ (by simp [i64R]) f0L (okE1 he) okS0 okS0⟩⟩
set_option maxHeartbeats 4000000 in
theorem pExpr_con (s : Str) (hs : s.length ≤ 1000000) : PCon env 15 [.str s] (resE (srcE s)) := by
  have hrd := fun bp => read_con s hs 32 bp 5 [.int .i64 0, .int .i64 0, .int .u32 0, .str [], .nsl] (fun x : Ex => [.int .i64 x.kind, .int .i64 x.op, .int .u32 x.num, .str x.name, .isl 5 (x.kids.map Ex.row)]) (fun T => exprP T 1 0) (fun T a m h => (exprP_far h).2) fun T hT b hne => expr1_con b bp hT 0 s.length (Nat.zero_le _) hne (.int .i64 0) (.int .i64 0) (.int .u32 0) (.str []) .nsl
  generalize hres : srcE s = res
  unfold srcE at hres
  refine con_of 34 [.cell 2 36, .tmp 3, .tmp 4] Tryd.func15 rfl rfl rfl rfl ?_
  refine awp_seq_k fun K hK => ?_
  refine awp_region rfl ?_
  simp only [RR, seval]
  refine awpN_intro fun b2 hn2 => ?_
  simp only [RR, seval]
  refine hK _ _ ?_; clear hK K
  refine awp_seq_k fun K hK => ?_
  refine awp_region rfl ?_
  simp only [RR, seval]
  refine awpN_intro fun b5 hn5 => ?_
  have nb5_b2 : b5 ≠ b2 := fun e => by rw [e] at hn5; simp only [RR, seval, reduceCtorEq] at hn5
  have nb2_b5 : b2 ≠ b5 := fun e => nb5_b2 e.symm
  simp only [nb5_b2, nb2_b5, RR, seval]
  refine hK _ _ ?_; clear hK K
  refine awp_name fun F1 M1 hfr hH => ?_
  have g0 := hfr 0
  have g2 := hfr 2
  have g3 := hfr 3
  have g4 := hfr 4
  have g5 := hfr 5
  have gb2 := hH b2
  have gb5 := hH b5
  try simp only [nb5_b2, nb2_b5, RR, seval] at g0 g2 g3 g4 g5 gb2 gb5
  have f0 := g0; clear g0
  have f2 := g2; clear g2
  have f3 := g3; clear g3
  have f4 := g4; clear g4
  have f5 := g5; clear g5
  have hb2 := gb2; clear gb2
  have hb5 := gb5; clear gb5
  clear hfr hH
  refine awp_seq_k fun K hK => ?_
  refine awp_region rfl ?_
  simp only [f0, f5, hb2, hb5, nb5_b2, nb2_b5, RR, seval]
  refine awpC_read (hrd b5) hb5 (fun _ => trivial) (fun i j M9 hij hk => ?_)
  have hb2 := hk b2 _ nb2_b5 hb2
  clear hk
  simp only [hb2, RR, seval]
  refine hK _ _ ?_; clear hK K
  refine awp_seq ?_
  refine awp_seq_k fun K hK => ?_
  refine awp_region rfl ?_
  simp only [RR, seval]
  refine hK _ _ ?_; clear hK K
  refine awp_if _ rfl (fun hc3 => ?_) (fun hc3 => ?_)
  · have hj : j ≠ 0 := by simpa using hc3
    have hr : res = (exZ, i, j) := by
      rcases hij with ⟨_, hij⟩ | ⟨_, h0, _⟩
      · rw [← hres]
        cases hl : lexS s with
        | error x => rw [hl] at hij; obtain ⟨rfl, rfl⟩ := hij; rfl
        | ok T =>
          rw [hl] at hij
          obtain ⟨rfl, hij⟩ := hij
          simp only
          cases hp : exprP T 1 0 with
          | bad m => simp only [hp] at hij ⊢; rw [hij]
          | ok p m => simp only [hp] at hij ⊢; rw [if_pos hij.1, hij.2]
      · exact absurd h0 hj
    subst hr
    refine awp_seq_k fun K hK => ?_
    refine awp_region rfl ?_
    simp only [f2, hb2, nb5_b2, nb2_b5, RR, seval]
    refine hK _ _ ?_; clear hK K
    refine awp_ret ?_; simp only [bodyQ, aresult, ares, f0, f2, f3, f4, f5, hb2, nb5_b2, nb2_b5, RR, seval]
    refine ⟨resE _, emp, (Turn.sub ?_).trans (Turn.drop (hsub_emp _)), rfl, rfl⟩
    simp only [resE, exZ, Ex.row_eq, Ex.kind, Ex.op, Ex.num, Ex.name, Ex.kids, List.map_nil]
    exact Sub.tup (SubL.cons (Sub.aggR (by repeat' (first | exact SubR.nil | exact SubRs.nil | exact Sub.refl _ | exact Sub.nsl _ | refine SubR.cons ?_ ?_ | refine SubRs.cons ?_ ?_ | refine Sub.isl ?_ | refine Sub.aggR ?_))) (SubL.refl _))
  · have hj : j = 0 := by simpa using hc3
    obtain ⟨T, x, m, hl, hp, hm, hb5⟩ : ∃ T x m, lexS s = .ok T ∧ exprP T 1 0 = .ok x m ∧ ¬ m < T.length ∧ M9 b5 = some (.rows 5 [[.int .i64 x.kind, .int .i64 x.op, .int .u32 x.num, .str x.name, .isl 5 (x.kids.map Ex.row)]]) := by
      rcases hij with ⟨h0, _⟩ | ⟨_, _, h⟩
      · exact absurd hj h0
      · exact h
    simp only [hl, hp, if_neg hm] at hres
    have hT := lexS_sz hl
    have hok := exprP_ok hT hp
    have hR := pRight_con (aloneP x) (alone_ok hok)
    generalize rightP (aloneP x) = rx at hres hR
    simp only [aloneP, Pg.av, Pg.row, Fu.row, Ex.row_eq, Sm.row_eq, List.map_cons, List.map_nil, strRow, Sm.kind, Sm.name, Sm.es, Sm.thn, Sm.els] at hR
    refine awp_skip ?_; try simp only [RR]
    refine awp_seq_k fun K hK => ?_
    refine awp_region rfl ?_
    simp only [f5, hb2, hb5, nb5_b2, nb2_b5, RR, seval]
    refine awpB_sealed ?_
    simp only [f5, hb2, hb5, nb5_b2, nb2_b5, RR, seval]
    refine awpN_intro fun b8 hn8 => ?_
    have nb8_b2 : b8 ≠ b2 := fun e => by rw [e] at hn8; simp only [hb2, nb5_b2, nb2_b5, RR, seval, reduceCtorEq] at hn8
    have nb2_b8 : b2 ≠ b8 := fun e => nb8_b2 e.symm
    have nb8_b5 : b8 ≠ b5 := fun e => by rw [e] at hn8; simp only [hb5, nb5_b2, nb2_b5, RR, seval, reduceCtorEq] at hn8
    have nb5_b8 : b5 ≠ b8 := fun e => nb8_b5 e.symm
    simp only [f5, hb2, hb5, nb5_b2, nb2_b5, nb8_b2, nb2_b8, nb8_b5, nb5_b8, RR, seval]
    refine hK _ _ ?_; clear hK K
    refine awp_seq_k fun K hK => ?_
    refine awp_region rfl ?_
    simp only [hb2, hb5, nb5_b2, nb2_b5, nb8_b2, nb2_b8, nb8_b5, nb5_b8, RR, seval]
    refine awpB_sealed ?_
    simp only [hb2, hb5, nb5_b2, nb2_b5, nb8_b2, nb2_b8, nb8_b5, nb5_b8, RR, seval]
    refine awpN_intro fun b9 hn9 => ?_
    have nb9_b2 : b9 ≠ b2 := fun e => by rw [e] at hn9; simp only [hb2, nb5_b2, nb2_b5, nb8_b2, nb2_b8, RR, seval, reduceCtorEq] at hn9
    have nb2_b9 : b2 ≠ b9 := fun e => nb9_b2 e.symm
    have nb9_b5 : b9 ≠ b5 := fun e => by rw [e] at hn9; simp only [hb5, nb5_b2, nb2_b5, nb8_b5, nb5_b8, RR, seval, reduceCtorEq] at hn9
    have nb5_b9 : b5 ≠ b9 := fun e => nb9_b5 e.symm
    have nb9_b8 : b9 ≠ b8 := fun e => by rw [e] at hn9; simp only [nb8_b2, nb2_b8, nb8_b5, nb5_b8, RR, seval, reduceCtorEq] at hn9
    have nb8_b9 : b8 ≠ b9 := fun e => nb9_b8 e.symm
    simp only [hb2, hb5, nb5_b2, nb2_b5, nb8_b2, nb2_b8, nb8_b5, nb5_b8, nb9_b2, nb2_b9, nb9_b5, nb5_b9, nb9_b8, nb8_b9, RR, seval]
    refine hK _ _ ?_; clear hK K
    refine awp_seq ?_
    refine awp_seq_k fun K hK => ?_
    refine awp_region rfl ?_
    simp only [hb2, hb5, nb5_b2, nb2_b5, nb8_b2, nb2_b8, nb8_b5, nb5_b8, nb9_b2, nb2_b9, nb9_b5, nb5_b9, nb9_b8, nb8_b9, RR, seval]
    refine awpB_sealed ?_
    simp only [hb2, hb5, nb5_b2, nb2_b5, nb8_b2, nb2_b8, nb8_b5, nb5_b8, nb9_b2, nb2_b9, nb9_b5, nb5_b9, nb9_b8, nb8_b9, RR, seval]
    refine awpC_pure hR (by refine SubR.list ?_; repeat' (first | exact SubR.nil | exact SubRs.nil | exact Sub.refl _ | exact Sub.nsl _ | refine SubR.cons ?_ ?_ | refine SubRs.cons ?_ ?_ | refine Sub.isl ?_ | refine Sub.aggR ?_)) ?_
    simp only [hb2, hb5, nb5_b2, nb2_b5, nb8_b2, nb2_b8, nb8_b5, nb5_b8, nb9_b2, nb2_b9, nb9_b5, nb5_b9, nb9_b8, nb8_b9, RR, seval]
    refine hK _ _ ?_; clear hK K
    refine awp_if _ rfl (fun hc7 => ?_) (fun hc7 => ?_)
    · have hr : ¬ rx = true := by simpa using hc7
      rw [if_neg hr] at hres
      subst hres
      refine awp_seq_k fun K hK => ?_
      refine awp_region rfl ?_
      simp only [f2, hb2, hb5, nb5_b2, nb2_b5, nb8_b2, nb2_b8, nb8_b5, nb5_b8, nb9_b2, nb2_b9, nb9_b5, nb5_b9, nb9_b8, nb8_b9, RR, seval]
      refine hK _ _ ?_; clear hK K
      refine awp_ret ?_; simp only [bodyQ, aresult, ares, f0, f2, f3, f4, f5, hb2, hb5, nb5_b2, nb2_b5, nb8_b2, nb2_b8, nb8_b5, nb5_b8, nb9_b2, nb2_b9, nb9_b5, nb5_b9, nb9_b8, nb8_b9, RR, seval]
      refine ⟨resE _, emp, (Turn.sub ?_).trans (Turn.drop (hsub_emp _)), rfl, rfl⟩
      simp only [resE, exZ, Ex.row_eq, Ex.kind, Ex.op, Ex.num, Ex.name, Ex.kids, List.map_nil]
      exact Sub.tup (SubL.cons (Sub.aggR (by repeat' (first | exact SubR.nil | exact SubRs.nil | exact Sub.refl _ | exact Sub.nsl _ | refine SubR.cons ?_ ?_ | refine SubRs.cons ?_ ?_ | refine Sub.isl ?_ | refine Sub.aggR ?_))) (SubL.refl _))
    · have hr : rx = true := by simpa using hc7
      rw [if_pos hr] at hres
      subst hres
      refine awp_skip ?_; try simp only [RR]
      refine awp_seq_k fun K hK => ?_
      refine awp_region rfl ?_
      simp only [f2, f5, hb2, hb5, nb5_b2, nb2_b5, nb8_b2, nb2_b8, nb8_b5, nb5_b8, nb9_b2, nb2_b9, nb9_b5, nb5_b9, nb9_b8, nb8_b9, RR, seval]
      refine hK _ _ ?_; clear hK K
      refine awp_ret ?_; simp only [bodyQ, aresult, ares, f0, f2, f3, f4, f5, hb2, hb5, nb5_b2, nb2_b5, nb8_b2, nb2_b8, nb8_b5, nb5_b8, nb9_b2, nb2_b9, nb9_b5, nb5_b9, nb9_b8, nb8_b9, RR, seval]
      refine ⟨resE _, emp, (Turn.sub ?_).trans (Turn.drop (hsub_emp _)), rfl, rfl⟩
      simp only [resE, exZ, Ex.row_eq, Ex.kind, Ex.op, Ex.num, Ex.name, Ex.kids, List.map_nil]
      exact Sub.tup (SubL.cons (Sub.aggR (by repeat' (first | exact SubR.nil | exact SubRs.nil | exact Sub.refl _ | exact Sub.nsl _ | refine SubR.cons ?_ ?_ | refine SubRs.cons ?_ ?_ | refine Sub.isl ?_ | refine Sub.aggR ?_))) (SubL.refl _))
end Go.Proofs.YtlpeikljipknoaaDoor

namespace Go.Proofs.YtlpeikljipknoaaDoor
open Go.Al
theorem rLex_err {s : Str} (hs : s.length ≤ 1000000) {i : Nat} {e : Int} (h : lexS s = .error (i, e)) : PCon env 20 [.str s] (.tup [.nsl, .int .i64 (i : Nat), .int .i64 e]) := by
  have := rLex_con s hs
  rw [h] at this
  exact this
theorem rLex_ok {s : Str} (hs : s.length ≤ 1000000) {T : List Tok} (h : lexS s = .ok T) : PCon env 20 [.str s] (.tup [.isl 4 (T.map Tok.row), .int .i64 0, .int .i64 0]) := by
  have := rLex_con s hs
  rw [h] at this
  exact pcon_weak this (Sub.tup (SubL.cons (slV_sub 4 _) (SubL.refl _)))
theorem alone_con (e : Ex) : PCon env 35 [.agg e.row] (aloneP e).av := by
  rw [Ex.row_eq]
  refine con_of 10 [.cell 2 27] Tryd.func35 rfl rfl rfl rfl ?_
  refine awp_seq_k fun K hK => ?_
  refine awp_region rfl ?_
  simp only [RR, seval]
  refine awpN_intro fun b1 hn1 => ?_
  simp only [RR, seval]
  refine awpN_intro fun b2 hn2 => ?_
  have nb2_b1 : b2 ≠ b1 := fun e => by rw [e] at hn2; simp only [RR, seval, reduceCtorEq] at hn2
  have nb1_b2 : b1 ≠ b2 := fun e => nb2_b1 e.symm
  simp only [nb2_b1, nb1_b2, RR, seval]
  refine hK _ _ ?_; clear hK K
  refine awp_seq_k fun K hK => ?_
  refine awp_region rfl ?_
  simp only [nb2_b1, nb1_b2, RR, seval]
  refine awpB_sealed ?_
  simp only [nb2_b1, nb1_b2, RR, seval]
  refine awpB_sealed ?_
  simp only [nb2_b1, nb1_b2, RR, seval]
  refine awpB_sealed ?_
  simp only [nb2_b1, nb1_b2, RR, seval]
  refine hK _ _ ?_; clear hK K
  refine awp_ret ?_; simp only [bodyQ, aresult, ares, nb2_b1, nb1_b2, RR, seval]
  refine ⟨_, emp, (Turn.sub ?_).trans (Turn.drop (hsub_emp _)), rfl, rfl⟩
  simp only [aloneP, Pg.av, Pg.row, Fu.row, Ex.row_eq, Sm.row_eq, List.map_cons, List.map_nil, strRow, Sm.kind, Sm.name, Sm.es, Sm.thn, Sm.els]
  exact Sub.aggR (by repeat' (first | exact SubR.nil | exact SubRs.nil | exact Sub.refl _ | exact Sub.nsl _ | refine SubR.cons ?_ ?_ | refine SubRs.cons ?_ ?_ | refine Sub.isl ?_ | refine Sub.aggR ?_))
end Go.Proofs.YtlpeikljipknoaaDoor
