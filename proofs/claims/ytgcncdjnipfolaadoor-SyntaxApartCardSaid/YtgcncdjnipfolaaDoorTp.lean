/- Chapter 14: what is printed, in plain Lean. Chapter 14, the program's: what the tape's small functions write. Chapter 14, the program's: a number's text; an operation's sign. Chapter 14, the program's: what is written of expressions. Chapter 14, the program's: what is written of one expression. Chapter 14, the program's: what is written of statements. Chapter 14, the program's: what is written of one statement. Chapter 14, the program's: the text of an expression. Chapter 14, the program's: the text of a program. -/
import Derived.Test.YtgcncdjnipfolaaDoorSy1
import Derived.Lib.ItoaNum
import Derived.Lib.Join
import Derived.Test.YtgcncdjnipfolaaDoorBd1
import Derived.Test.YtgcncdjnipfolaaDoorSy3
import Derived.Test.YtgcncdjnipfolaaDoorBd2
set_option linter.unusedSimpArgs false
set_option linter.unusedVariables false
set_option maxRecDepth 10000
namespace Go.Al
def sgn (k o : Int) : Str := if k = 8 then [38, 38] else if k = 9 then [124, 124] else
  (([[43], [45], [42], [47], [37], [38], [124], [94], [60, 60], [62, 62], [60], [61, 61]] : List Str)[(o - 4).toNat]?).getD []
mutual
def prE : Ex → Str
  | .mk k o n s l =>
    if k = 1 then Lib.decDigits n.toNat
    else if k = 2 then s
    else if k = 3 then s ++ ([91] ++ (prL l ++ [93]))
    else if k = 4 then s ++ ([40] ++ (prL l ++ [41]))
    else if k = 5 then [103, 101, 116, 40, 41]
    else if k = 7 then [33] ++ prL l
    else if k = 6 ∨ k = 8 ∨ k = 9 then [40] ++ (pr1 l ++ ([32] ++ (sgn k o ++ ([32] ++ (pr2 l ++ [41])))))
    else []
def prL : List Ex → Str
  | [] => []
  | e :: l => prE e ++ prT l
def prT : List Ex → Str
  | [] => []
  | e :: l => [44, 32] ++ (prE e ++ prT l)
def pr1 : List Ex → Str
  | [] => []
  | e :: _ => prE e
def pr2 : List Ex → Str
  | [] => []
  | _ :: l => prL l
end
def ind : Nat → Str
  | 0 => []
  | n + 1 => [32, 32] ++ ind n
theorem ind_len : ∀ n, (ind n).length = 2 * n
  | 0 => rfl
  | n + 1 => by simp only [ind, List.length_append, ind_len n, List.length_cons, List.length_nil]; omega
theorem ind_snoc : ∀ n, ind n ++ [32, 32] = ind (n + 1)
  | 0 => rfl
  | n + 1 => by rw [ind, List.append_assoc, ind_snoc n]; rfl
mutual
def prM : Nat → Sm → Str
  | lv, .mk k s l t u =>
    if k = 1 then ind lv ++ (s ++ ([32, 61, 32] ++ (prL l ++ [59, 10])))
    else if k = 2 then ind lv ++ (s ++ ([91] ++ (pr1 l ++ ([93, 32, 61, 32] ++ (pr2 l ++ [59, 10])))))
    else if k = 3 then ind lv ++ ([112, 117, 116, 40] ++ (prL l ++ [41, 59, 10]))
    else if k = 6 then ind lv ++ (s ++ ([40] ++ (prL l ++ [41, 59, 10])))
    else if k = 7 then ind lv ++ ([114, 101, 116, 117, 114, 110] ++ ((if l.length = 0 then [] else [32] ++ prL l) ++ [59, 10]))
    else if k = 4 ∨ k = 5 then ind lv ++ ((if k = 5 then [119, 104, 105, 108, 101, 32, 40] else [105, 102, 32, 40]) ++ (prL l ++ ([41, 32, 123, 10] ++ (prB (lv + 1) t ++
      ((if u.length = 0 then [] else ind lv ++ ([125, 32, 101, 108, 115, 101, 32, 123, 10] ++ prB (lv + 1) u)) ++ (ind lv ++ [125, 10]))))))
    else []
def prB : Nat → List Sm → Str
  | _, [] => []
  | lv, s :: l => prM lv s ++ prB lv l
end
def comma : List Str → Str := fun l => Lib.join l [44, 32]
def prA (a : Ar) : Str := [97, 114, 114, 97, 121, 32] ++ (a.name ++ ([91] ++ (Lib.decDigits a.size.toNat ++ [93, 59, 10])))
def prAs : List Ar → Str
  | [] => []
  | a :: l => prA a ++ prAs l
def prF (f : Fu) : Str := [102, 117, 110, 99, 32] ++ (f.name ++ ([40] ++ (comma f.params ++ ([41] ++ ((if f.word then [32, 119, 111, 114, 100] else []) ++ ([32, 123, 10] ++
  ((if f.locs.length = 0 then [] else [32, 32, 118, 97, 114, 32] ++ (comma f.locs ++ [59, 10])) ++ (prB 1 f.body ++ [125, 10]))))))))
def prFs : List Fu → Str
  | [] => []
  | f :: l => prF f ++ prFs l
def prP (p : Pg) : Str := (if p.vars.length = 0 then [] else [118, 97, 114, 32] ++ (comma p.vars ++ [59, 10])) ++ (prAs p.arrs ++ prFs p.funs)
theorem prT_snoc (e : Ex) : ∀ l : List Ex, prT (l ++ [e]) = prT l ++ ([44, 32] ++ prE e)
  | [] => by simp [prT]
  | x :: l => by simp only [List.cons_append, prT, prT_snoc e l, List.append_assoc]
theorem prL_snoc (e : Ex) (l : List Ex) (h : l ≠ []) : prL (l ++ [e]) = prL l ++ ([44, 32] ++ prE e) := by
  cases l with
  | nil => exact absurd rfl h
  | cons x l => simp only [List.cons_append, prL, prT_snoc, List.append_assoc]
theorem prL_one (e : Ex) : prL [e] = prE e := by simp [prL, prT]
theorem prT_split : ∀ (l l' : List Ex), prT (l ++ l') = prT l ++ prT l'
  | [], l' => by simp [prT]
  | x :: l, l' => by simp only [List.cons_append, prT, prT_split l l', List.append_assoc]
theorem prL_take_len (l : List Ex) (k : Nat) : (prL (l.take k)).length ≤ (prL l).length := by
  cases l with
  | nil => simp [prL]
  | cons x l =>
    cases k with
    | zero => simp [prL]
    | succ k =>
      have := prT_split (l.take k) (l.drop k)
      rw [List.take_append_drop] at this
      simp only [List.take_succ_cons, prL, this, List.length_append]
      omega
theorem prB_snoc (lv : Nat) (s : Sm) : ∀ l : List Sm, prB lv (l ++ [s]) = prB lv l ++ prM lv s
  | [] => by simp [prB]
  | x :: l => by simp only [List.cons_append, prB, prB_snoc lv s l, List.append_assoc]
theorem prB_split (lv : Nat) : ∀ (l l' : List Sm), prB lv (l ++ l') = prB lv l ++ prB lv l'
  | [], l' => by simp [prB]
  | x :: l, l' => by simp only [List.cons_append, prB, prB_split lv l l', List.append_assoc]
theorem prB_take_len (lv : Nat) (l : List Sm) (k : Nat) : (prB lv (l.take k)).length ≤ (prB lv l).length := by
  have := prB_split lv (l.take k) (l.drop k)
  rw [List.take_append_drop] at this
  simp only [this, List.length_append]
  omega
theorem prAs_snoc (a : Ar) : ∀ l : List Ar, prAs (l ++ [a]) = prAs l ++ prA a
  | [] => by simp [prAs]
  | x :: l => by simp only [List.cons_append, prAs, prAs_snoc a l, List.append_assoc]
theorem prAs_take_len (l : List Ar) (k : Nat) : (prAs (l.take k)).length ≤ (prAs l).length := by
  have : ∀ (l l' : List Ar), prAs (l ++ l') = prAs l ++ prAs l' := by
    intro l l'
    induction l with
    | nil => simp [prAs]
    | cons x l ih => simp only [List.cons_append, prAs, ih, List.append_assoc]
  have := this (l.take k) (l.drop k)
  rw [List.take_append_drop] at this
  simp only [this, List.length_append]
  omega
theorem prFs_snoc (a : Fu) : ∀ l : List Fu, prFs (l ++ [a]) = prFs l ++ prF a
  | [] => by simp [prFs]
  | x :: l => by simp only [List.cons_append, prFs, prFs_snoc a l, List.append_assoc]
theorem prFs_take_len (l : List Fu) (k : Nat) : (prFs (l.take k)).length ≤ (prFs l).length := by
  have : ∀ (l l' : List Fu), prFs (l ++ l') = prFs l ++ prFs l' := by
    intro l l'
    induction l with
    | nil => simp [prFs]
    | cons x l ih => simp only [List.cons_append, prFs, ih, List.append_assoc]
  have := this (l.take k) (l.drop k)
  rw [List.take_append_drop] at this
  simp only [this, List.length_append]
  omega
end Go.Al

namespace Go.Proofs.YtgcncdjnipfolaaDoor
open Go.Al
theorem tend {b : Nat} {bs out cur : List UInt8} {H : Hp} {v : AV} (hB : BldH b cur H) (h : cur = bs ++ out) : Gives (fun ae H' => ae = .ret v ∧ BldM b (bs ++ out) H') v H := h ▸ hB.gives rfl
theorem begin_con (b lv : Nat) (s bs : Str) (hlv : lv ≤ 1000) (hl : (bs ++ (ind lv ++ s)).length ≤ 140737488355328) : TCon env 60 [.ptr 2 b 0 0, .int .i64 (lv : Nat), .str s] b bs (.tup []) (ind lv ++ s) := by
  intro H0 hm
  have hB := hm.h
  have hil := ind_len lv
  simp only [List.length_append] at hl
  refine con_of 19 [] Tryd.func60 rfl rfl rfl rfl ?_
  refine awp_seq ?_
  refine awp_seq_k fun K hK => ?_
  refine awp_region rfl ?_
  simp only [RR, seval]
  refine hK _ _ ?_; clear hK K
  refine awp_name fun F1 M1 hfr hH => ?_
  have g0 := hfr 0
  have g2 := hfr 2
  have g6 := hfr 6
  have g7 := hfr 7
  try simp only [RR, seval] at g0 g2 g6 g7
  have hM := funext hH
  have f0 := g0; clear g0
  have f2 := g2; clear g2
  have f6 := g6; clear g6
  have f7 := g7; clear g7
  clear hfr hH
  refine awp_block ?_
  refine awp_each [0, 2, 6] (lv) (fun k fr M => fr 7 = .int .i64 (k : Nat) ∧ BldH b (bs ++ ind k) M) ⟨f7, (by rw [hM, show ind 0 = [] from rfl, List.append_nil]; exact hB)⟩ ?_
  rintro k F2 M2 hk0 ⟨fx, hB⟩ agx K0 hK0
  have f0 := (agx 0 rfl).trans f0
  have f2 := (agx 2 rfl).trans f2
  have f6 := (agx 6 rfl).trans f6
  have f7 := fx; clear fx
  have ag0 := agree.refl [0, 2, 6] F2
  clear agx
  refine awp_seq_k fun K hK => ?_
  refine awp_region rfl ?_
  simp only [f6, f7, RR, seval]
  refine hK _ _ ?_; clear hK K
  refine awp_seq ?_
  refine awp_if _ rfl (fun hc => ?_) (fun hc => ?_)
  · have hlt0 : k < lv := by have := of_decide_eq_true hc; omega
    clear hc
    have hik := ind_len k
    refine awp_skip ?_; try simp only [RR]
    refine awp_seq ?_
    refine awp_block ?_
    refine awp_region rfl ?_
    simp only [f0, RR, seval]
    refine awpC_tape2 (by first | exact hB | exact hB.new (by assumption) _ | exact hB.new2 (by assumption) _ _ | exact hB.set (o := .rows _ _) (by assumption) trivial _) (WriteString_con b (bs ++ ind k) [32, 32] (by simp only [List.length_append, List.length_cons, List.length_nil]; omega)) (SubL.refl _) (fun _ => trivial) fun M3 hB hk' hn' => ?_
    simp only [f0, RR, seval]
    refine awp_region rfl ?_
    simp only [f7, RR, seval]
    try rw [IntWalk.i64_in _ (by omega)]
    refine hK0 _ _ hlt0 ⟨by first | rfl | (simp only [upd_app, seval]; rfl), by rw [List.append_assoc, ind_snoc] at hB; exact hB⟩ (by repeat (first | exact ag0 | refine agree.upd rfl ?_))
  · have hkn0 : k = lv := by have := of_decide_eq_false hc; omega
    clear hc
    rw [hkn0] at hB
    refine awp_exit ?_; simp only [RR, seval]
    refine awp_region rfl ?_
    simp only [f0, f2, RR, seval]
    refine awpC_tape2 (by first | exact hB | exact hB.new (by assumption) _ | exact hB.new2 (by assumption) _ _ | exact hB.set (o := .rows _ _) (by assumption) trivial _) (WriteString_con b (bs ++ ind lv) s (by simp only [List.length_append]; omega)) (SubL.refl _) (fun _ => trivial) fun M4 hB hk' hn' => ?_
    simp only [f0, f2, RR, seval]
    try simp only [bodyQ, aresult, ares, f0, f2, f6, f7, RR, seval]
    exact tend hB (by simp only [List.append_assoc])
theorem line_con (b lv : Nat) (s bs : Str) (hlv : lv ≤ 1000) (hl : (bs ++ (ind lv ++ (s ++ [10]))).length ≤ 140737488355328) : TCon env 39 [.ptr 2 b 0 0, .int .i64 (lv : Nat), .str s] b bs (.tup []) (ind lv ++ (s ++ [10])) := by
  intro H0 hm
  have hB := hm.h
  simp only [List.length_append, List.length_cons, List.length_nil] at hl
  refine con_of 14 [] Tryd.func39 rfl rfl rfl rfl ?_
  refine awp_seq_k fun K hK => ?_
  refine awp_region rfl ?_
  simp only [RR, seval]
  refine awpC_tape2 (by first | exact hB | exact hB.new (by assumption) _ | exact hB.new2 (by assumption) _ _ | exact hB.set (o := .rows _ _) (by assumption) trivial _) (begin_con b lv s bs hlv (by simp only [List.length_append]; omega)) (SubL.refl _) (fun _ => trivial) fun M1 hB hk' hn' => ?_
  simp only [RR, seval]
  refine hK _ _ ?_; clear hK K
  refine awp_region rfl ?_
  simp only [RR, seval]
  refine awpC_tape2 (by first | exact hB | exact hB.new (by assumption) _ | exact hB.new2 (by assumption) _ _ | exact hB.set (o := .rows _ _) (by assumption) trivial _) (WriteString_con b (bs ++ (ind lv ++ s)) [10] (by simp only [List.length_append, List.length_cons, List.length_nil]; omega)) (SubL.refl _) (fun _ => trivial) fun M2 hB hk' hn' => ?_
  simp only [RR, seval]
  try simp only [bodyQ, aresult, ares, RR, seval]
  exact tend hB (by simp only [List.append_assoc])
theorem end_con (b : Nat) (s bs : Str) (hl : (bs ++ (s ++ [10])).length ≤ 140737488355328) : TCon env 80 [.ptr 2 b 0 0, .str s] b bs (.tup []) (s ++ [10]) := by
  intro H0 hm
  have hB := hm.h
  simp only [List.length_append, List.length_cons, List.length_nil] at hl
  refine con_of 13 [] Tryd.func80 rfl rfl rfl rfl ?_
  refine awp_seq_k fun K hK => ?_
  refine awp_region rfl ?_
  simp only [RR, seval]
  refine awpC_tape2 (by first | exact hB | exact hB.new (by assumption) _ | exact hB.new2 (by assumption) _ _ | exact hB.set (o := .rows _ _) (by assumption) trivial _) (WriteString_con b bs s (by simp only [List.length_append]; omega)) (SubL.refl _) (fun _ => trivial) fun M1 hB hk' hn' => ?_
  simp only [RR, seval]
  refine hK _ _ ?_; clear hK K
  refine awp_region rfl ?_
  simp only [RR, seval]
  refine awpC_tape2 (by first | exact hB | exact hB.new (by assumption) _ | exact hB.new2 (by assumption) _ _ | exact hB.set (o := .rows _ _) (by assumption) trivial _) (WriteString_con b (bs ++ s) [10] (by simp only [List.length_append, List.length_cons, List.length_nil]; omega)) (SubL.refl _) (fun _ => trivial) fun M2 hB hk' hn' => ?_
  simp only [RR, seval]
  try simp only [bodyQ, aresult, ares, RR, seval]
  exact tend hB (by simp only [List.append_assoc])
end Go.Proofs.YtgcncdjnipfolaaDoor

namespace Go.Proofs.YtgcncdjnipfolaaDoor
open Go.Al
theorem Text_con (n : Int) (hn : u32R n) : PCon env 41 [.int .u32 n] (.str (Lib.decDigits n.toNat)) := by
  obtain ⟨h0, h1⟩ := hn
  obtain ⟨u, rfl⟩ : ∃ u : Nat, n = u := ⟨n.toNat, by omega⟩
  have hw : IntKind.wrap .u64 (u : Int) = (u : Int) := IntWalk.u64_in _ (by omega)
  rw [Int.toNat_natCast]
  refine con_of 6 [.tmp 2] Tryd.func41 rfl rfl rfl rfl ?_
  refine awp_seq_k fun K hK => ?_
  refine awp_region rfl ?_
  simp only [hw, RR, seval]
  refine hK _ _ ?_; clear hK K
  refine awp_seq_k fun K hK => ?_
  refine awp_region rfl ?_
  simp only [hw, RR, seval]
  refine awpC_pure' (FormatUint_con u (by omega)) ?_
  simp only [hw, RR, seval]
  refine hK _ _ ?_; clear hK K
  refine awp_ret ?_; simp only [bodyQ, aresult, ares, hw, RR, seval]
  refine Gives.pure ?_
  rfl
theorem Sign_con (k o n : Int) (s : Str) (l : List Ex) (h : k = 8 ∨ k = 9 ∨ (k = 6 ∧ 4 ≤ o ∧ o ≤ 15)) : PCon env 66 [.agg [.int .i64 k, .int .i64 o, .int .u32 n, .str s, .isl 5 (l.map Ex.row)]] (.str (sgn k o)) := by
  have hj : k = 6 → ∃ j : Nat, o - 4 = (j : Int) ∧ j < 12 := fun e => ⟨(o - 4).toNat, by omega, by omega⟩
  refine con_of 14 [.tmp 2] Tryd.func66 rfl rfl rfl rfl ?_
  refine awp_seq_k fun K hK => ?_
  refine awp_region rfl ?_
  simp only [RR, seval]
  refine awpN_intro fun b1 hn1 => ?_
  simp only [RR, seval]
  refine hK _ _ ?_; clear hK K
  refine awp_seq ?_
  refine awp_seq_k fun K hK => ?_
  refine awp_region rfl ?_
  simp only [RR, seval]
  refine hK _ _ ?_; clear hK K
  refine awp_block ?_
  refine awp_seq_k fun K hK => ?_
  refine awp_region rfl ?_
  simp only [RR, seval]
  skip
  refine hK _ _ ?_; clear hK K
  refine awp_if _ rfl (fun hc2 => ?_) (fun hc2 => ?_)
  · refine awp_seq_k fun K hK => ?_
    refine awp_region rfl ?_
    simp only [RR, seval]
    refine hK _ _ ?_; clear hK K
    refine awp_ret ?_; simp only [bodyQ, aresult, ares, RR, seval]
    refine Gives.pure ?_
    rw [of_decide_eq_true hc2]; rfl
  · refine awp_seq_k fun K hK => ?_
    refine awp_region rfl ?_
    simp only [RR, seval]
    refine hK _ _ ?_; clear hK K
    refine awp_if _ rfl (fun hc4 => ?_) (fun hc4 => ?_)
    · refine awp_seq_k fun K hK => ?_
      refine awp_region rfl ?_
      simp only [RR, seval]
      refine hK _ _ ?_; clear hK K
      refine awp_ret ?_; simp only [bodyQ, aresult, ares, RR, seval]
      refine Gives.pure ?_
      rw [of_decide_eq_true hc4]; rfl
    · refine awp_skip ?_; try simp only [RR]
      have hk := of_decide_eq_false hc2
      have hk2 := of_decide_eq_false hc4
      obtain rfl : k = 6 := by
        rcases h with h | h | ⟨h, _⟩
        · exact absurd h hk
        · exact absurd h hk2
        · exact h
      obtain ⟨j, hj1, hj2⟩ := hj rfl
      have hw : IntKind.wrap .i64 (o - 4) = (j : Int) := by rw [IntWalk.i64_in _ (by omega)]; exact hj1
      obtain ⟨z, hz⟩ : ∃ z, opL[j]? = some z := ⟨_, List.getElem?_eq_getElem (show j < opL.length from hj2)⟩
      have hg : (opL.map AV.str)[j]? = some (.str z) := by rw [List.getElem?_map, hz]; rfl
      have hs : sgn 6 o = z := by
        have : sgn 6 o = (opL[(o - 4).toNat]?).getD [] := rfl
        rw [this, hj1, Int.toNat_natCast, hz]; rfl
      have hj3 : (j : Int) < 12 := by omega
      refine awp_seq_k fun K hK => ?_
      refine awp_region rfl ?_
      simp only [hw, hg, hj3, RR, seval]
      refine hK _ _ ?_; clear hK K
      refine awp_ret ?_; simp only [bodyQ, aresult, ares, hw, hg, hj3, RR, seval]
      refine Gives.pure ?_
      rw [hs]
end Go.Proofs.YtgcncdjnipfolaaDoor

namespace Go.Proofs.YtgcncdjnipfolaaDoor
open Go.Al
def EC (e : Ex) : Prop := ∀ (b : Nat) (bs : Str), (bs ++ prE e).length ≤ 140737488355328 → TCon env 48 [.ptr 2 b 0 0, .agg e.row] b bs (.tup []) (prE e)
theorem exprs_con (l : List Ex) (hfit : l.length ≤ 1000000) (h : ∀ e ∈ l, EC e) (b : Nat) (bs : Str) (hl : (bs ++ prL l).length ≤ 140737488355328) : TCon env 65 [.ptr 2 b 0 0, .isl 5 (l.map Ex.row)] b bs (.tup []) (prL l) := by
  intro H0 hm
  have hB := hm.h
  simp only [List.length_append] at hl
  refine con_of 23 [] Tryd.func65 rfl rfl rfl rfl ?_
  refine awp_seq_k fun K hK => ?_
  refine awp_region rfl ?_
  simp only [List.length_map, RR, seval]
  refine hK _ _ ?_; clear hK K
  refine awp_name fun F1 M1 hfr hH => ?_
  have g0 := hfr 0
  have g6 := hfr 6
  have g7 := hfr 7
  have g8 := hfr 8
  try simp only [List.length_map, RR, seval] at g0 g6 g7 g8
  have hM := funext hH
  have f0 := g0; clear g0
  have f6 := g6; clear g6
  have f7 := g7; clear g7
  have f8 := g8; clear g8
  clear hfr hH
  refine awp_block ?_
  refine awp_each [0, 6, 7] (l.length) (fun k fr M => fr 8 = .int .i64 (k : Nat) ∧ BldH b (bs ++ prL (l.take k)) M) ⟨f8, (by rw [hM, List.take_zero, show prL [] = [] from rfl, List.append_nil]; exact hB)⟩ ?_
  rintro k F2 M2 hk0 ⟨fx, hB⟩ agx K0 hK0
  have f0 := (agx 0 rfl).trans f0
  have f6 := (agx 6 rfl).trans f6
  have f7 := (agx 7 rfl).trans f7
  have f8 := fx; clear fx
  have ag0 := agree.refl [0, 6, 7] F2
  clear agx
  refine awp_seq_k fun K hK => ?_
  refine awp_region rfl ?_
  simp only [f7, f8, List.length_map, RR, seval]
  refine hK _ _ ?_; clear hK K
  refine awp_seq ?_
  refine awp_if _ rfl (fun hc => ?_) (fun hc => ?_)
  · have hlt0 : k < l.length := by have := of_decide_eq_true hc; omega
    clear hc
    have hg := getE (List.getElem?_eq_getElem hlt0)
    have htk : l.take (k + 1) = l.take k ++ [l[k]] := List.take_succ_eq_append_getElem hlt0
    have hec := h _ (List.getElem_mem hlt0)
    have hle := prL_take_len l (k + 1)
    have hpos : 0 < k → prL (l.take (k + 1)) = prL (l.take k) ++ ([44, 32] ++ prE l[k]) := fun h0 => by
      rw [htk, prL_snoc _ _ (List.ne_nil_of_length_pos (by rw [List.length_take]; omega))]
    have hzero : k = 0 → prL (l.take (k + 1)) = prE l[k] ∧ prL (l.take k) = [] := fun h0 => by
      rw [htk]; subst h0; exact ⟨prL_one _, rfl⟩
    generalize l[k] = e at hg htk hec hpos hzero
    obtain ⟨x1, x2, x3, x4, x5⟩ := e
    simp only [Ex.kind, Ex.op, Ex.num, Ex.name, Ex.kids] at hg
    simp only [EC, Ex.row_eq, Ex.kind, Ex.op, Ex.num, Ex.name, Ex.kids] at hec
    generalize prE (.mk x1 x2 x3 x4 x5) = out at *
    refine awp_skip ?_; try simp only [RR]
    refine awp_seq ?_
    refine awp_block ?_
    refine awp_seq_k fun K hK => ?_
    refine awp_region rfl ?_
    simp only [f6, f8, List.length_map, hg, RR, seval]
    refine awpN_intro fun b5 hn5 => ?_
    simp only [f6, f8, List.length_map, hg, RR, seval]
    refine hK _ _ ?_; clear hK K
    refine awp_seq ?_
    refine awp_seq_k fun K hK => ?_
    refine awp_region rfl ?_
    simp only [List.length_map, hg, RR, seval]
    refine hK _ _ ?_; clear hK K
    refine awp_if _ rfl (fun hc3 => ?_) (fun hc3 => ?_)
    · have hk0 : 0 < k := by have := of_decide_eq_true hc3; omega
      have hpk := hpos hk0
      rw [hpk] at hle
      simp only [List.length_append, List.length_cons, List.length_nil] at hle
      refine awp_region rfl ?_
      simp only [f0, List.length_map, hg, RR, seval]
      refine awpC_tape2 (by first | exact hB | exact hB.new (by assumption) _ | exact hB.new2 (by assumption) _ _ | exact hB.set (o := .rows _ _) (by assumption) trivial _) (WriteString_con b (bs ++ prL (l.take k)) [44, 32] (by simp only [List.length_append, List.length_cons, List.length_nil]; omega)) (SubL.refl _) (fun _ => trivial) fun M3 hB hk' hn' => ?_
      have hb5 := hk' b5 _ (upd_same _ _ _) trivial
      simp only [f0, hb5, List.length_map, hg, RR, seval]
      refine awp_region rfl ?_
      simp only [f0, hb5, List.length_map, hg, RR, seval]
      refine awpC_tape2 (by first | exact hB | exact hB.new (by assumption) _ | exact hB.new2 (by assumption) _ _ | exact hB.set (o := .rows _ _) (by assumption) trivial _) (hec b _ (by simp only [List.length_append, List.length_cons, List.length_nil]; omega)) (SubL.refl _) (fun _ => trivial) fun M4 hB hk' hn' => ?_
      have gb5 := hk' b5 _ hb5 trivial
      have hb5 := gb5; clear gb5
      simp only [f0, hb5, List.length_map, hg, RR, seval]
      refine awp_region rfl ?_
      simp only [f8, List.length_map, hg, RR, seval]
      try rw [IntWalk.i64_in _ (by omega)]
      refine hK0 _ _ hlt0 ⟨by first | rfl | (simp only [upd_app, seval]; rfl), by rw [hpk]; simpa only [List.append_assoc] using hB⟩ (by repeat (first | exact ag0 | refine agree.upd rfl ?_))
    · have hk0 : k = 0 := by have := of_decide_eq_false hc3; omega
      have hpk := (hzero hk0).1
      rw [hpk] at hle
      have hpn := (hzero hk0).2
      rw [hpn, List.append_nil] at hB
      refine awp_skip ?_; try simp only [RR]
      refine awp_region rfl ?_
      simp only [f0, List.length_map, hg, RR, seval]
      refine awpC_tape2 (by first | exact hB | exact hB.new (by assumption) _ | exact hB.new2 (by assumption) _ _ | exact hB.set (o := .rows _ _) (by assumption) trivial _) (hec b _ (by simp only [List.length_append, List.length_cons, List.length_nil]; omega)) (SubL.refl _) (fun _ => trivial) fun M5 hB hk' hn' => ?_
      have hb5 := hk' b5 _ (upd_same _ _ _) trivial
      simp only [f0, hb5, List.length_map, hg, RR, seval]
      refine awp_region rfl ?_
      simp only [f8, List.length_map, hg, RR, seval]
      try rw [IntWalk.i64_in _ (by omega)]
      refine hK0 _ _ hlt0 ⟨by first | rfl | (simp only [upd_app, seval]; rfl), by rw [hpk]; simpa only [List.append_assoc] using hB⟩ (by repeat (first | exact ag0 | refine agree.upd rfl ?_))
  · have hkn0 : k = l.length := by have := of_decide_eq_false hc; omega
    clear hc
    rw [hkn0, List.take_length] at hB
    refine awp_exit ?_; simp only [RR, seval]
    try simp only [bodyQ, aresult, ares, f0, f6, f7, f8, List.length_map, RR, seval]
    exact tend hB rfl
end Go.Proofs.YtgcncdjnipfolaaDoor

namespace Go.Proofs.YtgcncdjnipfolaaDoor
open Go.Al
theorem two_of {α : Type} : ∀ {l : List α}, l.length = 2 → ∃ x y, l = [x, y]
  | [x, y], _ => ⟨x, y, rfl⟩
theorem right_mem {l : List Ex} {level : Int} (h : rightE l level = true) : ∀ a ∈ l, rightX a level = true := by
  induction l with
  | nil => intro a ha; cases ha
  | cons e l ih =>
    rw [rightE_cons, Bool.and_eq_true] at h
    intro a ha
    rcases List.mem_cons.1 ha with rfl | ha
    · exact h.1
    · exact ih h.2 a ha
theorem sgn_len (k o : Int) : (sgn k o).length ≤ 2 := by
  unfold sgn
  split
  · decide
  split
  · decide
  · generalize (o - 4).toNat = j
    have : ∀ j : Nat, ((([[43], [45], [42], [47], [37], [38], [124], [94], [60, 60], [62, 62], [60], [61, 61]] : List Str)[j]?).getD []).length ≤ 2 := by
      intro j
      iterate 12 (rcases j with _ | j; · decide)
      simp
    exact this j
set_option maxHeartbeats 4000000 in
theorem expr_step (k o n : Int) (s : Str) (l : List Ex) (hk : kidsX k o l.length = true) (hn : u32R n) (h : ∀ e ∈ l, EC e) : EC (.mk k o n s l) := by
  intro b bs hl H0 hm
  have hB := hm.h
  have hlen : l.length ≤ 6 := by
    simp only [kidsX] at hk
    split at hk
    · have := of_decide_eq_true hk; omega
    split at hk
    · have := of_decide_eq_true hk; omega
    split at hk
    · exact of_decide_eq_true hk
    split at hk
    · simp only [Bool.and_eq_true, decide_eq_true_eq] at hk; omega
    split at hk
    · have := of_decide_eq_true hk; omega
    · cases hk
  have hxs := fun b bs hl => exprs_con l (by omega) h b bs hl
  simp only [Ex.row_eq, Ex.kind, Ex.op, Ex.num, Ex.name, Ex.kids]
  have hbin : (k = 6 ∨ k = 8 ∨ k = 9) → (k = 8 ∨ k = 9 ∨ (k = 6 ∧ 4 ≤ o ∧ o ≤ 15)) ∧ ∃ x y, l = [x, y] := fun e => by
    rcases e with rfl | rfl | rfl
    · simp [kidsX] at hk; exact ⟨by omega, two_of (by omega)⟩
    · simp [kidsX] at hk; exact ⟨by omega, two_of (by omega)⟩
    · simp [kidsX] at hk; exact ⟨by omega, two_of (by omega)⟩
  refine con_of 86 [] Tryd.func48 rfl rfl rfl rfl ?_
  refine awp_seq_k fun K hK => ?_
  refine awp_region rfl ?_
  simp only [List.length_map, RR, seval]
  refine awpN_intro fun b3 hn3 => ?_
  simp only [List.length_map, RR, seval]
  refine hK _ _ ?_; clear hK K
  refine awp_seq_k fun K hK => ?_
  refine awp_region rfl ?_
  simp only [List.length_map, RR, seval]
  refine hK _ _ ?_; clear hK K
  refine awp_seq_k fun K hK => ?_
  refine awp_region rfl ?_
  simp only [List.length_map, RR, seval]
  refine hK _ _ ?_; clear hK K
  refine awp_block ?_
  refine awp_seq_k fun K hK => ?_
  refine awp_region rfl ?_
  simp only [List.length_map, RR, seval]
  refine hK _ _ ?_; clear hK K
  refine awp_if _ rfl (fun hc3 => ?_) (fun hc3 => ?_)
  · obtain rfl := of_decide_eq_true hc3
    have hpr : prE (.mk 1 o n s l) = Lib.decDigits n.toNat := by simp [prE]
    rw [hpr] at hl
    refine awp_region rfl ?_
    simp only [List.length_map, RR, seval]
    refine awpC_pure' (Text_con n hn) ?_
    simp only [List.length_map, RR, seval]
    refine awpC_tape2 (by first | exact hB | exact hB.new (by assumption) _ | exact hB.new2 (by assumption) _ _ | exact hB.set (o := .rows _ _) (by assumption) trivial _) (WriteString_con b bs (Lib.decDigits n.toNat) hl) (SubL.refl _) (fun _ => trivial) fun M1 hB hk' hn' => ?_
    have hb3 := hk' b3 _ (upd_same _ _ _) trivial
    simp only [hb3, List.length_map, RR, seval]
    try simp only [bodyQ, aresult, ares, hb3, List.length_map, RR, seval]
    exact tend hB (by rw [hpr] <;> simp only [List.append_assoc])
  · refine awp_seq_k fun K hK => ?_
    refine awp_region rfl ?_
    simp only [List.length_map, RR, seval]
    refine hK _ _ ?_; clear hK K
    refine awp_if _ rfl (fun hc5 => ?_) (fun hc5 => ?_)
    · obtain rfl := of_decide_eq_true hc5
      have hpr : prE (.mk 2 o n s l) = s := by simp [prE]
      rw [hpr] at hl
      refine awp_region rfl ?_
      simp only [List.length_map, RR, seval]
      refine awpC_tape2 (by first | exact hB | exact hB.new (by assumption) _ | exact hB.new2 (by assumption) _ _ | exact hB.set (o := .rows _ _) (by assumption) trivial _) (WriteString_con b bs s hl) (SubL.refl _) (fun _ => trivial) fun M2 hB hk' hn' => ?_
      have hb3 := hk' b3 _ (upd_same _ _ _) trivial
      simp only [hb3, List.length_map, RR, seval]
      try simp only [bodyQ, aresult, ares, hb3, List.length_map, RR, seval]
      exact tend hB (by rw [hpr] <;> simp only [List.append_assoc])
    · refine awp_seq_k fun K hK => ?_
      refine awp_region rfl ?_
      simp only [List.length_map, RR, seval]
      refine hK _ _ ?_; clear hK K
      refine awp_if _ rfl (fun hc7 => ?_) (fun hc7 => ?_)
      · obtain rfl := of_decide_eq_true hc7
        have hpr : prE (.mk 3 o n s l) = s ++ ([91] ++ (prL l ++ [93])) := by simp [prE]
        rw [hpr] at hl
        simp only [List.length_append, List.length_cons, List.length_nil] at hl
        have hcc : s.length + 1 ≤ maxLen := by unfold maxLen; omega
        refine awp_seq_k fun K hK => ?_
        refine awp_region rfl ?_
        simp only [List.length_map, hcc, RR, seval]
        refine awpC_tape2 (by first | exact hB | exact hB.new (by assumption) _ | exact hB.new2 (by assumption) _ _ | exact hB.set (o := .rows _ _) (by assumption) trivial _) (WriteString_con b bs (s ++ [91]) (by simp only [List.length_append, List.length_cons, List.length_nil]; omega)) (SubL.refl _) (fun _ => trivial) fun M3 hB hk' hn' => ?_
        have hb3 := hk' b3 _ (upd_same _ _ _) trivial
        simp only [hb3, List.length_map, hcc, RR, seval]
        refine hK _ _ ?_; clear hK K
        refine awp_seq_k fun K hK => ?_
        refine awp_region rfl ?_
        simp only [hb3, List.length_map, hcc, RR, seval]
        refine awpC_tape2 (by first | exact hB | exact hB.new (by assumption) _ | exact hB.new2 (by assumption) _ _ | exact hB.set (o := .rows _ _) (by assumption) trivial _) (hxs b (bs ++ (s ++ [91])) (by simp only [List.length_append, List.length_cons, List.length_nil]; omega)) (SubL.refl _) (fun _ => trivial) fun M4 hB hk' hn' => ?_
        have gb3 := hk' b3 _ hb3 trivial
        have hb3 := gb3; clear gb3
        simp only [hb3, List.length_map, hcc, RR, seval]
        refine hK _ _ ?_; clear hK K
        refine awp_region rfl ?_
        simp only [hb3, List.length_map, hcc, RR, seval]
        refine awpC_tape2 (by first | exact hB | exact hB.new (by assumption) _ | exact hB.new2 (by assumption) _ _ | exact hB.set (o := .rows _ _) (by assumption) trivial _) (WriteString_con b (bs ++ (s ++ [91]) ++ prL l) [93] (by simp only [List.length_append, List.length_cons, List.length_nil]; omega)) (SubL.refl _) (fun _ => trivial) fun M5 hB hk' hn' => ?_
        have gb3 := hk' b3 _ hb3 trivial
        have hb3 := gb3; clear gb3
        simp only [hb3, List.length_map, hcc, RR, seval]
        try simp only [bodyQ, aresult, ares, hb3, List.length_map, hcc, RR, seval]
        exact tend hB (by rw [hpr] <;> simp only [List.append_assoc])
      · refine awp_seq_k fun K hK => ?_
        refine awp_region rfl ?_
        simp only [List.length_map, RR, seval]
        refine hK _ _ ?_; clear hK K
        refine awp_if _ rfl (fun hc11 => ?_) (fun hc11 => ?_)
        · obtain rfl := of_decide_eq_true hc11
          have hpr : prE (.mk 4 o n s l) = s ++ ([40] ++ (prL l ++ [41])) := by simp [prE]
          rw [hpr] at hl
          simp only [List.length_append, List.length_cons, List.length_nil] at hl
          have hcc : s.length + 1 ≤ maxLen := by unfold maxLen; omega
          refine awp_seq_k fun K hK => ?_
          refine awp_region rfl ?_
          simp only [List.length_map, hcc, RR, seval]
          refine awpC_tape2 (by first | exact hB | exact hB.new (by assumption) _ | exact hB.new2 (by assumption) _ _ | exact hB.set (o := .rows _ _) (by assumption) trivial _) (WriteString_con b bs (s ++ [40]) (by simp only [List.length_append, List.length_cons, List.length_nil]; omega)) (SubL.refl _) (fun _ => trivial) fun M6 hB hk' hn' => ?_
          have hb3 := hk' b3 _ (upd_same _ _ _) trivial
          simp only [hb3, List.length_map, hcc, RR, seval]
          refine hK _ _ ?_; clear hK K
          refine awp_seq_k fun K hK => ?_
          refine awp_region rfl ?_
          simp only [hb3, List.length_map, hcc, RR, seval]
          refine awpC_tape2 (by first | exact hB | exact hB.new (by assumption) _ | exact hB.new2 (by assumption) _ _ | exact hB.set (o := .rows _ _) (by assumption) trivial _) (hxs b (bs ++ (s ++ [40])) (by simp only [List.length_append, List.length_cons, List.length_nil]; omega)) (SubL.refl _) (fun _ => trivial) fun M7 hB hk' hn' => ?_
          have gb3 := hk' b3 _ hb3 trivial
          have hb3 := gb3; clear gb3
          simp only [hb3, List.length_map, hcc, RR, seval]
          refine hK _ _ ?_; clear hK K
          refine awp_region rfl ?_
          simp only [hb3, List.length_map, hcc, RR, seval]
          refine awpC_tape2 (by first | exact hB | exact hB.new (by assumption) _ | exact hB.new2 (by assumption) _ _ | exact hB.set (o := .rows _ _) (by assumption) trivial _) (WriteString_con b (bs ++ (s ++ [40]) ++ prL l) [41] (by simp only [List.length_append, List.length_cons, List.length_nil]; omega)) (SubL.refl _) (fun _ => trivial) fun M8 hB hk' hn' => ?_
          have gb3 := hk' b3 _ hb3 trivial
          have hb3 := gb3; clear gb3
          simp only [hb3, List.length_map, hcc, RR, seval]
          try simp only [bodyQ, aresult, ares, hb3, List.length_map, hcc, RR, seval]
          exact tend hB (by rw [hpr] <;> simp only [List.append_assoc])
        · refine awp_seq_k fun K hK => ?_
          refine awp_region rfl ?_
          simp only [List.length_map, RR, seval]
          refine hK _ _ ?_; clear hK K
          refine awp_if _ rfl (fun hc15 => ?_) (fun hc15 => ?_)
          · obtain rfl := of_decide_eq_true hc15
            have hpr : prE (.mk 5 o n s l) = [103, 101, 116, 40, 41] := by simp [prE]
            rw [hpr] at hl
            refine awp_region rfl ?_
            simp only [List.length_map, RR, seval]
            refine awpC_tape2 (by first | exact hB | exact hB.new (by assumption) _ | exact hB.new2 (by assumption) _ _ | exact hB.set (o := .rows _ _) (by assumption) trivial _) (WriteString_con b bs [103, 101, 116, 40, 41] hl) (SubL.refl _) (fun _ => trivial) fun M9 hB hk' hn' => ?_
            have hb3 := hk' b3 _ (upd_same _ _ _) trivial
            simp only [hb3, List.length_map, RR, seval]
            try simp only [bodyQ, aresult, ares, hb3, List.length_map, RR, seval]
            exact tend hB (by rw [hpr] <;> simp only [List.append_assoc])
          · refine awp_seq_k fun K hK => ?_
            refine awp_region rfl ?_
            simp only [List.length_map, RR, seval]
            refine hK _ _ ?_; clear hK K
            refine awp_if _ rfl (fun hc17 => ?_) (fun hc17 => ?_)
            · obtain rfl := of_decide_eq_true hc17
              have hpr : prE (.mk 7 o n s l) = [33] ++ prL l := by simp [prE]
              rw [hpr] at hl
              simp only [List.length_append, List.length_cons, List.length_nil] at hl
              refine awp_seq_k fun K hK => ?_
              refine awp_region rfl ?_
              simp only [List.length_map, RR, seval]
              refine awpC_tape2 (by first | exact hB | exact hB.new (by assumption) _ | exact hB.new2 (by assumption) _ _ | exact hB.set (o := .rows _ _) (by assumption) trivial _) (WriteString_con b bs [33] (by simp only [List.length_append, List.length_cons, List.length_nil]; omega)) (SubL.refl _) (fun _ => trivial) fun M10 hB hk' hn' => ?_
              have hb3 := hk' b3 _ (upd_same _ _ _) trivial
              simp only [hb3, List.length_map, RR, seval]
              refine hK _ _ ?_; clear hK K
              refine awp_region rfl ?_
              simp only [hb3, List.length_map, RR, seval]
              refine awpC_tape2 (by first | exact hB | exact hB.new (by assumption) _ | exact hB.new2 (by assumption) _ _ | exact hB.set (o := .rows _ _) (by assumption) trivial _) (hxs b (bs ++ [33]) (by simp only [List.length_append, List.length_cons, List.length_nil]; omega)) (SubL.refl _) (fun _ => trivial) fun M11 hB hk' hn' => ?_
              have gb3 := hk' b3 _ hb3 trivial
              have hb3 := gb3; clear gb3
              simp only [hb3, List.length_map, RR, seval]
              try simp only [bodyQ, aresult, ares, hb3, List.length_map, RR, seval]
              exact tend hB (by rw [hpr] <;> simp only [List.append_assoc])
            · refine awp_seq ?_
              refine awp_seq_k fun K hK => ?_
              refine awp_region rfl ?_
              simp only [List.length_map, RR, seval]
              refine hK _ _ ?_; clear hK K
              refine awp_name fun F12 M12 hfr hH => ?_
              have g0 := hfr 0
              have g3 := hfr 3
              have g4 := hfr 4
              have g10 := hfr 10
              have g62 := hfr 62
              have gb3 := hH b3
              try simp only [List.length_map, RR, seval] at g0 g3 g4 g10 g62 gb3
              have hM := funext hH
              have f0 := g0; clear g0
              have f3 := g3; clear g3
              have f4 := g4; clear g4
              have f10 := g10; clear g10
              have f62 := g62; clear g62
              have hb3 := gb3; clear gb3
              clear hfr hH
              refine awp_cutP (fun fr M => agree [0, 3, 4] F12 fr ∧ M b3 = M12 b3 ∧ fr 62 = .bool (decide (k = 6 ∨ k = 8 ∨ k = 9)) ∧ BldH b bs M) (fun KC20 hKC20 => ?_) ?_
              · have agC20 := agree.refl [0, 3, 4] F12
                have eC20_b3 : M12 b3 = M12 b3 := rfl
                refine awp_if _ (by first | rfl | exact f62) (fun hc20 => ?_) (fun hc20 => ?_)
                · refine awp_skip ?_; try simp only [RR]
                  refine hKC20 _ _ ⟨(by repeat (first | exact agC20 | refine agree.upd rfl ?_)), (by first | exact eC20_b3 | (simp only [upd_app, seval]; first | done | exact eC20_b3)), ?_⟩
                  refine ⟨?_, by first | exact hB | (rw [hM]; exact hB.new (by assumption) _)⟩
                  first | (simp only [f62, hc20]; simp [of_decide_eq_true hc20]; done) | (simp only [upd_app, seval]; have := of_decide_eq_false hc20; first | (simp [hc21, of_decide_eq_true hc21]; done) | (simp [of_decide_eq_false hc21, this]; done))
                · refine awp_seq_k fun K hK => ?_
                  refine awp_region rfl ?_
                  simp only [f10, List.length_map, RR, seval]
                  refine hK _ _ ?_; clear hK K
                  refine awp_if _ (by first | rfl | exact f62) (fun hc21 => ?_) (fun hc21 => ?_)
                  · refine awp_skip ?_; try simp only [RR]
                    refine hKC20 _ _ ⟨(by repeat (first | exact agC20 | refine agree.upd rfl ?_)), (by first | exact eC20_b3 | (simp only [upd_app, seval]; first | done | exact eC20_b3)), ?_⟩
                    refine ⟨?_, by first | exact hB | (rw [hM]; exact hB.new (by assumption) _)⟩
                    first | (simp only [f62, hc20]; simp [of_decide_eq_true hc20]; done) | (simp only [upd_app, seval]; have := of_decide_eq_false hc20; first | (simp [hc21, of_decide_eq_true hc21]; done) | (simp [of_decide_eq_false hc21, this]; done))
                  · refine awp_region rfl ?_
                    simp only [f10, List.length_map, RR, seval]
                    refine hKC20 _ _ ⟨(by repeat (first | exact agC20 | refine agree.upd rfl ?_)), (by first | exact eC20_b3 | (simp only [upd_app, seval]; first | done | exact eC20_b3)), ?_⟩
                    refine ⟨?_, by first | exact hB | (rw [hM]; exact hB.new (by assumption) _)⟩
                    first | (simp only [f62, hc20]; simp [of_decide_eq_true hc20]; done) | (simp only [upd_app, seval]; have := of_decide_eq_false hc20; first | (simp [hc21, of_decide_eq_true hc21]; done) | (simp [of_decide_eq_false hc21, this]; done))
              rintro F13 M13 ⟨agx, gb3, f62, hB⟩
              have f0 := (agx 0 rfl).trans f0
              have f3 := (agx 3 rfl).trans f3
              have f4 := (agx 4 rfl).trans f4
              have hb3 := gb3.trans hb3
              clear agx
              clear gb3
              simp only [RR, seval]
              refine awp_if _ (by first | rfl | exact f62) (fun hc22 => ?_) (fun hc22 => ?_)
              · have hkk := of_decide_eq_true hc22
                obtain ⟨hsg, x, y, rfl⟩ := hbin hkk
                have hpr : prE (.mk k o n s [x, y]) = [40] ++ (prL [x] ++ ([32] ++ (sgn k o ++ ([32] ++ (prL [y] ++ [41]))))) := by
                  rw [prL_one, prL_one]; rcases hkk with rfl | rfl | rfl <;> simp [prE, pr1, pr2, prL, prT]
                rw [hpr] at hl
                simp only [List.length_append, List.length_cons, List.length_nil] at hl
                have hx1 := fun b bs hl => exprs_con [x] (by simp) (fun e he => h e (by simp at he; simp [he])) b bs hl
                have hy1 := fun b bs hl => exprs_con [y] (by simp) (fun e he => h e (by simp at he; simp [he])) b bs hl
                have hgl := sgn_len k o
                have hcc1 : 1 + (sgn k o).length ≤ maxLen := by unfold maxLen; omega
                have hcc2 : (sgn k o).length + 1 + 1 ≤ maxLen := by unfold maxLen; omega
                refine awp_seq_k fun K hK => ?_
                refine awp_region rfl ?_
                simp only [f4, hb3, List.length_map, hcc1, hcc2, RR, seval]
                refine awpC_tape2 (by first | exact hB | exact hB.new (by assumption) _ | exact hB.new2 (by assumption) _ _ | exact hB.set (o := .rows _ _) (by assumption) trivial _) (WriteString_con b bs [40] (by simp only [List.length_append, List.length_cons, List.length_nil]; omega)) (SubL.refl _) (fun _ => trivial) fun M14 hB hk' hn' => ?_
                have gb3 := hk' b3 _ hb3 trivial
                have hb3 := gb3; clear gb3
                simp only [f4, hb3, List.length_map, hcc1, hcc2, RR, seval]
                refine hK _ _ ?_; clear hK K
                refine awp_seq_k fun K hK => ?_
                refine awp_region rfl ?_
                simp only [f0, f3, hb3, List.length_map, hcc1, hcc2, RR, seval]
                refine awpC_tape2 (by first | exact hB | exact hB.new (by assumption) _ | exact hB.new2 (by assumption) _ _ | exact hB.set (o := .rows _ _) (by assumption) trivial _) (hx1 b (bs ++ [40]) (by simp only [List.length_append, List.length_cons, List.length_nil]; omega)) (SubL.refl _) (fun _ => trivial) fun M15 hB hk' hn' => ?_
                have gb3 := hk' b3 _ hb3 trivial
                have hb3 := gb3; clear gb3
                simp only [f0, f3, hb3, List.length_map, hcc1, hcc2, RR, seval]
                refine hK _ _ ?_; clear hK K
                refine awp_seq_k fun K hK => ?_
                refine awp_region rfl ?_
                simp only [f3, f4, hb3, List.length_map, hcc1, hcc2, RR, seval]
                refine awpC_pure' (Sign_con k o n s [x, y] hsg) ?_
                simp only [f3, f4, hb3, List.length_map, hcc1, hcc2, RR, seval]
                refine awpC_tape2 (by first | exact hB | exact hB.new (by assumption) _ | exact hB.new2 (by assumption) _ _ | exact hB.set (o := .rows _ _) (by assumption) trivial _) (WriteString_con b (bs ++ [40] ++ prL [x]) ([32] ++ sgn k o ++ [32]) (by simp only [List.length_append, List.length_cons, List.length_nil]; omega)) (SubL.refl _) (fun _ => trivial) fun M16 hB hk' hn' => ?_
                have gb3 := hk' b3 _ hb3 trivial
                have hb3 := gb3; clear gb3
                simp only [f3, f4, hb3, List.length_map, hcc1, hcc2, RR, seval]
                refine hK _ _ ?_; clear hK K
                refine awp_seq_k fun K hK => ?_
                refine awp_region rfl ?_
                simp only [f0, f3, hb3, List.length_map, hcc1, hcc2, RR, seval]
                refine awpC_tape2 (by first | exact hB | exact hB.new (by assumption) _ | exact hB.new2 (by assumption) _ _ | exact hB.set (o := .rows _ _) (by assumption) trivial _) (hy1 b (bs ++ [40] ++ prL [x] ++ ([32] ++ sgn k o ++ [32])) (by simp only [List.length_append, List.length_cons, List.length_nil]; omega)) (SubL.refl _) (fun _ => trivial) fun M17 hB hk' hn' => ?_
                have gb3 := hk' b3 _ hb3 trivial
                have hb3 := gb3; clear gb3
                simp only [f0, f3, hb3, List.length_map, hcc1, hcc2, RR, seval]
                refine hK _ _ ?_; clear hK K
                refine awp_region rfl ?_
                simp only [f4, hb3, List.length_map, hcc1, hcc2, RR, seval]
                refine awpC_tape2 (by first | exact hB | exact hB.new (by assumption) _ | exact hB.new2 (by assumption) _ _ | exact hB.set (o := .rows _ _) (by assumption) trivial _) (WriteString_con b (bs ++ [40] ++ prL [x] ++ ([32] ++ sgn k o ++ [32]) ++ prL [y]) [41] (by simp only [List.length_append, List.length_cons, List.length_nil]; omega)) (SubL.refl _) (fun _ => trivial) fun M18 hB hk' hn' => ?_
                have gb3 := hk' b3 _ hb3 trivial
                have hb3 := gb3; clear gb3
                simp only [f4, hb3, List.length_map, hcc1, hcc2, RR, seval]
                try simp only [bodyQ, aresult, ares, f0, f3, f4, f62, hb3, List.length_map, hcc1, hcc2, RR, seval]
                exact tend hB (by rw [hpr] <;> simp only [List.append_assoc])
              · exfalso
                have h1 := of_decide_eq_false hc3
                have h2 := of_decide_eq_false hc5
                have h3 := of_decide_eq_false hc7
                have h4 := of_decide_eq_false hc11
                have h5 := of_decide_eq_false hc15
                have h7 := of_decide_eq_false hc17
                have h8 := of_decide_eq_false hc22
                rw [not_or, not_or] at h8
                simp [kidsX, h1, h2, h3, h4, h5, h7, h8.1, h8.2.1, h8.2.2] at hk
theorem expr_con (N : Nat) : ∀ (e : Ex) (lv : Int), e.sz ≤ N → e.ok → rightX e lv = true → EC e := by
  induction N using Nat.strongRecOn with
  | _ N ih =>
    intro e lv hs ho hr
    have hz := e.sz_eq
    have hkids := ho.kids
    have hn := ho.num
    simp only [rightX, Bool.and_eq_true] at hr
    obtain ⟨⟨_, hk⟩, hrk⟩ := hr
    obtain ⟨k, o, n, s, l⟩ := e
    simp only [Ex.kind, Ex.op, Ex.num, Ex.name, Ex.kids] at *
    refine expr_step k o n s l hk hn fun x hx => ?_
    have hm := szE_mem hx
    exact ih x.sz (by omega) x (lv + 1) (Nat.le_refl _) (hkids.all x hx) (right_mem hrk x hx)
end Go.Proofs.YtgcncdjnipfolaaDoor

namespace Go.Proofs.YtgcncdjnipfolaaDoor
open Go.Al
def SC (lv : Nat) (s : Sm) : Prop := ∀ (b : Nat) (bs : Str), (bs ++ prM lv s).length ≤ 140737488355328 → TCon env 64 [.ptr 2 b 0 0, .agg s.row, .int .i64 (lv : Nat)] b bs (.tup []) (prM lv s)
def BC (lv : Nat) (l : List Sm) : Prop := ∀ (b : Nat) (bs : Str), (bs ++ prB lv l).length ≤ 140737488355328 → TCon env 42 [.ptr 2 b 0 0, .isl 5 (l.map Sm.row), .int .i64 (lv : Nat)] b bs (.tup []) (prB lv l)
def LC (l : List Ex) : Prop := ∀ (b : Nat) (bs : Str), (bs ++ prL l).length ≤ 140737488355328 → TCon env 65 [.ptr 2 b 0 0, .isl 5 (l.map Ex.row)] b bs (.tup []) (prL l)
theorem stmts_con (lv : Nat) (l : List Sm) (hfit : l.length ≤ 1000000) (h : ∀ e ∈ l, SC lv e) : BC lv l := by
  intro b bs hl H0 hm
  have hB := hm.h
  simp only [List.length_append] at hl
  refine con_of 19 [] Tryd.func42 rfl rfl rfl rfl ?_
  refine awp_seq_k fun K hK => ?_
  refine awp_region rfl ?_
  simp only [List.length_map, RR, seval]
  refine hK _ _ ?_; clear hK K
  refine awp_name fun F1 M1 hfr hH => ?_
  have g0 := hfr 0
  have g2 := hfr 2
  have g8 := hfr 8
  have g9 := hfr 9
  have g10 := hfr 10
  try simp only [List.length_map, RR, seval] at g0 g2 g8 g9 g10
  have hM := funext hH
  have f0 := g0; clear g0
  have f2 := g2; clear g2
  have f8 := g8; clear g8
  have f9 := g9; clear g9
  have f10 := g10; clear g10
  clear hfr hH
  refine awp_block ?_
  refine awp_each [0, 2, 8, 9] (l.length) (fun k fr M => fr 10 = .int .i64 (k : Nat) ∧ BldH b (bs ++ prB lv (l.take k)) M) ⟨f10, (by rw [hM, List.take_zero, show prB lv [] = [] from rfl, List.append_nil]; exact hB)⟩ ?_
  rintro k F2 M2 hk0 ⟨fx, hB⟩ agx K0 hK0
  have f0 := (agx 0 rfl).trans f0
  have f2 := (agx 2 rfl).trans f2
  have f8 := (agx 8 rfl).trans f8
  have f9 := (agx 9 rfl).trans f9
  have f10 := fx; clear fx
  have ag0 := agree.refl [0, 2, 8, 9] F2
  clear agx
  refine awp_seq_k fun K hK => ?_
  refine awp_region rfl ?_
  simp only [f9, f10, List.length_map, RR, seval]
  refine hK _ _ ?_; clear hK K
  refine awp_seq ?_
  refine awp_if _ rfl (fun hc => ?_) (fun hc => ?_)
  · have hlt0 : k < l.length := by have := of_decide_eq_true hc; omega
    clear hc
    have hg := getS (List.getElem?_eq_getElem hlt0)
    have htk : l.take (k + 1) = l.take k ++ [l[k]] := List.take_succ_eq_append_getElem hlt0
    have hec := h _ (List.getElem_mem hlt0)
    have hle := prB_take_len lv l (k + 1)
    have hpk : prB lv (l.take (k + 1)) = prB lv (l.take k) ++ prM lv l[k] := by rw [htk, prB_snoc]
    rw [hpk, List.length_append] at hle
    generalize l[k] = e at hg htk hec hpk hle
    obtain ⟨x1, x2, x3, x4, x5⟩ := e
    simp only [Sm.kind, Sm.name, Sm.es, Sm.thn, Sm.els] at hg
    simp only [SC, Sm.row_eq, Sm.kind, Sm.name, Sm.es, Sm.thn, Sm.els] at hec
    generalize prM lv (.mk x1 x2 x3 x4 x5) = out at *
    refine awp_skip ?_; try simp only [RR]
    refine awp_seq ?_
    refine awp_block ?_
    refine awp_seq_k fun K hK => ?_
    refine awp_region rfl ?_
    simp only [f8, f10, List.length_map, hg, RR, seval]
    refine awpN_intro fun b7 hn7 => ?_
    simp only [f8, f10, List.length_map, hg, RR, seval]
    refine hK _ _ ?_; clear hK K
    refine awp_region rfl ?_
    simp only [f0, f2, List.length_map, hg, RR, seval]
    refine awpC_tape2 (by first | exact hB | exact hB.new (by assumption) _ | exact hB.new2 (by assumption) _ _ | exact hB.set (o := .rows _ _) (by assumption) trivial _) (hec b _ (by simp only [List.length_append]; omega)) (SubL.refl _) (fun _ => trivial) fun M3 hB hk' hn' => ?_
    have hb7 := hk' b7 _ (upd_same _ _ _) trivial
    simp only [f0, f2, hb7, List.length_map, hg, RR, seval]
    refine awp_region rfl ?_
    simp only [f10, List.length_map, hg, RR, seval]
    try rw [IntWalk.i64_in _ (by omega)]
    refine hK0 _ _ hlt0 ⟨by first | rfl | (simp only [upd_app, seval]; rfl), by rw [hpk]; simpa only [List.append_assoc] using hB⟩ (by repeat (first | exact ag0 | refine agree.upd rfl ?_))
  · have hkn0 : k = l.length := by have := of_decide_eq_false hc; omega
    clear hc
    rw [hkn0, List.take_length] at hB
    refine awp_exit ?_; simp only [RR, seval]
    try simp only [bodyQ, aresult, ares, f0, f2, f8, f9, f10, List.length_map, RR, seval]
    exact tend hB rfl
theorem nest_con (lv : Nat) (hlv : lv ≤ 100) (k : Int) (s : Str) (l : List Ex) (t u : List Sm) (hk : k = 4 ∨ k = 5) (hx : LC l) (ht : BC (lv + 1) t) (hu : BC (lv + 1) u) (b : Nat) (bs : Str) (hl : (bs ++ prM lv (.mk k s l t u)).length ≤ 140737488355328) :
    TCon env 81 [.ptr 2 b 0 0, .agg [.int .i64 k, .str s, .isl 5 (l.map Ex.row), .isl 5 (t.map Sm.row), .isl 5 (u.map Sm.row)], .int .i64 (lv : Nat)] b bs (.tup []) (prM lv (.mk k s l t u)) := by
  intro H0 hm
  have hB := hm.h
  have hw : IntKind.wrap .i64 ((lv : Int) + 1) = ((lv + 1 : Nat) : Int) := by rw [IntWalk.i64_in _ (by omega)]; omega
  have hpr : prM lv (.mk k s l t u) = ind lv ++ ((if k = 5 then [119, 104, 105, 108, 101, 32, 40] else [105, 102, 32, 40]) ++ (prL l ++ ([41, 32, 123, 10] ++ (prB (lv + 1) t ++
      ((if u.length = 0 then [] else ind lv ++ ([125, 32, 101, 108, 115, 101, 32, 123, 10] ++ prB (lv + 1) u)) ++ (ind lv ++ [125, 10])))))) := by
    rcases hk with rfl | rfl <;> simp [prM]
  rw [hpr] at hl ⊢
  generalize hhd : (if k = 5 then ([119, 104, 105, 108, 101, 32, 40] : Str) else [105, 102, 32, 40]) = hd at *
  simp only [List.length_append, List.length_cons, List.length_nil] at hl
  refine con_of 42 [] Tryd.func81 rfl rfl rfl rfl ?_
  refine awp_seq_k fun K hK => ?_
  refine awp_region rfl ?_
  simp only [List.length_map, hw, RR, seval]
  refine awpN_intro fun b4 hn4 => ?_
  simp only [List.length_map, hw, RR, seval]
  refine hK _ _ ?_; clear hK K
  refine awp_seq_k fun K hK => ?_
  refine awp_region rfl ?_
  simp only [List.length_map, hw, RR, seval]
  refine hK _ _ ?_; clear hK K
  refine awp_seq ?_
  refine awp_seq_k fun K hK => ?_
  refine awp_region rfl ?_
  simp only [List.length_map, hw, RR, seval]
  refine hK _ _ ?_; clear hK K
  refine awp_name fun F1 M1 hfr hH => ?_
  have g0 := hfr 0
  have g2 := hfr 2
  have g4 := hfr 4
  have g6 := hfr 6
  have g9 := hfr 9
  have gb4 := hH b4
  try simp only [List.length_map, hw, RR, seval] at g0 g2 g4 g6 g9 gb4
  have hM := funext hH
  have f0 := g0; clear g0
  have f2 := g2; clear g2
  have f4 := g4; clear g4
  have f6 := g6; clear g6
  have f9 := g9; clear g9
  have hb4 := gb4; clear gb4
  clear hfr hH
  refine awp_cutP (fun fr M => agree [0, 2, 4] F1 fr ∧ M b4 = M1 b4 ∧ fr 6 = .str hd ∧ BldH b bs M) (fun KC2 hKC2 => ?_) ?_
  · have agC2 := agree.refl [0, 2, 4] F1
    have eC2_b4 : M1 b4 = M1 b4 := rfl
    refine awp_if _ (by first | rfl | exact f9) (fun hc2 => ?_) (fun hc2 => ?_)
    · refine awp_region rfl ?_
      simp only [List.length_map, hw, RR, seval]
      refine hKC2 _ _ ⟨(by repeat (first | exact agC2 | refine agree.upd rfl ?_)), (by first | exact eC2_b4 | (simp only [upd_app, seval]; first | done | exact eC2_b4)), ?_⟩
      refine ⟨?_, by first | exact hB | (rw [hM]; exact hB.new (by assumption) _)⟩
      rw [← hhd]
      first | (simp only [upd_app, seval]; rw [if_pos (of_decide_eq_true hc2)]; done) | (rw [if_neg (of_decide_eq_false hc2)]; exact f6)
    · refine awp_skip ?_; try simp only [RR]
      refine hKC2 _ _ ⟨(by repeat (first | exact agC2 | refine agree.upd rfl ?_)), (by first | exact eC2_b4 | (simp only [upd_app, seval]; first | done | exact eC2_b4)), ?_⟩
      refine ⟨?_, by first | exact hB | (rw [hM]; exact hB.new (by assumption) _)⟩
      rw [← hhd]
      first | (simp only [upd_app, seval]; rw [if_pos (of_decide_eq_true hc2)]; done) | (rw [if_neg (of_decide_eq_false hc2)]; exact f6)
  rintro F2 M2 ⟨agx, gb4, f6, hB⟩
  have f0 := (agx 0 rfl).trans f0
  have f2 := (agx 2 rfl).trans f2
  have f4 := (agx 4 rfl).trans f4
  have hb4 := gb4.trans hb4
  clear agx
  clear gb4
  simp only [RR, seval]
  refine awp_seq_k fun K hK => ?_
  refine awp_region rfl ?_
  simp only [f0, f2, f6, hb4, List.length_map, hw, RR, seval]
  refine awpC_tape2 (by first | exact hB | exact hB.new (by assumption) _ | exact hB.new2 (by assumption) _ _ | exact hB.set (o := .rows _ _) (by assumption) trivial _) (begin_con b lv hd bs (by omega) (by simp only [List.length_append]; omega)) (SubL.refl _) (fun _ => trivial) fun M3 hB hk' hn' => ?_
  have gb4 := hk' b4 _ hb4 trivial
  have hb4 := gb4; clear gb4
  simp only [f0, f2, f6, hb4, List.length_map, hw, RR, seval]
  refine hK _ _ ?_; clear hK K
  refine awp_seq_k fun K hK => ?_
  refine awp_region rfl ?_
  simp only [f0, f4, hb4, List.length_map, hw, RR, seval]
  refine awpC_tape2 (by first | exact hB | exact hB.new (by assumption) _ | exact hB.new2 (by assumption) _ _ | exact hB.set (o := .rows _ _) (by assumption) trivial _) (hx b _ (by simp only [List.length_append]; omega)) (SubL.refl _) (fun _ => trivial) fun M4 hB hk' hn' => ?_
  have gb4 := hk' b4 _ hb4 trivial
  have hb4 := gb4; clear gb4
  simp only [f0, f4, hb4, List.length_map, hw, RR, seval]
  refine hK _ _ ?_; clear hK K
  refine awp_seq_k fun K hK => ?_
  refine awp_region rfl ?_
  simp only [f0, hb4, List.length_map, hw, RR, seval]
  refine awpC_tape2 (by first | exact hB | exact hB.new (by assumption) _ | exact hB.new2 (by assumption) _ _ | exact hB.set (o := .rows _ _) (by assumption) trivial _) (end_con b [41, 32, 123] _ (by simp only [List.length_append, List.length_cons, List.length_nil]; omega)) (SubL.refl _) (fun _ => trivial) fun M5 hB hk' hn' => ?_
  have gb4 := hk' b4 _ hb4 trivial
  have hb4 := gb4; clear gb4
  simp only [f0, hb4, List.length_map, hw, RR, seval]
  refine hK _ _ ?_; clear hK K
  refine awp_seq_k fun K hK => ?_
  refine awp_region rfl ?_
  simp only [f0, f2, f4, hb4, List.length_map, hw, RR, seval]
  refine awpC_tape2 (by first | exact hB | exact hB.new (by assumption) _ | exact hB.new2 (by assumption) _ _ | exact hB.set (o := .rows _ _) (by assumption) trivial _) (ht b _ (by simp only [List.length_append, List.length_cons, List.length_nil]; omega)) (SubL.refl _) (fun _ => trivial) fun M6 hB hk' hn' => ?_
  have gb4 := hk' b4 _ hb4 trivial
  have hb4 := gb4; clear gb4
  simp only [f0, f2, f4, hb4, List.length_map, hw, RR, seval]
  refine hK _ _ ?_; clear hK K
  refine awp_seq ?_
  refine awp_seq_k fun K hK => ?_
  refine awp_region rfl ?_
  simp only [f4, hb4, List.length_map, hw, RR, seval]
  refine hK _ _ ?_; clear hK K
  refine awp_if _ rfl (fun hc8 => ?_) (fun hc8 => ?_)
  · have hul : ¬ u.length = 0 := by have := of_decide_eq_true hc8; omega
    rw [if_neg hul] at hl
    simp only [List.length_append, List.length_cons, List.length_nil] at hl
    refine awp_seq_k fun K hK => ?_
    refine awp_region rfl ?_
    simp only [f0, f2, hb4, List.length_map, hw, RR, seval]
    refine awpC_tape2 (by first | exact hB | exact hB.new (by assumption) _ | exact hB.new2 (by assumption) _ _ | exact hB.set (o := .rows _ _) (by assumption) trivial _) (line_con b lv [125, 32, 101, 108, 115, 101, 32, 123] _ (by omega) (by simp only [List.length_append, List.length_cons, List.length_nil]; omega)) (SubL.refl _) (fun _ => trivial) fun M7 hB hk' hn' => ?_
    have gb4 := hk' b4 _ hb4 trivial
    have hb4 := gb4; clear gb4
    simp only [f0, f2, hb4, List.length_map, hw, RR, seval]
    refine hK _ _ ?_; clear hK K
    refine awp_region rfl ?_
    simp only [f0, f2, f4, hb4, List.length_map, hw, RR, seval]
    refine awpC_tape2 (by first | exact hB | exact hB.new (by assumption) _ | exact hB.new2 (by assumption) _ _ | exact hB.set (o := .rows _ _) (by assumption) trivial _) (hu b _ (by simp only [List.length_append, List.length_cons, List.length_nil]; omega)) (SubL.refl _) (fun _ => trivial) fun M8 hB hk' hn' => ?_
    have gb4 := hk' b4 _ hb4 trivial
    have hb4 := gb4; clear gb4
    simp only [f0, f2, f4, hb4, List.length_map, hw, RR, seval]
    refine awp_region rfl ?_
    simp only [f0, f2, hb4, List.length_map, hw, RR, seval]
    refine awpC_tape2 (by first | exact hB | exact hB.new (by assumption) _ | exact hB.new2 (by assumption) _ _ | exact hB.set (o := .rows _ _) (by assumption) trivial _) (line_con b lv [125] _ (by omega) (by simp only [List.length_append, List.length_cons, List.length_nil]; omega)) (SubL.refl _) (fun _ => trivial) fun M9 hB hk' hn' => ?_
    have gb4 := hk' b4 _ hb4 trivial
    have hb4 := gb4; clear gb4
    simp only [f0, f2, hb4, List.length_map, hw, RR, seval]
    try simp only [bodyQ, aresult, ares, f0, f2, f4, f6, hb4, List.length_map, hw, RR, seval]
    exact tend hB (by (first | rw [if_neg hul] | rw [if_pos hul]); simp only [List.append_assoc, List.cons_append, List.nil_append])
  · have hul : u.length = 0 := by have := of_decide_eq_false hc8; omega
    rw [if_pos hul] at hl
    simp only [List.length_append, List.length_cons, List.length_nil] at hl
    refine awp_skip ?_; try simp only [RR]
    refine awp_region rfl ?_
    simp only [f0, f2, hb4, List.length_map, hw, RR, seval]
    refine awpC_tape2 (by first | exact hB | exact hB.new (by assumption) _ | exact hB.new2 (by assumption) _ _ | exact hB.set (o := .rows _ _) (by assumption) trivial _) (line_con b lv [125] _ (by omega) (by simp only [List.length_append, List.length_cons, List.length_nil]; omega)) (SubL.refl _) (fun _ => trivial) fun M10 hB hk' hn' => ?_
    have gb4 := hk' b4 _ hb4 trivial
    have hb4 := gb4; clear gb4
    simp only [f0, f2, hb4, List.length_map, hw, RR, seval]
    try simp only [bodyQ, aresult, ares, f0, f2, f4, f6, hb4, List.length_map, hw, RR, seval]
    exact tend hB (by (first | rw [if_neg hul] | rw [if_pos hul]); simp only [List.append_assoc, List.cons_append, List.nil_append])
end Go.Proofs.YtgcncdjnipfolaaDoor

namespace Go.Proofs.YtgcncdjnipfolaaDoor
open Go.Al
set_option maxHeartbeats 4000000 in
theorem stmt_step (lv : Nat) (hlv : lv ≤ 100) (k : Int) (s : Str) (l : List Ex) (t u : List Sm) (hk : fitS k l.length = true) (h : ∀ e ∈ l, EC e) (ht : BC (lv + 1) t) (hu : BC (lv + 1) u) : SC lv (.mk k s l t u) := by
  intro b bs hl H0 hm
  have hB := hm.h
  have hlen : l.length ≤ 6 := by
    simp only [fitS] at hk
    split at hk
    · have := of_decide_eq_true hk; omega
    split at hk
    · have := of_decide_eq_true hk; omega
    split at hk
    · have := of_decide_eq_true hk; omega
    split at hk
    · have := of_decide_eq_true hk; omega
    · cases hk
  have hx : LC l := fun b bs hl => exprs_con l (by omega) h b bs hl
  simp only [Sm.row_eq, Sm.kind, Sm.name, Sm.es, Sm.thn, Sm.els]
  refine con_of 103 [] Tryd.func64 rfl rfl rfl rfl ?_
  refine awp_seq_k fun K hK => ?_
  refine awp_region rfl ?_
  simp only [List.length_map, RR, seval]
  refine awpN_intro fun b4 hn4 => ?_
  simp only [List.length_map, RR, seval]
  refine hK _ _ ?_; clear hK K
  refine awp_seq_k fun K hK => ?_
  refine awp_region rfl ?_
  simp only [List.length_map, RR, seval]
  refine hK _ _ ?_; clear hK K
  refine awp_seq_k fun K hK => ?_
  refine awp_region rfl ?_
  simp only [List.length_map, RR, seval]
  refine hK _ _ ?_; clear hK K
  refine awp_block ?_
  refine awp_seq_k fun K hK => ?_
  refine awp_region rfl ?_
  simp only [List.length_map, RR, seval]
  refine hK _ _ ?_; clear hK K
  refine awp_if _ rfl (fun hc3 => ?_) (fun hc3 => ?_)
  · obtain rfl := of_decide_eq_true hc3
    have hpr : prM lv (.mk 1 s l t u) = ind lv ++ (s ++ ([32, 61, 32] ++ (prL l ++ [59, 10]))) := by simp [prM]
    rw [hpr] at hl
    simp only [List.length_append, List.length_cons, List.length_nil] at hl
    have hcc : s.length + 1 + 1 + 1 ≤ maxLen := by unfold maxLen; omega
    have hcc2 : s.length + 3 ≤ maxLen := by unfold maxLen; omega
    refine awp_seq_k fun K hK => ?_
    refine awp_region rfl ?_
    simp only [List.length_map, hcc, hcc2, RR, seval]
    refine awpC_tape2 (by first | exact hB | exact hB.new (by assumption) _ | exact hB.new2 (by assumption) _ _ | exact hB.set (o := .rows _ _) (by assumption) trivial _) (begin_con b lv (s ++ [32, 61, 32]) bs (by omega) (by simp only [List.length_append, List.length_cons, List.length_nil]; omega)) (SubL.refl _) (fun _ => trivial) fun M1 hB hk' hn' => ?_
    have hb4 := hk' b4 _ (upd_same _ _ _) trivial
    simp only [hb4, List.length_map, hcc, hcc2, RR, seval]
    refine hK _ _ ?_; clear hK K
    refine awp_seq_k fun K hK => ?_
    refine awp_region rfl ?_
    simp only [hb4, List.length_map, hcc, hcc2, RR, seval]
    refine awpC_tape2 (by first | exact hB | exact hB.new (by assumption) _ | exact hB.new2 (by assumption) _ _ | exact hB.set (o := .rows _ _) (by assumption) trivial _) (hx b _ (by simp only [List.length_append, List.length_cons, List.length_nil]; omega)) (SubL.refl _) (fun _ => trivial) fun M2 hB hk' hn' => ?_
    have gb4 := hk' b4 _ hb4 trivial
    have hb4 := gb4; clear gb4
    simp only [hb4, List.length_map, hcc, hcc2, RR, seval]
    refine hK _ _ ?_; clear hK K
    refine awp_region rfl ?_
    simp only [hb4, List.length_map, hcc, hcc2, RR, seval]
    refine awpC_tape2 (by first | exact hB | exact hB.new (by assumption) _ | exact hB.new2 (by assumption) _ _ | exact hB.set (o := .rows _ _) (by assumption) trivial _) (end_con b [59] _ (by simp only [List.length_append, List.length_cons, List.length_nil]; omega)) (SubL.refl _) (fun _ => trivial) fun M3 hB hk' hn' => ?_
    have gb4 := hk' b4 _ hb4 trivial
    have hb4 := gb4; clear gb4
    simp only [hb4, List.length_map, hcc, hcc2, RR, seval]
    try simp only [bodyQ, aresult, ares, hb4, List.length_map, hcc, hcc2, RR, seval]
    first | exact tend hB rfl | exact tend hB (by rw [hpr] <;> simp only [List.append_assoc, List.cons_append, List.nil_append])
  · refine awp_seq_k fun K hK => ?_
    refine awp_region rfl ?_
    simp only [List.length_map, RR, seval]
    refine hK _ _ ?_; clear hK K
    refine awp_if _ rfl (fun hc7 => ?_) (fun hc7 => ?_)
    · obtain rfl := of_decide_eq_true hc7
      obtain ⟨x, y, rfl⟩ := two_of (l := l) (by simpa [fitS] using hk)
      have hpr : prM lv (.mk 2 s [x, y] t u) = ind lv ++ (s ++ ([91] ++ (prL [x] ++ ([93, 32, 61, 32] ++ (prL [y] ++ [59, 10]))))) := by
        rw [prL_one, prL_one]; simp [prM, pr1, pr2, prL, prT]
      rw [hpr] at hl
      simp only [List.length_append, List.length_cons, List.length_nil] at hl
      have hcc : s.length + 1 ≤ maxLen := by unfold maxLen; omega
      have hx1 := fun b bs hl => exprs_con [x] (by simp) (fun e he => h e (by simp at he; simp [he])) b bs hl
      have hy1 := fun b bs hl => exprs_con [y] (by simp) (fun e he => h e (by simp at he; simp [he])) b bs hl
      refine awp_seq_k fun K hK => ?_
      refine awp_region rfl ?_
      simp only [List.length_map, hcc, RR, seval]
      refine awpC_tape2 (by first | exact hB | exact hB.new (by assumption) _ | exact hB.new2 (by assumption) _ _ | exact hB.set (o := .rows _ _) (by assumption) trivial _) (begin_con b lv (s ++ [91]) bs (by omega) (by simp only [List.length_append, List.length_cons, List.length_nil]; omega)) (SubL.refl _) (fun _ => trivial) fun M4 hB hk' hn' => ?_
      have hb4 := hk' b4 _ (upd_same _ _ _) trivial
      simp only [hb4, List.length_map, hcc, RR, seval]
      refine hK _ _ ?_; clear hK K
      refine awp_seq_k fun K hK => ?_
      refine awp_region rfl ?_
      simp only [hb4, List.length_map, hcc, RR, seval]
      refine awpC_tape2 (by first | exact hB | exact hB.new (by assumption) _ | exact hB.new2 (by assumption) _ _ | exact hB.set (o := .rows _ _) (by assumption) trivial _) (hx1 b _ (by simp only [List.length_append, List.length_cons, List.length_nil]; omega)) (SubL.refl _) (fun _ => trivial) fun M5 hB hk' hn' => ?_
      have gb4 := hk' b4 _ hb4 trivial
      have hb4 := gb4; clear gb4
      simp only [hb4, List.length_map, hcc, RR, seval]
      refine hK _ _ ?_; clear hK K
      refine awp_seq_k fun K hK => ?_
      refine awp_region rfl ?_
      simp only [hb4, List.length_map, hcc, RR, seval]
      refine awpC_tape2 (by first | exact hB | exact hB.new (by assumption) _ | exact hB.new2 (by assumption) _ _ | exact hB.set (o := .rows _ _) (by assumption) trivial _) (WriteString_con b _ [93, 32, 61, 32] (by simp only [List.length_append, List.length_cons, List.length_nil]; omega)) (SubL.refl _) (fun _ => trivial) fun M6 hB hk' hn' => ?_
      have gb4 := hk' b4 _ hb4 trivial
      have hb4 := gb4; clear gb4
      simp only [hb4, List.length_map, hcc, RR, seval]
      refine hK _ _ ?_; clear hK K
      refine awp_seq_k fun K hK => ?_
      refine awp_region rfl ?_
      simp only [hb4, List.length_map, hcc, RR, seval]
      refine awpC_tape2 (by first | exact hB | exact hB.new (by assumption) _ | exact hB.new2 (by assumption) _ _ | exact hB.set (o := .rows _ _) (by assumption) trivial _) (hy1 b _ (by simp only [List.length_append, List.length_cons, List.length_nil]; omega)) (SubL.refl _) (fun _ => trivial) fun M7 hB hk' hn' => ?_
      have gb4 := hk' b4 _ hb4 trivial
      have hb4 := gb4; clear gb4
      simp only [hb4, List.length_map, hcc, RR, seval]
      refine hK _ _ ?_; clear hK K
      refine awp_region rfl ?_
      simp only [hb4, List.length_map, hcc, RR, seval]
      refine awpC_tape2 (by first | exact hB | exact hB.new (by assumption) _ | exact hB.new2 (by assumption) _ _ | exact hB.set (o := .rows _ _) (by assumption) trivial _) (end_con b [59] _ (by simp only [List.length_append, List.length_cons, List.length_nil]; omega)) (SubL.refl _) (fun _ => trivial) fun M8 hB hk' hn' => ?_
      have gb4 := hk' b4 _ hb4 trivial
      have hb4 := gb4; clear gb4
      simp only [hb4, List.length_map, hcc, RR, seval]
      try simp only [bodyQ, aresult, ares, hb4, List.length_map, hcc, RR, seval]
      first | exact tend hB rfl | exact tend hB (by rw [hpr] <;> simp only [List.append_assoc, List.cons_append, List.nil_append])
    · refine awp_seq_k fun K hK => ?_
      refine awp_region rfl ?_
      simp only [List.length_map, RR, seval]
      refine hK _ _ ?_; clear hK K
      refine awp_if _ rfl (fun hc13 => ?_) (fun hc13 => ?_)
      · obtain rfl := of_decide_eq_true hc13
        have hpr : prM lv (.mk 3 s l t u) = ind lv ++ ([112, 117, 116, 40] ++ (prL l ++ [41, 59, 10])) := by simp [prM]
        rw [hpr] at hl
        simp only [List.length_append, List.length_cons, List.length_nil] at hl
        refine awp_seq_k fun K hK => ?_
        refine awp_region rfl ?_
        simp only [List.length_map, RR, seval]
        refine awpC_tape2 (by first | exact hB | exact hB.new (by assumption) _ | exact hB.new2 (by assumption) _ _ | exact hB.set (o := .rows _ _) (by assumption) trivial _) (begin_con b lv [112, 117, 116, 40] bs (by omega) (by simp only [List.length_append, List.length_cons, List.length_nil]; omega)) (SubL.refl _) (fun _ => trivial) fun M9 hB hk' hn' => ?_
        have hb4 := hk' b4 _ (upd_same _ _ _) trivial
        simp only [hb4, List.length_map, RR, seval]
        refine hK _ _ ?_; clear hK K
        refine awp_seq_k fun K hK => ?_
        refine awp_region rfl ?_
        simp only [hb4, List.length_map, RR, seval]
        refine awpC_tape2 (by first | exact hB | exact hB.new (by assumption) _ | exact hB.new2 (by assumption) _ _ | exact hB.set (o := .rows _ _) (by assumption) trivial _) (hx b _ (by simp only [List.length_append, List.length_cons, List.length_nil]; omega)) (SubL.refl _) (fun _ => trivial) fun M10 hB hk' hn' => ?_
        have gb4 := hk' b4 _ hb4 trivial
        have hb4 := gb4; clear gb4
        simp only [hb4, List.length_map, RR, seval]
        refine hK _ _ ?_; clear hK K
        refine awp_region rfl ?_
        simp only [hb4, List.length_map, RR, seval]
        refine awpC_tape2 (by first | exact hB | exact hB.new (by assumption) _ | exact hB.new2 (by assumption) _ _ | exact hB.set (o := .rows _ _) (by assumption) trivial _) (end_con b [41, 59] _ (by simp only [List.length_append, List.length_cons, List.length_nil]; omega)) (SubL.refl _) (fun _ => trivial) fun M11 hB hk' hn' => ?_
        have gb4 := hk' b4 _ hb4 trivial
        have hb4 := gb4; clear gb4
        simp only [hb4, List.length_map, RR, seval]
        try simp only [bodyQ, aresult, ares, hb4, List.length_map, RR, seval]
        first | exact tend hB rfl | exact tend hB (by rw [hpr] <;> simp only [List.append_assoc, List.cons_append, List.nil_append])
      · refine awp_seq_k fun K hK => ?_
        refine awp_region rfl ?_
        simp only [List.length_map, RR, seval]
        refine hK _ _ ?_; clear hK K
        refine awp_if _ rfl (fun hc17 => ?_) (fun hc17 => ?_)
        · obtain rfl := of_decide_eq_true hc17
          have hpr : prM lv (.mk 6 s l t u) = ind lv ++ (s ++ ([40] ++ (prL l ++ [41, 59, 10]))) := by simp [prM]
          rw [hpr] at hl
          simp only [List.length_append, List.length_cons, List.length_nil] at hl
          have hcc : s.length + 1 ≤ maxLen := by unfold maxLen; omega
          refine awp_seq_k fun K hK => ?_
          refine awp_region rfl ?_
          simp only [List.length_map, hcc, RR, seval]
          refine awpC_tape2 (by first | exact hB | exact hB.new (by assumption) _ | exact hB.new2 (by assumption) _ _ | exact hB.set (o := .rows _ _) (by assumption) trivial _) (begin_con b lv (s ++ [40]) bs (by omega) (by simp only [List.length_append, List.length_cons, List.length_nil]; omega)) (SubL.refl _) (fun _ => trivial) fun M12 hB hk' hn' => ?_
          have hb4 := hk' b4 _ (upd_same _ _ _) trivial
          simp only [hb4, List.length_map, hcc, RR, seval]
          refine hK _ _ ?_; clear hK K
          refine awp_seq_k fun K hK => ?_
          refine awp_region rfl ?_
          simp only [hb4, List.length_map, hcc, RR, seval]
          refine awpC_tape2 (by first | exact hB | exact hB.new (by assumption) _ | exact hB.new2 (by assumption) _ _ | exact hB.set (o := .rows _ _) (by assumption) trivial _) (hx b _ (by simp only [List.length_append, List.length_cons, List.length_nil]; omega)) (SubL.refl _) (fun _ => trivial) fun M13 hB hk' hn' => ?_
          have gb4 := hk' b4 _ hb4 trivial
          have hb4 := gb4; clear gb4
          simp only [hb4, List.length_map, hcc, RR, seval]
          refine hK _ _ ?_; clear hK K
          refine awp_region rfl ?_
          simp only [hb4, List.length_map, hcc, RR, seval]
          refine awpC_tape2 (by first | exact hB | exact hB.new (by assumption) _ | exact hB.new2 (by assumption) _ _ | exact hB.set (o := .rows _ _) (by assumption) trivial _) (end_con b [41, 59] _ (by simp only [List.length_append, List.length_cons, List.length_nil]; omega)) (SubL.refl _) (fun _ => trivial) fun M14 hB hk' hn' => ?_
          have gb4 := hk' b4 _ hb4 trivial
          have hb4 := gb4; clear gb4
          simp only [hb4, List.length_map, hcc, RR, seval]
          try simp only [bodyQ, aresult, ares, hb4, List.length_map, hcc, RR, seval]
          first | exact tend hB rfl | exact tend hB (by rw [hpr] <;> simp only [List.append_assoc, List.cons_append, List.nil_append])
        · refine awp_seq_k fun K hK => ?_
          refine awp_region rfl ?_
          simp only [List.length_map, RR, seval]
          refine hK _ _ ?_; clear hK K
          refine awp_if _ rfl (fun hc21 => ?_) (fun hc21 => ?_)
          · obtain rfl := of_decide_eq_true hc21
            have hpr : prM lv (.mk 7 s l t u) = ind lv ++ ([114, 101, 116, 117, 114, 110] ++ ((if l.length = 0 then [] else [32] ++ prL l) ++ [59, 10])) := by simp [prM]
            rw [hpr] at hl
            simp only [List.length_append, List.length_cons, List.length_nil] at hl
            refine awp_seq_k fun K hK => ?_
            refine awp_region rfl ?_
            simp only [List.length_map, RR, seval]
            refine awpC_tape2 (by first | exact hB | exact hB.new (by assumption) _ | exact hB.new2 (by assumption) _ _ | exact hB.set (o := .rows _ _) (by assumption) trivial _) (begin_con b lv [114, 101, 116, 117, 114, 110] bs (by omega) (by simp only [List.length_append, List.length_cons, List.length_nil]; omega)) (SubL.refl _) (fun _ => trivial) fun M15 hB hk' hn' => ?_
            have hb4 := hk' b4 _ (upd_same _ _ _) trivial
            simp only [hb4, List.length_map, RR, seval]
            refine hK _ _ ?_; clear hK K
            refine awp_seq ?_
            refine awp_seq_k fun K hK => ?_
            refine awp_region rfl ?_
            simp only [hb4, List.length_map, RR, seval]
            refine hK _ _ ?_; clear hK K
            refine awp_if _ rfl (fun hc23 => ?_) (fun hc23 => ?_)
            · have hul : ¬ l.length = 0 := by have := of_decide_eq_true hc23; omega
              rw [if_neg hul] at hl hpr
              simp only [List.length_append, List.length_cons, List.length_nil] at hl
              refine awp_seq_k fun K hK => ?_
              refine awp_region rfl ?_
              simp only [hb4, List.length_map, RR, seval]
              refine awpC_tape2 (by first | exact hB | exact hB.new (by assumption) _ | exact hB.new2 (by assumption) _ _ | exact hB.set (o := .rows _ _) (by assumption) trivial _) (WriteString_con b _ [32] (by simp only [List.length_append, List.length_cons, List.length_nil]; omega)) (SubL.refl _) (fun _ => trivial) fun M16 hB hk' hn' => ?_
              have gb4 := hk' b4 _ hb4 trivial
              have hb4 := gb4; clear gb4
              simp only [hb4, List.length_map, RR, seval]
              refine hK _ _ ?_; clear hK K
              refine awp_region rfl ?_
              simp only [hb4, List.length_map, RR, seval]
              refine awpC_tape2 (by first | exact hB | exact hB.new (by assumption) _ | exact hB.new2 (by assumption) _ _ | exact hB.set (o := .rows _ _) (by assumption) trivial _) (hx b _ (by simp only [List.length_append, List.length_cons, List.length_nil]; omega)) (SubL.refl _) (fun _ => trivial) fun M17 hB hk' hn' => ?_
              have gb4 := hk' b4 _ hb4 trivial
              have hb4 := gb4; clear gb4
              simp only [hb4, List.length_map, RR, seval]
              refine awp_region rfl ?_
              simp only [hb4, List.length_map, RR, seval]
              refine awpC_tape2 (by first | exact hB | exact hB.new (by assumption) _ | exact hB.new2 (by assumption) _ _ | exact hB.set (o := .rows _ _) (by assumption) trivial _) (end_con b [59] _ (by simp only [List.length_append, List.length_cons, List.length_nil]; omega)) (SubL.refl _) (fun _ => trivial) fun M18 hB hk' hn' => ?_
              have gb4 := hk' b4 _ hb4 trivial
              have hb4 := gb4; clear gb4
              simp only [hb4, List.length_map, RR, seval]
              try simp only [bodyQ, aresult, ares, hb4, List.length_map, RR, seval]
              first | exact tend hB rfl | exact tend hB (by rw [hpr] <;> simp only [List.append_assoc, List.cons_append, List.nil_append])
            · have hul : l.length = 0 := by have := of_decide_eq_false hc23; omega
              rw [if_pos hul] at hl hpr
              simp only [List.length_append, List.length_cons, List.length_nil] at hl
              refine awp_skip ?_; try simp only [RR]
              refine awp_region rfl ?_
              simp only [hb4, List.length_map, RR, seval]
              refine awpC_tape2 (by first | exact hB | exact hB.new (by assumption) _ | exact hB.new2 (by assumption) _ _ | exact hB.set (o := .rows _ _) (by assumption) trivial _) (end_con b [59] _ (by simp only [List.length_append, List.length_cons, List.length_nil]; omega)) (SubL.refl _) (fun _ => trivial) fun M19 hB hk' hn' => ?_
              have gb4 := hk' b4 _ hb4 trivial
              have hb4 := gb4; clear gb4
              simp only [hb4, List.length_map, RR, seval]
              try simp only [bodyQ, aresult, ares, hb4, List.length_map, RR, seval]
              first | exact tend hB rfl | exact tend hB (by rw [hpr] <;> simp only [List.append_assoc, List.cons_append, List.nil_append])
          · refine awp_seq ?_
            refine awp_seq_k fun K hK => ?_
            refine awp_region rfl ?_
            simp only [List.length_map, RR, seval]
            refine hK _ _ ?_; clear hK K
            refine awp_name fun F20 M20 hfr hH => ?_
            have g0 := hfr 0
            have g2 := hfr 2
            have g4 := hfr 4
            have g13 := hfr 13
            have g96 := hfr 96
            have gb4 := hH b4
            try simp only [List.length_map, RR, seval] at g0 g2 g4 g13 g96 gb4
            have hM := funext hH
            have f0 := g0; clear g0
            have f2 := g2; clear g2
            have f4 := g4; clear g4
            have f13 := g13; clear g13
            have f96 := g96; clear g96
            have hb4 := gb4; clear gb4
            clear hfr hH
            refine awp_cutP (fun fr M => agree [0, 2, 4] F20 fr ∧ M b4 = M20 b4 ∧ fr 96 = .bool (decide (k = 4 ∨ k = 5)) ∧ BldH b bs M) (fun KC27 hKC27 => ?_) ?_
            · have agC27 := agree.refl [0, 2, 4] F20
              have eC27_b4 : M20 b4 = M20 b4 := rfl
              refine awp_if _ (by first | rfl | exact f96) (fun hc27 => ?_) (fun hc27 => ?_)
              · refine awp_skip ?_; try simp only [RR]
                refine hKC27 _ _ ⟨(by repeat (first | exact agC27 | refine agree.upd rfl ?_)), (by first | exact eC27_b4 | (simp only [upd_app, seval]; first | done | exact eC27_b4)), ?_⟩
                refine ⟨?_, by first | exact hB | (rw [hM]; exact hB.new (by assumption) _)⟩
                first | (simp only [f96, hc27]; simp [of_decide_eq_true hc27]; done) | (simp only [upd_app, seval]; simp [of_decide_eq_false hc27]; done)
              · refine awp_region rfl ?_
                simp only [f13, List.length_map, RR, seval]
                refine hKC27 _ _ ⟨(by repeat (first | exact agC27 | refine agree.upd rfl ?_)), (by first | exact eC27_b4 | (simp only [upd_app, seval]; first | done | exact eC27_b4)), ?_⟩
                refine ⟨?_, by first | exact hB | (rw [hM]; exact hB.new (by assumption) _)⟩
                first | (simp only [f96, hc27]; simp [of_decide_eq_true hc27]; done) | (simp only [upd_app, seval]; simp [of_decide_eq_false hc27]; done)
            rintro F21 M21 ⟨agx, gb4, f96, hB⟩
            have f0 := (agx 0 rfl).trans f0
            have f2 := (agx 2 rfl).trans f2
            have f4 := (agx 4 rfl).trans f4
            have hb4 := gb4.trans hb4
            clear agx
            clear gb4
            simp only [RR, seval]
            refine awp_if _ (by first | rfl | exact f96) (fun hc28 => ?_) (fun hc28 => ?_)
            · have hkk := of_decide_eq_true hc28
              have hpr : prM lv (.mk k s l t u) = prM lv (.mk k s l t u) := rfl
              refine awp_region rfl ?_
              simp only [f0, f2, f4, hb4, List.length_map, RR, seval]
              refine awpC_tape2 (by first | exact hB | exact hB.new (by assumption) _ | exact hB.new2 (by assumption) _ _ | exact hB.set (o := .rows _ _) (by assumption) trivial _) (nest_con lv hlv k s l t u hkk hx ht hu b bs hl) (SubL.refl _) (fun _ => trivial) fun M22 hB hk' hn' => ?_
              have gb4 := hk' b4 _ hb4 trivial
              have hb4 := gb4; clear gb4
              simp only [f0, f2, f4, hb4, List.length_map, RR, seval]
              try simp only [bodyQ, aresult, ares, f0, f2, f4, f96, hb4, List.length_map, RR, seval]
              first | exact tend hB rfl | exact tend hB (by rw [hpr] <;> simp only [List.append_assoc, List.cons_append, List.nil_append])
            · exfalso
              have h1 := of_decide_eq_false hc3
              have h2 := of_decide_eq_false hc7
              have h3 := of_decide_eq_false hc13
              have h4 := of_decide_eq_false hc17
              have h5 := of_decide_eq_false hc21
              have h8 := of_decide_eq_false hc28
              rw [not_or] at h8
              simp [fitS, h1, h2, h3, h4, h5, h8.1, h8.2] at hk
theorem rightS_mem {l : List Sm} {level : Int} (h : rightS l level = true) : ∀ a ∈ l, rightM a level = true := by
  induction l with
  | nil => intro a ha; cases ha
  | cons e l ih =>
    rw [rightS_cons, Bool.and_eq_true] at h
    intro a ha
    rcases List.mem_cons.1 ha with rfl | ha
    · exact h.1
    · exact ih h.2 a ha
theorem szS_len : ∀ l : List Sm, l.length ≤ szS l
  | [] => Nat.le_refl _
  | e :: l => by have := szS_len l; have := e.sz_eq; simp only [szS, List.length_cons]; omega
theorem stmt_con (N : Nat) (hN : N ≤ 1000000) : ∀ (e : Sm) (lv : Nat), e.sz ≤ N → e.ok → 1 ≤ lv → rightM e (lv : Int) = true → SC lv e := by
  induction N using Nat.strongRecOn with
  | _ N ih =>
    intro e lv hs ho h1 hr
    have hz := e.sz_eq
    have hes := ho.es
    have hth := ho.thn
    have hel := ho.els
    simp only [rightM, Bool.and_eq_true] at hr
    obtain ⟨⟨⟨⟨hh, hk⟩, hre⟩, hrt⟩, hru⟩ := hr
    obtain ⟨k, s, l, t, u⟩ := e
    simp only [Sm.kind, Sm.name, Sm.es, Sm.thn, Sm.els] at *
    have hlv : lv ≤ 24 := by
      simp only [headS, Bool.and_eq_true, decide_eq_true_eq] at hh
      omega
    have hcast : (lv : Int) + 1 = ((lv + 1 : Nat) : Int) := by omega
    rw [hcast] at hrt hru
    have hlt := szS_len t
    have hlu := szS_len u
    have sub : ∀ v : List Sm, szS v < N → okS v → rightS v ((lv + 1 : Nat) : Int) = true → BC (lv + 1) v := fun v hv hov hrv => by
      have := szS_len v
      exact stmts_con (lv + 1) v (by omega) fun x hx => by
        have hm := szS_mem hx
        exact ih x.sz (by omega) (by omega) x (lv + 1) (Nat.le_refl _) (hov.all x hx) (by omega) (rightS_mem hrv x hx)
    exact stmt_step lv (by omega) k s l t u hk (fun x hx => expr_con x.sz x _ (Nat.le_refl _) (hes.all x hx) (right_mem hre x hx)) (sub t (by omega) hth hrt) (sub u (by omega) hel hru)
end Go.Proofs.YtgcncdjnipfolaaDoor

namespace Go.Proofs.YtgcncdjnipfolaaDoor
open Go.Al
theorem awpC_String {F : Nat → Prop} {ds : List (Option Nat)} {Q : APost} {d : Option Nat} {rest : List Oper} {fr : Fr} {H : Hp} {b : Nat} {bs : List UInt8}
    (hb : BldH b bs H) (hF : ∀ b, F b) (h : ∀ H2, (∀ x o, H x = some o → plain o → H2 x = some o) → awpL env F ds Q rest (putF fr d (.str bs)) H2) : awpC env F ds Q d rest fr H 43 [.ptr 2 b 0 0] := by
  obtain ⟨H0, hm, hs, hpl⟩ := hb.least
  refine awpC_con (String_con b bs H0 hm) (SubL.refl _) hs (fun b _ => hF b) fun ae H' ⟨e, e2⟩ hnew => ?_
  subst e; subst e2
  refine h _ fun x o hx hp => ?_
  simp only [hjoin, emp, hpl x o hx hp, Option.isSome_none, Bool.false_eq_true, if_false, hx]
theorem Expr_con (e : Ex) (lv : Int) (ho : e.ok) (hr : rightX e lv = true) (hl : (prE e).length ≤ 140737488355328) : PCon env 22 [.agg e.row] (.str (prE e)) := by
  have hec := expr_con e.sz e lv (Nat.le_refl _) ho hr
  obtain ⟨k, o, n, s, l⟩ := e
  simp only [EC, Ex.row_eq, Ex.kind, Ex.op, Ex.num, Ex.name, Ex.kids] at hec
  simp only [Ex.row_eq, Ex.kind, Ex.op, Ex.num, Ex.name, Ex.kids]
  generalize prE (.mk k o n s l) = out at *
  refine con_of 8 [.tmp 2] Tryd.func22 rfl rfl rfl rfl ?_
  refine awp_seq_k fun K hK => ?_
  refine awp_region rfl ?_
  simp only [RR, seval]
  refine awpN_intro fun b1 hn1 => ?_
  simp only [RR, seval]
  refine hK _ _ ?_; clear hK K
  refine awp_seq_k fun K hK => ?_
  refine awp_bld (by kernel_rfl) ty_63 rfl fun b3 hn3 => ?_
  simp only [thenQ_normal]
  have hB : BldH b3 [] (upd (upd emp b1 (some (.rows 5 [[.int .i64 k, .int .i64 o, .int .u32 n, .str s, .isl 5 (l.map Ex.row)]]))) b3 (some (.bld TB none 0))) := .inl ⟨rfl, upd_same _ _ _⟩
  have hb1 : (upd (upd emp b1 (some (.rows 5 [[.int .i64 k, .int .i64 o, .int .u32 n, .str s, .isl 5 (l.map Ex.row)]]))) b3 (some (.bld TB none 0))) b1 = some (.rows 5 [[.int .i64 k, .int .i64 o, .int .u32 n, .str s, .isl 5 (l.map Ex.row)]]) := by
    rw [upd_ne _ _ (fun e => by rw [← e, upd_same] at hn3; cases hn3)]
    exact upd_same _ _ _
  refine hK _ _ ?_; clear hK K
  refine awp_seq_k fun K hK => ?_
  refine awp_region rfl ?_
  simp only [hb1, RR, seval]
  refine awpC_tape2 (by first | exact hB | exact hB.new (by assumption) _ | exact hB.new2 (by assumption) _ _ | exact hB.set (o := .rows _ _) (by assumption) trivial _) (hec b3 [] (by simpa using hl)) (SubL.refl _) (fun _ => trivial) fun M1 hB hk' hn' => ?_
  have gb1 := hk' b1 _ hb1 trivial
  have hb1 := gb1; clear gb1
  simp only [hb1, RR, seval]
  refine hK _ _ ?_; clear hK K
  refine awp_seq_k fun K hK => ?_
  refine awp_region rfl ?_
  simp only [hb1, RR, seval]
  refine awpC_String hB (fun _ => trivial) fun M9 hk'' => ?_
  simp only [hb1, RR, seval]
  refine hK _ _ ?_; clear hK K
  refine awp_ret ?_; simp only [bodyQ, aresult, ares, RR, seval]
  refine Gives.pure ?_
  rfl
end Go.Proofs.YtgcncdjnipfolaaDoor

namespace Go.Proofs.YtgcncdjnipfolaaDoor
open Go.Al
set_option maxHeartbeats 4000000 in
theorem Print_con (p : Pg) (hv : p.vars.length ≤ 1000000) (ha : p.arrs.length ≤ 1000000) (hf : p.funs.length ≤ 1000000) (hsz : ∀ a ∈ p.arrs, 0 ≤ a.size ∧ a.size < 4294967296) (hfn : ∀ f ∈ p.funs, f.params.length ≤ 1000000 ∧ f.locs.length ≤ 1000000 ∧ BC 1 f.body)
    (hl : (prP p).length ≤ 140737488355328) : PCon env 18 [p.av] (.str (prP p)) := by
  have hav : p.av = .agg p.row := rfl
  have hrow : p.row = [.isl 1 (p.vars.map strRow), .isl 2 (p.arrs.map Ar.row), .isl 5 (p.funs.map Fu.row)] := rfl
  rw [hav, hrow]
  have hpr : prP p = (if p.vars.length = 0 then [] else [118, 97, 114, 32] ++ (comma p.vars ++ [59, 10])) ++ (prAs p.arrs ++ prFs p.funs) := rfl
  rw [hpr] at hl ⊢
  generalize hpv : (if p.vars.length = 0 then [] else [118, 97, 114, 32] ++ (comma p.vars ++ [59, 10])) = pv at *
  simp only [List.length_append] at hl
  refine con_of 85 [.tmp 2] Tryd.func18 rfl rfl rfl rfl ?_
  refine awp_seq_k fun K hK => ?_
  refine awp_region rfl ?_
  simp only [List.length_map, RR, seval]
  refine awpN_intro fun b1 hn1 => ?_
  simp only [List.length_map, RR, seval]
  refine hK _ _ ?_; clear hK K
  refine awp_seq_k fun K hK => ?_
  refine awp_bld (by kernel_rfl) ty_63 rfl fun b3 hn3 => ?_
  simp only [thenQ_normal]
  have hB : BldH b3 [] (upd (upd emp b1 (some (.rows 3 [[.isl 1 (p.vars.map strRow), .isl 2 (p.arrs.map Ar.row), .isl 5 (p.funs.map Fu.row)]]))) b3 (some (.bld TB none 0))) := .inl ⟨rfl, upd_same _ _ _⟩
  have hb1 : (upd (upd emp b1 (some (.rows 3 [[.isl 1 (p.vars.map strRow), .isl 2 (p.arrs.map Ar.row), .isl 5 (p.funs.map Fu.row)]]))) b3 (some (.bld TB none 0))) b1 = some (.rows 3 [[.isl 1 (p.vars.map strRow), .isl 2 (p.arrs.map Ar.row), .isl 5 (p.funs.map Fu.row)]]) := by
    rw [upd_ne _ _ (fun e => by rw [← e, upd_same] at hn3; cases hn3)]
    exact upd_same _ _ _
  refine hK _ _ ?_; clear hK K
  refine awp_seq_k fun K hK => ?_
  refine awp_region rfl ?_
  simp only [hb1, List.length_map, RR, seval]
  refine hK _ _ ?_; clear hK K
  refine awp_seq ?_
  refine awp_seq_k fun K hK => ?_
  refine awp_region rfl ?_
  simp only [hb1, List.length_map, RR, seval]
  refine hK _ _ ?_; clear hK K
  refine awp_name fun F1 M1 hfr hH => ?_
  have g1 := hfr 1
  have g2 := hfr 2
  have g3 := hfr 3
  have g4 := hfr 4
  have g14 := hfr 14
  have gb1 := hH b1
  try simp only [hb1, List.length_map, RR, seval] at g1 g2 g3 g4 g14 gb1
  have hM := funext hH
  rw [← hM] at hB
  have f1 := g1; clear g1
  have f2 := g2; clear g2
  have f3 := g3; clear g3
  have f4 := g4; clear g4
  have f14 := g14; clear g14
  have hb1 := gb1; clear gb1
  clear hfr hH
  refine awp_cutP (fun fr M => agree [1, 2, 3, 4] F1 fr ∧ M b1 = M1 b1 ∧ BldH b3 pv M) (fun KC3 hKC3 => ?_) ?_
  · have agC3 := agree.refl [1, 2, 3, 4] F1
    have eC3_b1 : M1 b1 = M1 b1 := rfl
    refine awp_if _ (by first | rfl | exact f14) (fun hc3 => ?_) (fun hc3 => ?_)
    · have hul : ¬ p.vars.length = 0 := by have := of_decide_eq_true hc3; omega
      rw [if_neg hul] at hpv
      subst hpv
      simp only [List.length_append, List.length_cons, List.length_nil] at hl
      have hjc : (Lib.join p.vars [44, 32]).length = (comma p.vars).length := rfl
      have hcc : 4 + (Lib.join p.vars [44, 32]).length ≤ maxLen := by unfold maxLen; omega
      have hcc2 : (Lib.join p.vars [44, 32]).length + 1 + 1 + 1 + 1 + 1 ≤ maxLen := by unfold maxLen; omega
      refine awp_region rfl ?_
      simp only [f1, f4, hb1, List.length_map, hcc, hcc2, RR, seval]
      refine awpC_pure' (Join_con p.vars [44, 32] (show (comma p.vars).length ≤ _ by omega) (by omega)) ?_
      simp only [f1, f4, hb1, List.length_map, hcc, hcc2, RR, seval]
      refine awpC_tape2 (by first | exact hB | exact hB.new (by assumption) _ | exact hB.new2 (by assumption) _ _ | exact hB.set (o := .rows _ _) (by assumption) trivial _) (line_con b3 0 ([118, 97, 114, 32] ++ comma p.vars ++ [59]) [] (by omega) (by simp only [List.length_append, List.length_cons, List.length_nil, ind_len]; omega)) (SubL.refl _) (fun _ => trivial) fun M2 hB hk' hn' => ?_
      have gb1 := hk' b1 _ hb1 trivial
      have eC3_b1 := (gb1.trans hb1.symm).trans eC3_b1
      have hb1 := gb1; clear gb1
      simp only [f1, f4, hb1, List.length_map, hcc, hcc2, RR, seval]
      refine hKC3 _ _ ⟨(by repeat (first | exact agC3 | refine agree.upd rfl ?_)), (by first | exact eC3_b1 | (simp only [upd_app, seval]; first | done | exact eC3_b1)), ?_⟩
      first | (rw [← hpv]; exact hB) | simpa [ind] using hB
    · have hul : p.vars.length = 0 := by have := of_decide_eq_false hc3; omega
      rw [if_pos hul] at hpv
      refine awp_skip ?_; try simp only [RR]
      refine hKC3 _ _ ⟨(by repeat (first | exact agC3 | refine agree.upd rfl ?_)), (by first | exact eC3_b1 | (simp only [upd_app, seval]; first | done | exact eC3_b1)), ?_⟩
      first | (rw [← hpv]; exact hB) | simpa [ind] using hB
  rintro F3 M3 ⟨agx, gb1, hB⟩
  have f1 := (agx 1 rfl).trans f1
  have f2 := (agx 2 rfl).trans f2
  have f3 := (agx 3 rfl).trans f3
  have f4 := (agx 4 rfl).trans f4
  have hb1 := gb1.trans hb1
  clear agx
  clear gb1
  simp only [RR, seval]
  refine awp_seq ?_
  refine awp_seq_k fun K hK => ?_
  refine awp_region rfl ?_
  simp only [f1, hb1, List.length_map, RR, seval]
  refine hK _ _ ?_; clear hK K
  refine awp_name fun F4 M4 hfr hH => ?_
  have g1 := hfr 1
  have g2 := hfr 2
  have g3 := hfr 3
  have g4 := hfr 4
  have g23 := hfr 23
  have g24 := hfr 24
  have g25 := hfr 25
  have gb1 := hH b1
  try simp only [f1, f2, f3, f4, hb1, List.length_map, RR, seval] at g1 g2 g3 g4 g23 g24 g25 gb1
  have hM := funext hH
  have f1 := g1; clear g1
  have f2 := g2; clear g2
  have f3 := g3; clear g3
  have f4 := g4; clear g4
  have f23 := g23; clear g23
  have f24 := g24; clear g24
  have f25 := g25; clear g25
  have hb1 := gb1; clear gb1
  clear hfr hH
  refine awp_block ?_
  refine awp_each [1, 2, 3, 4, 23, 24] (p.arrs.length) (fun k fr M => fr 25 = .int .i64 (k : Nat) ∧ M b1 = M4 b1 ∧ BldH b3 (pv ++ prAs (p.arrs.take k)) M) ⟨f25, rfl, (by rw [hM, List.take_zero, show prAs [] = [] from rfl, List.append_nil]; exact hB)⟩ ?_
  rintro k F5 M5 hk0 ⟨fx, gb1, hB⟩ agx K0 hK0
  have f1 := (agx 1 rfl).trans f1
  have f2 := (agx 2 rfl).trans f2
  have f3 := (agx 3 rfl).trans f3
  have f4 := (agx 4 rfl).trans f4
  have f23 := (agx 23 rfl).trans f23
  have f24 := (agx 24 rfl).trans f24
  have f25 := fx; clear fx
  have hb1 := gb1.trans hb1
  have ag0 := agree.refl [1, 2, 3, 4, 23, 24] F5
  have e0_b1 := gb1; clear gb1
  clear agx
  refine awp_seq_k fun K hK => ?_
  refine awp_region rfl ?_
  simp only [f24, f25, List.length_map, RR, seval]
  refine hK _ _ ?_; clear hK K
  refine awp_seq ?_
  refine awp_if _ rfl (fun hc => ?_) (fun hc => ?_)
  · have hlt0 : k < p.arrs.length := by have := of_decide_eq_true hc; omega
    clear hc
    have hg := getA (List.getElem?_eq_getElem hlt0)
    have htk : p.arrs.take (k + 1) = p.arrs.take k ++ [p.arrs[k]] := List.take_succ_eq_append_getElem hlt0
    have hsa := hsz _ (List.getElem_mem hlt0)
    have hle := prAs_take_len p.arrs (k + 1)
    have hpk : prAs (p.arrs.take (k + 1)) = prAs (p.arrs.take k) ++ prA p.arrs[k] := by rw [htk, prAs_snoc]
    rw [hpk, List.length_append] at hle
    generalize p.arrs[k] = e at hg htk hsa hpk hle
    obtain ⟨nm, sz⟩ := e
    simp only at hg hsa
    have hpa : prA ⟨nm, sz⟩ = [97, 114, 114, 97, 121, 32] ++ (nm ++ ([91] ++ (Lib.decDigits sz.toNat ++ [93, 59, 10]))) := rfl
    rw [hpa] at hpk hle
    simp only [List.length_append, List.length_cons, List.length_nil] at hle
    have hw : IntKind.wrap .u32 sz = sz := IntWalk.u32_in _ (by omega)
    have hc1 : 6 + nm.length ≤ maxLen := by unfold maxLen; omega
    have hc2 : nm.length + 1 + 1 + 1 + 1 + 1 + 1 + 1 ≤ maxLen := by unfold maxLen; omega
    have hc3 : (nm ++ [91]).length + 1 + 1 + 1 + 1 + 1 + 1 + (Lib.decDigits sz.toNat).length ≤ maxLen := by unfold maxLen; simp only [List.length_append, List.length_cons, List.length_nil]; omega
    have hc4 : (nm ++ [91] ++ Lib.decDigits sz.toNat).length + 1 + 1 + 1 + 1 + 1 + 1 + 1 + 1 ≤ maxLen := by unfold maxLen; simp only [List.length_append, List.length_cons, List.length_nil]; omega
    refine awp_skip ?_; try simp only [RR]
    refine awp_seq ?_
    refine awp_block ?_
    refine awp_seq_k fun K hK => ?_
    refine awp_region rfl ?_
    simp only [f23, f25, hb1, List.length_map, hg, hw, hc1, hc2, hc3, hc4, RR, seval]
    refine awpN_intro fun b6 hn6 => ?_
    have nb6_b1 : b6 ≠ b1 := fun e => by rw [e] at hn6; simp only [hb1, RR, seval, reduceCtorEq] at hn6
    have nb1_b6 : b1 ≠ b6 := fun e => nb6_b1 e.symm
    simp only [f23, f25, hb1, nb6_b1, nb1_b6, List.length_map, hg, hw, hc1, hc2, hc3, hc4, RR, seval]
    refine hK _ _ ?_; clear hK K
    refine awp_name fun F6 M6 hfr hH => ?_
    have g1 := hfr 1
    have g2 := hfr 2
    have g3 := hfr 3
    have g4 := hfr 4
    have g6 := hfr 6
    have g23 := hfr 23
    have g24 := hfr 24
    have g25 := hfr 25
    have gb1 := hH b1
    have gb6 := hH b6
    try simp only [f1, f2, f3, f4, f23, f24, f25, hb1, nb6_b1, nb1_b6, List.length_map, hg, hw, hc1, hc2, hc3, hc4, RR, seval] at g1 g2 g3 g4 g6 g23 g24 g25 gb1 gb6
    have ag0 : agree [1, 2, 3, 4, 23, 24] F5 F6 := agree.same hfr (by repeat (first | exact ag0 | refine agree.upd rfl ?_))
    have e0_b1 := (hH b1).trans (by first | exact e0_b1 | (simp only [nb6_b1, nb1_b6, upd_app, seval]; first | done | exact e0_b1))
    have hM := funext hH
    have hB := hB.new2 hn6 (some (.rows 2 [[.str [], .int .i64 0]])) (some (.rows 2 [[.str nm, .int .i64 sz]]))
    rw [← hM] at hB
    have f1 := g1; clear g1
    have f2 := g2; clear g2
    have f3 := g3; clear g3
    have f4 := g4; clear g4
    have f6 := g6; clear g6
    have f23 := g23; clear g23
    have f24 := g24; clear g24
    have f25 := g25; clear g25
    have hb1 := gb1; clear gb1
    have hb6 := gb6; clear gb6
    clear hfr hH
    refine awp_region_draw2 (fun x => x ≠ b1 ∧ x ≠ b6) [(0, 3), (1, 3), (2, 0), (3, 3), (4, 3), (5, 3), (6, 1), (7, 3), (8, 1), (9, 3), (10, 3), (11, 1)] [] draws (by kernel_rfl) rfl rfl ?_
    simp only [emitF, markOf, EM, f4, f6, hb1, hb6, nb6_b1, nb1_b6, List.length_map, hg, hw, hc1, hc2, hc3, hc4, RR, seval]
    refine awpC_pure' (Text_con sz hsa) ?_
    simp only [emitF, markOf, EM, f4, f6, hb1, hb6, nb6_b1, nb1_b6, List.length_map, hg, hw, hc1, hc2, hc3, hc4, RR, seval]
    refine awpC_tape4 (by first | exact hB | exact hB.new (by assumption) _ | exact hB.new2 (by assumption) _ _ | exact hB.set (o := .rows _ _) (by assumption) trivial _) (line_con b3 0 ([97, 114, 114, 97, 121, 32] ++ nm ++ [91] ++ Lib.decDigits sz.toNat ++ [93, 59]) _ (by omega) (by simp only [List.length_append, List.length_cons, List.length_nil, ind_len]; omega)) (SubL.refl _) (fun x o hx hn => by exact ⟨(fun e => by subst e; first | (rw [upd_same] at hx; cases hx; exact hn trivial) | (rw [hb1] at hx; cases hx; exact hn trivial) | (rw [hb6] at hx; cases hx; exact hn trivial) | (simp only [upd_app, f1, f2, f3, f4, f6, f23, f24, f25, hb1, hb6, nb6_b1, nb1_b6, List.length_map, hg, hw, hc1, hc2, hc3, hc4, seval, Option.some.injEq] at hx; subst hx; exact hn trivial)), (fun e => by subst e; first | (rw [upd_same] at hx; cases hx; exact hn trivial) | (rw [hb1] at hx; cases hx; exact hn trivial) | (rw [hb6] at hx; cases hx; exact hn trivial) | (simp only [upd_app, f1, f2, f3, f4, f6, f23, f24, f25, hb1, hb6, nb6_b1, nb1_b6, List.length_map, hg, hw, hc1, hc2, hc3, hc4, seval, Option.some.injEq] at hx; subst hx; exact hn trivial))⟩) fun M7 hB hk' hn' => ?_
    have gb1 := hk' b1 _ hb1 trivial
    have e0_b1 := (gb1.trans hb1.symm).trans e0_b1
    have hb1 := gb1; clear gb1
    have gb6 := hk' b6 _ hb6 trivial
    have hb6 := gb6; clear gb6
    simp only [emitF, markOf, EM, f4, f6, hb1, hb6, nb6_b1, nb1_b6, List.length_map, hg, hw, hc1, hc2, hc3, hc4, RR, seval]
    refine awp_region rfl ?_
    simp only [f25, List.length_map, hg, hw, hc1, hc2, hc3, hc4, RR, seval]
    try rw [IntWalk.i64_in _ (by omega)]
    refine hK0 _ _ hlt0 ⟨by first | rfl | (simp only [upd_app, seval]; rfl), (by first | exact e0_b1 | (simp only [nb6_b1, nb1_b6, upd_app, seval]; first | done | exact e0_b1)), by rw [hpk]; simpa [ind] using hB⟩ (by repeat (first | exact ag0 | refine agree.upd rfl ?_))
  · have hkn0 : k = p.arrs.length := by have := of_decide_eq_false hc; omega
    clear hc
    rw [hkn0, List.take_length] at hB
    refine awp_exit ?_; simp only [RR, seval]
    refine awp_seq ?_
    refine awp_seq_k fun K hK => ?_
    refine awp_region rfl ?_
    simp only [f1, hb1, List.length_map, RR, seval]
    refine hK _ _ ?_; clear hK K
    refine awp_name fun F8 M8 hfr hH => ?_
    have g2 := hfr 2
    have g3 := hfr 3
    have g4 := hfr 4
    have g43 := hfr 43
    have g44 := hfr 44
    have g45 := hfr 45
    have gb1 := hH b1
    try simp only [f1, f2, f3, f4, f23, f24, f25, hb1, List.length_map, RR, seval] at g2 g3 g4 g43 g44 g45 gb1
    have hM := funext hH
    have f2 := g2; clear g2
    have f3 := g3; clear g3
    have f4 := g4; clear g4
    have f43 := g43; clear g43
    have f44 := g44; clear g44
    have f45 := g45; clear g45
    have hb1 := gb1; clear gb1
    clear hfr hH
    refine awp_block ?_
    refine awp_each [2, 3, 4, 43, 44] (p.funs.length) (fun k fr M => fr 45 = .int .i64 (k : Nat) ∧ M b1 = M8 b1 ∧ BldH b3 (pv ++ prAs p.arrs ++ prFs (p.funs.take k)) M) ⟨f45, rfl, (by rw [hM, List.take_zero, show prFs [] = [] from rfl, List.append_nil]; exact hB)⟩ ?_
    rintro k F9 M9 hk2 ⟨fx, gb1, hB⟩ agx K2 hK2
    have f2 := (agx 2 rfl).trans f2
    have f3 := (agx 3 rfl).trans f3
    have f4 := (agx 4 rfl).trans f4
    have f43 := (agx 43 rfl).trans f43
    have f44 := (agx 44 rfl).trans f44
    have f45 := fx; clear fx
    have hb1 := gb1.trans hb1
    have ag2 := agree.refl [2, 3, 4, 43, 44] F9
    have e2_b1 := gb1; clear gb1
    clear agx
    refine awp_seq_k fun K hK => ?_
    refine awp_region rfl ?_
    simp only [f44, f45, List.length_map, RR, seval]
    refine hK _ _ ?_; clear hK K
    refine awp_seq ?_
    refine awp_if _ rfl (fun hc => ?_) (fun hc => ?_)
    · have hlt2 : k < p.funs.length := by have := of_decide_eq_true hc; omega
      clear hc
      have hg := getF (List.getElem?_eq_getElem hlt2)
      have htk : p.funs.take (k + 1) = p.funs.take k ++ [p.funs[k]] := List.take_succ_eq_append_getElem hlt2
      have hfk := hfn _ (List.getElem_mem hlt2)
      have hle := prFs_take_len p.funs (k + 1)
      have hpk : prFs (p.funs.take (k + 1)) = prFs (p.funs.take k) ++ prF p.funs[k] := by rw [htk, prFs_snoc]
      rw [hpk, List.length_append] at hle
      generalize p.funs[k] = e at hg htk hfk hpk hle
      obtain ⟨nm, ps, ls, wd, bd⟩ := e
      simp only at hg hfk
      have hpa : prF ⟨nm, ps, ls, wd, bd⟩ = [102, 117, 110, 99, 32] ++ (nm ++ ([40] ++ (comma ps ++ ([41] ++ ((if wd then [32, 119, 111, 114, 100] else []) ++ ([32, 123, 10] ++ ((if ls.length = 0 then [] else [32, 32, 118, 97, 114, 32] ++ (comma ls ++ [59, 10])) ++ (prB 1 bd ++ [125, 10])))))))) := rfl
      rw [hpa] at hpk hle
      generalize hww : (if wd = true then ([32, 119, 111, 114, 100] : Str) else []) = ww at *
      generalize hll : (if ls.length = 0 then ([] : Str) else [32, 32, 118, 97, 114, 32] ++ (comma ls ++ [59, 10])) = ll at *
      simp only [List.length_append, List.length_cons, List.length_nil] at hle
      have hjc : (Lib.join ps [44, 32]).length = (comma ps).length := rfl
      have hc1 : 5 + nm.length ≤ maxLen := by unfold maxLen; omega
      have hc2 : nm.length + 1 + 1 + 1 + 1 + 1 + 1 ≤ maxLen := by unfold maxLen; omega
      have hc3 : (nm ++ [40]).length + 1 + 1 + 1 + 1 + 1 + (Lib.join ps [44, 32]).length ≤ maxLen := by unfold maxLen; simp only [List.length_append, List.length_cons, List.length_nil]; omega
      have hc4 : (nm ++ [40] ++ Lib.join ps [44, 32]).length + 1 + 1 + 1 + 1 + 1 + 1 ≤ maxLen := by unfold maxLen; simp only [List.length_append, List.length_cons, List.length_nil]; omega
      have hc5 : (nm ++ [40] ++ Lib.join ps [44, 32] ++ [41]).length + 1 + 1 + 1 + 1 + 1 + 5 ≤ maxLen := by unfold maxLen; simp only [List.length_append, List.length_cons, List.length_nil]; omega
      refine awp_skip ?_; try simp only [RR]
      refine awp_seq ?_
      refine awp_block ?_
      refine awp_seq_k fun K hK => ?_
      refine awp_region rfl ?_
      simp only [f43, f45, hb1, List.length_map, hg, hc1, hc2, hc3, hc4, RR, seval]
      refine awpN_intro fun b8 hn8 => ?_
      have nb8_b1 : b8 ≠ b1 := fun e => by rw [e] at hn8; simp only [hb1, RR, seval, reduceCtorEq] at hn8
      have nb1_b8 : b1 ≠ b8 := fun e => nb8_b1 e.symm
      simp only [f43, f45, hb1, nb8_b1, nb1_b8, List.length_map, hg, hc1, hc2, hc3, hc4, RR, seval]
      refine hK _ _ ?_; clear hK K
      refine awp_seq_k fun K hK => ?_
      refine awp_region_draw2 (fun x => x ≠ b1 ∧ x ≠ b8) [(0, 3), (1, 0), (2, 3), (3, 3), (4, 3), (5, 1), (6, 1), (7, 3), (8, 3), (9, 3)] [] draws (by kernel_rfl) rfl rfl ?_
      simp only [emitF, markOf, EM, hb1, nb8_b1, nb1_b8, List.length_map, hg, hc1, hc2, hc3, hc4, RR, seval]
      refine awpC_pure' (Join_con ps [44, 32] (show (comma ps).length ≤ _ by omega) (by omega)) ?_
      simp only [emitF, markOf, EM, hb1, nb8_b1, nb1_b8, List.length_map, hg, hc1, hc2, hc3, hc4, RR, seval]
      refine hK _ _ ?_; clear hK K
      refine awp_seq ?_
      refine awp_seq_k fun K hK => ?_
      refine awp_region rfl ?_
      simp only [hb1, nb8_b1, nb1_b8, List.length_map, hg, hc1, hc2, hc3, hc4, RR, seval]
      refine hK _ _ ?_; clear hK K
      refine awp_name fun F10 M10 hfr hH => ?_
      have g2 := hfr 2
      have g3 := hfr 3
      have g4 := hfr 4
      have g8 := hfr 8
      have g9 := hfr 9
      have g43 := hfr 43
      have g44 := hfr 44
      have g45 := hfr 45
      have g59 := hfr 59
      have gb1 := hH b1
      have gb8 := hH b8
      try simp only [f2, f3, f4, f43, f44, f45, hb1, nb8_b1, nb1_b8, List.length_map, hg, hc1, hc2, hc3, hc4, RR, seval] at g2 g3 g4 g8 g9 g43 g44 g45 g59 gb1 gb8
      have ag2 : agree [2, 3, 4, 43, 44] F9 F10 := agree.same hfr (by repeat (first | exact ag2 | refine agree.upd rfl ?_))
      have e2_b1 := (hH b1).trans (by first | exact e2_b1 | (simp only [nb8_b1, nb1_b8, upd_app, seval]; first | done | exact e2_b1))
      have hM := funext hH
      have hB := hB.new2 hn8 (some (.rows 5 [[.str [], .nsl, .nsl, .bool false, .nsl]])) (some (.rows 5 [[.str nm, .isl 1 (ps.map strRow), .isl 1 (ls.map strRow), .bool wd, .isl 5 (bd.map Sm.row)]]))
      rw [← hM] at hB
      have f2 := g2; clear g2
      have f3 := g3; clear g3
      have f4 := g4; clear g4
      have f8 := g8; clear g8
      have f9 := g9; clear g9
      have f43 := g43; clear g43
      have f44 := g44; clear g44
      have f45 := g45; clear g45
      have f59 := g59; clear g59
      have hb1 := gb1; clear gb1
      have hb8 := gb8; clear gb8
      clear hfr hH
      refine awp_cutP (fun fr M => agree [2, 3, 4, 8, 43, 44, 45] F10 fr ∧ M b1 = M10 b1 ∧ M b8 = M10 b8 ∧ fr 9 = .str ([102, 117, 110, 99, 32] ++ (nm ++ [40] ++ Lib.join ps [44, 32] ++ [41] ++ ww)) ∧ BldH b3 (pv ++ prAs p.arrs ++ prFs (p.funs.take k)) M) (fun KC14 hKC14 => ?_) ?_
      · have agC14 := agree.refl [2, 3, 4, 8, 43, 44, 45] F10
        have eC14_b1 : M10 b1 = M10 b1 := rfl
        have eC14_b8 : M10 b8 = M10 b8 := rfl
        refine awp_if _ (by first | rfl | exact f59) (fun hc14 => ?_) (fun hc14 => ?_)
        · refine awp_region rfl ?_
          simp only [f9, List.length_map, hg, hc1, hc2, hc3, hc4, hc5, RR, seval]
          refine hKC14 _ _ ⟨(by repeat (first | exact agC14 | refine agree.upd rfl ?_)), (by first | exact eC14_b1 | (simp only [nb8_b1, nb1_b8, upd_app, seval]; first | done | exact eC14_b1)), (by first | exact eC14_b8 | (simp only [nb8_b1, nb1_b8, upd_app, seval]; first | done | exact eC14_b8)), ?_⟩
          refine ⟨?_, hB⟩
          first | (rw [← hww, if_pos (by assumption)]; simp only [upd_app, seval]; rfl) | (rw [← hww, if_neg (by simp_all), List.append_nil]; exact f9)
        · refine awp_skip ?_; try simp only [RR]
          refine hKC14 _ _ ⟨(by repeat (first | exact agC14 | refine agree.upd rfl ?_)), (by first | exact eC14_b1 | (simp only [nb8_b1, nb1_b8, upd_app, seval]; first | done | exact eC14_b1)), (by first | exact eC14_b8 | (simp only [nb8_b1, nb1_b8, upd_app, seval]; first | done | exact eC14_b8)), ?_⟩
          refine ⟨?_, hB⟩
          first | (rw [← hww, if_pos (by assumption)]; simp only [upd_app, seval]; rfl) | (rw [← hww, if_neg (by simp_all), List.append_nil]; exact f9)
      rintro F11 M11 ⟨agx, gb1, gb8, f9, hB⟩
      have f2 := (agx 2 rfl).trans f2
      have f3 := (agx 3 rfl).trans f3
      have f4 := (agx 4 rfl).trans f4
      have f8 := (agx 8 rfl).trans f8
      have f43 := (agx 43 rfl).trans f43
      have f44 := (agx 44 rfl).trans f44
      have f45 := (agx 45 rfl).trans f45
      have hb1 := gb1.trans hb1
      have hb8 := gb8.trans hb8
      have ag2 : agree [2, 3, 4, 43, 44] F9 F11 := agree.sub agx rfl ag2
      have e2_b1 := gb1.trans e2_b1
      clear agx
      clear gb1
      clear gb8
      simp only [RR, seval]
      have hc6 : (nm ++ [40] ++ Lib.join ps [44, 32] ++ [41] ++ ww).length + 1 + 1 + 1 + 1 + 1 + 2 ≤ maxLen := by unfold maxLen; simp only [List.length_append, List.length_cons, List.length_nil]; omega
      refine awp_seq_k fun K hK => ?_
      refine awp_region rfl ?_
      simp only [f4, f9, hb1, hb8, nb8_b1, nb1_b8, List.length_map, hg, hc1, hc2, hc3, hc4, hc6, RR, seval]
      refine awpC_tape2 (by first | exact hB | exact hB.new (by assumption) _ | exact hB.new2 (by assumption) _ _ | exact hB.set (o := .rows _ _) (by assumption) trivial _) (line_con b3 0 ([102, 117, 110, 99, 32] ++ (nm ++ [40] ++ Lib.join ps [44, 32] ++ [41] ++ ww) ++ [32, 123]) _ (by omega) (by simp only [List.length_append, List.length_cons, List.length_nil, ind_len]; omega)) (SubL.refl _) (fun _ => trivial) fun M12 hB hk' hn' => ?_
      have gb1 := hk' b1 _ hb1 trivial
      have e2_b1 := (gb1.trans hb1.symm).trans e2_b1
      have hb1 := gb1; clear gb1
      have gb8 := hk' b8 _ hb8 trivial
      have hb8 := gb8; clear gb8
      simp only [f4, f9, hb1, hb8, nb8_b1, nb1_b8, List.length_map, hg, hc1, hc2, hc3, hc4, hc6, RR, seval]
      refine hK _ _ ?_; clear hK K
      refine awp_seq ?_
      refine awp_seq_k fun K hK => ?_
      refine awp_region rfl ?_
      simp only [f8, hb1, hb8, nb8_b1, nb1_b8, List.length_map, hg, hc1, hc2, hc3, hc4, hc6, RR, seval]
      refine hK _ _ ?_; clear hK K
      refine awp_name fun F13 M13 hfr hH => ?_
      have g2 := hfr 2
      have g3 := hfr 3
      have g4 := hfr 4
      have g8 := hfr 8
      have g9 := hfr 9
      have g43 := hfr 43
      have g44 := hfr 44
      have g45 := hfr 45
      have g69 := hfr 69
      have gb1 := hH b1
      have gb8 := hH b8
      try simp only [f2, f3, f4, f8, f43, f44, f45, f9, hb1, hb8, nb8_b1, nb1_b8, List.length_map, hg, hc1, hc2, hc3, hc4, hc6, RR, seval] at g2 g3 g4 g8 g9 g43 g44 g45 g69 gb1 gb8
      have ag2 : agree [2, 3, 4, 43, 44] F9 F13 := agree.same hfr (by repeat (first | exact ag2 | refine agree.upd rfl ?_))
      have e2_b1 := (hH b1).trans (by first | exact e2_b1 | (simp only [nb8_b1, nb1_b8, upd_app, seval]; first | done | exact e2_b1))
      have hM := funext hH
      rw [← hM] at hB
      have f2 := g2; clear g2
      have f3 := g3; clear g3
      have f4 := g4; clear g4
      have f8 := g8; clear g8
      have f9 := g9; clear g9
      have f43 := g43; clear g43
      have f44 := g44; clear g44
      have f45 := g45; clear g45
      have f69 := g69; clear g69
      have hb1 := gb1; clear gb1
      have hb8 := gb8; clear gb8
      clear hfr hH
      refine awp_cutP (fun fr M => agree [2, 3, 4, 8, 9, 43, 44, 45] F13 fr ∧ M b1 = M13 b1 ∧ M b8 = M13 b8 ∧ BldH b3 (pv ++ prAs p.arrs ++ prFs (p.funs.take k) ++ (ind 0 ++ (([102, 117, 110, 99, 32] ++ (nm ++ [40] ++ Lib.join ps [44, 32] ++ [41] ++ ww) ++ [32, 123]) ++ [10])) ++ ll) M) (fun KC17 hKC17 => ?_) ?_
      · have agC17 := agree.refl [2, 3, 4, 8, 9, 43, 44, 45] F13
        have eC17_b1 : M13 b1 = M13 b1 := rfl
        have eC17_b8 : M13 b8 = M13 b8 := rfl
        refine awp_if _ (by first | rfl | exact f69) (fun hc17 => ?_) (fun hc17 => ?_)
        · have hul : ¬ ls.length = 0 := by have := of_decide_eq_true hc17; omega
          rw [if_neg hul] at hll
          rw [← hll] at hle
          simp only [List.length_append, List.length_cons, List.length_nil] at hle
          have hjl : (Lib.join ls [44, 32]).length = (comma ls).length := rfl
          have hc7 : 4 + (Lib.join ls [44, 32]).length ≤ maxLen := by unfold maxLen; omega
          have hc8 : (Lib.join ls [44, 32]).length + 1 + 1 + 1 + 1 + 1 ≤ maxLen := by unfold maxLen; omega
          refine awp_region rfl ?_
          simp only [f4, f8, hb1, hb8, nb8_b1, nb1_b8, List.length_map, hg, hc1, hc2, hc3, hc4, hc6, hc7, hc8, RR, seval]
          refine awpC_pure' (Join_con ls [44, 32] (show (comma ls).length ≤ _ by omega) (by omega)) ?_
          simp only [f4, f8, hb1, hb8, nb8_b1, nb1_b8, List.length_map, hg, hc1, hc2, hc3, hc4, hc6, hc7, hc8, RR, seval]
          refine awpC_tape2 (by first | exact hB | exact hB.new (by assumption) _ | exact hB.new2 (by assumption) _ _ | exact hB.set (o := .rows _ _) (by assumption) trivial _) (line_con b3 1 ([118, 97, 114, 32] ++ comma ls ++ [59]) _ (by omega) (by simp only [List.length_append, List.length_cons, List.length_nil, ind_len]; omega)) (SubL.refl _) (fun _ => trivial) fun M14 hB hk' hn' => ?_
          have gb1 := hk' b1 _ hb1 trivial
          have e2_b1 := (gb1.trans hb1.symm).trans e2_b1
          have eC17_b1 := (gb1.trans hb1.symm).trans eC17_b1
          have hb1 := gb1; clear gb1
          have gb8 := hk' b8 _ hb8 trivial
          have eC17_b8 := (gb8.trans hb8.symm).trans eC17_b8
          have hb8 := gb8; clear gb8
          simp only [f4, f8, hb1, hb8, nb8_b1, nb1_b8, List.length_map, hg, hc1, hc2, hc3, hc4, hc6, hc7, hc8, RR, seval]
          refine hKC17 _ _ ⟨(by repeat (first | exact agC17 | refine agree.upd rfl ?_)), (by first | exact eC17_b1 | (simp only [nb8_b1, nb1_b8, upd_app, seval]; first | done | exact eC17_b1)), (by first | exact eC17_b8 | (simp only [nb8_b1, nb1_b8, upd_app, seval]; first | done | exact eC17_b8)), ?_⟩
          first | (rw [← hll, List.append_nil]; exact hB) | (rw [← hll]; simpa [ind] using hB)
        · have hul : ls.length = 0 := by have := of_decide_eq_false hc17; omega
          rw [if_pos hul] at hll
          refine awp_skip ?_; try simp only [RR]
          refine hKC17 _ _ ⟨(by repeat (first | exact agC17 | refine agree.upd rfl ?_)), (by first | exact eC17_b1 | (simp only [nb8_b1, nb1_b8, upd_app, seval]; first | done | exact eC17_b1)), (by first | exact eC17_b8 | (simp only [nb8_b1, nb1_b8, upd_app, seval]; first | done | exact eC17_b8)), ?_⟩
          first | (rw [← hll, List.append_nil]; exact hB) | (rw [← hll]; simpa [ind] using hB)
      rintro F15 M15 ⟨agx, gb1, gb8, hB⟩
      have f2 := (agx 2 rfl).trans f2
      have f3 := (agx 3 rfl).trans f3
      have f4 := (agx 4 rfl).trans f4
      have f8 := (agx 8 rfl).trans f8
      have f9 := (agx 9 rfl).trans f9
      have f43 := (agx 43 rfl).trans f43
      have f44 := (agx 44 rfl).trans f44
      have f45 := (agx 45 rfl).trans f45
      have hb1 := gb1.trans hb1
      have hb8 := gb8.trans hb8
      have ag2 : agree [2, 3, 4, 43, 44] F9 F15 := agree.sub agx rfl ag2
      have e2_b1 := gb1.trans e2_b1
      clear agx
      clear gb1
      clear gb8
      simp only [RR, seval]
      refine awp_seq_k fun K hK => ?_
      refine awp_region rfl ?_
      simp only [f3, f8, hb1, hb8, nb8_b1, nb1_b8, List.length_map, hg, hc1, hc2, hc3, hc4, hc6, RR, seval]
      refine awpC_tape2 (by first | exact hB | exact hB.new (by assumption) _ | exact hB.new2 (by assumption) _ _ | exact hB.set (o := .rows _ _) (by assumption) trivial _) (hfk.2.2 b3 _ (by simp only [List.length_append, List.length_cons, List.length_nil, ind_len]; omega)) (SubL.refl _) (fun _ => trivial) fun M16 hB hk' hn' => ?_
      have gb1 := hk' b1 _ hb1 trivial
      have e2_b1 := (gb1.trans hb1.symm).trans e2_b1
      have hb1 := gb1; clear gb1
      have gb8 := hk' b8 _ hb8 trivial
      have hb8 := gb8; clear gb8
      simp only [f3, f8, hb1, hb8, nb8_b1, nb1_b8, List.length_map, hg, hc1, hc2, hc3, hc4, hc6, RR, seval]
      refine hK _ _ ?_; clear hK K
      refine awp_region rfl ?_
      simp only [f4, hb1, hb8, nb8_b1, nb1_b8, List.length_map, hg, hc1, hc2, hc3, hc4, hc6, RR, seval]
      refine awpC_tape2 (by first | exact hB | exact hB.new (by assumption) _ | exact hB.new2 (by assumption) _ _ | exact hB.set (o := .rows _ _) (by assumption) trivial _) (line_con b3 0 [125] _ (by omega) (by simp only [List.length_append, List.length_cons, List.length_nil, ind_len]; omega)) (SubL.refl _) (fun _ => trivial) fun M17 hB hk' hn' => ?_
      have gb1 := hk' b1 _ hb1 trivial
      have e2_b1 := (gb1.trans hb1.symm).trans e2_b1
      have hb1 := gb1; clear gb1
      have gb8 := hk' b8 _ hb8 trivial
      have hb8 := gb8; clear gb8
      simp only [f4, hb1, hb8, nb8_b1, nb1_b8, List.length_map, hg, hc1, hc2, hc3, hc4, hc6, RR, seval]
      refine awp_region rfl ?_
      simp only [f45, List.length_map, hg, hc1, hc2, hc3, hc4, hc6, RR, seval]
      try rw [IntWalk.i64_in _ (by omega)]
      refine hK2 _ _ hlt2 ⟨by first | rfl | (simp only [upd_app, seval]; rfl), (by first | exact e2_b1 | (simp only [nb8_b1, nb1_b8, upd_app, seval]; first | done | exact e2_b1)), by rw [hpk]; simpa [ind, List.append_assoc, comma] using hB⟩ (by repeat (first | exact ag2 | refine agree.upd rfl ?_))
    · have hkn2 : k = p.funs.length := by have := of_decide_eq_false hc; omega
      clear hc
      rw [hkn2, List.take_length] at hB
      refine awp_exit ?_; simp only [RR, seval]
      refine awp_seq_k fun K hK => ?_
      refine awp_region rfl ?_
      simp only [f3, hb1, List.length_map, RR, seval]
      refine awpC_String hB (fun _ => trivial) fun M99 hk'' => ?_
      simp only [f3, hb1, List.length_map, RR, seval]
      refine hK _ _ ?_; clear hK K
      refine awp_ret ?_; simp only [bodyQ, aresult, ares, f2, List.length_map, RR, seval]
      refine Gives.pure ?_
      rw [List.append_assoc]
end Go.Proofs.YtgcncdjnipfolaaDoor
