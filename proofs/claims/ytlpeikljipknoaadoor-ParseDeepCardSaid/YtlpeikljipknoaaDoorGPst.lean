/- Chapter 15: how strongly the signs bind: the plain law. Chapter 15: ParseStrengths: the law's contract. -/
import Derived.Test.YtlpeikljipknoaaDoorGAw
import Derived.Test.YtlpeikljipknoaaDoorJa
set_option linter.unusedSimpArgs false
set_option linter.unusedVariables false
set_option maxRecDepth 10000
namespace Go.Al
def eqLs {α : Type} (f : α → α → Bool) : List α → List α → Bool
  | [], [] => true
  | a :: l, b :: m => f a b && eqLs f l m
  | _, _ => false
theorem eqLs_ok {α : Type} {f : α → α → Bool} (hf : ∀ a b, f a b = true → a = b) : ∀ l m : List α, eqLs f l m = true → l = m
  | [], [], _ => rfl
  | [], _ :: _, h => by cases h
  | _ :: _, [], h => by cases h
  | a :: l, b :: m, h => by
    rw [eqLs, Bool.and_eq_true] at h
    rw [hf a b h.1, eqLs_ok hf l m h.2]
def eqE : Nat → Ex → Ex → Bool
  | 0, _, _ => false
  | n + 1, .mk k o m s l, .mk k' o' m' s' l' => decide (k = k') && decide (o = o') && decide (m = m') && decide (s = s') && eqLs (eqE n) l l'
theorem eqE_ok (n : Nat) : ∀ a b, eqE n a b = true → a = b := by
  induction n with
  | zero => intro a b h; cases h
  | succ n ih =>
    intro a b h
    obtain ⟨k, o, m, s, l⟩ := a
    obtain ⟨k', o', m', s', l'⟩ := b
    simp only [eqE, Bool.and_eq_true, decide_eq_true_eq] at h
    obtain ⟨⟨⟨⟨rfl, rfl⟩, rfl⟩, rfl⟩, h⟩ := h
    rw [eqLs_ok ih _ _ h]
def isE (x : Option Ex) (e : Ex) : Bool := match x with
  | some y => eqE 5 y e
  | none => false
theorem isE_ok {x : Option Ex} {e : Ex} (h : isE x e = true) : x = some e := by
  cases x with
  | none => cases h
  | some y => rw [eqE_ok 5 y e h]
end Go.Al
namespace Go.Proofs.YtlpeikljipknoaaDoor
open Go.Al
def sn14 : List Str := [[124, 124], [38, 38], [61, 61], [60], [124], [94], [38], [60, 60], [62, 62], [43], [45], [42], [47], [37]]
def tx1 (s t : Str) : Str := ([97, 32] ++ s ++ [32, 98, 32]) ++ t ++ [32, 99]
def tx2 (s t : Str) : Str := ([40, 97, 32] ++ s ++ [32, 98, 41, 32]) ++ t ++ [32, 99]
def tx3 (s t : Str) : Str := ([97, 32] ++ s ++ [32, 40, 98, 32]) ++ t ++ [32, 99, 41]
def nA : Ex := .mk 2 0 0 [97] []
def nB : Ex := .mk 2 0 0 [98] []
def nC : Ex := .mk 2 0 0 [99] []
def lfE (s t : Str) : Ex := joinI t (joinI s nA nB) nC
def rgE (s t : Str) : Ex := joinI s nA (joinI t nB nC)
def strP (s t : Str) : Bool := isE (rdE (tx1 s t)) (if (sgI s).2.2 < (sgI t).2.2 then rgE s t else lfE s t) && isE (rdE (tx2 s t)) (lfE s t) && isE (rdE (tx3 s t)) (rgE s t)
theorem str_all : (sn14.all fun s => sn14.all fun t => strP s t) = true := by decide +kernel
theorem str_rd {s t : Str} (hs : s ∈ sn14) (ht : t ∈ sn14) : rdE (tx1 s t) = some (if (sgI s).2.2 < (sgI t).2.2 then rgE s t else lfE s t) ∧ rdE (tx2 s t) = some (lfE s t) ∧ rdE (tx3 s t) = some (rgE s t) := by
  have h := str_all
  rw [List.all_eq_true] at h
  have h := h s hs
  rw [List.all_eq_true] at h
  have h := h t ht
  simp only [strP, Bool.and_eq_true] at h
  exact ⟨isE_ok h.1.1, isE_ok h.1.2, isE_ok h.2⟩
theorem form_join {s : Str} (hs : s ∈ sn14) (a b : Ex) : formX (joinI s a b) = true := by
  simp only [sn14, List.mem_cons, List.not_mem_nil, or_false] at hs
  rcases hs with rfl | rfl | rfl | rfl | rfl | rfl | rfl | rfl | rfl | rfl | rfl | rfl | rfl | rfl <;> rfl
theorem form_leaf : formX nA = true ∧ formX nB = true ∧ formX nC = true := by decide +kernel
theorem right_alone {e : Ex} (h : rightX e 2 = true) : rightP (aloneP e) = true := by
  simp only [aloneP, rightP, rightF, List.all_cons, List.all_nil, rightS_cons, rightS_nil, rightM, rightE_cons, rightE_nil, Sm.es, Sm.thn, Sm.els, show (1 : Int) + 1 = 2 from rfl, h, Bool.and_true, Bool.true_and]
  rfl
theorem lf_ne (s t : Str) : lfE s t ≠ rgE s t := fun h => by
  simp only [lfE, rgE, joinI] at h
  injection h with _ _ _ _ h
  injection h with h1 _
  simp only [nA] at h1
  injection h1 with _ _ _ _ h1
  cases h1
theorem lf_right {s t : Str} (hs : s ∈ sn14) (ht : t ∈ sn14) : rightP (aloneP (lfE s t)) = true ∧ rightP (aloneP (rgE s t)) = true := by
  have h := form_leaf
  have g : ∀ a b, formX (joinI s a b) = true := form_join hs
  have g2 : ∀ a b, formX (joinI t a b) = true := form_join ht
  have k : ∀ s a b, (joinI s a b).kids = [a, b] := fun _ _ _ => rfl
  have kA : nA.kids = [] := rfl
  have kB : nB.kids = [] := rfl
  have kC : nC.kids = [] := rfl
  refine ⟨right_alone ?_, right_alone ?_⟩
  all_goals
    simp only [lfE, rgE, rightX_form _ _ (show (2 : Int) ≤ 24 by decide), rightX_form _ _ (show (2 + 1 : Int) ≤ 24 by decide), rightX_form _ _ (show (2 + 1 + 1 : Int) ≤ 24 by decide), rightE_cons, rightE_nil, k, kA, kB, kC, g, g2, h.1, h.2.1, h.2.2, Bool.and_true]
end Go.Proofs.YtlpeikljipknoaaDoor

namespace Go.Proofs.YtlpeikljipknoaaDoor
open Go.Al
theorem lsigns_con : PCon env 21 [] (.isl 1 (sn14.map strRow)) := by
  refine con_of 2 [.tmp 0] Tryd.func21 rfl rfl rfl rfl ?_
  refine awp_seq_k fun K hK => ?_
  refine awp_region rfl ?_
  simp only [RR, seval]
  refine hK _ _ ?_; clear hK K
  refine awp_seq_k fun K hK => ?_
  refine awp_region rfl ?_
  simp only [RR, seval]
  refine awpB_sealed ?_
  simp only [RR, seval]
  refine hK _ _ ?_; clear hK K
  refine awp_ret ?_; simp only [bodyQ, aresult, ares, RR, seval]
  refine ⟨_, emp, (Turn.sub ?_).trans (Turn.drop (hsub_emp _)), rfl, rfl⟩
  exact Sub.refl _
theorem sn14_len : ∀ w ∈ sn14, w.length ≤ 2 := by decide
theorem ParseStrengths_con (x : Int) (hx : 0 ≤ x ∧ x ≤ 255) (y : Int) (hy : 0 ≤ y ∧ y ≤ 255) : PCon env 8 [.int .u8 x, .int .u8 y] (.bool true) := by
  obtain ⟨a, rfl⟩ : ∃ a : Nat, x = a := ⟨x.toNat, by omega⟩
  obtain ⟨b, rfl⟩ : ∃ b : Nat, y = b := ⟨y.toNat, by omega⟩
  have hl : sn14.length = 14 := rfl
  have z1 : IntKind.wrap .i64 (a : Int) = (a : Int) := by rw [IntWalk.i64_in _ (by omega)]
  have z2 : IntKind.wrap .i64 (b : Int) = (b : Int) := by rw [IntWalk.i64_in _ (by omega)]
  have t1 : (a : Int).tmod 14 = ((a % 14 : Nat) : Int) := IntWalk.up_tmod rfl rfl
  have t2 : (b : Int).tmod 14 = ((b % 14 : Nat) : Int) := IntWalk.up_tmod rfl rfl
  have ha : a % 14 < sn14.length := by rw [hl]; exact Nat.mod_lt _ (by omega)
  have hb : b % 14 < sn14.length := by rw [hl]; exact Nat.mod_lt _ (by omega)
  have g1 := List.getElem?_eq_getElem ha
  have m1 := List.getElem_mem ha
  have g2 := List.getElem?_eq_getElem hb
  have m2 := List.getElem_mem hb
  generalize sn14[a % 14] = s at g1 m1
  generalize sn14[b % 14] = t at g2 m2
  have n1 := getN g1
  have n2 := getN g2
  have l1 := sn14_len s m1
  have l2 := sn14_len t m2
  obtain ⟨q1, q2, q3⟩ := str_rd m1 m2
  obtain ⟨r1, r2⟩ := lf_right m1 m2
  have hne := lf_ne s t
  have c2 := pExpr_con (tx2 s t) (by simp only [tx2, List.length_append, List.length_cons, List.length_nil]; omega)
  have c3 := pExpr_con (tx3 s t) (by simp only [tx3, List.length_append, List.length_cons, List.length_nil]; omega)
  have o2 := srcE_ok (tx2 s t)
  have o3 := srcE_ok (tx3 s t)
  rw [srcE_rd q2 r1] at c2 o2
  rw [srcE_rd q3 r2] at c3 o3
  have s1 := strength_con s
  have s2 := strength_con t
  by_cases hst : (sgI s).2.2 < (sgI t).2.2
  · have c1 := pExpr_con (tx1 s t) (by simp only [tx1, List.length_append, List.length_cons, List.length_nil]; omega)
    rw [if_pos hst] at q1
    rw [srcE_rd q1 r2] at c1
    have hd : decide (((sgI s).2.2 : Int) < ((sgI t).2.2 : Int)) = true := decide_eq_true (by omega)
    have e1 := rSameExpr_con (rgE s t) (rgE s t) o3 o3
    have e2 := rSameExpr_con (rgE s t) (lfE s t) o3 o2
    rw [eqB_self] at e1
    rw [eqB_false fun e => hne e.symm] at e2
    generalize lfE s t = L at *
    generalize rgE s t = R at *
    generalize (sgI s).2.2 = u at *
    generalize (sgI t).2.2 = v at *
    simp only [resE, Ex.row_eq, tx1, tx2, tx3] at c1 c2 c3 e1 e2
    refine con_of 106 [.tmp 4] Tryd.func8 rfl rfl rfl rfl ?_
    refine awp_seq_k fun K hK => ?_
    refine awp_region rfl ?_
    simp only [List.length_map, hl, z1, z2, t1, t2, n1, n2, strRow, hd, RR, seval]
    refine hK _ _ ?_; clear hK K
    refine awp_seq_k fun K hK => ?_
    refine awp_region rfl ?_
    simp only [List.length_map, hl, z1, z2, t1, t2, n1, n2, strRow, hd, RR, seval]
    refine awpC_pure' (lsigns_con) ?_
    simp only [List.length_map, hl, z1, z2, t1, t2, n1, n2, strRow, hd, RR, seval]
    refine hK _ _ ?_; clear hK K
    refine awp_seq_k fun K hK => ?_
    refine awp_region_draw2 (fun x => True) [(0, 3), (1, 3), (2, 3), (3, 3), (4, 3), (5, 3), (6, 3), (7, 1), (8, 3), (9, 3), (10, 3), (11, 3), (12, 3), (13, 3), (14, 3), (15, 1), (16, 3), (17, 3)] [] draws (by kernel_rfl) rfl rfl ?_
    simp only [emitF, markOf, EM, List.length_map, hl, z1, z2, t1, t2, n1, n2, strRow, hd, RR, seval]
    refine hK _ _ ?_; clear hK K
    have hcat1 : 2 + (s).length ≤ maxLen := by unfold maxLen; (try simp only [List.length_append, List.length_cons, List.length_nil]); omega
    have hcat2 : (s).length + 1 + 1 + 3 ≤ maxLen := by unfold maxLen; (try simp only [List.length_append, List.length_cons, List.length_nil]); omega
    have hcat3 : (s ++ [32, 98, 32]).length + 1 + 1 + (t).length ≤ maxLen := by unfold maxLen; (try simp only [List.length_append, List.length_cons, List.length_nil]); omega
    have hcat4 : (s ++ [32, 98, 32] ++ t).length + 1 + 1 + 2 ≤ maxLen := by unfold maxLen; (try simp only [List.length_append, List.length_cons, List.length_nil]); omega
    refine awp_seq_k fun K hK => ?_
    refine awp_region rfl ?_
    simp only [List.length_map, hl, z1, z2, t1, t2, n1, n2, strRow, hd, hcat1, hcat2, hcat3, hcat4, RR, seval]
    refine awpC_pure' (c1) ?_
    simp only [List.length_map, hl, z1, z2, t1, t2, n1, n2, strRow, hd, hcat1, hcat2, hcat3, hcat4, RR, seval]
    refine awpN_intro fun b8 hn8 => ?_
    simp only [List.length_map, hl, z1, z2, t1, t2, n1, n2, strRow, hd, hcat1, hcat2, hcat3, hcat4, RR, seval]
    refine hK _ _ ?_; clear hK K
    have hcat5 : 3 + (s).length ≤ maxLen := by unfold maxLen; (try simp only [List.length_append, List.length_cons, List.length_nil]); omega
    have hcat6 : (s).length + 1 + 1 + 1 + 4 ≤ maxLen := by unfold maxLen; (try simp only [List.length_append, List.length_cons, List.length_nil]); omega
    have hcat7 : (s ++ [32, 98, 41, 32]).length + 1 + 1 + 1 + (t).length ≤ maxLen := by unfold maxLen; (try simp only [List.length_append, List.length_cons, List.length_nil]); omega
    have hcat8 : (s ++ [32, 98, 41, 32] ++ t).length + 1 + 1 + 1 + 2 ≤ maxLen := by unfold maxLen; (try simp only [List.length_append, List.length_cons, List.length_nil]); omega
    refine awp_seq_k fun K hK => ?_
    refine awp_region rfl ?_
    simp only [List.length_map, hl, z1, z2, t1, t2, n1, n2, strRow, hd, hcat1, hcat2, hcat3, hcat4, hcat5, hcat6, hcat7, hcat8, RR, seval]
    refine awpC_pure' (c2) ?_
    simp only [List.length_map, hl, z1, z2, t1, t2, n1, n2, strRow, hd, hcat1, hcat2, hcat3, hcat4, hcat5, hcat6, hcat7, hcat8, RR, seval]
    refine awpN_intro fun b11 hn11 => ?_
    have nb11_b8 : b11 ≠ b8 := fun e => by rw [e] at hn11; simp only [RR, seval, reduceCtorEq] at hn11
    have nb8_b11 : b8 ≠ b11 := fun e => nb11_b8 e.symm
    simp only [nb11_b8, nb8_b11, List.length_map, hl, z1, z2, t1, t2, n1, n2, strRow, hd, hcat1, hcat2, hcat3, hcat4, hcat5, hcat6, hcat7, hcat8, RR, seval]
    refine hK _ _ ?_; clear hK K
    have hcat9 : 2 + (s).length ≤ maxLen := by unfold maxLen; (try simp only [List.length_append, List.length_cons, List.length_nil]); omega
    have hcat10 : (s).length + 1 + 1 + 4 ≤ maxLen := by unfold maxLen; (try simp only [List.length_append, List.length_cons, List.length_nil]); omega
    have hcat11 : (s ++ [32, 40, 98, 32]).length + 1 + 1 + (t).length ≤ maxLen := by unfold maxLen; (try simp only [List.length_append, List.length_cons, List.length_nil]); omega
    have hcat12 : (s ++ [32, 40, 98, 32] ++ t).length + 1 + 1 + 3 ≤ maxLen := by unfold maxLen; (try simp only [List.length_append, List.length_cons, List.length_nil]); omega
    refine awp_seq_k fun K hK => ?_
    refine awp_region rfl ?_
    simp only [nb11_b8, nb8_b11, List.length_map, hl, z1, z2, t1, t2, n1, n2, strRow, hd, hcat1, hcat2, hcat3, hcat4, hcat5, hcat6, hcat7, hcat8, hcat9, hcat10, hcat11, hcat12, RR, seval]
    refine awpC_pure' (c3) ?_
    simp only [nb11_b8, nb8_b11, List.length_map, hl, z1, z2, t1, t2, n1, n2, strRow, hd, hcat1, hcat2, hcat3, hcat4, hcat5, hcat6, hcat7, hcat8, hcat9, hcat10, hcat11, hcat12, RR, seval]
    refine awpN_intro fun b14 hn14 => ?_
    have nb14_b8 : b14 ≠ b8 := fun e => by rw [e] at hn14; simp only [nb11_b8, nb8_b11, RR, seval, reduceCtorEq] at hn14
    have nb8_b14 : b8 ≠ b14 := fun e => nb14_b8 e.symm
    have nb14_b11 : b14 ≠ b11 := fun e => by rw [e] at hn14; simp only [nb11_b8, nb8_b11, RR, seval, reduceCtorEq] at hn14
    have nb11_b14 : b11 ≠ b14 := fun e => nb14_b11 e.symm
    simp only [nb11_b8, nb8_b11, nb14_b8, nb8_b14, nb14_b11, nb11_b14, List.length_map, hl, z1, z2, t1, t2, n1, n2, strRow, hd, hcat1, hcat2, hcat3, hcat4, hcat5, hcat6, hcat7, hcat8, hcat9, hcat10, hcat11, hcat12, RR, seval]
    refine hK _ _ ?_; clear hK K
    refine awp_seq ?_
    refine awp_seq_k fun K hK => ?_
    refine awp_region rfl ?_
    simp only [nb11_b8, nb8_b11, nb14_b8, nb8_b14, nb14_b11, nb11_b14, List.length_map, hl, z1, z2, t1, t2, n1, n2, strRow, hd, hcat1, hcat2, hcat3, hcat4, hcat5, hcat6, hcat7, hcat8, hcat9, hcat10, hcat11, hcat12, RR, seval]
    refine hK _ _ ?_; clear hK K
    refine awp_if false rfl (fun hc => by cases hc) (fun _ => ?_)
    refine awp_skip ?_; try simp only [RR]
    refine awp_seq ?_
    refine awp_seq_k fun K hK => ?_
    refine awp_region rfl ?_
    simp only [nb11_b8, nb8_b11, nb14_b8, nb8_b14, nb14_b11, nb11_b14, List.length_map, hl, z1, z2, t1, t2, n1, n2, strRow, hd, hcat1, hcat2, hcat3, hcat4, hcat5, hcat6, hcat7, hcat8, hcat9, hcat10, hcat11, hcat12, RR, seval]
    refine awpC_pure' (s2) ?_
    simp only [nb11_b8, nb8_b11, nb14_b8, nb8_b14, nb14_b11, nb11_b14, List.length_map, hl, z1, z2, t1, t2, n1, n2, strRow, hd, hcat1, hcat2, hcat3, hcat4, hcat5, hcat6, hcat7, hcat8, hcat9, hcat10, hcat11, hcat12, RR, seval]
    refine awpC_pure' (s1) ?_
    simp only [nb11_b8, nb8_b11, nb14_b8, nb8_b14, nb14_b11, nb11_b14, List.length_map, hl, z1, z2, t1, t2, n1, n2, strRow, hd, hcat1, hcat2, hcat3, hcat4, hcat5, hcat6, hcat7, hcat8, hcat9, hcat10, hcat11, hcat12, RR, seval]
    refine hK _ _ ?_; clear hK K
    refine awp_if true rfl (fun _ => ?_) (fun hc => by cases hc)
    refine awp_seq_k fun K hK => ?_
    refine awp_region rfl ?_
    simp only [nb11_b8, nb8_b11, nb14_b8, nb8_b14, nb14_b11, nb11_b14, List.length_map, hl, z1, z2, t1, t2, n1, n2, strRow, hd, hcat1, hcat2, hcat3, hcat4, hcat5, hcat6, hcat7, hcat8, hcat9, hcat10, hcat11, hcat12, RR, seval]
    refine awpC_pure' (awake_con) ?_
    simp only [nb11_b8, nb8_b11, nb14_b8, nb8_b14, nb14_b11, nb11_b14, List.length_map, hl, z1, z2, t1, t2, n1, n2, strRow, hd, hcat1, hcat2, hcat3, hcat4, hcat5, hcat6, hcat7, hcat8, hcat9, hcat10, hcat11, hcat12, RR, seval]
    refine awpC_pure' (e1) ?_
    simp only [nb11_b8, nb8_b11, nb14_b8, nb8_b14, nb14_b11, nb11_b14, List.length_map, hl, z1, z2, t1, t2, n1, n2, strRow, hd, hcat1, hcat2, hcat3, hcat4, hcat5, hcat6, hcat7, hcat8, hcat9, hcat10, hcat11, hcat12, RR, seval]
    refine awpC_pure' (e2) ?_
    simp only [nb11_b8, nb8_b11, nb14_b8, nb8_b14, nb14_b11, nb11_b14, List.length_map, hl, z1, z2, t1, t2, n1, n2, strRow, hd, hcat1, hcat2, hcat3, hcat4, hcat5, hcat6, hcat7, hcat8, hcat9, hcat10, hcat11, hcat12, RR, seval]
    refine hK _ _ ?_; clear hK K
    refine awp_ret ?_; simp only [bodyQ, aresult, ares, List.length_map, hl, z1, z2, t1, t2, n1, n2, strRow, hd, hcat1, hcat2, hcat3, hcat4, hcat5, hcat6, hcat7, hcat8, hcat9, hcat10, hcat11, hcat12, RR, seval]
    refine Gives.pure ?_
    rfl
  · have c1 := pExpr_con (tx1 s t) (by simp only [tx1, List.length_append, List.length_cons, List.length_nil]; omega)
    rw [if_neg hst] at q1
    rw [srcE_rd q1 r1] at c1
    have hd : decide (((sgI s).2.2 : Int) < ((sgI t).2.2 : Int)) = false := decide_eq_false (by omega)
    have e1 := rSameExpr_con (lfE s t) (lfE s t) o2 o2
    have e2 := rSameExpr_con (lfE s t) (rgE s t) o2 o3
    rw [eqB_self] at e1
    rw [eqB_false hne] at e2
    generalize lfE s t = L at *
    generalize rgE s t = R at *
    generalize (sgI s).2.2 = u at *
    generalize (sgI t).2.2 = v at *
    simp only [resE, Ex.row_eq, tx1, tx2, tx3] at c1 c2 c3 e1 e2
    refine con_of 106 [.tmp 4] Tryd.func8 rfl rfl rfl rfl ?_
    refine awp_seq_k fun K hK => ?_
    refine awp_region rfl ?_
    simp only [List.length_map, hl, z1, z2, t1, t2, n1, n2, strRow, hd, RR, seval]
    refine hK _ _ ?_; clear hK K
    refine awp_seq_k fun K hK => ?_
    refine awp_region rfl ?_
    simp only [List.length_map, hl, z1, z2, t1, t2, n1, n2, strRow, hd, RR, seval]
    refine awpC_pure' (lsigns_con) ?_
    simp only [List.length_map, hl, z1, z2, t1, t2, n1, n2, strRow, hd, RR, seval]
    refine hK _ _ ?_; clear hK K
    refine awp_seq_k fun K hK => ?_
    refine awp_region_draw2 (fun x => True) [(0, 3), (1, 3), (2, 3), (3, 3), (4, 3), (5, 3), (6, 3), (7, 1), (8, 3), (9, 3), (10, 3), (11, 3), (12, 3), (13, 3), (14, 3), (15, 1), (16, 3), (17, 3)] [] draws (by kernel_rfl) rfl rfl ?_
    simp only [emitF, markOf, EM, List.length_map, hl, z1, z2, t1, t2, n1, n2, strRow, hd, RR, seval]
    refine hK _ _ ?_; clear hK K
    have hcat1 : 2 + (s).length ≤ maxLen := by unfold maxLen; (try simp only [List.length_append, List.length_cons, List.length_nil]); omega
    have hcat2 : (s).length + 1 + 1 + 3 ≤ maxLen := by unfold maxLen; (try simp only [List.length_append, List.length_cons, List.length_nil]); omega
    have hcat3 : (s ++ [32, 98, 32]).length + 1 + 1 + (t).length ≤ maxLen := by unfold maxLen; (try simp only [List.length_append, List.length_cons, List.length_nil]); omega
    have hcat4 : (s ++ [32, 98, 32] ++ t).length + 1 + 1 + 2 ≤ maxLen := by unfold maxLen; (try simp only [List.length_append, List.length_cons, List.length_nil]); omega
    refine awp_seq_k fun K hK => ?_
    refine awp_region rfl ?_
    simp only [List.length_map, hl, z1, z2, t1, t2, n1, n2, strRow, hd, hcat1, hcat2, hcat3, hcat4, RR, seval]
    refine awpC_pure' (c1) ?_
    simp only [List.length_map, hl, z1, z2, t1, t2, n1, n2, strRow, hd, hcat1, hcat2, hcat3, hcat4, RR, seval]
    refine awpN_intro fun b8 hn8 => ?_
    simp only [List.length_map, hl, z1, z2, t1, t2, n1, n2, strRow, hd, hcat1, hcat2, hcat3, hcat4, RR, seval]
    refine hK _ _ ?_; clear hK K
    have hcat5 : 3 + (s).length ≤ maxLen := by unfold maxLen; (try simp only [List.length_append, List.length_cons, List.length_nil]); omega
    have hcat6 : (s).length + 1 + 1 + 1 + 4 ≤ maxLen := by unfold maxLen; (try simp only [List.length_append, List.length_cons, List.length_nil]); omega
    have hcat7 : (s ++ [32, 98, 41, 32]).length + 1 + 1 + 1 + (t).length ≤ maxLen := by unfold maxLen; (try simp only [List.length_append, List.length_cons, List.length_nil]); omega
    have hcat8 : (s ++ [32, 98, 41, 32] ++ t).length + 1 + 1 + 1 + 2 ≤ maxLen := by unfold maxLen; (try simp only [List.length_append, List.length_cons, List.length_nil]); omega
    refine awp_seq_k fun K hK => ?_
    refine awp_region rfl ?_
    simp only [List.length_map, hl, z1, z2, t1, t2, n1, n2, strRow, hd, hcat1, hcat2, hcat3, hcat4, hcat5, hcat6, hcat7, hcat8, RR, seval]
    refine awpC_pure' (c2) ?_
    simp only [List.length_map, hl, z1, z2, t1, t2, n1, n2, strRow, hd, hcat1, hcat2, hcat3, hcat4, hcat5, hcat6, hcat7, hcat8, RR, seval]
    refine awpN_intro fun b11 hn11 => ?_
    have nb11_b8 : b11 ≠ b8 := fun e => by rw [e] at hn11; simp only [RR, seval, reduceCtorEq] at hn11
    have nb8_b11 : b8 ≠ b11 := fun e => nb11_b8 e.symm
    simp only [nb11_b8, nb8_b11, List.length_map, hl, z1, z2, t1, t2, n1, n2, strRow, hd, hcat1, hcat2, hcat3, hcat4, hcat5, hcat6, hcat7, hcat8, RR, seval]
    refine hK _ _ ?_; clear hK K
    have hcat9 : 2 + (s).length ≤ maxLen := by unfold maxLen; (try simp only [List.length_append, List.length_cons, List.length_nil]); omega
    have hcat10 : (s).length + 1 + 1 + 4 ≤ maxLen := by unfold maxLen; (try simp only [List.length_append, List.length_cons, List.length_nil]); omega
    have hcat11 : (s ++ [32, 40, 98, 32]).length + 1 + 1 + (t).length ≤ maxLen := by unfold maxLen; (try simp only [List.length_append, List.length_cons, List.length_nil]); omega
    have hcat12 : (s ++ [32, 40, 98, 32] ++ t).length + 1 + 1 + 3 ≤ maxLen := by unfold maxLen; (try simp only [List.length_append, List.length_cons, List.length_nil]); omega
    refine awp_seq_k fun K hK => ?_
    refine awp_region rfl ?_
    simp only [nb11_b8, nb8_b11, List.length_map, hl, z1, z2, t1, t2, n1, n2, strRow, hd, hcat1, hcat2, hcat3, hcat4, hcat5, hcat6, hcat7, hcat8, hcat9, hcat10, hcat11, hcat12, RR, seval]
    refine awpC_pure' (c3) ?_
    simp only [nb11_b8, nb8_b11, List.length_map, hl, z1, z2, t1, t2, n1, n2, strRow, hd, hcat1, hcat2, hcat3, hcat4, hcat5, hcat6, hcat7, hcat8, hcat9, hcat10, hcat11, hcat12, RR, seval]
    refine awpN_intro fun b14 hn14 => ?_
    have nb14_b8 : b14 ≠ b8 := fun e => by rw [e] at hn14; simp only [nb11_b8, nb8_b11, RR, seval, reduceCtorEq] at hn14
    have nb8_b14 : b8 ≠ b14 := fun e => nb14_b8 e.symm
    have nb14_b11 : b14 ≠ b11 := fun e => by rw [e] at hn14; simp only [nb11_b8, nb8_b11, RR, seval, reduceCtorEq] at hn14
    have nb11_b14 : b11 ≠ b14 := fun e => nb14_b11 e.symm
    simp only [nb11_b8, nb8_b11, nb14_b8, nb8_b14, nb14_b11, nb11_b14, List.length_map, hl, z1, z2, t1, t2, n1, n2, strRow, hd, hcat1, hcat2, hcat3, hcat4, hcat5, hcat6, hcat7, hcat8, hcat9, hcat10, hcat11, hcat12, RR, seval]
    refine hK _ _ ?_; clear hK K
    refine awp_seq ?_
    refine awp_seq_k fun K hK => ?_
    refine awp_region rfl ?_
    simp only [nb11_b8, nb8_b11, nb14_b8, nb8_b14, nb14_b11, nb11_b14, List.length_map, hl, z1, z2, t1, t2, n1, n2, strRow, hd, hcat1, hcat2, hcat3, hcat4, hcat5, hcat6, hcat7, hcat8, hcat9, hcat10, hcat11, hcat12, RR, seval]
    refine hK _ _ ?_; clear hK K
    refine awp_if false rfl (fun hc => by cases hc) (fun _ => ?_)
    refine awp_skip ?_; try simp only [RR]
    refine awp_seq ?_
    refine awp_seq_k fun K hK => ?_
    refine awp_region rfl ?_
    simp only [nb11_b8, nb8_b11, nb14_b8, nb8_b14, nb14_b11, nb11_b14, List.length_map, hl, z1, z2, t1, t2, n1, n2, strRow, hd, hcat1, hcat2, hcat3, hcat4, hcat5, hcat6, hcat7, hcat8, hcat9, hcat10, hcat11, hcat12, RR, seval]
    refine awpC_pure' (s2) ?_
    simp only [nb11_b8, nb8_b11, nb14_b8, nb8_b14, nb14_b11, nb11_b14, List.length_map, hl, z1, z2, t1, t2, n1, n2, strRow, hd, hcat1, hcat2, hcat3, hcat4, hcat5, hcat6, hcat7, hcat8, hcat9, hcat10, hcat11, hcat12, RR, seval]
    refine awpC_pure' (s1) ?_
    simp only [nb11_b8, nb8_b11, nb14_b8, nb8_b14, nb14_b11, nb11_b14, List.length_map, hl, z1, z2, t1, t2, n1, n2, strRow, hd, hcat1, hcat2, hcat3, hcat4, hcat5, hcat6, hcat7, hcat8, hcat9, hcat10, hcat11, hcat12, RR, seval]
    refine hK _ _ ?_; clear hK K
    refine awp_if false rfl (fun hc => by cases hc) (fun _ => ?_)
    refine awp_skip ?_; try simp only [RR]
    refine awp_seq_k fun K hK => ?_
    refine awp_region rfl ?_
    simp only [nb11_b8, nb8_b11, nb14_b8, nb8_b14, nb14_b11, nb11_b14, List.length_map, hl, z1, z2, t1, t2, n1, n2, strRow, hd, hcat1, hcat2, hcat3, hcat4, hcat5, hcat6, hcat7, hcat8, hcat9, hcat10, hcat11, hcat12, RR, seval]
    refine awpC_pure' (awake_con) ?_
    simp only [nb11_b8, nb8_b11, nb14_b8, nb8_b14, nb14_b11, nb11_b14, List.length_map, hl, z1, z2, t1, t2, n1, n2, strRow, hd, hcat1, hcat2, hcat3, hcat4, hcat5, hcat6, hcat7, hcat8, hcat9, hcat10, hcat11, hcat12, RR, seval]
    refine awpC_pure' (e1) ?_
    simp only [nb11_b8, nb8_b11, nb14_b8, nb8_b14, nb14_b11, nb11_b14, List.length_map, hl, z1, z2, t1, t2, n1, n2, strRow, hd, hcat1, hcat2, hcat3, hcat4, hcat5, hcat6, hcat7, hcat8, hcat9, hcat10, hcat11, hcat12, RR, seval]
    refine awpC_pure' (e2) ?_
    simp only [nb11_b8, nb8_b11, nb14_b8, nb8_b14, nb14_b11, nb11_b14, List.length_map, hl, z1, z2, t1, t2, n1, n2, strRow, hd, hcat1, hcat2, hcat3, hcat4, hcat5, hcat6, hcat7, hcat8, hcat9, hcat10, hcat11, hcat12, RR, seval]
    refine hK _ _ ?_; clear hK K
    refine awp_ret ?_; simp only [bodyQ, aresult, ares, List.length_map, hl, z1, z2, t1, t2, n1, n2, strRow, hd, hcat1, hcat2, hcat3, hcat4, hcat5, hcat6, hcat7, hcat8, hcat9, hcat10, hcat11, hcat12, RR, seval]
    refine Gives.pure ?_
    rfl
end Go.Proofs.YtlpeikljipknoaaDoor
