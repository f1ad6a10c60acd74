/- Chapter 14: what is printed, in plain Lean. Chapter 14: how long is what is printed? In plain Lean. -/
import Derived.Test.YtlpeikljipknoaaDoorSy1
import Derived.Lib.ItoaNum
import Derived.Lib.Join
import Derived.Test.YtlpeikljipknoaaDoorSy2
set_option linter.unusedSimpArgs false
set_option linter.unusedVariables false
set_option maxRecDepth 10000
namespace Go.Al
def sgn (k o : Int) : Str := if k = 8 then [38, 38] else if k = 9 then [124, 124] else
  (([[43], [45], [42], [47], [37], [38], [124], [94], [60, 60], [62, 62], [60], [61, 61]] : List Str)[(o - 4).toNat]?).getD []
mutual
def prE : Ex → Str
  | .mk k o n s l =>
    if k = 1 then Lib.decDigits n.toNat
    else if k = 2 then s
    else if k = 3 then s ++ ([91] ++ (prL l ++ [93]))
    else if k = 4 then s ++ ([40] ++ (prL l ++ [41]))
    else if k = 5 then [103, 101, 116, 40, 41]
    else if k = 7 then [33] ++ prL l
    else if k = 6 ∨ k = 8 ∨ k = 9 then [40] ++ (pr1 l ++ ([32] ++ (sgn k o ++ ([32] ++ (pr2 l ++ [41])))))
    else []
def prL : List Ex → Str
  | [] => []
  | e :: l => prE e ++ prT l
def prT : List Ex → Str
  | [] => []
  | e :: l => [44, 32] ++ (prE e ++ prT l)
def pr1 : List Ex → Str
  | [] => []
  | e :: _ => prE e
def pr2 : List Ex → Str
  | [] => []
  | _ :: l => prL l
end
def ind : Nat → Str
  | 0 => []
  | n + 1 => [32, 32] ++ ind n
theorem ind_len : ∀ n, (ind n).length = 2 * n
  | 0 => rfl
  | n + 1 => by simp only [ind, List.length_append, ind_len n, List.length_cons, List.length_nil]; omega
theorem ind_snoc : ∀ n, ind n ++ [32, 32] = ind (n + 1)
  | 0 => rfl
  | n + 1 => by rw [ind, List.append_assoc, ind_snoc n]; rfl
mutual
def prM : Nat → Sm → Str
  | lv, .mk k s l t u =>
    if k = 1 then ind lv ++ (s ++ ([32, 61, 32] ++ (prL l ++ [59, 10])))
    else if k = 2 then ind lv ++ (s ++ ([91] ++ (pr1 l ++ ([93, 32, 61, 32] ++ (pr2 l ++ [59, 10])))))
    else if k = 3 then ind lv ++ ([112, 117, 116, 40] ++ (prL l ++ [41, 59, 10]))
    else if k = 6 then ind lv ++ (s ++ ([40] ++ (prL l ++ [41, 59, 10])))
    else if k = 7 then ind lv ++ ([114, 101, 116, 117, 114, 110] ++ ((if l.length = 0 then [] else [32] ++ prL l) ++ [59, 10]))
    else if k = 4 ∨ k = 5 then ind lv ++ ((if k = 5 then [119, 104, 105, 108, 101, 32, 40] else [105, 102, 32, 40]) ++ (prL l ++ ([41, 32, 123, 10] ++ (prB (lv + 1) t ++
      ((if u.length = 0 then [] else ind lv ++ ([125, 32, 101, 108, 115, 101, 32, 123, 10] ++ prB (lv + 1) u)) ++ (ind lv ++ [125, 10]))))))
    else []
def prB : Nat → List Sm → Str
  | _, [] => []
  | lv, s :: l => prM lv s ++ prB lv l
end
def comma : List Str → Str := fun l => Lib.join l [44, 32]
def prA (a : Ar) : Str := [97, 114, 114, 97, 121, 32] ++ (a.name ++ ([91] ++ (Lib.decDigits a.size.toNat ++ [93, 59, 10])))
def prAs : List Ar → Str
  | [] => []
  | a :: l => prA a ++ prAs l
def prF (f : Fu) : Str := [102, 117, 110, 99, 32] ++ (f.name ++ ([40] ++ (comma f.params ++ ([41] ++ ((if f.word then [32, 119, 111, 114, 100] else []) ++ ([32, 123, 10] ++
  ((if f.locs.length = 0 then [] else [32, 32, 118, 97, 114, 32] ++ (comma f.locs ++ [59, 10])) ++ (prB 1 f.body ++ [125, 10]))))))))
def prFs : List Fu → Str
  | [] => []
  | f :: l => prF f ++ prFs l
def prP (p : Pg) : Str := (if p.vars.length = 0 then [] else [118, 97, 114, 32] ++ (comma p.vars ++ [59, 10])) ++ (prAs p.arrs ++ prFs p.funs)
theorem prT_snoc (e : Ex) : ∀ l : List Ex, prT (l ++ [e]) = prT l ++ ([44, 32] ++ prE e)
  | [] => by simp [prT]
  | x :: l => by simp only [List.cons_append, prT, prT_snoc e l, List.append_assoc]
theorem prL_snoc (e : Ex) (l : List Ex) (h : l ≠ []) : prL (l ++ [e]) = prL l ++ ([44, 32] ++ prE e) := by
  cases l with
  | nil => exact absurd rfl h
  | cons x l => simp only [List.cons_append, prL, prT_snoc, List.append_assoc]
theorem prL_one (e : Ex) : prL [e] = prE e := by simp [prL, prT]
theorem prT_split : ∀ (l l' : List Ex), prT (l ++ l') = prT l ++ prT l'
  | [], l' => by simp [prT]
  | x :: l, l' => by simp only [List.cons_append, prT, prT_split l l', List.append_assoc]
theorem prL_take_len (l : List Ex) (k : Nat) : (prL (l.take k)).length ≤ (prL l).length := by
  cases l with
  | nil => simp [prL]
  | cons x l =>
    cases k with
    | zero => simp [prL]
    | succ k =>
      have := prT_split (l.take k) (l.drop k)
      rw [List.take_append_drop] at this
      simp only [List.take_succ_cons, prL, this, List.length_append]
      omega
theorem prB_snoc (lv : Nat) (s : Sm) : ∀ l : List Sm, prB lv (l ++ [s]) = prB lv l ++ prM lv s
  | [] => by simp [prB]
  | x :: l => by simp only [List.cons_append, prB, prB_snoc lv s l, List.append_assoc]
theorem prB_split (lv : Nat) : ∀ (l l' : List Sm), prB lv (l ++ l') = prB lv l ++ prB lv l'
  | [], l' => by simp [prB]
  | x :: l, l' => by simp only [List.cons_append, prB, prB_split lv l l', List.append_assoc]
theorem prB_take_len (lv : Nat) (l : List Sm) (k : Nat) : (prB lv (l.take k)).length ≤ (prB lv l).length := by
  have := prB_split lv (l.take k) (l.drop k)
  rw [List.take_append_drop] at this
  simp only [this, List.length_append]
  omega
theorem prAs_snoc (a : Ar) : ∀ l : List Ar, prAs (l ++ [a]) = prAs l ++ prA a
  | [] => by simp [prAs]
  | x :: l => by simp only [List.cons_append, prAs, prAs_snoc a l, List.append_assoc]
theorem prAs_take_len (l : List Ar) (k : Nat) : (prAs (l.take k)).length ≤ (prAs l).length := by
  have : ∀ (l l' : List Ar), prAs (l ++ l') = prAs l ++ prAs l' := by
    intro l l'
    induction l with
    | nil => simp [prAs]
    | cons x l ih => simp only [List.cons_append, prAs, ih, List.append_assoc]
  have := this (l.take k) (l.drop k)
  rw [List.take_append_drop] at this
  simp only [this, List.length_append]
  omega
theorem prFs_snoc (a : Fu) : ∀ l : List Fu, prFs (l ++ [a]) = prFs l ++ prF a
  | [] => by simp [prFs]
  | x :: l => by simp only [List.cons_append, prFs, prFs_snoc a l, List.append_assoc]
theorem prFs_take_len (l : List Fu) (k : Nat) : (prFs (l.take k)).length ≤ (prFs l).length := by
  have : ∀ (l l' : List Fu), prFs (l ++ l') = prFs l ++ prFs l' := by
    intro l l'
    induction l with
    | nil => simp [prFs]
    | cons x l ih => simp only [List.cons_append, prFs, ih, List.append_assoc]
  have := this (l.take k) (l.drop k)
  rw [List.take_append_drop] at this
  simp only [this, List.length_append]
  omega
end Go.Al

namespace Go.Al
open Go.Proofs.YtlpeikljipknoaaDoor
theorem nameB_len {s : Str} (h : nameB s = true) : s.length ≤ 20 := by
  cases s with
  | nil => simp
  | cons c r =>
    simp only [nameB, Bool.and_eq_true, decide_eq_true_eq] at h
    exact h.1
theorem dec_len {n : Int} (h : u32R n) : (Lib.decDigits n.toNat).length ≤ 10 := by
  rw [Lib.decDigits_length]
  have h2 : n.toNat < 4294967296 := by have := h.2; have := h.1; omega
  have : ∀ (k u : Nat), u < 10 ^ (k + 1) → Lib.nDigits u ≤ k + 1 := by
    intro k
    induction k with
    | zero => intro u h; rw [Lib.nDigits_small (by simpa using h)]; exact Nat.le_refl _
    | succ k ih =>
      intro u h
      by_cases c : u < 10
      · rw [Lib.nDigits_small c]; omega
      · rw [Lib.nDigits_big c]
        have := ih (u / 10) (by rw [Nat.pow_succ] at h; omega)
        omega
  exact this 9 _ (by omega)
theorem sgn_len (k o : Int) : (sgn k o).length ≤ 2 := by
  unfold sgn
  split
  · simp
  · split
    · simp
    · generalize (o - 4).toNat = i
      iterate 12 (rcases i with _ | i; · simp)
      simp
theorem headX_name {e : Ex} {level : Int} (h : headX e level = true) : e.name.length ≤ 20 := by
  simp only [headX, Bool.and_eq_true] at h
  have h := h.2
  split at h
  · exact nameB_len h
  · rw [of_decide_eq_true h]; simp
theorem headS_name {e : Sm} {level : Int} (h : headS e level = true) : e.name.length ≤ 20 := by
  simp only [headS, Bool.and_eq_true] at h
  have h := h.2
  split at h
  · exact nameB_len h
  · rw [of_decide_eq_true h]; simp
theorem prE_len (N : Nat) : (∀ (e : Ex) (level : Int), e.sz ≤ N → e.ok → rightX e level = true → (prE e).length + 2 ≤ 40 * e.sz) ∧
    (∀ (l : List Ex) (level : Int), szE l ≤ N → okE l → rightE l level = true → (prT l).length ≤ 40 * szE l) := by
  induction N using Nat.strongRecOn with
  | _ N ih =>
    have hX : ∀ (e : Ex) (level : Int), e.sz ≤ N → e.ok → rightX e level = true → (prE e).length + 2 ≤ 40 * e.sz := by
      intro e level hn ho hr
      have hz := e.sz_eq
      have hok := ho.kids
      have hnum := ho.num
      simp only [rightX, Bool.and_eq_true] at hr
      have hnm := headX_name hr.1.1
      have hT := (ih (szE e.kids) (by omega)).2 e.kids (level + 1) (Nat.le_refl _) hok hr.2
      obtain ⟨k, o, n, s, l⟩ := e
      simp only [Ex.kids, Ex.name, Ex.num] at *
      have hd := dec_len hnum
      have hs := sgn_len k o
      have hL : (prL l).length ≤ (prT l).length := by
        cases l with
        | nil => simp [prL, prT]
        | cons x l => simp only [prL, prT, List.length_append]; omega
      have h12 : (pr1 l).length + (pr2 l).length ≤ (prT l).length := by
        cases l with
        | nil => simp [pr1, pr2, prT]
        | cons x l =>
          simp only [pr1, pr2, prT, List.length_append]
          have : (prL l).length ≤ (prT l).length := by
            cases l with
            | nil => simp [prL, prT]
            | cons x l => simp only [prL, prT, List.length_append]; omega
          omega
      rw [prE]
      split
      · omega
      split
      · omega
      split
      · simp only [List.length_append, List.length_cons, List.length_nil]; omega
      split
      · simp only [List.length_append, List.length_cons, List.length_nil]; omega
      split
      · simp only [List.length_cons, List.length_nil]; omega
      split
      · simp only [List.length_append, List.length_cons, List.length_nil]; omega
      split
      · simp only [List.length_append, List.length_cons, List.length_nil]; omega
      · simp only [List.length_nil]; omega
    refine ⟨hX, fun l => ?_⟩
    induction l with
    | nil => intro level _ _ _; simp [prT]
    | cons x l ihl =>
      intro level hn ho hr
      rw [rightE_cons, Bool.and_eq_true] at hr
      simp only [szE] at hn ⊢
      have h1 := hX x level (by omega) (ho.all x (List.mem_cons_self)) hr.1
      have hof : okE l := ⟨by have := ho.fit; unfold fitL at this ⊢; simp only [List.length_cons] at this; omega, fun e he => ho.all e (List.mem_cons_of_mem _ he)⟩
      have h2 := ihl level (by omega) hof hr.2
      simp only [prT, List.length_append, List.length_cons, List.length_nil]
      omega
theorem prL_len {l : List Ex} {level : Int} (ho : okE l) (hr : rightE l level = true) : (prL l).length ≤ 40 * szE l := by
  have := (prE_len (szE l)).2 l level (Nat.le_refl _) ho hr
  cases l with
  | nil => simp [prL]
  | cons x l => simp only [prL, prT, List.length_append] at *; omega
theorem pr12_len {l : List Ex} {level : Int} (ho : okE l) (hr : rightE l level = true) : (pr1 l).length + (pr2 l).length ≤ 40 * szE l := by
  have := (prE_len (szE l)).2 l level (Nat.le_refl _) ho hr
  cases l with
  | nil => simp [pr1, pr2]
  | cons x l =>
    have h : (prL l).length ≤ (prT l).length := by
      cases l with
      | nil => simp [prL, prT]
      | cons x l => simp only [prL, prT, List.length_append]; omega
    simp only [pr1, pr2, prT, List.length_append] at *; omega
theorem prB_len (N : Nat) : ∀ (l : List Sm) (lv : Nat), szS l ≤ N → okS l → rightS l (lv : Int) = true → (prB lv l).length ≤ 300 * szS l := by
  induction N using Nat.strongRecOn with
  | _ N ih =>
    intro l
    induction l with
    | nil => intro lv _ _ _; simp [prB]
    | cons x l ihl =>
      intro lv hn ho hr
      rw [rightS_cons, Bool.and_eq_true] at hr
      simp only [szS] at hn ⊢
      have hof : okS l := ⟨by have := ho.fit; unfold fitL at this ⊢; simp only [List.length_cons] at this; omega, fun e he => ho.all e (List.mem_cons_of_mem _ he)⟩
      have h2 := ihl lv (by omega) hof hr.2
      have hox := ho.all x (List.mem_cons_self)
      have hr1 := hr.1
      have hz := x.sz_eq
      have hoe := hox.es
      have hot := hox.thn
      have hou := hox.els
      simp only [rightM, Bool.and_eq_true] at hr1
      obtain ⟨⟨⟨⟨hh, _⟩, hre⟩, hrt⟩, hru⟩ := hr1
      have hnm := headS_name hh
      have hlv : lv ≤ 24 := by simp only [headS, Bool.and_eq_true, decide_eq_true_eq] at hh; omega
      have hcast : (lv : Int) + 1 = ((lv + 1 : Nat) : Int) := by omega
      rw [hcast] at hrt hru
      have ht := ih (szS x.thn) (by omega) x.thn (lv + 1) (Nat.le_refl _) hot hrt
      have hu := ih (szS x.els) (by omega) x.els (lv + 1) (Nat.le_refl _) hou hru
      have hL := prL_len hoe hre
      have h12 := pr12_len hoe hre
      obtain ⟨k, s, es, t, u⟩ := x
      simp only [Sm.es, Sm.thn, Sm.els, Sm.name] at *
      have hin := ind_len lv
      simp only [prB, List.length_append]
      have : (prM lv (.mk k s es t u)).length ≤ 300 * (Sm.mk k s es t u).sz := by
        rw [hz, prM]
        split
        · simp only [List.length_append, List.length_cons, List.length_nil]; omega
        split
        · simp only [List.length_append, List.length_cons, List.length_nil]; omega
        split
        · simp only [List.length_append, List.length_cons, List.length_nil]; omega
        split
        · simp only [List.length_append, List.length_cons, List.length_nil]; omega
        split
        · split
          · simp only [List.length_append, List.length_cons, List.length_nil]; omega
          · simp only [List.length_append, List.length_cons, List.length_nil]; omega
        split
        · split
          · split
            · simp only [List.length_append, List.length_cons, List.length_nil]; omega
            · simp only [List.length_append, List.length_cons, List.length_nil]; omega
          · split
            · simp only [List.length_append, List.length_cons, List.length_nil]; omega
            · simp only [List.length_append, List.length_cons, List.length_nil]; omega
        · simp only [List.length_nil]; omega
      omega
theorem comma_len : ∀ l : List Str, (∀ s ∈ l, s.length ≤ 20) → (comma l).length ≤ 22 * l.length
  | [], _ => by simp [comma, Lib.join_nil]
  | x :: l, h => by
    have hx := h x (List.mem_cons_self)
    have : ∀ l : List Str, (∀ s ∈ l, s.length ≤ 20) → (Lib.joinTail [44, 32] l).length ≤ 22 * l.length := by
      intro l
      induction l with
      | nil => intro _; simp [Lib.joinTail]
      | cons y l ih =>
        intro h
        have h1 := ih fun s hs => h s (List.mem_cons_of_mem _ hs)
        have h2 := h y (List.mem_cons_self)
        simp only [Lib.joinTail, List.map_cons, List.flatten_cons, List.length_append, List.length_cons, List.length_nil] at h1 ⊢
        omega
    have h2 := this l fun s hs => h s (List.mem_cons_of_mem _ hs)
    rw [comma, Lib.join_cons]
    simp only [List.length_append, List.length_cons]
    omega
theorem all_name {l : List Str} (h : l.all nameB = true) : ∀ s ∈ l, s.length ≤ 20 := fun s hs => nameB_len (List.all_eq_true.1 h s hs)
theorem prAs_len : ∀ l : List Ar, (∀ a ∈ l, rightA a = true) → (prAs l).length ≤ 100 * l.length
  | [], _ => by simp [prAs]
  | a :: l, h => by
    have h1 := prAs_len l fun x hx => h x (List.mem_cons_of_mem _ hx)
    have h2 := h a (List.mem_cons_self)
    simp only [rightA, Bool.and_eq_true, decide_eq_true_eq] at h2
    have h3 := nameB_len h2.1.1
    have h4 := dec_len (n := a.size) ⟨by omega, by omega⟩
    simp only [prAs, prA, List.length_append, List.length_cons, List.length_nil]
    omega
theorem prFs_len (N : Nat) : ∀ l : List Fu, (∀ f ∈ l, f.ok ∧ rightF f = true ∧ f.locs.length ≤ N ∧ szS f.body ≤ N) → (prFs l).length ≤ (1000 + 400 * N) * l.length
  | [], _ => by simp [prFs]
  | f :: l, h => by
    have h1 := prFs_len N l fun x hx => h x (List.mem_cons_of_mem _ hx)
    obtain ⟨ho, hr, hl, hs⟩ := h f (List.mem_cons_self)
    simp only [rightF, Bool.and_eq_true, decide_eq_true_eq] at hr
    obtain ⟨⟨⟨⟨r1, r2⟩, r3⟩, r4⟩, r5⟩ := hr
    have b := prB_len (szS f.body) f.body 1 (Nat.le_refl _) ho.body r5
    have c1 := comma_len _ (all_name r3)
    have c2 := comma_len _ (all_name r4)
    have n := nameB_len r1
    have e : (1000 + 400 * N) * (l.length + 1) = (1000 + 400 * N) * l.length + (1000 + 400 * N) := by rw [Nat.mul_succ]
    rw [List.length_cons, e]
    have : (prF f).length ≤ 1000 + 400 * N := by
      rw [prF]
      split <;> split <;> simp only [List.length_append, List.length_cons, List.length_nil] <;> omega
    simp only [prFs, List.length_append]
    omega
theorem prP_len {p : Pg} (ho : p.ok) (hr : rightP p = true) (N : Nat) (hN : N ≤ 1100000) (hv : p.vars.length ≤ N) (ha : p.arrs.length ≤ N) (hf : ∀ f ∈ p.funs, f.locs.length ≤ N ∧ szS f.body ≤ N) : (prP p).length ≤ 140737488355328 := by
  simp only [rightP, Bool.and_eq_true, decide_eq_true_eq, List.all_eq_true] at hr
  obtain ⟨⟨⟨⟨r1, _⟩, r2⟩, r3⟩, r4⟩ := hr
  have c := comma_len p.vars (fun s hs => nameB_len (r1 s hs))
  have a := prAs_len p.arrs r3
  have f := prFs_len N p.funs fun f hfm => ⟨ho.funs f hfm, r4 f hfm, hf f hfm⟩
  have f2 : (1000 + 400 * N) * p.funs.length ≤ (1000 + 400 * N) * 64 := Nat.mul_le_mul_left _ r2
  rw [prP]
  split <;> simp only [List.length_append, List.length_cons, List.length_nil] <;> omega
end Go.Al
