/- Chapter 14: how long is what is printed? In plain Lean. Chapter 14, the judge's: texts of numbers, lists, expressions. Chapter 14, the judge's: an expression's text. Chapter 14, the judge's: statements' texts. Chapter 14, the judge's: a program's text. -/
import Derived.Test.YtgcncdjnipfolaaDoorTp
import Derived.Test.YtgcncdjnipfolaaDoorSy2
import Derived.Test.YtgcncdjnipfolaaDoorAl4
import Derived.Test.YtgcncdjnipfolaaDoorSy1
set_option linter.unusedSimpArgs false
set_option linter.unusedVariables false
set_option maxRecDepth 10000
namespace Go.Al
open Go.Proofs.YtgcncdjnipfolaaDoor
theorem nameB_len {s : Str} (h : nameB s = true) : s.length ≤ 20 := by
  cases s with
  | nil => simp
  | cons c r =>
    simp only [nameB, Bool.and_eq_true, decide_eq_true_eq] at h
    exact h.1
theorem dec_len {n : Int} (h : u32R n) : (Lib.decDigits n.toNat).length ≤ 10 := by
  rw [Lib.decDigits_length]
  have h2 : n.toNat < 4294967296 := by have := h.2; have := h.1; omega
  have : ∀ (k u : Nat), u < 10 ^ (k + 1) → Lib.nDigits u ≤ k + 1 := by
    intro k
    induction k with
    | zero => intro u h; rw [Lib.nDigits_small (by simpa using h)]; exact Nat.le_refl _
    | succ k ih =>
      intro u h
      by_cases c : u < 10
      · rw [Lib.nDigits_small c]; omega
      · rw [Lib.nDigits_big c]
        have := ih (u / 10) (by rw [Nat.pow_succ] at h; omega)
        omega
  exact this 9 _ (by omega)
theorem sgn_len (k o : Int) : (sgn k o).length ≤ 2 := by
  unfold sgn
  split
  · simp
  · split
    · simp
    · generalize (o - 4).toNat = i
      iterate 12 (rcases i with _ | i; · simp)
      simp
theorem headX_name {e : Ex} {level : Int} (h : headX e level = true) : e.name.length ≤ 20 := by
  simp only [headX, Bool.and_eq_true] at h
  have h := h.2
  split at h
  · exact nameB_len h
  · rw [of_decide_eq_true h]; simp
theorem headS_name {e : Sm} {level : Int} (h : headS e level = true) : e.name.length ≤ 20 := by
  simp only [headS, Bool.and_eq_true] at h
  have h := h.2
  split at h
  · exact nameB_len h
  · rw [of_decide_eq_true h]; simp
theorem prE_len (N : Nat) : (∀ (e : Ex) (level : Int), e.sz ≤ N → e.ok → rightX e level = true → (prE e).length + 2 ≤ 40 * e.sz) ∧
    (∀ (l : List Ex) (level : Int), szE l ≤ N → okE l → rightE l level = true → (prT l).length ≤ 40 * szE l) := by
  induction N using Nat.strongRecOn with
  | _ N ih =>
    have hX : ∀ (e : Ex) (level : Int), e.sz ≤ N → e.ok → rightX e level = true → (prE e).length + 2 ≤ 40 * e.sz := by
      intro e level hn ho hr
      have hz := e.sz_eq
      have hok := ho.kids
      have hnum := ho.num
      simp only [rightX, Bool.and_eq_true] at hr
      have hnm := headX_name hr.1.1
      have hT := (ih (szE e.kids) (by omega)).2 e.kids (level + 1) (Nat.le_refl _) hok hr.2
      obtain ⟨k, o, n, s, l⟩ := e
      simp only [Ex.kids, Ex.name, Ex.num] at *
      have hd := dec_len hnum
      have hs := sgn_len k o
      have hL : (prL l).length ≤ (prT l).length := by
        cases l with
        | nil => simp [prL, prT]
        | cons x l => simp only [prL, prT, List.length_append]; omega
      have h12 : (pr1 l).length + (pr2 l).length ≤ (prT l).length := by
        cases l with
        | nil => simp [pr1, pr2, prT]
        | cons x l =>
          simp only [pr1, pr2, prT, List.length_append]
          have : (prL l).length ≤ (prT l).length := by
            cases l with
            | nil => simp [prL, prT]
            | cons x l => simp only [prL, prT, List.length_append]; omega
          omega
      rw [prE]
      split
      · omega
      split
      · omega
      split
      · simp only [List.length_append, List.length_cons, List.length_nil]; omega
      split
      · simp only [List.length_append, List.length_cons, List.length_nil]; omega
      split
      · simp only [List.length_cons, List.length_nil]; omega
      split
      · simp only [List.length_append, List.length_cons, List.length_nil]; omega
      split
      · simp only [List.length_append, List.length_cons, List.length_nil]; omega
      · simp only [List.length_nil]; omega
    refine ⟨hX, fun l => ?_⟩
    induction l with
    | nil => intro level _ _ _; simp [prT]
    | cons x l ihl =>
      intro level hn ho hr
      rw [rightE_cons, Bool.and_eq_true] at hr
      simp only [szE] at hn ⊢
      have h1 := hX x level (by omega) (ho.all x (List.mem_cons_self)) hr.1
      have hof : okE l := ⟨by have := ho.fit; unfold fitL at this ⊢; simp only [List.length_cons] at this; omega, fun e he => ho.all e (List.mem_cons_of_mem _ he)⟩
      have h2 := ihl level (by omega) hof hr.2
      simp only [prT, List.length_append, List.length_cons, List.length_nil]
      omega
theorem prL_len {l : List Ex} {level : Int} (ho : okE l) (hr : rightE l level = true) : (prL l).length ≤ 40 * szE l := by
  have := (prE_len (szE l)).2 l level (Nat.le_refl _) ho hr
  cases l with
  | nil => simp [prL]
  | cons x l => simp only [prL, prT, List.length_append] at *; omega
theorem pr12_len {l : List Ex} {level : Int} (ho : okE l) (hr : rightE l level = true) : (pr1 l).length + (pr2 l).length ≤ 40 * szE l := by
  have := (prE_len (szE l)).2 l level (Nat.le_refl _) ho hr
  cases l with
  | nil => simp [pr1, pr2]
  | cons x l =>
    have h : (prL l).length ≤ (prT l).length := by
      cases l with
      | nil => simp [prL, prT]
      | cons x l => simp only [prL, prT, List.length_append]; omega
    simp only [pr1, pr2, prT, List.length_append] at *; omega
theorem prB_len (N : Nat) : ∀ (l : List Sm) (lv : Nat), szS l ≤ N → okS l → rightS l (lv : Int) = true → (prB lv l).length ≤ 300 * szS l := by
  induction N using Nat.strongRecOn with
  | _ N ih =>
    intro l
    induction l with
    | nil => intro lv _ _ _; simp [prB]
    | cons x l ihl =>
      intro lv hn ho hr
      rw [rightS_cons, Bool.and_eq_true] at hr
      simp only [szS] at hn ⊢
      have hof : okS l := ⟨by have := ho.fit; unfold fitL at this ⊢; simp only [List.length_cons] at this; omega, fun e he => ho.all e (List.mem_cons_of_mem _ he)⟩
      have h2 := ihl lv (by omega) hof hr.2
      have hox := ho.all x (List.mem_cons_self)
      have hr1 := hr.1
      have hz := x.sz_eq
      have hoe := hox.es
      have hot := hox.thn
      have hou := hox.els
      simp only [rightM, Bool.and_eq_true] at hr1
      obtain ⟨⟨⟨⟨hh, _⟩, hre⟩, hrt⟩, hru⟩ := hr1
      have hnm := headS_name hh
      have hlv : lv ≤ 24 := by simp only [headS, Bool.and_eq_true, decide_eq_true_eq] at hh; omega
      have hcast : (lv : Int) + 1 = ((lv + 1 : Nat) : Int) := by omega
      rw [hcast] at hrt hru
      have ht := ih (szS x.thn) (by omega) x.thn (lv + 1) (Nat.le_refl _) hot hrt
      have hu := ih (szS x.els) (by omega) x.els (lv + 1) (Nat.le_refl _) hou hru
      have hL := prL_len hoe hre
      have h12 := pr12_len hoe hre
      obtain ⟨k, s, es, t, u⟩ := x
      simp only [Sm.es, Sm.thn, Sm.els, Sm.name] at *
      have hin := ind_len lv
      simp only [prB, List.length_append]
      have : (prM lv (.mk k s es t u)).length ≤ 300 * (Sm.mk k s es t u).sz := by
        rw [hz, prM]
        split
        · simp only [List.length_append, List.length_cons, List.length_nil]; omega
        split
        · simp only [List.length_append, List.length_cons, List.length_nil]; omega
        split
        · simp only [List.length_append, List.length_cons, List.length_nil]; omega
        split
        · simp only [List.length_append, List.length_cons, List.length_nil]; omega
        split
        · split
          · simp only [List.length_append, List.length_cons, List.length_nil]; omega
          · simp only [List.length_append, List.length_cons, List.length_nil]; omega
        split
        · split
          · split
            · simp only [List.length_append, List.length_cons, List.length_nil]; omega
            · simp only [List.length_append, List.length_cons, List.length_nil]; omega
          · split
            · simp only [List.length_append, List.length_cons, List.length_nil]; omega
            · simp only [List.length_append, List.length_cons, List.length_nil]; omega
        · simp only [List.length_nil]; omega
      omega
theorem comma_len : ∀ l : List Str, (∀ s ∈ l, s.length ≤ 20) → (comma l).length ≤ 22 * l.length
  | [], _ => by simp [comma, Lib.join_nil]
  | x :: l, h => by
    have hx := h x (List.mem_cons_self)
    have : ∀ l : List Str, (∀ s ∈ l, s.length ≤ 20) → (Lib.joinTail [44, 32] l).length ≤ 22 * l.length := by
      intro l
      induction l with
      | nil => intro _; simp [Lib.joinTail]
      | cons y l ih =>
        intro h
        have h1 := ih fun s hs => h s (List.mem_cons_of_mem _ hs)
        have h2 := h y (List.mem_cons_self)
        simp only [Lib.joinTail, List.map_cons, List.flatten_cons, List.length_append, List.length_cons, List.length_nil] at h1 ⊢
        omega
    have h2 := this l fun s hs => h s (List.mem_cons_of_mem _ hs)
    rw [comma, Lib.join_cons]
    simp only [List.length_append, List.length_cons]
    omega
theorem all_name {l : List Str} (h : l.all nameB = true) : ∀ s ∈ l, s.length ≤ 20 := fun s hs => nameB_len (List.all_eq_true.1 h s hs)
theorem prAs_len : ∀ l : List Ar, (∀ a ∈ l, rightA a = true) → (prAs l).length ≤ 100 * l.length
  | [], _ => by simp [prAs]
  | a :: l, h => by
    have h1 := prAs_len l fun x hx => h x (List.mem_cons_of_mem _ hx)
    have h2 := h a (List.mem_cons_self)
    simp only [rightA, Bool.and_eq_true, decide_eq_true_eq] at h2
    have h3 := nameB_len h2.1.1
    have h4 := dec_len (n := a.size) ⟨by omega, by omega⟩
    simp only [prAs, prA, List.length_append, List.length_cons, List.length_nil]
    omega
theorem prFs_len (N : Nat) : ∀ l : List Fu, (∀ f ∈ l, f.ok ∧ rightF f = true ∧ f.locs.length ≤ N ∧ szS f.body ≤ N) → (prFs l).length ≤ (1000 + 400 * N) * l.length
  | [], _ => by simp [prFs]
  | f :: l, h => by
    have h1 := prFs_len N l fun x hx => h x (List.mem_cons_of_mem _ hx)
    obtain ⟨ho, hr, hl, hs⟩ := h f (List.mem_cons_self)
    simp only [rightF, Bool.and_eq_true, decide_eq_true_eq] at hr
    obtain ⟨⟨⟨⟨r1, r2⟩, r3⟩, r4⟩, r5⟩ := hr
    have b := prB_len (szS f.body) f.body 1 (Nat.le_refl _) ho.body r5
    have c1 := comma_len _ (all_name r3)
    have c2 := comma_len _ (all_name r4)
    have n := nameB_len r1
    have e : (1000 + 400 * N) * (l.length + 1) = (1000 + 400 * N) * l.length + (1000 + 400 * N) := by rw [Nat.mul_succ]
    rw [List.length_cons, e]
    have : (prF f).length ≤ 1000 + 400 * N := by
      rw [prF]
      split <;> split <;> simp only [List.length_append, List.length_cons, List.length_nil] <;> omega
    simp only [prFs, List.length_append]
    omega
theorem prP_len {p : Pg} (ho : p.ok) (hr : rightP p = true) (N : Nat) (hN : N ≤ 1100000) (hv : p.vars.length ≤ N) (ha : p.arrs.length ≤ N) (hf : ∀ f ∈ p.funs, f.locs.length ≤ N ∧ szS f.body ≤ N) : (prP p).length ≤ 140737488355328 := by
  simp only [rightP, Bool.and_eq_true, decide_eq_true_eq, List.all_eq_true] at hr
  obtain ⟨⟨⟨⟨r1, _⟩, r2⟩, r3⟩, r4⟩ := hr
  have c := comma_len p.vars (fun s hs => nameB_len (r1 s hs))
  have a := prAs_len p.arrs r3
  have f := prFs_len N p.funs fun f hfm => ⟨ho.funs f hfm, r4 f hfm, hf f hfm⟩
  have f2 : (1000 + 400 * N) * p.funs.length ≤ (1000 + 400 * N) * 64 := Nat.mul_le_mul_left _ r2
  rw [prP]
  split <;> simp only [List.length_append, List.length_cons, List.length_nil] <;> omega
end Go.Al

namespace Go.Al
theorem comma_snoc (x : Str) (l : List Str) (h : l ≠ []) : comma (l ++ [x]) = comma l ++ ([44, 32] ++ x) := by
  cases l with
  | nil => exact absurd rfl h
  | cons y l =>
    rw [comma, comma, List.cons_append, Lib.join_cons, Lib.join_cons]
    simp only [Lib.joinTail, List.map_append, List.map_cons, List.map_nil, List.flatten_append, List.flatten_cons, List.flatten_nil, List.append_assoc, List.append_nil]
theorem comma_one (x : Str) : comma [x] = x := by rw [comma, Lib.join_one]
theorem comma_nil : comma [] = [] := rfl
theorem comma_take_len (l : List Str) (k : Nat) : (comma (l.take k)).length ≤ (comma l).length := by
  cases l with
  | nil => simp
  | cons x l =>
    cases k with
    | zero => simp [comma_nil]
    | succ k =>
      rw [List.take_succ_cons, comma, comma, Lib.join_cons, Lib.join_cons]
      have := Lib.joinTail_take_le [44, 32] l k
      simp only [List.length_append]
      omega
end Go.Al
namespace Go.Proofs.YtgcncdjnipfolaaDoor
open Go.Al
theorem rText_con (z : Int) (hz : u32R z) : PCon env 45 [.int .u32 z] (.str (Lib.decDigits z.toNat)) := by
  obtain ⟨n, rfl⟩ : ∃ n : Nat, z = (n : Int) := ⟨z.toNat, by have := hz.1; omega⟩
  have h : n < 4294967296 := by have := hz.2; omega
  rw [Int.toNat_natCast]
  refine con_of 23 [.tmp 2] Tryd.func45 rfl rfl rfl rfl ?_
  refine awp_seq_k fun K hK => ?_
  refine awp_region rfl ?_
  simp only [RR, seval]
  refine hK _ _ ?_; clear hK K
  refine awp_seq_k fun K hK => ?_
  refine awp_region rfl ?_
  simp only [RR, seval]
  refine hK _ _ ?_; clear hK K
  refine awp_seq ?_
  refine awp_name fun F1 M1 hfr hH => ?_
  have g0 := hfr 0
  have g2 := hfr 2
  have g3 := hfr 3
  try simp only [RR, seval] at g0 g2 g3
  have f0 := g0; clear g0
  have f2 := g2; clear g2
  have f3 := g3; clear g3
  clear hfr hH
  refine awp_block ?_
  refine awp_while [2] (n) (fun m fr M => m ≤ n ∧ fr 0 = .int .u32 (m : Nat) ∧ ∃ s : Str, fr 3 = .str s ∧ Lib.decDigits n = Lib.decDigits m ++ s ∧ s.length + m ≤ n) ⟨Nat.le_refl _, f0, [], f3, (by rw [List.append_nil]), (by simp)⟩ ?_
  rintro m F2 M2 ⟨hm, f0, s, f3, hs, hsl⟩ agx K0 hK0
  have f2 := (agx 2 rfl).trans f2
  have ag0 := agree.refl [2] F2
  clear agx
  refine awp_seq ?_
  refine awp_seq_k fun K hK => ?_
  refine awp_region rfl ?_
  simp only [f0, RR, seval]
  refine hK _ _ ?_; clear hK K
  refine awp_if _ rfl (fun hc => ?_) (fun hc => ?_)
  · have hw0 := hc; clear hc
    have hw := of_decide_eq_true hw0
    have e1 : (m : Int).tmod 10 = ((m % 10 : Nat) : Int) := IntWalk.up_tmod rfl rfl
    have e2 : IntKind.wrap .u32 (48 + ((m % 10 : Nat) : Int)) = ((48 + m % 10 : Nat) : Int) := by rw [IntWalk.u32_in _ (by omega)]; omega
    have e3 : IntKind.wrap .u8 ((48 + m % 10 : Nat) : Int) = ((48 + m % 10 : Nat) : Int) := IntWalk.u8_in _ (by omega)
    have e4 : (m : Int).tdiv 10 = ((m / 10 : Nat) : Int) := IntWalk.up_tdiv rfl rfl
    have e5 : IntKind.wrap .u32 ((m / 10 : Nat) : Int) = ((m / 10 : Nat) : Int) := IntWalk.u32_in _ (by omega)
    have e6 : 1 + s.length ≤ maxLen := by simp only [maxLen]; omega
    refine awp_skip ?_; try simp only [RR]
    refine awp_block ?_
    refine awp_seq_k fun K hK => ?_
    refine awp_region rfl ?_
    simp only [f0, f3, e1, e2, e3, e4, e5, e6, RR, seval]
    refine awpB_sealed ?_
    simp only [f0, f3, e1, e2, e3, e4, e5, e6, RR, seval]
    refine hK _ _ ?_; clear hK K
    refine awp_region rfl ?_
    simp only [f0, e1, e2, e3, e4, e5, e6, RR, seval]
    try rw [IntWalk.i64_in _ (by omega)]
    refine hK0 (m / 10) _ _ (by omega) ⟨(by omega), rfl, _, rfl, (by rw [hs, Lib.decDigits, dif_neg (by omega), List.append_assoc]; rfl), (by simp only [List.length_cons]; omega)⟩ (by repeat (first | exact ag0 | refine agree.upd rfl ?_))
  · have hw0 := hc; clear hc
    have hw := of_decide_eq_false hw0
    have e2 : IntKind.wrap .u32 (48 + (m : Int)) = ((48 + m : Nat) : Int) := by rw [IntWalk.u32_in _ (by omega)]; omega
    have e3 : IntKind.wrap .u8 ((48 + m : Nat) : Int) = ((48 + m : Nat) : Int) := IntWalk.u8_in _ (by omega)
    have e6 : 1 + s.length ≤ maxLen := by simp only [maxLen]; omega
    refine awp_exit ?_; simp only [RR, seval]
    refine awp_seq_k fun K hK => ?_
    refine awp_region rfl ?_
    simp only [f0, f3, e2, e3, e6, RR, seval]
    refine awpB_sealed ?_
    simp only [f0, f3, e2, e3, e6, RR, seval]
    refine hK _ _ ?_; clear hK K
    refine awp_ret ?_; simp only [bodyQ, aresult, ares, f2, e2, e3, e6, RR, seval]
    refine Gives.pure ?_
    rw [hs, Lib.decDigits, dif_pos (by omega)]
    rfl
theorem comma_con (l : List Str) (hfit : l.length ≤ 1000000) (hl : (comma l).length ≤ 140737488355328) : PCon env 44 [.isl 1 (l.map strRow)] (.str (comma l)) := by
  refine con_of 22 [.tmp 2] Tryd.func44 rfl rfl rfl rfl ?_
  refine awp_seq_k fun K hK => ?_
  refine awp_region rfl ?_
  simp only [List.length_map, RR, seval]
  refine hK _ _ ?_; clear hK K
  refine awp_seq_k fun K hK => ?_
  refine awp_region rfl ?_
  simp only [List.length_map, RR, seval]
  refine hK _ _ ?_; clear hK K
  refine awp_seq ?_
  refine awp_seq_k fun K hK => ?_
  refine awp_region rfl ?_
  simp only [List.length_map, RR, seval]
  refine hK _ _ ?_; clear hK K
  refine awp_name fun F1 M1 hfr hH => ?_
  have g0 := hfr 0
  have g2 := hfr 2
  have g3 := hfr 3
  have g4 := hfr 4
  try simp only [List.length_map, RR, seval] at g0 g2 g3 g4
  have f0 := g0; clear g0
  have f2 := g2; clear g2
  have f3 := g3; clear g3
  have f4 := g4; clear g4
  clear hfr hH
  refine awp_block ?_
  refine awp_each [0, 2] (l.length) (fun k fr M => fr 4 = .int .i64 (k : Nat) ∧ fr 3 = .str (comma (l.take k))) ⟨f4, f3⟩ ?_
  rintro k F2 M2 hk0 ⟨fx, f3⟩ agx K0 hK0
  have f0 := (agx 0 rfl).trans f0
  have f2 := (agx 2 rfl).trans f2
  have f4 := fx; clear fx
  have ag0 := agree.refl [0, 2] F2
  clear agx
  refine awp_seq ?_
  refine awp_seq_k fun K hK => ?_
  refine awp_region rfl ?_
  simp only [f0, f4, List.length_map, RR, seval]
  refine hK _ _ ?_; clear hK K
  refine awp_if _ rfl (fun hc => ?_) (fun hc => ?_)
  · have hlt0 : k < l.length := by have := of_decide_eq_true hc; omega
    clear hc
    have hg := getN (List.getElem?_eq_getElem hlt0)
    have htk : l.take (k + 1) = l.take k ++ [l[k]] := List.take_succ_eq_append_getElem hlt0
    have hle := comma_take_len l (k + 1)
    have hpos : 0 < k → comma (l.take (k + 1)) = comma (l.take k) ++ ([44, 32] ++ l[k]) := fun h0 => by
      rw [htk, comma_snoc _ _ (List.ne_nil_of_length_pos (by rw [List.length_take]; omega))]
    have hzero : k = 0 → comma (l.take (k + 1)) = l[k] ∧ comma (l.take k) = [] := fun h0 => by
      rw [htk]; subst h0; exact ⟨comma_one _, rfl⟩
    generalize l[k] = e at hg htk hpos hzero
    refine awp_skip ?_; try simp only [RR]
    refine awp_seq ?_
    refine awp_block ?_
    refine awp_seq ?_
    refine awp_seq_k fun K hK => ?_
    refine awp_region rfl ?_
    simp only [f4, List.length_map, hg, RR, seval]
    refine hK _ _ ?_; clear hK K
    refine awp_if _ rfl (fun hc5 => ?_) (fun hc5 => ?_)
    · have hk0 : 0 < k := by have := of_decide_eq_true hc5; omega
      have hpk := hpos hk0
      rw [hpk] at hle
      simp only [List.length_append, List.length_cons, List.length_nil] at hle
      have hcat3 : (comma (l.take k)).length + 2 ≤ maxLen := by unfold maxLen; (try simp only [List.length_append, List.length_cons, List.length_nil]); omega
      have hcat4 : (comma (l.take k) ++ [44, 32]).length + (e).length ≤ maxLen := by unfold maxLen; (try simp only [List.length_append, List.length_cons, List.length_nil]); omega
      refine awp_region rfl ?_
      simp only [f3, List.length_map, hg, hcat3, hcat4, RR, seval]
      refine awp_region rfl ?_
      simp only [f0, f4, f3, List.length_map, hg, hcat3, hcat4, RR, seval]
      refine awp_region rfl ?_
      simp only [f4, List.length_map, hg, hcat3, hcat4, RR, seval]
      try rw [IntWalk.i64_in _ (by omega)]
      refine hK0 _ _ hlt0 ⟨by first | rfl | (simp only [upd_app, seval]; rfl), by rw [hpk]; first | rfl | simp only [upd_app, seval, List.append_assoc]⟩ (by repeat (first | exact ag0 | refine agree.upd rfl ?_))
    · have hk0 : k = 0 := by have := of_decide_eq_false hc5; omega
      have hpk := (hzero hk0).1
      rw [hpk] at hle
      have hpn := (hzero hk0).2
      rw [hpn] at f3
      have hq : e.length ≤ maxLen := by unfold maxLen; omega
      refine awp_skip ?_; try simp only [RR]
      refine awp_region rfl ?_
      simp only [f0, f4, f3, List.length_map, hg, hq, List.length_nil, List.nil_append, Nat.zero_add, RR, seval]
      refine awp_region rfl ?_
      simp only [f4, List.length_map, hg, hq, List.length_nil, List.nil_append, Nat.zero_add, RR, seval]
      try rw [IntWalk.i64_in _ (by omega)]
      refine hK0 _ _ hlt0 ⟨by first | rfl | (simp only [upd_app, seval]; rfl), by rw [hpk]; first | rfl | simp only [upd_app, seval, List.append_assoc]⟩ (by repeat (first | exact ag0 | refine agree.upd rfl ?_))
  · have hkn0 : k = l.length := by have := of_decide_eq_false hc; omega
    clear hc
    rw [hkn0, List.take_length] at f3
    refine awp_exit ?_; simp only [RR, seval]
    refine awp_seq_k fun K hK => ?_
    refine awp_region rfl ?_
    simp only [f3, List.length_map, RR, seval]
    refine hK _ _ ?_; clear hK K
    refine awp_ret ?_; simp only [bodyQ, aresult, ares, f2, List.length_map, RR, seval]
    refine Gives.pure ?_
    rfl
theorem jSign_con (k o : Int) (h1 : 4 ≤ o) (h2 : o ≤ 15) (h8 : k ≠ 8) (h9 : k ≠ 9) : PCon env 50 [.int .i64 o] (.str (sgn k o)) := by
  obtain ⟨j, hj, rfl⟩ : ∃ j : Nat, j < 12 ∧ o = (4 + j : Nat) := ⟨(o - 4).toNat, by omega, by omega⟩
  have hw : IntKind.wrap .i64 (((4 + j : Nat) : Int) - 4) = (j : Int) := by rw [IntWalk.i64_in _ (by omega)]; omega
  have hs : sgn k ((4 + j : Nat) : Int) = (([[43], [45], [42], [47], [37], [38], [124], [94], [60, 60], [62, 62], [60], [61, 61]] : List Str)[j]?).getD [] := by
    rw [sgn, if_neg h8, if_neg h9, show (((4 + j : Nat) : Int) - 4).toNat = j by omega]
  rw [hs]
  have hg : ([[.str [43]], [.str [45]], [.str [42]], [.str [47]], [.str [37]], [.str [38]], [.str [124]], [.str [94]], [.str [60, 60]], [.str [62, 62]], [.str [60]], [.str [61, 61]]] : List (List AV))[j]? = some [.str ((([[43], [45], [42], [47], [37], [38], [124], [94], [60, 60], [62, 62], [60], [61, 61]] : List Str)[j]?).getD [])] := by
    iterate 12 (rcases j with _ | j; · rfl)
    omega
  generalize (([[43], [45], [42], [47], [37], [38], [124], [94], [60, 60], [62, 62], [60], [61, 61]] : List Str)[j]?).getD [] = sg at *
  refine con_of 10 [.tmp 2] Tryd.func50 rfl rfl rfl rfl ?_
  refine awp_seq_k fun K hK => ?_
  refine awp_region rfl ?_
  simp only [hw, hg, RR, seval]
  refine hK _ _ ?_; clear hK K
  refine awp_seq_k fun K hK => ?_
  refine awp_region rfl ?_
  simp only [hw, hg, RR, seval]
  refine awpB_sealed ?_
  simp only [hw, hg, RR, seval]
  refine hK _ _ ?_; clear hK K
  refine awp_seq_k fun K hK => ?_
  refine awp_region rfl ?_
  simp only [hw, hg, RR, seval]
  refine hK _ _ ?_; clear hK K
  refine awp_ret ?_; simp only [bodyQ, aresult, ares, hw, hg, RR, seval]
  refine Gives.pure ?_
  rfl
end Go.Proofs.YtgcncdjnipfolaaDoor

namespace Go.Proofs.YtgcncdjnipfolaaDoor
open Go.Al
def JE (e : Ex) : Prop := PCon env 23 [.agg e.row] (.str (prE e))
theorem jlist_con (l : List Ex) (hfit : l.length ≤ 1000000) (h : ∀ e ∈ l, JE e) (hl : (prL l).length ≤ 140737488355328) : PCon env 49 [.isl 5 (l.map Ex.row)] (.str (prL l)) := by
  refine con_of 23 [.tmp 2] Tryd.func49 rfl rfl rfl rfl ?_
  refine awp_seq_k fun K hK => ?_
  refine awp_region rfl ?_
  simp only [List.length_map, RR, seval]
  refine hK _ _ ?_; clear hK K
  refine awp_seq_k fun K hK => ?_
  refine awp_region rfl ?_
  simp only [List.length_map, RR, seval]
  refine hK _ _ ?_; clear hK K
  refine awp_seq ?_
  refine awp_seq_k fun K hK => ?_
  refine awp_region rfl ?_
  simp only [List.length_map, RR, seval]
  refine hK _ _ ?_; clear hK K
  refine awp_name fun F1 M1 hfr hH => ?_
  have g0 := hfr 0
  have g2 := hfr 2
  have g3 := hfr 3
  have g4 := hfr 4
  try simp only [List.length_map, RR, seval] at g0 g2 g3 g4
  have f0 := g0; clear g0
  have f2 := g2; clear g2
  have f3 := g3; clear g3
  have f4 := g4; clear g4
  clear hfr hH
  refine awp_block ?_
  refine awp_each [0, 2] (l.length) (fun k fr M => fr 4 = .int .i64 (k : Nat) ∧ fr 3 = .str (prL (l.take k))) ⟨f4, f3⟩ ?_
  rintro k F2 M2 hk0 ⟨fx, f3⟩ agx K0 hK0
  have f0 := (agx 0 rfl).trans f0
  have f2 := (agx 2 rfl).trans f2
  have f4 := fx; clear fx
  have ag0 := agree.refl [0, 2] F2
  clear agx
  refine awp_seq ?_
  refine awp_seq_k fun K hK => ?_
  refine awp_region rfl ?_
  simp only [f0, f4, List.length_map, RR, seval]
  refine hK _ _ ?_; clear hK K
  refine awp_if _ rfl (fun hc => ?_) (fun hc => ?_)
  · have hlt0 : k < l.length := by have := of_decide_eq_true hc; omega
    clear hc
    have hg := getE (List.getElem?_eq_getElem hlt0)
    have htk : l.take (k + 1) = l.take k ++ [l[k]] := List.take_succ_eq_append_getElem hlt0
    have hec := h _ (List.getElem_mem hlt0)
    have hle := prL_take_len l (k + 1)
    have hpos : 0 < k → prL (l.take (k + 1)) = prL (l.take k) ++ ([44, 32] ++ prE l[k]) := fun h0 => by
      rw [htk, prL_snoc _ _ (List.ne_nil_of_length_pos (by rw [List.length_take]; omega))]
    have hzero : k = 0 → prL (l.take (k + 1)) = prE l[k] ∧ prL (l.take k) = [] := fun h0 => by
      rw [htk]; subst h0; exact ⟨prL_one _, rfl⟩
    generalize l[k] = e at hg htk hec hpos hzero
    unfold JE at hec
    rw [Ex.row_eq] at hec
    refine awp_skip ?_; try simp only [RR]
    refine awp_seq ?_
    refine awp_block ?_
    refine awp_seq ?_
    refine awp_seq_k fun K hK => ?_
    refine awp_region rfl ?_
    simp only [f4, List.length_map, hg, RR, seval]
    refine hK _ _ ?_; clear hK K
    refine awp_if _ rfl (fun hc5 => ?_) (fun hc5 => ?_)
    · have hk0 : 0 < k := by have := of_decide_eq_true hc5; omega
      have hpk := hpos hk0
      rw [hpk] at hle
      simp only [List.length_append, List.length_cons, List.length_nil] at hle
      have hcat3 : (prL (l.take k)).length + 2 ≤ maxLen := by unfold maxLen; (try simp only [List.length_append, List.length_cons, List.length_nil]); omega
      have hcat4 : (prL (l.take k) ++ [44, 32]).length + (prE e).length ≤ maxLen := by unfold maxLen; (try simp only [List.length_append, List.length_cons, List.length_nil]); omega
      refine awp_region rfl ?_
      simp only [f3, List.length_map, hg, hcat3, hcat4, RR, seval]
      refine awp_region rfl ?_
      simp only [f0, f4, f3, List.length_map, hg, hcat3, hcat4, RR, seval]
      refine awpC_pure' (hec) ?_
      simp only [f0, f4, f3, List.length_map, hg, hcat3, hcat4, RR, seval]
      refine awp_region rfl ?_
      simp only [f4, List.length_map, hg, hcat3, hcat4, RR, seval]
      try rw [IntWalk.i64_in _ (by omega)]
      refine hK0 _ _ hlt0 ⟨by first | rfl | (simp only [upd_app, seval]; rfl), by rw [hpk]; first | rfl | simp only [upd_app, seval, List.append_assoc]⟩ (by repeat (first | exact ag0 | refine agree.upd rfl ?_))
    · have hk0 : k = 0 := by have := of_decide_eq_false hc5; omega
      have hpk := (hzero hk0).1
      rw [hpk] at hle
      have hpn := (hzero hk0).2
      rw [hpn] at f3
      have hq : (prE e).length ≤ maxLen := by unfold maxLen; omega
      refine awp_skip ?_; try simp only [RR]
      refine awp_region rfl ?_
      simp only [f0, f4, f3, List.length_map, hg, hq, List.length_nil, List.nil_append, Nat.zero_add, RR, seval]
      refine awpC_pure' (hec) ?_
      simp only [f0, f4, f3, List.length_map, hg, hq, List.length_nil, List.nil_append, Nat.zero_add, RR, seval]
      refine awp_region rfl ?_
      simp only [f4, List.length_map, hg, hq, List.length_nil, List.nil_append, Nat.zero_add, RR, seval]
      try rw [IntWalk.i64_in _ (by omega)]
      refine hK0 _ _ hlt0 ⟨by first | rfl | (simp only [upd_app, seval]; rfl), by rw [hpk]; first | rfl | simp only [upd_app, seval, List.append_assoc]⟩ (by repeat (first | exact ag0 | refine agree.upd rfl ?_))
  · have hkn0 : k = l.length := by have := of_decide_eq_false hc; omega
    clear hc
    rw [hkn0, List.take_length] at f3
    refine awp_exit ?_; simp only [RR, seval]
    refine awp_seq_k fun K hK => ?_
    refine awp_region rfl ?_
    simp only [f3, List.length_map, RR, seval]
    refine hK _ _ ?_; clear hK K
    refine awp_ret ?_; simp only [bodyQ, aresult, ares, f2, List.length_map, RR, seval]
    refine Gives.pure ?_
    rfl
theorem two_get {α : Type} {l : List α} (h : l.length = 2) : ∃ x y, l[0]? = some x ∧ l[1]? = some y ∧ l = [x, y] := by
  match l, h with
  | [x, y], _ => exact ⟨x, y, rfl, rfl, rfl⟩
theorem one_get {α : Type} {l : List α} (h : l.length = 1) : ∃ x, l[0]? = some x ∧ l = [x] := by
  match l, h with
  | [x], _ => exact ⟨x, rfl, rfl⟩
theorem right_mem' {l : List Ex} {level : Int} (h : rightE l level = true) : ∀ a ∈ l, rightX a level = true := by
  induction l with
  | nil => intro a ha; cases ha
  | cons e l ih =>
    rw [rightE_cons, Bool.and_eq_true] at h
    intro a ha
    rcases List.mem_cons.1 ha with rfl | ha
    · exact h.1
    · exact ih h.2 a ha
set_option maxHeartbeats 4000000 in
theorem jexpr_step (k o n : Int) (s : Str) (l : List Ex) (hk : kidsX k o l.length = true) (hn : u32R n) (h : ∀ e ∈ l, JE e) (hl : (prE (.mk k o n s l)).length ≤ 140737488355328) : JE (.mk k o n s l) := by
  have hlen : l.length ≤ 6 := by
    simp only [kidsX] at hk
    split at hk
    · have := of_decide_eq_true hk; omega
    split at hk
    · have := of_decide_eq_true hk; omega
    split at hk
    · exact of_decide_eq_true hk
    split at hk
    · simp only [Bool.and_eq_true, decide_eq_true_eq] at hk; omega
    split at hk
    · have := of_decide_eq_true hk; omega
    · cases hk
  have hxs := fun hl => jlist_con l (by omega) h hl
  unfold JE
  simp only [Ex.row_eq, Ex.kind, Ex.op, Ex.num, Ex.name, Ex.kids]
  generalize hpr : prE (.mk k o n s l) = out at *
  refine con_of 97 [.tmp 2] Tryd.func23 rfl rfl rfl rfl ?_
  refine awp_seq_k fun K hK => ?_
  refine awp_region rfl ?_
  simp only [List.length_map, RR, seval]
  refine awpN_intro fun b1 hn1 => ?_
  simp only [List.length_map, RR, seval]
  refine hK _ _ ?_; clear hK K
  refine awp_seq ?_
  refine awp_seq_k fun K hK => ?_
  refine awp_region rfl ?_
  simp only [List.length_map, RR, seval]
  refine hK _ _ ?_; clear hK K
  refine awp_block ?_
  refine awp_seq_k fun K hK => ?_
  refine awp_region rfl ?_
  simp only [List.length_map, RR, seval]
  refine hK _ _ ?_; clear hK K
  refine awp_if _ rfl (fun hc2 => ?_) (fun hc2 => ?_)
  · obtain rfl := of_decide_eq_true hc2
    have hpr : out = Lib.decDigits n.toNat := by rw [← hpr]; simp [prE]
    refine awp_seq_k fun K hK => ?_
    refine awp_region rfl ?_
    simp only [List.length_map, RR, seval]
    refine awpC_pure' (rText_con n hn) ?_
    simp only [List.length_map, RR, seval]
    refine hK _ _ ?_; clear hK K
    refine awp_ret ?_; simp only [bodyQ, aresult, ares, List.length_map, RR, seval]
    refine Gives.pure ?_
    rw [hpr]
  · refine awp_seq_k fun K hK => ?_
    refine awp_region rfl ?_
    simp only [List.length_map, RR, seval]
    refine hK _ _ ?_; clear hK K
    refine awp_if _ rfl (fun hc4 => ?_) (fun hc4 => ?_)
    · obtain rfl := of_decide_eq_true hc4
      have hpr : out = s := by rw [← hpr]; simp [prE]
      refine awp_seq_k fun K hK => ?_
      refine awp_region rfl ?_
      simp only [List.length_map, RR, seval]
      refine hK _ _ ?_; clear hK K
      refine awp_ret ?_; simp only [bodyQ, aresult, ares, List.length_map, RR, seval]
      refine Gives.pure ?_
      rw [hpr]
    · refine awp_seq_k fun K hK => ?_
      refine awp_region rfl ?_
      simp only [List.length_map, RR, seval]
      refine hK _ _ ?_; clear hK K
      refine awp_if _ rfl (fun hc6 => ?_) (fun hc6 => ?_)
      · obtain rfl := of_decide_eq_true hc6
        obtain ⟨x, g0, hll⟩ := one_get (l := l) (by simpa [kidsX] using hk)
        have hex := h x (by rw [hll]; simp)
        have hpr : out = s ++ ([91] ++ (prE x ++ [93])) := by rw [← hpr, hll]; simp [prE, prL, prT]
        rw [hpr] at hl
        simp only [List.length_append, List.length_cons, List.length_nil] at hl
        have hg0 := getE g0
        unfold JE at hex
        rw [Ex.row_eq] at hex
        have hcat1 : (s).length + 1 ≤ maxLen := by unfold maxLen; (try simp only [List.length_append, List.length_cons, List.length_nil]); omega
        have hcat2 : (s ++ [91]).length + (prE x).length ≤ maxLen := by unfold maxLen; (try simp only [List.length_append, List.length_cons, List.length_nil]); omega
        have hcat3 : (s ++ [91] ++ prE x).length + 1 ≤ maxLen := by unfold maxLen; (try simp only [List.length_append, List.length_cons, List.length_nil]); omega
        refine awp_seq_k fun K hK => ?_
        refine awp_region_draw2 (fun x => x ≠ b1) [(0, 3), (1, 0), (2, 3), (3, 3), (4, 1), (5, 3), (6, 1), (7, 1), (8, 3), (9, 3), (10, 3)] [] draws (by kernel_rfl) rfl rfl ?_
        simp only [emitF, markOf, EM, List.length_map, hg0, hcat1, hcat2, hcat3, RR, seval]
        refine awpC_pure' (hex) ?_
        simp only [emitF, markOf, EM, List.length_map, hg0, hcat1, hcat2, hcat3, RR, seval]
        refine hK _ _ ?_; clear hK K
        refine awp_ret ?_; simp only [bodyQ, aresult, ares, List.length_map, hg0, hcat1, hcat2, hcat3, RR, seval]
        refine Gives.pure ?_
        rw [hpr]; simp only [List.append_assoc, List.cons_append, List.nil_append]
      · refine awp_seq_k fun K hK => ?_
        refine awp_region rfl ?_
        simp only [List.length_map, RR, seval]
        refine hK _ _ ?_; clear hK K
        refine awp_if _ rfl (fun hc8 => ?_) (fun hc8 => ?_)
        · obtain rfl := of_decide_eq_true hc8
          have hpr : out = s ++ ([40] ++ (prL l ++ [41])) := by rw [← hpr]; simp [prE]
          rw [hpr] at hl
          simp only [List.length_append, List.length_cons, List.length_nil] at hl
          have hcat4 : (s).length + 1 ≤ maxLen := by unfold maxLen; (try simp only [List.length_append, List.length_cons, List.length_nil]); omega
          have hcat5 : (s ++ [40]).length + (prL l).length ≤ maxLen := by unfold maxLen; (try simp only [List.length_append, List.length_cons, List.length_nil]); omega
          have hcat6 : (s ++ [40] ++ prL l).length + 1 ≤ maxLen := by unfold maxLen; (try simp only [List.length_append, List.length_cons, List.length_nil]); omega
          refine awp_seq_k fun K hK => ?_
          refine awp_region_draw2 (fun x => x ≠ b1) [(0, 3), (1, 0), (2, 3), (3, 3), (4, 1), (5, 1), (6, 3), (7, 3), (8, 3)] [] draws (by kernel_rfl) rfl rfl ?_
          simp only [emitF, markOf, EM, List.length_map, hcat4, hcat5, hcat6, RR, seval]
          refine awpC_pure' (hxs (by omega)) ?_
          simp only [emitF, markOf, EM, List.length_map, hcat4, hcat5, hcat6, RR, seval]
          refine hK _ _ ?_; clear hK K
          refine awp_ret ?_; simp only [bodyQ, aresult, ares, List.length_map, hcat4, hcat5, hcat6, RR, seval]
          refine Gives.pure ?_
          rw [hpr]; simp only [List.append_assoc, List.cons_append, List.nil_append]
        · refine awp_seq_k fun K hK => ?_
          refine awp_region rfl ?_
          simp only [List.length_map, RR, seval]
          refine hK _ _ ?_; clear hK K
          refine awp_if _ rfl (fun hc10 => ?_) (fun hc10 => ?_)
          · obtain rfl := of_decide_eq_true hc10
            have hpr : out = [103, 101, 116, 40, 41] := by rw [← hpr]; simp [prE]
            refine awp_seq_k fun K hK => ?_
            refine awp_region rfl ?_
            simp only [List.length_map, RR, seval]
            refine hK _ _ ?_; clear hK K
            refine awp_ret ?_; simp only [bodyQ, aresult, ares, List.length_map, RR, seval]
            refine Gives.pure ?_
            rw [hpr]
          · refine awp_seq_k fun K hK => ?_
            refine awp_region rfl ?_
            simp only [List.length_map, RR, seval]
            refine hK _ _ ?_; clear hK K
            refine awp_if _ rfl (fun hc12 => ?_) (fun hc12 => ?_)
            · obtain rfl := of_decide_eq_true hc12
              obtain ⟨x, g0, hll⟩ := one_get (l := l) (by simpa [kidsX] using hk)
              have hex := h x (by rw [hll]; simp)
              have hpr : out = [33] ++ prE x := by rw [← hpr, hll]; simp [prE, prL, prT]
              rw [hpr] at hl
              simp only [List.length_append, List.length_cons, List.length_nil] at hl
              have hg0 := getE g0
              unfold JE at hex
              rw [Ex.row_eq] at hex
              have hcat7 : 1 + (prE x).length ≤ maxLen := by unfold maxLen; (try simp only [List.length_append, List.length_cons, List.length_nil]); omega
              refine awp_seq_k fun K hK => ?_
              refine awp_region rfl ?_
              simp only [List.length_map, hg0, hcat7, RR, seval]
              refine awpC_pure' (hex) ?_
              simp only [List.length_map, hg0, hcat7, RR, seval]
              refine hK _ _ ?_; clear hK K
              refine awp_ret ?_; simp only [bodyQ, aresult, ares, List.length_map, hg0, hcat7, RR, seval]
              refine Gives.pure ?_
              rw [hpr]; simp only [List.append_assoc, List.cons_append, List.nil_append]
            · refine awp_seq_k fun K hK => ?_
              refine awp_region rfl ?_
              simp only [List.length_map, RR, seval]
              refine hK _ _ ?_; clear hK K
              refine awp_if _ rfl (fun hc14 => ?_) (fun hc14 => ?_)
              · obtain rfl := of_decide_eq_true hc14
                obtain ⟨x, y, g0, g1, hll⟩ := two_get (l := l) (by simpa [kidsX] using hk)
                have hex := h x (by rw [hll]; simp)
                have hey := h y (by rw [hll]; simp)
                have hpr : out = [40] ++ (prE x ++ ([32] ++ ([38, 38] ++ ([32] ++ (prE y ++ [41]))))) := by rw [← hpr, hll]; simp [prE, pr1, pr2, prL, prT, sgn]
                rw [hpr] at hl
                simp only [List.length_append, List.length_cons, List.length_nil] at hl
                have hg0 := getE g0
                have hg1 := getE g1
                unfold JE at hex hey
                rw [Ex.row_eq] at hex hey
                have hcat8 : 1 + (prE x).length ≤ maxLen := by unfold maxLen; (try simp only [List.length_append, List.length_cons, List.length_nil]); omega
                have hcat9 : (prE x).length + 1 + 4 ≤ maxLen := by unfold maxLen; (try simp only [List.length_append, List.length_cons, List.length_nil]); omega
                have hcat10 : (prE x ++ [32, 38, 38, 32]).length + 1 + (prE y).length ≤ maxLen := by unfold maxLen; (try simp only [List.length_append, List.length_cons, List.length_nil]); omega
                have hcat11 : (prE x ++ [32, 38, 38, 32] ++ prE y).length + 1 + 1 ≤ maxLen := by unfold maxLen; (try simp only [List.length_append, List.length_cons, List.length_nil]); omega
                refine awp_seq_k fun K hK => ?_
                refine awp_region_draw2 (fun x => x ≠ b1) [(0, 3), (1, 1), (2, 3), (3, 1), (7, 3), (8, 0), (9, 3), (10, 0), (4, 1), (5, 3), (6, 3), (11, 1), (12, 3), (13, 3), (14, 3)] [] draws (by kernel_rfl) rfl rfl ?_
                simp only [emitF, markOf, EM, List.length_map, hg0, hg1, hcat8, hcat9, hcat10, hcat11, RR, seval]
                refine awpC_pure' (hex) ?_
                simp only [emitF, markOf, EM, List.length_map, hg0, hg1, hcat8, hcat9, hcat10, hcat11, RR, seval]
                refine awpC_pure' (hey) ?_
                simp only [emitF, markOf, EM, List.length_map, hg0, hg1, hcat8, hcat9, hcat10, hcat11, RR, seval]
                refine hK _ _ ?_; clear hK K
                refine awp_ret ?_; simp only [bodyQ, aresult, ares, List.length_map, hg0, hg1, hcat8, hcat9, hcat10, hcat11, RR, seval]
                refine Gives.pure ?_
                rw [hpr]; simp only [List.append_assoc, List.cons_append, List.nil_append]
              · refine awp_seq_k fun K hK => ?_
                refine awp_region rfl ?_
                simp only [List.length_map, RR, seval]
                refine hK _ _ ?_; clear hK K
                refine awp_if _ rfl (fun hc16 => ?_) (fun hc16 => ?_)
                · obtain rfl := of_decide_eq_true hc16
                  obtain ⟨x, y, g0, g1, hll⟩ := two_get (l := l) (by simpa [kidsX] using hk)
                  have hex := h x (by rw [hll]; simp)
                  have hey := h y (by rw [hll]; simp)
                  have hpr : out = [40] ++ (prE x ++ ([32] ++ ([124, 124] ++ ([32] ++ (prE y ++ [41]))))) := by rw [← hpr, hll]; simp [prE, pr1, pr2, prL, prT, sgn]
                  rw [hpr] at hl
                  simp only [List.length_append, List.length_cons, List.length_nil] at hl
                  have hg0 := getE g0
                  have hg1 := getE g1
                  unfold JE at hex hey
                  rw [Ex.row_eq] at hex hey
                  have hcat12 : 1 + (prE x).length ≤ maxLen := by unfold maxLen; (try simp only [List.length_append, List.length_cons, List.length_nil]); omega
                  have hcat13 : (prE x).length + 1 + 4 ≤ maxLen := by unfold maxLen; (try simp only [List.length_append, List.length_cons, List.length_nil]); omega
                  have hcat14 : (prE x ++ [32, 124, 124, 32]).length + 1 + (prE y).length ≤ maxLen := by unfold maxLen; (try simp only [List.length_append, List.length_cons, List.length_nil]); omega
                  have hcat15 : (prE x ++ [32, 124, 124, 32] ++ prE y).length + 1 + 1 ≤ maxLen := by unfold maxLen; (try simp only [List.length_append, List.length_cons, List.length_nil]); omega
                  refine awp_seq_k fun K hK => ?_
                  refine awp_region_draw2 (fun x => x ≠ b1) [(0, 3), (1, 1), (2, 3), (3, 1), (7, 3), (8, 0), (9, 3), (10, 0), (4, 1), (5, 3), (6, 3), (11, 1), (12, 3), (13, 3), (14, 3)] [] draws (by kernel_rfl) rfl rfl ?_
                  simp only [emitF, markOf, EM, List.length_map, hg0, hg1, hcat12, hcat13, hcat14, hcat15, RR, seval]
                  refine awpC_pure' (hex) ?_
                  simp only [emitF, markOf, EM, List.length_map, hg0, hg1, hcat12, hcat13, hcat14, hcat15, RR, seval]
                  refine awpC_pure' (hey) ?_
                  simp only [emitF, markOf, EM, List.length_map, hg0, hg1, hcat12, hcat13, hcat14, hcat15, RR, seval]
                  refine hK _ _ ?_; clear hK K
                  refine awp_ret ?_; simp only [bodyQ, aresult, ares, List.length_map, hg0, hg1, hcat12, hcat13, hcat14, hcat15, RR, seval]
                  refine Gives.pure ?_
                  rw [hpr]; simp only [List.append_assoc, List.cons_append, List.nil_append]
                · have h1 := of_decide_eq_false hc2
                  have h2 := of_decide_eq_false hc4
                  have h3 := of_decide_eq_false hc6
                  have h4 := of_decide_eq_false hc8
                  have h5 := of_decide_eq_false hc10
                  have h7 := of_decide_eq_false hc12
                  have h8 := of_decide_eq_false hc14
                  have h9 := of_decide_eq_false hc16
                  have h6 : k = 6 ∧ 4 ≤ o ∧ o ≤ 15 ∧ l.length = 2 := by
                    simp only [kidsX] at hk
                    rw [if_neg (by omega), if_neg (by omega), if_neg (by omega)] at hk
                    split at hk
                    · simp only [Bool.and_eq_true, decide_eq_true_eq] at hk; omega
                    · rw [if_neg (by omega)] at hk; cases hk
                  obtain ⟨rfl, ho1, ho2, hl2⟩ := h6
                  have hsg := jSign_con 6 o ho1 ho2 (by decide) (by decide)
                  obtain ⟨x, y, g0, g1, hll⟩ := two_get (l := l) hl2
                  have hex := h x (by rw [hll]; simp)
                  have hey := h y (by rw [hll]; simp)
                  have hpr : out = [40] ++ (prE x ++ ([32] ++ (sgn 6 o ++ ([32] ++ (prE y ++ [41]))))) := by rw [← hpr, hll]; simp [prE, pr1, pr2, prL, prT]
                  rw [hpr] at hl
                  generalize sgn 6 o = sg at *
                  simp only [List.length_append, List.length_cons, List.length_nil] at hl
                  have hg0 := getE g0
                  have hg1 := getE g1
                  unfold JE at hex hey
                  rw [Ex.row_eq] at hex hey
                  refine awp_skip ?_; try simp only [RR]
                  have hcat16 : 1 + (prE x).length ≤ maxLen := by unfold maxLen; (try simp only [List.length_append, List.length_cons, List.length_nil]); omega
                  have hcat17 : (prE x).length + 1 + 1 ≤ maxLen := by unfold maxLen; (try simp only [List.length_append, List.length_cons, List.length_nil]); omega
                  have hcat18 : (prE x ++ [32]).length + 1 + (sg).length ≤ maxLen := by unfold maxLen; (try simp only [List.length_append, List.length_cons, List.length_nil]); omega
                  have hcat19 : (prE x ++ [32] ++ sg).length + 1 + 1 ≤ maxLen := by unfold maxLen; (try simp only [List.length_append, List.length_cons, List.length_nil]); omega
                  have hcat20 : (prE x ++ [32] ++ sg ++ [32]).length + 1 + (prE y).length ≤ maxLen := by unfold maxLen; (try simp only [List.length_append, List.length_cons, List.length_nil]); omega
                  have hcat21 : (prE x ++ [32] ++ sg ++ [32] ++ prE y).length + 1 + 1 ≤ maxLen := by unfold maxLen; (try simp only [List.length_append, List.length_cons, List.length_nil]); omega
                  refine awp_seq_k fun K hK => ?_
                  refine awp_region_draw2 (fun x => x ≠ b1) [(0, 3), (1, 1), (2, 3), (3, 1), (7, 3), (8, 0), (12, 3), (13, 0), (14, 3), (15, 0), (4, 1), (5, 3), (6, 3), (9, 1), (10, 3), (11, 3), (16, 1), (17, 3), (18, 3), (19, 3)] [] draws (by kernel_rfl) rfl rfl ?_
                  simp only [emitF, markOf, EM, List.length_map, hg0, hg1, hcat16, hcat17, hcat18, hcat19, hcat20, hcat21, RR, seval]
                  refine awpC_pure' (hex) ?_
                  simp only [emitF, markOf, EM, List.length_map, hg0, hg1, hcat16, hcat17, hcat18, hcat19, hcat20, hcat21, RR, seval]
                  refine awpC_pure' (hsg) ?_
                  simp only [emitF, markOf, EM, List.length_map, hg0, hg1, hcat16, hcat17, hcat18, hcat19, hcat20, hcat21, RR, seval]
                  refine awpC_pure' (hey) ?_
                  simp only [emitF, markOf, EM, List.length_map, hg0, hg1, hcat16, hcat17, hcat18, hcat19, hcat20, hcat21, RR, seval]
                  refine hK _ _ ?_; clear hK K
                  refine awp_ret ?_; simp only [bodyQ, aresult, ares, List.length_map, hg0, hg1, hcat16, hcat17, hcat18, hcat19, hcat20, hcat21, RR, seval]
                  refine Gives.pure ?_
                  rw [hpr]; simp only [List.append_assoc, List.cons_append, List.nil_append]
theorem prE_mem_len {l : List Ex} {e : Ex} (h : e ∈ l) : (prE e).length ≤ (prT l).length := by
  induction l with
  | nil => cases h
  | cons x l ih =>
    rcases List.mem_cons.1 h with rfl | h
    · simp only [prT, List.length_append]; omega
    · have := ih h; simp only [prT, List.length_append]; omega
theorem jexpr_con (N : Nat) (hN : N ≤ 1000000) : ∀ (e : Ex) (level : Int), e.sz ≤ N → e.ok → rightX e level = true → JE e := by
  induction N using Nat.strongRecOn with
  | _ N ih =>
    intro e level hs ho hr
    have hz := e.sz_eq
    have hok := ho.kids
    have hnum := ho.num
    have hle := (prE_len e.sz).1 e level (Nat.le_refl _) ho hr
    simp only [rightX, Bool.and_eq_true] at hr
    obtain ⟨⟨_, hk⟩, hkr⟩ := hr
    obtain ⟨k, o, n, s, l⟩ := e
    simp only [Ex.kind, Ex.op, Ex.num, Ex.name, Ex.kids] at *
    refine jexpr_step k o n s l hk hnum (fun x hx => ?_) (by omega)
    have hm := szE_mem hx
    exact ih x.sz (by omega) (by omega) x (level + 1) (Nat.le_refl _) (hok.all x hx) (right_mem' hkr x hx)
end Go.Proofs.YtgcncdjnipfolaaDoor

namespace Go.Proofs.YtgcncdjnipfolaaDoor
open Go.Al
theorem ind_take (lv k : Nat) (h : k ≤ lv) : (ind k).length ≤ (ind lv).length := by rw [ind_len, ind_len]; omega
def JB (lv : Nat) (l : List Sm) : Prop := PCon env 46 [.isl 5 (l.map Sm.row), .int .i64 (lv : Nat)] (.str (prB lv l))
structure JM (lv : Nat) (s : Sm) : Prop where
  fit : fitS s.kind s.es.length = true
  es : ∀ e ∈ s.es, JE e
  thn : JB (lv + 1) s.thn
  els : JB (lv + 1) s.els
  noelse : s.kind = 4 ∨ s.els.length = 0
  small : s.es.length ≤ 1000000
set_option maxHeartbeats 8000000 in
theorem jstmts_step (lv : Nat) (hlv : lv ≤ 100) (l : List Sm) (hfit : l.length ≤ 1000000) (h : ∀ s ∈ l, JM lv s) (hl : (prB lv l).length ≤ 140737488355328) : JB lv l := by
  unfold JB
  have hil := ind_len lv
  have hww : IntKind.wrap .i64 ((lv : Int) + 1) = ((lv + 1 : Nat) : Int) := by rw [IntWalk.i64_in _ (by omega)]; omega
  refine con_of 174 [.tmp 4] Tryd.func46 rfl rfl rfl rfl ?_
  refine awp_seq_k fun K hK => ?_
  refine awp_region rfl ?_
  simp only [List.length_map, RR, seval]
  refine hK _ _ ?_; clear hK K
  refine awp_seq_k fun K hK => ?_
  refine awp_region rfl ?_
  simp only [List.length_map, RR, seval]
  refine hK _ _ ?_; clear hK K
  refine awp_seq ?_
  refine awp_seq_k fun K hK => ?_
  refine awp_region rfl ?_
  simp only [List.length_map, RR, seval]
  refine hK _ _ ?_; clear hK K
  refine awp_name fun F1 M1 hfr hH => ?_
  have g0 := hfr 0
  have g1 := hfr 1
  have g4 := hfr 4
  have g5 := hfr 5
  have g6 := hfr 6
  try simp only [List.length_map, RR, seval] at g0 g1 g4 g5 g6
  have f0 := g0; clear g0
  have f1 := g1; clear g1
  have f4 := g4; clear g4
  have f5 := g5; clear g5
  have f6 := g6; clear g6
  clear hfr hH
  refine awp_block ?_
  refine awp_each [0, 1, 4] (lv) (fun k fr M => fr 6 = .int .i64 (k : Nat) ∧ fr 5 = .str (ind k)) ⟨f6, f5⟩ ?_
  rintro k F2 M2 hk0 ⟨fx, f5⟩ agx K0 hK0
  have f0 := (agx 0 rfl).trans f0
  have f1 := (agx 1 rfl).trans f1
  have f4 := (agx 4 rfl).trans f4
  have f6 := fx; clear fx
  have ag0 := agree.refl [0, 1, 4] F2
  clear agx
  refine awp_seq ?_
  refine awp_seq_k fun K hK => ?_
  refine awp_region rfl ?_
  simp only [f1, f6, List.length_map, RR, seval]
  refine hK _ _ ?_; clear hK K
  refine awp_if _ rfl (fun hc => ?_) (fun hc => ?_)
  · have hlt0 : k < lv := by have := of_decide_eq_true hc; omega
    clear hc
    have hik := ind_len k
    refine awp_skip ?_; try simp only [RR]
    refine awp_seq ?_
    refine awp_block ?_
    have hcat3 : (ind k).length + 2 ≤ maxLen := by unfold maxLen; (try simp only [List.length_append, List.length_cons, List.length_nil]); omega
    refine awp_region rfl ?_
    simp only [f5, List.length_map, hcat3, RR, seval]
    refine awp_region rfl ?_
    simp only [f6, List.length_map, hcat3, RR, seval]
    try rw [IntWalk.i64_in _ (by omega)]
    refine hK0 _ _ hlt0 ⟨by first | rfl | (simp only [upd_app, seval]; rfl), by rw [← ind_snoc]; first | rfl | simp only [upd_app, seval]⟩ (by repeat (first | exact ag0 | refine agree.upd rfl ?_))
  · have hkn0 : k = lv := by have := of_decide_eq_false hc; omega
    clear hc
    rw [hkn0] at f5
    refine awp_exit ?_; simp only [RR, seval]
    refine awp_seq_k fun K hK => ?_
    refine awp_region rfl ?_
    simp only [List.length_map, RR, seval]
    refine hK _ _ ?_; clear hK K
    refine awp_seq ?_
    refine awp_seq_k fun K hK => ?_
    refine awp_region rfl ?_
    simp only [List.length_map, RR, seval]
    refine hK _ _ ?_; clear hK K
    refine awp_name fun F4 M4 hfr hH => ?_
    have g0 := hfr 0
    have g1 := hfr 1
    have g4 := hfr 4
    have g5 := hfr 5
    have g7 := hfr 7
    have g8 := hfr 8
    try simp only [f0, f1, f4, f6, f5, List.length_map, RR, seval] at g0 g1 g4 g5 g7 g8
    have f0 := g0; clear g0
    have f1 := g1; clear g1
    have f4 := g4; clear g4
    have f5 := g5; clear g5
    have f7 := g7; clear g7
    have f8 := g8; clear g8
    clear hfr hH
    refine awp_block ?_
    refine awp_each [0, 1, 4, 5] (l.length) (fun k fr M => fr 8 = .int .i64 (k : Nat) ∧ fr 7 = .str (prB lv (l.take k))) ⟨f8, f7⟩ ?_
    rintro k F5 M5 hk2 ⟨fx, f7⟩ agx K2 hK2
    have f0 := (agx 0 rfl).trans f0
    have f1 := (agx 1 rfl).trans f1
    have f4 := (agx 4 rfl).trans f4
    have f5 := (agx 5 rfl).trans f5
    have f8 := fx; clear fx
    have ag2 := agree.refl [0, 1, 4, 5] F5
    clear agx
    refine awp_seq ?_
    refine awp_seq_k fun K hK => ?_
    refine awp_region rfl ?_
    simp only [f0, f8, List.length_map, RR, seval]
    refine hK _ _ ?_; clear hK K
    refine awp_if _ rfl (fun hc => ?_) (fun hc => ?_)
    · have hlt2 : k < l.length := by have := of_decide_eq_true hc; omega
      clear hc
      have hg := getS (List.getElem?_eq_getElem hlt2)
      have htk : l.take (k + 1) = l.take k ++ [l[k]] := List.take_succ_eq_append_getElem hlt2
      have hm := h _ (List.getElem_mem hlt2)
      have hle := prB_take_len lv l (k + 1)
      have hpk : prB lv (l.take (k + 1)) = prB lv (l.take k) ++ prM lv l[k] := by rw [htk, prB_snoc]
      rw [hpk, List.length_append] at hle
      generalize l[k] = e at hg htk hm hpk hle
      obtain ⟨hft, hes, htn, hel, hno, hsm⟩ := hm
      obtain ⟨kd, s, es, t, u⟩ := e
      simp only [Sm.kind, Sm.name, Sm.es, Sm.thn, Sm.els, JB] at hg hft hes htn hel hno hsm
      generalize hP : prB lv (l.take k) = P at *
      generalize hI : ind lv = I at *
      generalize hout : prM lv (.mk kd s es t u) = out at *
      refine awp_skip ?_; try simp only [RR]
      refine awp_seq ?_
      refine awp_block ?_
      refine awp_seq_k fun K hK => ?_
      refine awp_region rfl ?_
      simp only [f0, f8, List.length_map, hg, hww, RR, seval]
      refine awpN_intro fun b9 hn9 => ?_
      simp only [f0, f8, List.length_map, hg, hww, RR, seval]
      refine hK _ _ ?_; clear hK K
      refine awp_seq_k fun K hK => ?_
      refine awp_region rfl ?_
      simp only [List.length_map, hg, hww, RR, seval]
      refine hK _ _ ?_; clear hK K
      refine awp_name fun F6 M6 hfr hH => ?_
      have g0 := hfr 0
      have g1 := hfr 1
      have g4 := hfr 4
      have g5 := hfr 5
      have g7 := hfr 7
      have g8 := hfr 8
      have g9 := hfr 9
      have g28 := hfr 28
      have gb9 := hH b9
      try simp only [f0, f1, f4, f5, f8, f7, List.length_map, hg, hww, RR, seval] at g0 g1 g4 g5 g7 g8 g9 g28 gb9
      have ag2 : agree [0, 1, 4, 5] F5 F6 := agree.same hfr (by repeat (first | exact ag2 | refine agree.upd rfl ?_))
      have f0 := g0; clear g0
      have f1 := g1; clear g1
      have f4 := g4; clear g4
      have f5 := g5; clear g5
      have f7 := g7; clear g7
      have f8 := g8; clear g8
      have f9 := g9; clear g9
      have f28 := g28; clear g28
      have hb9 := gb9; clear gb9
      clear hfr hH
      refine awp_cutP (fun fr M => agree [0, 1, 4, 5, 8, 9, 28] F6 fr ∧ M b9 = M6 b9 ∧ fr 7 = .str (P ++ out)) (fun KB4 hKB4 => ?_) ?_
      · have agB4 := agree.refl [0, 1, 4, 5, 8, 9, 28] F6
        have eB4_b9 : M6 b9 = M6 b9 := rfl
        refine awp_block ?_
        refine awp_seq_k fun K hK => ?_
        refine awp_region rfl ?_
        simp only [f28, List.length_map, hg, hww, RR, seval]
        refine hK _ _ ?_; clear hK K
        refine awp_if _ rfl (fun hc15 => ?_) (fun hc15 => ?_)
        · obtain rfl := of_decide_eq_true hc15
          obtain ⟨x, g0, hll⟩ := one_get (l := es) (by simpa [fitS] using hft)
          have hex := hes x (by rw [hll]; simp)
          have hpr : out = I ++ (s ++ ([32, 61, 32] ++ (prE x ++ [59, 10]))) := by rw [← hout, hll, ← hI]; simp [prM, prL, prT]
          rw [hpr] at hle
          simp only [List.length_append, List.length_cons, List.length_nil] at hle
          have hg0 := getE g0
          unfold JE at hex
          rw [Ex.row_eq] at hex
          have hcat7 : (P).length + (I).length ≤ maxLen := by unfold maxLen; (try simp only [List.length_append, List.length_cons, List.length_nil]); omega
          have hcat8 : (P ++ I).length + (s).length ≤ maxLen := by unfold maxLen; (try simp only [List.length_append, List.length_cons, List.length_nil]); omega
          have hcat9 : (P ++ I ++ s).length + 3 ≤ maxLen := by unfold maxLen; (try simp only [List.length_append, List.length_cons, List.length_nil]); omega
          have hcat10 : (P ++ I ++ s ++ [32, 61, 32]).length + (prE x).length ≤ maxLen := by unfold maxLen; (try simp only [List.length_append, List.length_cons, List.length_nil]); omega
          have hcat11 : (P ++ I ++ s ++ [32, 61, 32] ++ prE x).length + 2 ≤ maxLen := by unfold maxLen; (try simp only [List.length_append, List.length_cons, List.length_nil]); omega
          refine awp_region_draw2 (fun x => x ≠ b9) [(0, 3), (1, 3), (2, 3), (3, 3), (4, 0), (5, 3), (6, 3), (7, 3), (8, 1), (9, 3), (10, 1), (11, 1), (12, 3), (13, 3), (14, 3)] [] draws (by kernel_rfl) rfl rfl ?_
          simp only [emitF, markOf, EM, f5, f7, f9, hb9, List.length_map, hg, hww, hg0, hcat7, hcat8, hcat9, hcat10, hcat11, RR, seval]
          refine awpC_pure' (hex) ?_
          simp only [emitF, markOf, EM, f5, f7, f9, hb9, List.length_map, hg, hww, hg0, hcat7, hcat8, hcat9, hcat10, hcat11, RR, seval]
          refine hKB4 _ _ ⟨(by repeat (first | exact agB4 | refine agree.upd rfl ?_)), (by first | exact eB4_b9 | (simp only [upd_app, seval]; first | done | exact eB4_b9)), ?_⟩
          rw [hpr]; simp only [upd_app, seval, List.append_assoc, List.cons_append, List.nil_append]
        · refine awp_seq_k fun K hK => ?_
          refine awp_region rfl ?_
          simp only [f28, List.length_map, hg, hww, RR, seval]
          refine hK _ _ ?_; clear hK K
          refine awp_if _ rfl (fun hc17 => ?_) (fun hc17 => ?_)
          · obtain rfl := of_decide_eq_true hc17
            obtain ⟨x, y, g0, g1, hll⟩ := two_get (l := es) (by simpa [fitS] using hft)
            have hex := hes x (by rw [hll]; simp)
            have hey := hes y (by rw [hll]; simp)
            have hpr : out = I ++ (s ++ ([91] ++ (prE x ++ ([93, 32, 61, 32] ++ (prE y ++ [59, 10]))))) := by rw [← hout, hll, ← hI]; simp [prM, pr1, pr2, prL, prT]
            rw [hpr] at hle
            simp only [List.length_append, List.length_cons, List.length_nil] at hle
            have hg0 := getE g0
            have hg1 := getE g1
            unfold JE at hex hey
            rw [Ex.row_eq] at hex hey
            have hcat12 : (P).length + (I).length ≤ maxLen := by unfold maxLen; (try simp only [List.length_append, List.length_cons, List.length_nil]); omega
            have hcat13 : (P ++ I).length + (s).length ≤ maxLen := by unfold maxLen; (try simp only [List.length_append, List.length_cons, List.length_nil]); omega
            have hcat14 : (P ++ I ++ s).length + 1 ≤ maxLen := by unfold maxLen; (try simp only [List.length_append, List.length_cons, List.length_nil]); omega
            have hcat15 : (P ++ I ++ s ++ [91]).length + (prE x).length ≤ maxLen := by unfold maxLen; (try simp only [List.length_append, List.length_cons, List.length_nil]); omega
            have hcat16 : (P ++ I ++ s ++ [91] ++ prE x).length + 4 ≤ maxLen := by unfold maxLen; (try simp only [List.length_append, List.length_cons, List.length_nil]); omega
            have hcat17 : (P ++ I ++ s ++ [91] ++ prE x ++ [93, 32, 61, 32]).length + (prE y).length ≤ maxLen := by unfold maxLen; (try simp only [List.length_append, List.length_cons, List.length_nil]); omega
            have hcat18 : (P ++ I ++ s ++ [91] ++ prE x ++ [93, 32, 61, 32] ++ prE y).length + 2 ≤ maxLen := by unfold maxLen; (try simp only [List.length_append, List.length_cons, List.length_nil]); omega
            refine awp_region_draw2 (fun x => x ≠ b9) [(0, 3), (1, 3), (2, 3), (3, 3), (4, 0), (5, 3), (6, 3), (7, 3), (8, 1), (9, 3), (10, 1), (14, 3), (15, 0), (16, 3), (17, 0), (11, 1), (12, 3), (13, 3), (18, 1), (19, 3), (20, 3), (21, 3)] [] draws (by kernel_rfl) rfl rfl ?_
            simp only [emitF, markOf, EM, f5, f7, f9, hb9, List.length_map, hg, hww, hg0, hg1, hcat12, hcat13, hcat14, hcat15, hcat16, hcat17, hcat18, RR, seval]
            refine awpC_pure' (hex) ?_
            simp only [emitF, markOf, EM, f5, f7, f9, hb9, List.length_map, hg, hww, hg0, hg1, hcat12, hcat13, hcat14, hcat15, hcat16, hcat17, hcat18, RR, seval]
            refine awpC_pure' (hey) ?_
            simp only [emitF, markOf, EM, f5, f7, f9, hb9, List.length_map, hg, hww, hg0, hg1, hcat12, hcat13, hcat14, hcat15, hcat16, hcat17, hcat18, RR, seval]
            refine hKB4 _ _ ⟨(by repeat (first | exact agB4 | refine agree.upd rfl ?_)), (by first | exact eB4_b9 | (simp only [upd_app, seval]; first | done | exact eB4_b9)), ?_⟩
            rw [hpr]; simp only [upd_app, seval, List.append_assoc, List.cons_append, List.nil_append]
          · refine awp_seq_k fun K hK => ?_
            refine awp_region rfl ?_
            simp only [f28, List.length_map, hg, hww, RR, seval]
            refine hK _ _ ?_; clear hK K
            refine awp_if _ rfl (fun hc19 => ?_) (fun hc19 => ?_)
            · obtain rfl := of_decide_eq_true hc19
              obtain ⟨x, g0, hll⟩ := one_get (l := es) (by simpa [fitS] using hft)
              have hex := hes x (by rw [hll]; simp)
              have hpr : out = I ++ ([112, 117, 116, 40] ++ (prE x ++ [41, 59, 10])) := by rw [← hout, hll, ← hI]; simp [prM, prL, prT]
              rw [hpr] at hle
              simp only [List.length_append, List.length_cons, List.length_nil] at hle
              have hg0 := getE g0
              unfold JE at hex
              rw [Ex.row_eq] at hex
              have hcat19 : (P).length + (I).length ≤ maxLen := by unfold maxLen; (try simp only [List.length_append, List.length_cons, List.length_nil]); omega
              have hcat20 : (P ++ I).length + 4 ≤ maxLen := by unfold maxLen; (try simp only [List.length_append, List.length_cons, List.length_nil]); omega
              have hcat21 : (P ++ I ++ [112, 117, 116, 40]).length + (prE x).length ≤ maxLen := by unfold maxLen; (try simp only [List.length_append, List.length_cons, List.length_nil]); omega
              have hcat22 : (P ++ I ++ [112, 117, 116, 40] ++ prE x).length + 3 ≤ maxLen := by unfold maxLen; (try simp only [List.length_append, List.length_cons, List.length_nil]); omega
              refine awp_region rfl ?_
              simp only [f5, f7, f9, hb9, List.length_map, hg, hww, hg0, hcat19, hcat20, hcat21, hcat22, RR, seval]
              refine awpC_pure' (hex) ?_
              simp only [f5, f7, f9, hb9, List.length_map, hg, hww, hg0, hcat19, hcat20, hcat21, hcat22, RR, seval]
              refine hKB4 _ _ ⟨(by repeat (first | exact agB4 | refine agree.upd rfl ?_)), (by first | exact eB4_b9 | (simp only [upd_app, seval]; first | done | exact eB4_b9)), ?_⟩
              rw [hpr]; simp only [upd_app, seval, List.append_assoc, List.cons_append, List.nil_append]
            · refine awp_seq_k fun K hK => ?_
              refine awp_region rfl ?_
              simp only [f28, List.length_map, hg, hww, RR, seval]
              refine hK _ _ ?_; clear hK K
              refine awp_if _ rfl (fun hc21 => ?_) (fun hc21 => ?_)
              · obtain rfl := of_decide_eq_true hc21
                have hpr : out = I ++ (s ++ ([40] ++ (prL es ++ [41, 59, 10]))) := by rw [← hout, ← hI]; simp [prM]
                rw [hpr] at hle
                simp only [List.length_append, List.length_cons, List.length_nil] at hle
                have hxs := jlist_con es hsm hes (by omega)
                have hcat23 : (P).length + (I).length ≤ maxLen := by unfold maxLen; (try simp only [List.length_append, List.length_cons, List.length_nil]); omega
                have hcat24 : (P ++ I).length + (s).length ≤ maxLen := by unfold maxLen; (try simp only [List.length_append, List.length_cons, List.length_nil]); omega
                have hcat25 : (P ++ I ++ s).length + 1 ≤ maxLen := by unfold maxLen; (try simp only [List.length_append, List.length_cons, List.length_nil]); omega
                have hcat26 : (P ++ I ++ s ++ [40]).length + (prL es).length ≤ maxLen := by unfold maxLen; (try simp only [List.length_append, List.length_cons, List.length_nil]); omega
                have hcat27 : (P ++ I ++ s ++ [40] ++ prL es).length + 3 ≤ maxLen := by unfold maxLen; (try simp only [List.length_append, List.length_cons, List.length_nil]); omega
                refine awp_region_draw2 (fun x => x ≠ b9) [(0, 3), (1, 3), (2, 3), (3, 3), (4, 0), (5, 3), (6, 3), (7, 3), (8, 1), (9, 1), (10, 3), (11, 3), (12, 3)] [] draws (by kernel_rfl) rfl rfl ?_
                simp only [emitF, markOf, EM, f5, f7, f9, hb9, List.length_map, hg, hww, hcat23, hcat24, hcat25, hcat26, hcat27, RR, seval]
                refine awpC_pure' (hxs) ?_
                simp only [emitF, markOf, EM, f5, f7, f9, hb9, List.length_map, hg, hww, hcat23, hcat24, hcat25, hcat26, hcat27, RR, seval]
                refine hKB4 _ _ ⟨(by repeat (first | exact agB4 | refine agree.upd rfl ?_)), (by first | exact eB4_b9 | (simp only [upd_app, seval]; first | done | exact eB4_b9)), ?_⟩
                rw [hpr]; simp only [upd_app, seval, List.append_assoc, List.cons_append, List.nil_append]
              · refine awp_seq_k fun K hK => ?_
                refine awp_region rfl ?_
                simp only [f28, List.length_map, hg, hww, RR, seval]
                refine hK _ _ ?_; clear hK K
                refine awp_if _ rfl (fun hc23 => ?_) (fun hc23 => ?_)
                · obtain rfl := of_decide_eq_true hc23
                  obtain ⟨x, g0, hll⟩ := one_get (l := es) (by simpa [fitS] using hft)
                  have hex := hes x (by rw [hll]; simp)
                  generalize hv : (if u.length = 0 then ([] : Str) else I ++ ([125, 32, 101, 108, 115, 101, 32, 123, 10] ++ prB (lv + 1) u)) = v
                  have hpr : out = I ++ ([105, 102, 32, 40] ++ (prE x ++ ([41, 32, 123, 10] ++ (prB (lv + 1) t ++ (v ++ (I ++ [125, 10])))))) := by rw [← hout, hll, ← hv, ← hI]; simp [prM, prL, prT]
                  rw [hpr] at hle
                  simp only [List.length_append, List.length_cons, List.length_nil] at hle
                  have hg0 := getE g0
                  unfold JE at hex
                  rw [Ex.row_eq] at hex
                  have hcat28 : (P).length + (I).length ≤ maxLen := by unfold maxLen; (try simp only [List.length_append, List.length_cons, List.length_nil]); omega
                  have hcat29 : (P ++ I).length + 4 ≤ maxLen := by unfold maxLen; (try simp only [List.length_append, List.length_cons, List.length_nil]); omega
                  have hcat30 : (P ++ I ++ [105, 102, 32, 40]).length + (prE x).length ≤ maxLen := by unfold maxLen; (try simp only [List.length_append, List.length_cons, List.length_nil]); omega
                  have hcat31 : (P ++ I ++ [105, 102, 32, 40] ++ prE x).length + 4 ≤ maxLen := by unfold maxLen; (try simp only [List.length_append, List.length_cons, List.length_nil]); omega
                  have hcat32 : (P ++ I ++ [105, 102, 32, 40] ++ prE x ++ [41, 32, 123, 10]).length + (prB (lv + 1) t).length ≤ maxLen := by unfold maxLen; (try simp only [List.length_append, List.length_cons, List.length_nil]); omega
                  refine awp_seq_k fun K hK => ?_
                  refine awp_region_draw2 (fun x => x ≠ b9) [(0, 3), (1, 3), (2, 3), (3, 3), (4, 3), (5, 1), (6, 3), (7, 1), (11, 3), (12, 0), (13, 3), (14, 3), (8, 1), (9, 3), (10, 3), (15, 1), (16, 3), (17, 3)] [] draws (by kernel_rfl) rfl rfl ?_
                  simp only [emitF, markOf, EM, f1, f5, f7, f9, hb9, List.length_map, hg, hww, hg0, hcat28, hcat29, hcat30, hcat31, hcat32, RR, seval]
                  refine awpC_pure' (hex) ?_
                  simp only [emitF, markOf, EM, f1, f5, f7, f9, hb9, List.length_map, hg, hww, hg0, hcat28, hcat29, hcat30, hcat31, hcat32, RR, seval]
                  refine awpC_pure' (htn) ?_
                  simp only [emitF, markOf, EM, f1, f5, f7, f9, hb9, List.length_map, hg, hww, hg0, hcat28, hcat29, hcat30, hcat31, hcat32, RR, seval]
                  refine hK _ _ ?_; clear hK K
                  refine awp_seq ?_
                  refine awp_seq_k fun K hK => ?_
                  refine awp_region rfl ?_
                  simp only [f9, hb9, List.length_map, hg, hww, hg0, hcat28, hcat29, hcat30, hcat31, hcat32, RR, seval]
                  refine hK _ _ ?_; clear hK K
                  refine awp_name fun F33 M33 hfr hH => ?_
                  have g0 := hfr 0
                  have g1 := hfr 1
                  have g4 := hfr 4
                  have g5 := hfr 5
                  have g7 := hfr 7
                  have g8 := hfr 8
                  have g9 := hfr 9
                  have g28 := hfr 28
                  have g136 := hfr 136
                  have gb9 := hH b9
                  try simp only [f0, f1, f4, f5, f8, f9, f28, f7, hb9, List.length_map, hg, hww, hg0, hcat28, hcat29, hcat30, hcat31, hcat32, RR, seval] at g0 g1 g4 g5 g7 g8 g9 g28 g136 gb9
                  have ag2 : agree [0, 1, 4, 5] F5 F33 := agree.same hfr (by repeat (first | exact ag2 | refine agree.upd rfl ?_))
                  have agB4 : agree [0, 1, 4, 5, 8, 9, 28] F6 F33 := agree.same hfr (by repeat (first | exact agB4 | refine agree.upd rfl ?_))
                  have eB4_b9 := (hH b9).trans (by first | exact eB4_b9 | (simp only [upd_app, seval]; first | done | exact eB4_b9))
                  have f0 := g0; clear g0
                  have f1 := g1; clear g1
                  have f4 := g4; clear g4
                  have f5 := g5; clear g5
                  have f7 := g7; clear g7
                  have f8 := g8; clear g8
                  have f9 := g9; clear g9
                  have f28 := g28; clear g28
                  have f136 := g136; clear g136
                  have hb9 := gb9; clear gb9
                  clear hfr hH
                  refine awp_cutP (fun fr M => agree [0, 1, 4, 5, 8, 9, 28] F33 fr ∧ M b9 = M33 b9 ∧ fr 7 = .str (P ++ I ++ [105, 102, 32, 40] ++ prE x ++ [41, 32, 123, 10] ++ prB (lv + 1) t ++ v)) (fun KC25 hKC25 => ?_) ?_
                  · have agC25 := agree.refl [0, 1, 4, 5, 8, 9, 28] F33
                    have eC25_b9 : M33 b9 = M33 b9 := rfl
                    refine awp_if _ (by first | rfl | exact f136) (fun hc25 => ?_) (fun hc25 => ?_)
                    · have hul : ¬ u.length = 0 := by have := of_decide_eq_true hc25; omega
                      rw [if_neg hul] at hv
                      rw [← hv] at hle
                      simp only [List.length_append, List.length_cons, List.length_nil] at hle
                      have hcat34 : (P ++ I ++ [105, 102, 32, 40] ++ prE x ++ [41, 32, 123, 10] ++ prB (lv + 1) t).length + (I).length ≤ maxLen := by unfold maxLen; (try simp only [List.length_append, List.length_cons, List.length_nil]); omega
                      have hcat35 : (P ++ I ++ [105, 102, 32, 40] ++ prE x ++ [41, 32, 123, 10] ++ prB (lv + 1) t ++ I).length + 9 ≤ maxLen := by unfold maxLen; (try simp only [List.length_append, List.length_cons, List.length_nil]); omega
                      have hcat36 : (P ++ I ++ [105, 102, 32, 40] ++ prE x ++ [41, 32, 123, 10] ++ prB (lv + 1) t ++ I ++ [125, 32, 101, 108, 115, 101, 32, 123, 10]).length + (prB (lv + 1) u).length ≤ maxLen := by unfold maxLen; (try simp only [List.length_append, List.length_cons, List.length_nil]); omega
                      refine awp_region rfl ?_
                      simp only [f1, f5, f7, f9, hb9, List.length_map, hg, hww, hg0, hcat28, hcat29, hcat30, hcat31, hcat32, hcat34, hcat35, hcat36, RR, seval]
                      refine awpC_pure' (hel) ?_
                      simp only [f1, f5, f7, f9, hb9, List.length_map, hg, hww, hg0, hcat28, hcat29, hcat30, hcat31, hcat32, hcat34, hcat35, hcat36, RR, seval]
                      refine hKC25 _ _ ⟨(by repeat (first | exact agC25 | refine agree.upd rfl ?_)), (by first | exact eC25_b9 | (simp only [upd_app, seval]; first | done | exact eC25_b9)), ?_⟩
                      first | (rw [← hv, List.append_nil]; exact f7) | (rw [← hv]; simp only [upd_app, seval, List.append_assoc, List.cons_append, List.nil_append])
                    · have hul : u.length = 0 := by have := of_decide_eq_false hc25; omega
                      rw [if_pos hul] at hv
                      refine awp_skip ?_; try simp only [RR]
                      refine hKC25 _ _ ⟨(by repeat (first | exact agC25 | refine agree.upd rfl ?_)), (by first | exact eC25_b9 | (simp only [upd_app, seval]; first | done | exact eC25_b9)), ?_⟩
                      first | (rw [← hv, List.append_nil]; exact f7) | (rw [← hv]; simp only [upd_app, seval, List.append_assoc, List.cons_append, List.nil_append])
                  rintro F37 M37 ⟨agx, gb9, f7⟩
                  have f0 := (agx 0 rfl).trans f0
                  have f1 := (agx 1 rfl).trans f1
                  have f4 := (agx 4 rfl).trans f4
                  have f5 := (agx 5 rfl).trans f5
                  have f8 := (agx 8 rfl).trans f8
                  have f9 := (agx 9 rfl).trans f9
                  have f28 := (agx 28 rfl).trans f28
                  have hb9 := gb9.trans hb9
                  have ag2 : agree [0, 1, 4, 5] F5 F37 := agree.sub agx rfl ag2
                  have agB4 : agree [0, 1, 4, 5, 8, 9, 28] F6 F37 := agree.sub agx rfl agB4
                  have eB4_b9 := gb9.trans eB4_b9
                  clear agx
                  clear gb9
                  simp only [RR, seval]
                  have hcat38 : (P ++ I ++ [105, 102, 32, 40] ++ prE x ++ [41, 32, 123, 10] ++ prB (lv + 1) t ++ v).length + (I).length ≤ maxLen := by unfold maxLen; (try simp only [List.length_append, List.length_cons, List.length_nil]); omega
                  have hcat39 : (P ++ I ++ [105, 102, 32, 40] ++ prE x ++ [41, 32, 123, 10] ++ prB (lv + 1) t ++ v ++ I).length + 2 ≤ maxLen := by unfold maxLen; (try simp only [List.length_append, List.length_cons, List.length_nil]); omega
                  refine awp_region rfl ?_
                  simp only [f5, f7, List.length_map, hg, hww, hg0, hcat28, hcat29, hcat30, hcat31, hcat32, hcat38, hcat39, RR, seval]
                  refine hKB4 _ _ ⟨(by repeat (first | exact agB4 | refine agree.upd rfl ?_)), (by first | exact eB4_b9 | (simp only [upd_app, seval]; first | done | exact eB4_b9)), ?_⟩
                  rw [hpr]; simp only [upd_app, seval, List.append_assoc, List.cons_append, List.nil_append]
                · refine awp_seq_k fun K hK => ?_
                  refine awp_region rfl ?_
                  simp only [f28, List.length_map, hg, hww, RR, seval]
                  refine hK _ _ ?_; clear hK K
                  refine awp_if _ rfl (fun hc28 => ?_) (fun hc28 => ?_)
                  · obtain rfl := of_decide_eq_true hc28
                    obtain ⟨x, g0, hll⟩ := one_get (l := es) (by simpa [fitS] using hft)
                    have hex := hes x (by rw [hll]; simp)
                    have hu0 : u.length = 0 := by rcases hno with e | e; cases e; exact e
                    have hpr : out = I ++ ([119, 104, 105, 108, 101, 32, 40] ++ (prE x ++ ([41, 32, 123, 10] ++ (prB (lv + 1) t ++ (I ++ [125, 10]))))) := by rw [← hout, hll, ← hI]; simp [prM, prL, prT, hu0]
                    rw [hpr] at hle
                    simp only [List.length_append, List.length_cons, List.length_nil] at hle
                    have hg0 := getE g0
                    unfold JE at hex
                    rw [Ex.row_eq] at hex
                    have hcat40 : (P).length + (I).length ≤ maxLen := by unfold maxLen; (try simp only [List.length_append, List.length_cons, List.length_nil]); omega
                    have hcat41 : (P ++ I).length + 7 ≤ maxLen := by unfold maxLen; (try simp only [List.length_append, List.length_cons, List.length_nil]); omega
                    have hcat42 : (P ++ I ++ [119, 104, 105, 108, 101, 32, 40]).length + (prE x).length ≤ maxLen := by unfold maxLen; (try simp only [List.length_append, List.length_cons, List.length_nil]); omega
                    have hcat43 : (P ++ I ++ [119, 104, 105, 108, 101, 32, 40] ++ prE x).length + 4 ≤ maxLen := by unfold maxLen; (try simp only [List.length_append, List.length_cons, List.length_nil]); omega
                    have hcat44 : (P ++ I ++ [119, 104, 105, 108, 101, 32, 40] ++ prE x ++ [41, 32, 123, 10]).length + (prB (lv + 1) t).length ≤ maxLen := by unfold maxLen; (try simp only [List.length_append, List.length_cons, List.length_nil]); omega
                    have hcat45 : (P ++ I ++ [119, 104, 105, 108, 101, 32, 40] ++ prE x ++ [41, 32, 123, 10] ++ prB (lv + 1) t).length + (I).length ≤ maxLen := by unfold maxLen; (try simp only [List.length_append, List.length_cons, List.length_nil]); omega
                    have hcat46 : (P ++ I ++ [119, 104, 105, 108, 101, 32, 40] ++ prE x ++ [41, 32, 123, 10] ++ prB (lv + 1) t ++ I).length + 2 ≤ maxLen := by unfold maxLen; (try simp only [List.length_append, List.length_cons, List.length_nil]); omega
                    refine awp_region_draw2 (fun x => x ≠ b9) [(0, 3), (1, 3), (2, 3), (3, 3), (4, 3), (5, 1), (6, 3), (7, 1), (11, 3), (12, 0), (13, 3), (14, 3), (17, 3), (8, 1), (9, 3), (10, 3), (15, 1), (16, 3), (18, 3), (19, 3), (20, 3)] [] draws (by kernel_rfl) rfl rfl ?_
                    simp only [emitF, markOf, EM, f1, f5, f7, f9, hb9, List.length_map, hg, hww, hg0, hcat40, hcat41, hcat42, hcat43, hcat44, hcat45, hcat46, RR, seval]
                    refine awpC_pure' (hex) ?_
                    simp only [emitF, markOf, EM, f1, f5, f7, f9, hb9, List.length_map, hg, hww, hg0, hcat40, hcat41, hcat42, hcat43, hcat44, hcat45, hcat46, RR, seval]
                    refine awpC_pure' (htn) ?_
                    simp only [emitF, markOf, EM, f1, f5, f7, f9, hb9, List.length_map, hg, hww, hg0, hcat40, hcat41, hcat42, hcat43, hcat44, hcat45, hcat46, RR, seval]
                    refine hKB4 _ _ ⟨(by repeat (first | exact agB4 | refine agree.upd rfl ?_)), (by first | exact eB4_b9 | (simp only [upd_app, seval]; first | done | exact eB4_b9)), ?_⟩
                    rw [hpr]; simp only [upd_app, seval, List.append_assoc, List.cons_append, List.nil_append]
                  · have h1 := of_decide_eq_false hc15
                    have h2 := of_decide_eq_false hc17
                    have h3 := of_decide_eq_false hc19
                    have h6 := of_decide_eq_false hc21
                    have h4 := of_decide_eq_false hc23
                    have h5 := of_decide_eq_false hc28
                    have h7 : kd = 7 ∧ es.length ≤ 1 := by
                      simp only [fitS] at hft
                      rw [if_neg (by omega), if_neg h2, if_neg h6] at hft
                      split at hft
                      · simp only [decide_eq_true_eq] at hft; omega
                      · cases hft
                    obtain ⟨rfl, hl1⟩ := h7
                    refine awp_seq_k fun K hK => ?_
                    refine awp_region rfl ?_
                    simp only [f9, hb9, List.length_map, hg, hww, RR, seval]
                    refine hK _ _ ?_; clear hK K
                    refine awp_if _ rfl (fun hc12 => ?_) (fun hc12 => ?_)
                    · have he0 : es.length = 0 := by have := of_decide_eq_true hc12; omega
                      have hpr : out = I ++ [114, 101, 116, 117, 114, 110, 59, 10] := by rw [← hout, ← hI]; simp [prM, he0]
                      rw [hpr] at hle
                      simp only [List.length_append, List.length_cons, List.length_nil] at hle
                      have hcat47 : (P).length + (I).length ≤ maxLen := by unfold maxLen; (try simp only [List.length_append, List.length_cons, List.length_nil]); omega
                      have hcat48 : (P ++ I).length + 8 ≤ maxLen := by unfold maxLen; (try simp only [List.length_append, List.length_cons, List.length_nil]); omega
                      refine awp_region rfl ?_
                      simp only [f5, f7, List.length_map, hg, hww, hcat47, hcat48, RR, seval]
                      refine hKB4 _ _ ⟨(by repeat (first | exact agB4 | refine agree.upd rfl ?_)), (by first | exact eB4_b9 | (simp only [upd_app, seval]; first | done | exact eB4_b9)), ?_⟩
                      rw [hpr]; simp only [upd_app, seval, List.append_assoc, List.cons_append, List.nil_append]
                    · have he1 : es.length = 1 := by have := of_decide_eq_false hc12; omega
                      obtain ⟨x, g0, hll⟩ := one_get (l := es) he1
                      have hex := hes x (by rw [hll]; simp)
                      have hpr : out = I ++ ([114, 101, 116, 117, 114, 110, 32] ++ (prE x ++ [59, 10])) := by rw [← hout, hll, ← hI]; simp [prM, prL, prT]
                      rw [hpr] at hle
                      simp only [List.length_append, List.length_cons, List.length_nil] at hle
                      have hg0 := getE g0
                      unfold JE at hex
                      rw [Ex.row_eq] at hex
                      have hcat49 : (P).length + (I).length ≤ maxLen := by unfold maxLen; (try simp only [List.length_append, List.length_cons, List.length_nil]); omega
                      have hcat50 : (P ++ I).length + 7 ≤ maxLen := by unfold maxLen; (try simp only [List.length_append, List.length_cons, List.length_nil]); omega
                      have hcat51 : (P ++ I ++ [114, 101, 116, 117, 114, 110, 32]).length + (prE x).length ≤ maxLen := by unfold maxLen; (try simp only [List.length_append, List.length_cons, List.length_nil]); omega
                      have hcat52 : (P ++ I ++ [114, 101, 116, 117, 114, 110, 32] ++ prE x).length + 2 ≤ maxLen := by unfold maxLen; (try simp only [List.length_append, List.length_cons, List.length_nil]); omega
                      refine awp_region rfl ?_
                      simp only [f5, f7, f9, hb9, List.length_map, hg, hww, hg0, hcat49, hcat50, hcat51, hcat52, RR, seval]
                      refine awpC_pure' (hex) ?_
                      simp only [f5, f7, f9, hb9, List.length_map, hg, hww, hg0, hcat49, hcat50, hcat51, hcat52, RR, seval]
                      refine hKB4 _ _ ⟨(by repeat (first | exact agB4 | refine agree.upd rfl ?_)), (by first | exact eB4_b9 | (simp only [upd_app, seval]; first | done | exact eB4_b9)), ?_⟩
                      rw [hpr]; simp only [upd_app, seval, List.append_assoc, List.cons_append, List.nil_append]
      rintro F53 M53 ⟨agx, gb9, f7⟩
      have f0 := (agx 0 rfl).trans f0
      have f1 := (agx 1 rfl).trans f1
      have f4 := (agx 4 rfl).trans f4
      have f5 := (agx 5 rfl).trans f5
      have f8 := (agx 8 rfl).trans f8
      have f9 := (agx 9 rfl).trans f9
      have f28 := (agx 28 rfl).trans f28
      have hb9 := gb9.trans hb9
      have ag2 : agree [0, 1, 4, 5] F5 F53 := agree.sub agx rfl ag2
      clear agx
      clear gb9
      simp only [RR, seval]
      refine awp_region rfl ?_
      simp only [f8, List.length_map, hg, hww, RR, seval]
      try rw [IntWalk.i64_in _ (by omega)]
      refine hK2 _ _ hlt2 ⟨by first | rfl | (simp only [upd_app, seval]; rfl), by rw [hpk]; exact f7⟩ (by repeat (first | exact ag2 | refine agree.upd rfl ?_))
    · have hkn2 : k = l.length := by have := of_decide_eq_false hc; omega
      clear hc
      rw [hkn2, List.take_length] at f7
      refine awp_exit ?_; simp only [RR, seval]
      refine awp_seq_k fun K hK => ?_
      refine awp_region rfl ?_
      simp only [f7, List.length_map, RR, seval]
      refine hK _ _ ?_; clear hK K
      refine awp_ret ?_; simp only [bodyQ, aresult, ares, f4, List.length_map, RR, seval]
      refine Gives.pure ?_
      rfl
end Go.Proofs.YtgcncdjnipfolaaDoor

namespace Go.Proofs.YtgcncdjnipfolaaDoor
open Go.Al
theorem rightS_mem' {l : List Sm} {level : Int} (h : rightS l level = true) : ∀ a ∈ l, rightM a level = true := by
  induction l with
  | nil => intro a ha; cases ha
  | cons e l ih =>
    rw [rightS_cons, Bool.and_eq_true] at h
    intro a ha
    rcases List.mem_cons.1 ha with rfl | ha
    · exact h.1
    · exact ih h.2 a ha
theorem szS_len' : ∀ l : List Sm, l.length ≤ szS l
  | [] => Nat.le_refl _
  | e :: l => by have := szS_len' l; have := e.sz_eq; simp only [szS, List.length_cons]; omega
theorem szE_len' : ∀ l : List Ex, l.length ≤ szE l
  | [] => Nat.le_refl _
  | e :: l => by have := szE_len' l; have := e.sz_eq; simp only [szE, List.length_cons]; omega
theorem jstmts_con (N : Nat) (hN : N ≤ 1000000) : ∀ (l : List Sm) (lv : Nat), szS l ≤ N → okS l → lv ≤ 26 → rightS l (lv : Int) = true → JB lv l := by
  induction N using Nat.strongRecOn with
  | _ N ih =>
    intro l lv hs ho hlv hr
    have hlen := szS_len' l
    have hpl := prB_len (szS l) l lv (Nat.le_refl _) ho hr
    refine jstmts_step lv (by omega) l (by omega) (fun s hsm => ?_) (by omega)
    have hrm := rightS_mem' hr s hsm
    have hz := s.sz_eq
    have hm := szS_mem hsm
    have hos := ho.all s hsm
    simp only [rightM, Bool.and_eq_true] at hrm
    obtain ⟨⟨⟨⟨hh, hk⟩, hre⟩, hrt⟩, hru⟩ := hrm
    have hlv2 : lv ≤ 24 := by
      simp only [headS, Bool.and_eq_true, decide_eq_true_eq] at hh
      omega
    have hcast : (lv : Int) + 1 = ((lv + 1 : Nat) : Int) := by omega
    rw [hcast] at hrt hru
    have hle := szE_len' s.es
    refine ⟨hk, fun e he => ?_, ih (szS s.thn) (by omega) (by omega) s.thn (lv + 1) (Nat.le_refl _) hos.thn (by omega) hrt, ih (szS s.els) (by omega) (by omega) s.els (lv + 1) (Nat.le_refl _) hos.els (by omega) hru, ?_, by omega⟩
    · have := szE_mem he
      exact jexpr_con e.sz (by omega) e _ (Nat.le_refl _) (hos.es.all e he) (right_mem' hre e he)
    · simp only [headS, Bool.and_eq_true, Bool.or_eq_true, decide_eq_true_eq] at hh
      exact hh.1.1.2
set_option maxHeartbeats 4000000 in
theorem jPrint_con (p : Pg) (hv : p.vars.length ≤ 1000000) (ha : p.arrs.length ≤ 1000000) (hf : p.funs.length ≤ 1000000) (hsz : ∀ a ∈ p.arrs, 0 ≤ a.size ∧ a.size < 4294967296) (hfn : ∀ f ∈ p.funs, f.params.length ≤ 1000000 ∧ f.locs.length ≤ 1000000 ∧ JB 1 f.body)
    (hl : (prP p).length ≤ 140737488355328) : PCon env 19 [p.av] (.str (prP p)) := by
  have hav : p.av = .agg p.row := rfl
  have hrow : p.row = [.isl 1 (p.vars.map strRow), .isl 2 (p.arrs.map Ar.row), .isl 5 (p.funs.map Fu.row)] := rfl
  rw [hav, hrow]
  have hpr : prP p = (if p.vars.length = 0 then [] else [118, 97, 114, 32] ++ (comma p.vars ++ [59, 10])) ++ (prAs p.arrs ++ prFs p.funs) := rfl
  rw [hpr] at hl ⊢
  generalize hpv : (if p.vars.length = 0 then [] else [118, 97, 114, 32] ++ (comma p.vars ++ [59, 10])) = pv at *
  simp only [List.length_append] at hl
  refine con_of 90 [.tmp 2] Tryd.func19 rfl rfl rfl rfl ?_
  refine awp_seq_k fun K hK => ?_
  refine awp_region rfl ?_
  simp only [List.length_map, RR, seval]
  refine awpN_intro fun b1 hn1 => ?_
  simp only [List.length_map, RR, seval]
  refine hK _ _ ?_; clear hK K
  refine awp_seq_k fun K hK => ?_
  refine awp_region rfl ?_
  simp only [List.length_map, RR, seval]
  refine hK _ _ ?_; clear hK K
  refine awp_seq ?_
  refine awp_seq_k fun K hK => ?_
  refine awp_region rfl ?_
  simp only [List.length_map, RR, seval]
  refine hK _ _ ?_; clear hK K
  refine awp_name fun F1 M1 hfr hH => ?_
  have g1 := hfr 1
  have g2 := hfr 2
  have g3 := hfr 3
  have g10 := hfr 10
  have gb1 := hH b1
  try simp only [List.length_map, RR, seval] at g1 g2 g3 g10 gb1
  have f1 := g1; clear g1
  have f2 := g2; clear g2
  have f3 := g3; clear g3
  have f10 := g10; clear g10
  have hb1 := gb1; clear gb1
  clear hfr hH
  refine awp_cutP (fun fr M => agree [1, 2] F1 fr ∧ M b1 = M1 b1 ∧ fr 3 = .str pv) (fun KC2 hKC2 => ?_) ?_
  · have agC2 := agree.refl [1, 2] F1
    have eC2_b1 : M1 b1 = M1 b1 := rfl
    refine awp_if _ (by first | rfl | exact f10) (fun hc2 => ?_) (fun hc2 => ?_)
    · have hul : ¬ p.vars.length = 0 := by have := of_decide_eq_true hc2; omega
      rw [if_neg hul] at hpv
      subst hpv
      simp only [List.length_append, List.length_cons, List.length_nil] at hl
      have hcat2 : 4 + (comma p.vars).length ≤ maxLen := by unfold maxLen; (try simp only [List.length_append, List.length_cons, List.length_nil]); omega
      have hcat3 : (comma p.vars).length + 1 + 1 + 1 + 1 + 2 ≤ maxLen := by unfold maxLen; (try simp only [List.length_append, List.length_cons, List.length_nil]); omega
      refine awp_region rfl ?_
      simp only [f1, hb1, List.length_map, hcat2, hcat3, RR, seval]
      refine awpC_pure' (comma_con p.vars hv (by omega)) ?_
      simp only [f1, hb1, List.length_map, hcat2, hcat3, RR, seval]
      refine hKC2 _ _ ⟨(by repeat (first | exact agC2 | refine agree.upd rfl ?_)), (by first | exact eC2_b1 | (simp only [upd_app, seval]; first | done | exact eC2_b1)), ?_⟩
      first | (rw [← hpv]; exact f3) | (simp only [upd_app, seval, List.append_assoc, List.cons_append, List.nil_append]; done)
    · have hul : p.vars.length = 0 := by have := of_decide_eq_false hc2; omega
      rw [if_pos hul] at hpv
      refine awp_skip ?_; try simp only [RR]
      refine hKC2 _ _ ⟨(by repeat (first | exact agC2 | refine agree.upd rfl ?_)), (by first | exact eC2_b1 | (simp only [upd_app, seval]; first | done | exact eC2_b1)), ?_⟩
      first | (rw [← hpv]; exact f3) | (simp only [upd_app, seval, List.append_assoc, List.cons_append, List.nil_append]; done)
  rintro F4 M4 ⟨agx, gb1, f3⟩
  have f1 := (agx 1 rfl).trans f1
  have f2 := (agx 2 rfl).trans f2
  have hb1 := gb1.trans hb1
  clear agx
  clear gb1
  simp only [RR, seval]
  refine awp_seq ?_
  refine awp_seq_k fun K hK => ?_
  refine awp_region rfl ?_
  simp only [List.length_map, RR, seval]
  refine hK _ _ ?_; clear hK K
  refine awp_name fun F5 M5 hfr hH => ?_
  have g1 := hfr 1
  have g2 := hfr 2
  have g3 := hfr 3
  have g4 := hfr 4
  have gb1 := hH b1
  try simp only [f1, f2, f3, hb1, List.length_map, RR, seval] at g1 g2 g3 g4 gb1
  have f1 := g1; clear g1
  have f2 := g2; clear g2
  have f3 := g3; clear g3
  have f4 := g4; clear g4
  have hb1 := gb1; clear gb1
  clear hfr hH
  refine awp_block ?_
  refine awp_each [1, 2] (p.arrs.length) (fun k fr M => fr 4 = .int .i64 (k : Nat) ∧ M b1 = M5 b1 ∧ fr 3 = .str (pv ++ prAs (p.arrs.take k))) ⟨f4, rfl, (by rw [List.take_zero, show prAs [] = [] from rfl, List.append_nil]; exact f3)⟩ ?_
  rintro k F6 M6 hk0 ⟨fx, gb1, f3⟩ agx K0 hK0
  have f1 := (agx 1 rfl).trans f1
  have f2 := (agx 2 rfl).trans f2
  have f4 := fx; clear fx
  have hb1 := gb1.trans hb1
  have ag0 := agree.refl [1, 2] F6
  have e0_b1 := gb1; clear gb1
  clear agx
  refine awp_seq ?_
  refine awp_seq_k fun K hK => ?_
  refine awp_region rfl ?_
  simp only [f1, f4, hb1, List.length_map, RR, seval]
  refine hK _ _ ?_; clear hK K
  refine awp_if _ rfl (fun hc => ?_) (fun hc => ?_)
  · have hlt0 : k < p.arrs.length := by have := of_decide_eq_true hc; omega
    clear hc
    have hg := getA (List.getElem?_eq_getElem hlt0)
    have htk : p.arrs.take (k + 1) = p.arrs.take k ++ [p.arrs[k]] := List.take_succ_eq_append_getElem hlt0
    have hsa := hsz _ (List.getElem_mem hlt0)
    have hle := prAs_take_len p.arrs (k + 1)
    have hpk : prAs (p.arrs.take (k + 1)) = prAs (p.arrs.take k) ++ prA p.arrs[k] := by rw [htk, prAs_snoc]
    rw [hpk, List.length_append] at hle
    generalize p.arrs[k] = e at hg htk hsa hpk hle
    obtain ⟨nm, sz⟩ := e
    simp only at hg hsa
    have hpa : prA ⟨nm, sz⟩ = [97, 114, 114, 97, 121, 32] ++ (nm ++ ([91] ++ (Lib.decDigits sz.toNat ++ [93, 59, 10]))) := rfl
    rw [hpa] at hpk hle
    simp only [List.length_append, List.length_cons, List.length_nil] at hle
    have hw : IntKind.wrap .u32 sz = sz := IntWalk.u32_in _ (by omega)
    generalize hP : pv ++ prAs (p.arrs.take k) = P at *
    have hPl : P.length = pv.length + (prAs (p.arrs.take k)).length := by rw [← hP, List.length_append]
    refine awp_skip ?_; try simp only [RR]
    refine awp_seq ?_
    refine awp_block ?_
    have hcat7 : (P).length + 6 ≤ maxLen := by unfold maxLen; (try simp only [List.length_append, List.length_cons, List.length_nil]); omega
    have hcat8 : (P ++ [97, 114, 114, 97, 121, 32]).length + (nm).length ≤ maxLen := by unfold maxLen; (try simp only [List.length_append, List.length_cons, List.length_nil]); omega
    have hcat9 : (P ++ [97, 114, 114, 97, 121, 32] ++ nm).length + 1 ≤ maxLen := by unfold maxLen; (try simp only [List.length_append, List.length_cons, List.length_nil]); omega
    have hcat10 : (P ++ [97, 114, 114, 97, 121, 32] ++ nm ++ [91]).length + (Lib.decDigits sz.toNat).length ≤ maxLen := by unfold maxLen; (try simp only [List.length_append, List.length_cons, List.length_nil]); omega
    have hcat11 : (P ++ [97, 114, 114, 97, 121, 32] ++ nm ++ [91] ++ Lib.decDigits sz.toNat).length + 3 ≤ maxLen := by unfold maxLen; (try simp only [List.length_append, List.length_cons, List.length_nil]); omega
    refine awp_region_draw2 (fun x => x ≠ b1) [(0, 3), (1, 3), (2, 3), (3, 0), (4, 3), (5, 3), (6, 3), (7, 0), (8, 3), (9, 3), (10, 3), (11, 1), (12, 3), (13, 3), (14, 3), (15, 1), (16, 3), (17, 1), (18, 3), (19, 3), (20, 3)] [] draws (by kernel_rfl) rfl rfl ?_
    simp only [emitF, markOf, EM, f1, f4, f3, hb1, List.length_map, hg, hw, hcat7, hcat8, hcat9, hcat10, hcat11, RR, seval]
    refine awpC_pure' (rText_con sz hsa) ?_
    simp only [emitF, markOf, EM, f1, f4, f3, hb1, List.length_map, hg, hw, hcat7, hcat8, hcat9, hcat10, hcat11, RR, seval]
    refine awp_region rfl ?_
    simp only [f4, List.length_map, hg, hw, hcat7, hcat8, hcat9, hcat10, hcat11, RR, seval]
    try rw [IntWalk.i64_in _ (by omega)]
    refine hK0 _ _ hlt0 ⟨by first | rfl | (simp only [upd_app, seval]; rfl), (by first | exact e0_b1 | (simp only [upd_app, seval]; first | done | exact e0_b1)), by rw [hpk, ← List.append_assoc, hP]; first | rfl | simp only [upd_app, seval, List.append_assoc, List.cons_append, List.nil_append]⟩ (by repeat (first | exact ag0 | refine agree.upd rfl ?_))
  · have hkn0 : k = p.arrs.length := by have := of_decide_eq_false hc; omega
    clear hc
    rw [hkn0, List.take_length] at f3
    refine awp_exit ?_; simp only [RR, seval]
    refine awp_seq ?_
    refine awp_seq_k fun K hK => ?_
    refine awp_region rfl ?_
    simp only [List.length_map, RR, seval]
    refine hK _ _ ?_; clear hK K
    refine awp_name fun F12 M12 hfr hH => ?_
    have g1 := hfr 1
    have g2 := hfr 2
    have g3 := hfr 3
    have g5 := hfr 5
    have gb1 := hH b1
    try simp only [f1, f2, f4, f3, hb1, List.length_map, RR, seval] at g1 g2 g3 g5 gb1
    have f1 := g1; clear g1
    have f2 := g2; clear g2
    have f3 := g3; clear g3
    have f5 := g5; clear g5
    have hb1 := gb1; clear gb1
    clear hfr hH
    refine awp_block ?_
    refine awp_each [1, 2] (p.funs.length) (fun k fr M => fr 5 = .int .i64 (k : Nat) ∧ M b1 = M12 b1 ∧ fr 3 = .str (pv ++ prAs p.arrs ++ prFs (p.funs.take k))) ⟨f5, rfl, (by rw [List.take_zero, show prFs [] = [] from rfl, List.append_nil]; exact f3)⟩ ?_
    rintro k F13 M13 hk2 ⟨fx, gb1, f3⟩ agx K2 hK2
    have f1 := (agx 1 rfl).trans f1
    have f2 := (agx 2 rfl).trans f2
    have f5 := fx; clear fx
    have hb1 := gb1.trans hb1
    have ag2 := agree.refl [1, 2] F13
    have e2_b1 := gb1; clear gb1
    clear agx
    refine awp_seq ?_
    refine awp_seq_k fun K hK => ?_
    refine awp_region rfl ?_
    simp only [f1, f5, hb1, List.length_map, RR, seval]
    refine hK _ _ ?_; clear hK K
    refine awp_if _ rfl (fun hc => ?_) (fun hc => ?_)
    · have hlt2 : k < p.funs.length := by have := of_decide_eq_true hc; omega
      clear hc
      have hg := getF (List.getElem?_eq_getElem hlt2)
      have htk : p.funs.take (k + 1) = p.funs.take k ++ [p.funs[k]] := List.take_succ_eq_append_getElem hlt2
      have hfk := hfn _ (List.getElem_mem hlt2)
      have hle := prFs_take_len p.funs (k + 1)
      have hpk : prFs (p.funs.take (k + 1)) = prFs (p.funs.take k) ++ prF p.funs[k] := by rw [htk, prFs_snoc]
      rw [hpk, List.length_append] at hle
      generalize p.funs[k] = e at hg htk hfk hpk hle
      obtain ⟨nm, ps, ls, wd, bd⟩ := e
      simp only at hg hfk
      have hpa : prF ⟨nm, ps, ls, wd, bd⟩ = [102, 117, 110, 99, 32] ++ (nm ++ ([40] ++ (comma ps ++ ([41] ++ ((if wd then [32, 119, 111, 114, 100] else []) ++ ([32, 123, 10] ++ ((if ls.length = 0 then [] else [32, 32, 118, 97, 114, 32] ++ (comma ls ++ [59, 10])) ++ (prB 1 bd ++ [125, 10])))))))) := rfl
      rw [hpa] at hpk hle
      generalize hww : (if wd = true then ([32, 119, 111, 114, 100] : Str) else []) = ww at *
      generalize hll : (if ls.length = 0 then ([] : Str) else [32, 32, 118, 97, 114, 32] ++ (comma ls ++ [59, 10])) = ll at *
      simp only [List.length_append, List.length_cons, List.length_nil] at hle
      generalize hP : pv ++ prAs p.arrs ++ prFs (p.funs.take k) = P at *
      have hPl : P.length = pv.length + (prAs p.arrs).length + (prFs (p.funs.take k)).length := by rw [← hP, List.length_append, List.length_append]
      refine awp_skip ?_; try simp only [RR]
      refine awp_seq ?_
      refine awp_block ?_
      refine awp_seq_k fun K hK => ?_
      refine awp_region rfl ?_
      simp only [f1, f5, hb1, List.length_map, hg, RR, seval]
      refine awpN_intro fun b6 hn6 => ?_
      have nb6_b1 : b6 ≠ b1 := fun e => by rw [e] at hn6; simp only [hb1, RR, seval, reduceCtorEq] at hn6
      have nb1_b6 : b1 ≠ b6 := fun e => nb6_b1 e.symm
      simp only [f1, f5, hb1, nb6_b1, nb1_b6, List.length_map, hg, RR, seval]
      refine hK _ _ ?_; clear hK K
      have hcat14 : (P).length + 5 ≤ maxLen := by unfold maxLen; (try simp only [List.length_append, List.length_cons, List.length_nil]); omega
      have hcat15 : (P ++ [102, 117, 110, 99, 32]).length + (nm).length ≤ maxLen := by unfold maxLen; (try simp only [List.length_append, List.length_cons, List.length_nil]); omega
      have hcat16 : (P ++ [102, 117, 110, 99, 32] ++ nm).length + 1 ≤ maxLen := by unfold maxLen; (try simp only [List.length_append, List.length_cons, List.length_nil]); omega
      have hcat17 : (P ++ [102, 117, 110, 99, 32] ++ nm ++ [40]).length + (comma ps).length ≤ maxLen := by unfold maxLen; (try simp only [List.length_append, List.length_cons, List.length_nil]); omega
      have hcat18 : (P ++ [102, 117, 110, 99, 32] ++ nm ++ [40] ++ comma ps).length + 1 ≤ maxLen := by unfold maxLen; (try simp only [List.length_append, List.length_cons, List.length_nil]); omega
      refine awp_seq_k fun K hK => ?_
      refine awp_region_draw2 (fun x => x ≠ b1 ∧ x ≠ b6) [(0, 3), (1, 3), (2, 3), (3, 0), (4, 3), (5, 3), (6, 3), (7, 1), (8, 1), (9, 3), (10, 3), (11, 3)] [] draws (by kernel_rfl) rfl rfl ?_
      simp only [emitF, markOf, EM, f3, hb1, nb6_b1, nb1_b6, List.length_map, hg, hcat14, hcat15, hcat16, hcat17, hcat18, RR, seval]
      refine awpC_pure' (comma_con ps hfk.1 (by omega)) ?_
      simp only [emitF, markOf, EM, f3, hb1, nb6_b1, nb1_b6, List.length_map, hg, hcat14, hcat15, hcat16, hcat17, hcat18, RR, seval]
      refine hK _ _ ?_; clear hK K
      refine awp_seq ?_
      refine awp_seq_k fun K hK => ?_
      refine awp_region rfl ?_
      simp only [hb1, nb6_b1, nb1_b6, List.length_map, hg, hcat14, hcat15, hcat16, hcat17, hcat18, RR, seval]
      refine hK _ _ ?_; clear hK K
      refine awp_name fun F19 M19 hfr hH => ?_
      have g1 := hfr 1
      have g2 := hfr 2
      have g3 := hfr 3
      have g5 := hfr 5
      have g6 := hfr 6
      have g67 := hfr 67
      have gb1 := hH b1
      have gb6 := hH b6
      try simp only [f1, f2, f5, f3, hb1, nb6_b1, nb1_b6, List.length_map, hg, hcat14, hcat15, hcat16, hcat17, hcat18, RR, seval] at g1 g2 g3 g5 g6 g67 gb1 gb6
      have ag2 : agree [1, 2] F13 F19 := agree.same hfr (by repeat (first | exact ag2 | refine agree.upd rfl ?_))
      have e2_b1 := (hH b1).trans (by first | exact e2_b1 | (simp only [nb6_b1, nb1_b6, upd_app, seval]; first | done | exact e2_b1))
      have f1 := g1; clear g1
      have f2 := g2; clear g2
      have f3 := g3; clear g3
      have f5 := g5; clear g5
      have f6 := g6; clear g6
      have f67 := g67; clear g67
      have hb1 := gb1; clear gb1
      have hb6 := gb6; clear gb6
      clear hfr hH
      refine awp_cutP (fun fr M => agree [1, 2, 5, 6] F19 fr ∧ M b1 = M19 b1 ∧ M b6 = M19 b6 ∧ fr 3 = .str (P ++ [102, 117, 110, 99, 32] ++ nm ++ [40] ++ comma ps ++ [41] ++ ww)) (fun KC13 hKC13 => ?_) ?_
      · have agC13 := agree.refl [1, 2, 5, 6] F19
        have eC13_b1 : M19 b1 = M19 b1 := rfl
        have eC13_b6 : M19 b6 = M19 b6 := rfl
        refine awp_if _ (by first | rfl | exact f67) (fun hc13 => ?_) (fun hc13 => ?_)
        · have hcat20 : (P ++ [102, 117, 110, 99, 32] ++ nm ++ [40] ++ comma ps ++ [41]).length + 5 ≤ maxLen := by unfold maxLen; (try simp only [List.length_append, List.length_cons, List.length_nil]); omega
          refine awp_region rfl ?_
          simp only [f3, List.length_map, hg, hcat14, hcat15, hcat16, hcat17, hcat18, hcat20, RR, seval]
          refine hKC13 _ _ ⟨(by repeat (first | exact agC13 | refine agree.upd rfl ?_)), (by first | exact eC13_b1 | (simp only [nb6_b1, nb1_b6, upd_app, seval]; first | done | exact eC13_b1)), (by first | exact eC13_b6 | (simp only [nb6_b1, nb1_b6, upd_app, seval]; first | done | exact eC13_b6)), ?_⟩
          first | (rw [← hww, if_pos (by assumption)]; simp only [upd_app, seval]; done) | (rw [← hww, if_neg (by simp_all), List.append_nil]; exact f3)
        · refine awp_skip ?_; try simp only [RR]
          refine hKC13 _ _ ⟨(by repeat (first | exact agC13 | refine agree.upd rfl ?_)), (by first | exact eC13_b1 | (simp only [nb6_b1, nb1_b6, upd_app, seval]; first | done | exact eC13_b1)), (by first | exact eC13_b6 | (simp only [nb6_b1, nb1_b6, upd_app, seval]; first | done | exact eC13_b6)), ?_⟩
          first | (rw [← hww, if_pos (by assumption)]; simp only [upd_app, seval]; done) | (rw [← hww, if_neg (by simp_all), List.append_nil]; exact f3)
      rintro F21 M21 ⟨agx, gb1, gb6, f3⟩
      have f1 := (agx 1 rfl).trans f1
      have f2 := (agx 2 rfl).trans f2
      have f5 := (agx 5 rfl).trans f5
      have f6 := (agx 6 rfl).trans f6
      have hb1 := gb1.trans hb1
      have hb6 := gb6.trans hb6
      have ag2 : agree [1, 2] F13 F21 := agree.sub agx rfl ag2
      have e2_b1 := gb1.trans e2_b1
      clear agx
      clear gb1
      clear gb6
      simp only [RR, seval]
      have hcat22 : (P ++ [102, 117, 110, 99, 32] ++ nm ++ [40] ++ comma ps ++ [41] ++ ww).length + 3 ≤ maxLen := by unfold maxLen; (try simp only [List.length_append, List.length_cons, List.length_nil]); omega
      refine awp_seq_k fun K hK => ?_
      refine awp_region rfl ?_
      simp only [f3, List.length_map, hg, hcat14, hcat15, hcat16, hcat17, hcat18, hcat22, RR, seval]
      refine hK _ _ ?_; clear hK K
      refine awp_seq ?_
      refine awp_seq_k fun K hK => ?_
      refine awp_region rfl ?_
      simp only [f6, hb1, hb6, nb6_b1, nb1_b6, List.length_map, hg, hcat14, hcat15, hcat16, hcat17, hcat18, hcat22, RR, seval]
      refine hK _ _ ?_; clear hK K
      refine awp_name fun F23 M23 hfr hH => ?_
      have g1 := hfr 1
      have g2 := hfr 2
      have g3 := hfr 3
      have g5 := hfr 5
      have g6 := hfr 6
      have g75 := hfr 75
      have gb1 := hH b1
      have gb6 := hH b6
      try simp only [f1, f2, f5, f6, f3, hb1, hb6, nb6_b1, nb1_b6, List.length_map, hg, hcat14, hcat15, hcat16, hcat17, hcat18, hcat22, RR, seval] at g1 g2 g3 g5 g6 g75 gb1 gb6
      have ag2 : agree [1, 2] F13 F23 := agree.same hfr (by repeat (first | exact ag2 | refine agree.upd rfl ?_))
      have e2_b1 := (hH b1).trans (by first | exact e2_b1 | (simp only [nb6_b1, nb1_b6, upd_app, seval]; first | done | exact e2_b1))
      have f1 := g1; clear g1
      have f2 := g2; clear g2
      have f3 := g3; clear g3
      have f5 := g5; clear g5
      have f6 := g6; clear g6
      have f75 := g75; clear g75
      have hb1 := gb1; clear gb1
      have hb6 := gb6; clear gb6
      clear hfr hH
      refine awp_cutP (fun fr M => agree [1, 2, 5, 6] F23 fr ∧ M b1 = M23 b1 ∧ M b6 = M23 b6 ∧ fr 3 = .str (P ++ [102, 117, 110, 99, 32] ++ nm ++ [40] ++ comma ps ++ [41] ++ ww ++ [32, 123, 10] ++ ll)) (fun KC16 hKC16 => ?_) ?_
      · have agC16 := agree.refl [1, 2, 5, 6] F23
        have eC16_b1 : M23 b1 = M23 b1 := rfl
        have eC16_b6 : M23 b6 = M23 b6 := rfl
        refine awp_if _ (by first | rfl | exact f75) (fun hc16 => ?_) (fun hc16 => ?_)
        · have hul : ¬ ls.length = 0 := by have := of_decide_eq_true hc16; omega
          rw [if_neg hul] at hll
          rw [← hll] at hle
          simp only [List.length_append, List.length_cons, List.length_nil] at hle
          have hcat24 : (P ++ [102, 117, 110, 99, 32] ++ nm ++ [40] ++ comma ps ++ [41] ++ ww ++ [32, 123, 10]).length + 6 ≤ maxLen := by unfold maxLen; (try simp only [List.length_append, List.length_cons, List.length_nil]); omega
          have hcat25 : (P ++ [102, 117, 110, 99, 32] ++ nm ++ [40] ++ comma ps ++ [41] ++ ww ++ [32, 123, 10] ++ [32, 32, 118, 97, 114, 32]).length + (comma ls).length ≤ maxLen := by unfold maxLen; (try simp only [List.length_append, List.length_cons, List.length_nil]); omega
          have hcat26 : (P ++ [102, 117, 110, 99, 32] ++ nm ++ [40] ++ comma ps ++ [41] ++ ww ++ [32, 123, 10] ++ [32, 32, 118, 97, 114, 32] ++ comma ls).length + 2 ≤ maxLen := by unfold maxLen; (try simp only [List.length_append, List.length_cons, List.length_nil]); omega
          refine awp_region rfl ?_
          simp only [f3, f6, hb1, hb6, nb6_b1, nb1_b6, List.length_map, hg, hcat14, hcat15, hcat16, hcat17, hcat18, hcat22, hcat24, hcat25, hcat26, RR, seval]
          refine awpC_pure' (comma_con ls hfk.2.1 (by omega)) ?_
          simp only [f3, f6, hb1, hb6, nb6_b1, nb1_b6, List.length_map, hg, hcat14, hcat15, hcat16, hcat17, hcat18, hcat22, hcat24, hcat25, hcat26, RR, seval]
          refine hKC16 _ _ ⟨(by repeat (first | exact agC16 | refine agree.upd rfl ?_)), (by first | exact eC16_b1 | (simp only [nb6_b1, nb1_b6, upd_app, seval]; first | done | exact eC16_b1)), (by first | exact eC16_b6 | (simp only [nb6_b1, nb1_b6, upd_app, seval]; first | done | exact eC16_b6)), ?_⟩
          first | (rw [← hll, List.append_nil]; exact f3) | (rw [← hll]; simp only [upd_app, seval, List.append_assoc, List.cons_append, List.nil_append]; done)
        · have hul : ls.length = 0 := by have := of_decide_eq_false hc16; omega
          rw [if_pos hul] at hll
          refine awp_skip ?_; try simp only [RR]
          refine hKC16 _ _ ⟨(by repeat (first | exact agC16 | refine agree.upd rfl ?_)), (by first | exact eC16_b1 | (simp only [nb6_b1, nb1_b6, upd_app, seval]; first | done | exact eC16_b1)), (by first | exact eC16_b6 | (simp only [nb6_b1, nb1_b6, upd_app, seval]; first | done | exact eC16_b6)), ?_⟩
          first | (rw [← hll, List.append_nil]; exact f3) | (rw [← hll]; simp only [upd_app, seval, List.append_assoc, List.cons_append, List.nil_append]; done)
      rintro F27 M27 ⟨agx, gb1, gb6, f3⟩
      have f1 := (agx 1 rfl).trans f1
      have f2 := (agx 2 rfl).trans f2
      have f5 := (agx 5 rfl).trans f5
      have f6 := (agx 6 rfl).trans f6
      have hb1 := gb1.trans hb1
      have hb6 := gb6.trans hb6
      have ag2 : agree [1, 2] F13 F27 := agree.sub agx rfl ag2
      have e2_b1 := gb1.trans e2_b1
      clear agx
      clear gb1
      clear gb6
      simp only [RR, seval]
      have hcat28 : (P ++ [102, 117, 110, 99, 32] ++ nm ++ [40] ++ comma ps ++ [41] ++ ww ++ [32, 123, 10] ++ ll).length + (prB 1 bd).length ≤ maxLen := by unfold maxLen; (try simp only [List.length_append, List.length_cons, List.length_nil]); omega
      have hcat29 : (P ++ [102, 117, 110, 99, 32] ++ nm ++ [40] ++ comma ps ++ [41] ++ ww ++ [32, 123, 10] ++ ll ++ prB 1 bd).length + 2 ≤ maxLen := by unfold maxLen; (try simp only [List.length_append, List.length_cons, List.length_nil]); omega
      refine awp_region rfl ?_
      simp only [f6, f3, hb1, hb6, nb6_b1, nb1_b6, List.length_map, hg, hcat14, hcat15, hcat16, hcat17, hcat18, hcat22, hcat28, hcat29, RR, seval]
      refine awpC_pure' (hfk.2.2) ?_
      simp only [f6, f3, hb1, hb6, nb6_b1, nb1_b6, List.length_map, hg, hcat14, hcat15, hcat16, hcat17, hcat18, hcat22, hcat28, hcat29, RR, seval]
      refine awp_region rfl ?_
      simp only [f5, List.length_map, hg, hcat14, hcat15, hcat16, hcat17, hcat18, hcat22, hcat28, hcat29, RR, seval]
      try rw [IntWalk.i64_in _ (by omega)]
      refine hK2 _ _ hlt2 ⟨by first | rfl | (simp only [upd_app, seval]; rfl), (by first | exact e2_b1 | (simp only [nb6_b1, nb1_b6, upd_app, seval]; first | done | exact e2_b1)), by rw [hpk, ← List.append_assoc, hP]; first | rfl | simp only [upd_app, seval, List.append_assoc, List.cons_append, List.nil_append]⟩ (by repeat (first | exact ag2 | refine agree.upd rfl ?_))
    · have hkn2 : k = p.funs.length := by have := of_decide_eq_false hc; omega
      clear hc
      rw [hkn2, List.take_length] at f3
      refine awp_exit ?_; simp only [RR, seval]
      refine awp_seq_k fun K hK => ?_
      refine awp_region rfl ?_
      simp only [f3, List.length_map, RR, seval]
      refine hK _ _ ?_; clear hK K
      refine awp_ret ?_; simp only [bodyQ, aresult, ares, f2, List.length_map, RR, seval]
      refine Gives.pure ?_
      rw [List.append_assoc]
end Go.Proofs.YtgcncdjnipfolaaDoor
