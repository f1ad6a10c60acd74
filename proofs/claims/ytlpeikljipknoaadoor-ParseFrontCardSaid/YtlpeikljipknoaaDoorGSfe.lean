/- Chapter 15: is a program small? -/
import Derived.Test.YtlpeikljipknoaaDoorGAw
set_option linter.unusedSimpArgs false
set_option linter.unusedVariables false
set_option maxRecDepth 10000
namespace Go.Al
def goL {α : Type} (g : α → Int → Int) : List α → Int → Int
  | [], x => x
  | a :: l, x => if x ≤ 0 then x else goL g l (g a x)
theorem goL_no {α : Type} (g : α → Int → Int) (l : List α) {x : Int} (h : x ≤ 0) : goL g l x = x := by
  cases l with
  | nil => rfl
  | cons a l => rw [goL, if_pos h]
theorem goL_step {α : Type} {g : α → Int → Int} {l : List α} {k : Nat} (hk : k < l.length) {x : Int} (h : 0 < x) : goL g (l.drop k) x = goL g (l.drop (k + 1)) (g l[k] x) := by
  rw [List.drop_eq_getElem_cons hk, goL, if_neg (by omega)]
theorem goL_le {α : Type} {g : α → Int → Int} : ∀ (l : List α) (x : Int), (∀ a ∈ l, ∀ y, 0 < y → g a y ≤ y) → goL g l x ≤ x
  | [], x, _ => Int.le_refl _
  | a :: l, x, h => by
    rw [goL]
    split
    · exact Int.le_refl _
    · have h1 := h a (List.mem_cons_self) x (by omega)
      have h2 := goL_le l (g a x) fun b hb => h b (List.mem_cons_of_mem _ hb)
      omega
theorem goL_sz {α : Type} {g : α → Int → Int} {z : α → Nat} : ∀ (l : List α) (x : Int), (∀ a ∈ l, ∀ y, 0 < y → 0 < g a y → g a y + z a ≤ y) → 0 < goL g l x → goL g l x + (l.map z).sum ≤ x
  | [], x, _, hp => by simp [goL]
  | a :: l, x, h, hp => by
    rw [goL] at hp ⊢
    split at hp
    · omega
    · rename_i hx
      rw [if_neg hx]
      have h2 := goL_sz l (g a x) (fun b hb => h b (List.mem_cons_of_mem _ hb)) hp
      have h1 := h a (List.mem_cons_self) x (by omega) (by
        rcases Int.lt_or_le 0 (g a x) with h3 | h3
        · exact h3
        · rw [goL_no g l h3] at hp; omega)
      simp only [List.map_cons, List.sum_cons]
      omega
def lvE : Nat → List Ex → Int → Int
  | 0, _, _ => 0
  | d + 1, l, x => goL (fun e y => lvE d e.kids y) l (x - l.length)
theorem lvE_le : ∀ (d : Nat) (l : List Ex) (x : Int), 0 < x → lvE d l x ≤ x
  | 0, l, x, h => by rw [lvE]; omega
  | d + 1, l, x, h => by
    rw [lvE]
    have := goL_le (g := fun e y => lvE d e.kids y) l (x - l.length) fun a _ y hy => lvE_le d a.kids y hy
    omega
theorem sumE : ∀ l : List Ex, l.length + (l.map fun e => szE e.kids).sum = szE l
  | [] => rfl
  | e :: l => by have := sumE l; have := e.sz_eq; simp only [List.length_cons, List.map_cons, List.sum_cons, szE]; omega
theorem lvE_sz : ∀ (d : Nat) (l : List Ex) (x : Int), 0 < lvE d l x → lvE d l x + szE l ≤ x
  | 0, l, x, h => by rw [lvE] at h; omega
  | d + 1, l, x, h => by
    rw [lvE] at h ⊢
    have := goL_sz (g := fun e y => lvE d e.kids y) (z := fun e => szE e.kids) l (x - l.length) (fun a _ y _ hp => lvE_sz d a.kids y hp) h
    have := sumE l
    omega
def lvS : Nat → List Sm → Int → Int
  | 0, _, _ => 0
  | d + 1, l, x => goL (fun s y => if 0 < lvE d s.es y then if 0 < lvS d s.thn (lvE d s.es y) then lvS d s.els (lvS d s.thn (lvE d s.es y)) else lvS d s.thn (lvE d s.es y) else lvE d s.es y) l (x - l.length)
theorem lvS_le : ∀ (d : Nat) (l : List Sm) (x : Int), 0 < x → lvS d l x ≤ x
  | 0, l, x, h => by rw [lvS]; omega
  | d + 1, l, x, h => by
    rw [lvS]
    have := goL_le (g := fun s y => if 0 < lvE d s.es y then if 0 < lvS d s.thn (lvE d s.es y) then lvS d s.els (lvS d s.thn (lvE d s.es y)) else lvS d s.thn (lvE d s.es y) else lvE d s.es y) l (x - l.length) fun a _ y hy => by
      have h1 := lvE_le d a.es y hy
      split
      · rename_i h2
        have h3 := lvS_le d a.thn _ h2
        split
        · rename_i h4
          have h5 := lvS_le d a.els _ h4
          omega
        · omega
      · omega
    omega
theorem sumS : ∀ l : List Sm, l.length + (l.map fun s => szE s.es + szS s.thn + szS s.els).sum = szS l
  | [] => rfl
  | e :: l => by have := sumS l; have := e.sz_eq; simp only [List.length_cons, List.map_cons, List.sum_cons, szS]; omega
theorem lvS_sz : ∀ (d : Nat) (l : List Sm) (x : Int), 0 < lvS d l x → lvS d l x + szS l ≤ x
  | 0, l, x, h => by rw [lvS] at h; omega
  | d + 1, l, x, h => by
    rw [lvS] at h ⊢
    have := goL_sz (z := fun s => szE s.es + szS s.thn + szS s.els) l (x - l.length) (fun a _ y _ hp => by
      split at hp
      · rename_i h1
        rw [if_pos h1]
        have g1 := lvE_sz d a.es y h1
        split at hp
        · rename_i h2
          rw [if_pos h2]
          have g2 := lvS_sz d a.thn _ h2
          have g3 := lvS_sz d a.els _ hp
          omega
        · omega
      · omega) h
    have := sumS l
    omega
def lvF (f : Fu) (y : Int) : Int := if 0 < y - f.params.length - f.locs.length then lvS 40 f.body (y - f.params.length - f.locs.length) else y - f.params.length - f.locs.length
def fewQ (p : Pg) (most : Int) : Bool := decide (0 < goL lvF p.funs (most - p.vars.length - p.arrs.length - p.funs.length))
theorem lvF_le (f : Fu) (y : Int) : lvF f y ≤ y := by
  unfold lvF
  split
  · have := lvS_le 40 f.body _ ‹_›; omega
  · omega
theorem lvF_sz (f : Fu) (y : Int) (h : 0 < lvF f y) : lvF f y + ((f.params.length + f.locs.length + szS f.body : Nat) : Int) ≤ y := by
  unfold lvF at h ⊢
  split at h
  · rename_i h1
    rw [if_pos h1]
    have := lvS_sz 40 f.body _ h
    omega
  · omega
theorem sum_mem {l : List Fu} {f : Fu} {z : Fu → Nat} (h : f ∈ l) : z f ≤ (l.map z).sum := by
  induction l with
  | nil => cases h
  | cons g l ih =>
    simp only [List.map_cons, List.sum_cons]
    rcases List.mem_cons.1 h with rfl | h
    · omega
    · have := ih h; omega
theorem fewQ_sz {p : Pg} {m : Nat} (h : fewQ p m = true) : p.vars.length ≤ m ∧ p.arrs.length ≤ m ∧ p.funs.length ≤ m ∧ ∀ f ∈ p.funs, f.params.length ≤ m ∧ f.locs.length ≤ m ∧ szS f.body ≤ m := by
  have h := of_decide_eq_true h
  have hs := goL_sz (z := fun f : Fu => f.params.length + f.locs.length + szS f.body) p.funs _ (fun f _ y _ hp => lvF_sz f y hp) h
  refine ⟨by omega, by omega, by omega, fun f hf => ?_⟩
  have := sum_mem (z := fun f : Fu => f.params.length + f.locs.length + szS f.body) hf
  omega
structure Lim (p : Pg) : Prop where
  v : p.vars.length ≤ 140737488355328
  a : p.arrs.length ≤ 140737488355328
  f : p.funs.length ≤ 140737488355328
  fs : ∀ f ∈ p.funs, f.params.length ≤ 140737488355328 ∧ f.locs.length ≤ 140737488355328
end Go.Al
namespace Go.Proofs.YtlpeikljipknoaaDoor
open Go.Al
theorem exprs5_con (d : Nat) : d ≤ 40 → ∀ (l : List Ex) (left : Int), okE l → 1 ≤ left → left ≤ 1000000 → PCon env 95 [.isl 5 (l.map Ex.row), .int .i64 left, .int .i64 (d : Nat)] (.int .i64 (lvE d l left)) := by
  induction d with
  | zero =>
    intro _ l left ho h1 h2
    have z0 : decide (((0 : Nat) : Int) = 0) = true := rfl
    refine con_of 34 [.tmp 6] Tryd.func95 rfl rfl rfl rfl ?_
    refine awp_seq_k fun K hK => ?_
    refine awp_region rfl ?_
    simp only [z0, RR, seval]
    refine hK _ _ ?_; clear hK K
    refine awp_seq ?_
    refine awp_seq_k fun K hK => ?_
    refine awp_region rfl ?_
    simp only [z0, RR, seval]
    refine hK _ _ ?_; clear hK K
    refine awp_if true rfl (fun _ => ?_) (fun hc => by cases hc)
    refine awp_seq_k fun K hK => ?_
    refine awp_region rfl ?_
    simp only [z0, RR, seval]
    refine hK _ _ ?_; clear hK K
    refine awp_ret ?_; simp only [bodyQ, aresult, ares, z0, RR, seval]
    refine Gives.pure ?_
    rfl
  | succ d ih =>
    intro hd l left ho h1 h2
    have hfit : l.length ≤ 9223372036854775807 := ho.fit
    have z0 : decide (((d + 1 : Nat) : Int) = 0) = false := decide_eq_false (by omega)
    have z1 : IntKind.wrap .i64 (left - (l.length : Int)) = left - (l.length : Int) := IntWalk.i64_in _ (by omega)
    have z2 : IntKind.wrap .i64 (((d + 1 : Nat) : Int) - 1) = ((d : Nat) : Int) := by rw [IntWalk.i64_in _ (by omega)]; omega
    generalize hr : lvE (d + 1) l left = res
    rw [lvE] at hr
    generalize hg : (fun (e : Ex) y => lvE d e.kids y) = g at hr
    refine con_of 34 [.tmp 6] Tryd.func95 rfl rfl rfl rfl ?_
    refine awp_seq_k fun K hK => ?_
    refine awp_region rfl ?_
    simp only [List.length_map, z0, z1, z2, RR, seval]
    refine hK _ _ ?_; clear hK K
    refine awp_seq ?_
    refine awp_seq_k fun K hK => ?_
    refine awp_region rfl ?_
    simp only [List.length_map, z0, z1, z2, RR, seval]
    refine hK _ _ ?_; clear hK K
    refine awp_if false rfl (fun hc => by cases hc) (fun _ => ?_)
    refine awp_skip ?_; try simp only [RR]
    refine awp_seq_k fun K hK => ?_
    refine awp_region rfl ?_
    simp only [List.length_map, z0, z1, z2, RR, seval]
    refine hK _ _ ?_; clear hK K
    refine awp_seq ?_
    refine awp_seq_k fun K hK => ?_
    refine awp_region rfl ?_
    simp only [List.length_map, z0, z1, z2, RR, seval]
    refine hK _ _ ?_; clear hK K
    refine awp_name fun F1 M1 hfr hH => ?_
    have g0 := hfr 0
    have g1 := hfr 1
    have g2 := hfr 2
    have g6 := hfr 6
    have g7 := hfr 7
    try simp only [List.length_map, z0, z1, z2, RR, seval] at g0 g1 g2 g6 g7
    have f0 := g0; clear g0
    have f1 := g1; clear g1
    have f2 := g2; clear g2
    have f6 := g6; clear g6
    have f7 := g7; clear g7
    clear hfr hH
    refine awp_block ?_
    refine awp_while [0, 2, 6] (l.length) (fun m fr M => (∃ (k : Nat) (x : Int), m = l.length - k ∧ k ≤ l.length ∧ fr 1 = .int .i64 x ∧ fr 7 = .int .i64 k ∧ goL g (l.drop k) x = res ∧ x ≤ left - l.length)) ⟨0, _, rfl, Nat.zero_le _, f1, f7, hr, Int.le_refl _⟩ ?_
    rintro m F2 M2 ⟨k, x, rfl, hk, f1, f7, hr, hx⟩ agx K0 hK0
    have f0 := (agx 0 rfl).trans f0
    have f2 := (agx 2 rfl).trans f2
    have f6 := (agx 6 rfl).trans f6
    have ag0 := agree.refl [0, 2, 6] F2
    clear agx
    all_goals
      refine awp_seq ?_
      refine awp_seq_k fun K hK => ?_
      refine awp_region rfl ?_
      simp only [f0, f1, f7, List.length_map, z0, z1, z2, RR, seval]
      repeat' ((first | refine awpG_splitN (fun h => ?_) (fun h => ?_) | refine awpG_split (fun h => ?_) (fun h => ?_)) <;> simp only [h, f0, f2, f6, f1, f7, List.length_map, z0, z1, z2, RR, seval])
      all_goals
        refine hK _ _ ?_; clear hK K
        refine awp_if _ rfl (fun hc => ?_) (fun hc => ?_)
        · try (cases hc; done)
          all_goals
            have hw0 := hc; clear hc
            have hlt : k < l.length := by have := of_decide_eq_true h; omega
            have hx0 : 0 < x := of_decide_eq_true hw0
            have hge := getE (List.getElem?_eq_getElem hlt)
            have hoe := (ho.all _ (List.getElem_mem hlt)).kids
            rw [goL_step hlt hx0, ← hg] at hr
            simp only at hr
            rw [hg] at hr
            generalize l[k] = e at hge hoe hr
            have hle := lvE_le d e.kids x hx0
            have hw1 := i64_inc (n := k) (by omega)
            refine awp_skip ?_; try simp only [RR]
            refine awp_seq ?_
            refine awp_block ?_
            refine awp_region rfl ?_
            simp only [f0, f2, f1, f7, List.length_map, z0, z1, z2, hge, hw1, RR, seval]
            refine awpC_pure' (ih (by omega) e.kids x hoe (by omega) (by omega)) ?_
            simp only [f0, f2, f1, f7, List.length_map, z0, z1, z2, hge, hw1, RR, seval]
            refine awp_region rfl ?_
            simp only [f7, List.length_map, z0, z1, z2, hge, hw1, RR, seval]
            try rw [IntWalk.i64_in _ (by omega)]
            refine hK0 (l.length - (k + 1)) _ _ (by omega) ⟨k + 1, _, rfl, hlt, rfl, rfl, hr, by omega⟩ (by repeat (first | exact ag0 | refine agree.upd rfl ?_))
        · try (cases hc; done)
          all_goals
            have hw0 := hc; clear hc
            have hend : x = res := by
              first
                | (have hx0 := of_decide_eq_false hw0; rw [goL_no g _ (by omega)] at hr; exact hr)
                | (have hk2 := of_decide_eq_false h; rw [List.drop_eq_nil_of_le (by omega)] at hr; exact hr)
            refine awp_exit ?_; simp only [RR, seval]
            refine awp_seq_k fun K hK => ?_
            refine awp_region rfl ?_
            simp only [f1, List.length_map, z0, z1, z2, RR, seval]
            refine hK _ _ ?_; clear hK K
            refine awp_ret ?_; simp only [bodyQ, aresult, ares, f6, List.length_map, z0, z1, z2, RR, seval]
            refine Gives.pure ?_
            rw [hend]
theorem stmts5_con (d : Nat) : d ≤ 40 → ∀ (l : List Sm) (left : Int), okS l → 1 ≤ left → left ≤ 1000000 → PCon env 68 [.isl 5 (l.map Sm.row), .int .i64 left, .int .i64 (d : Nat)] (.int .i64 (lvS d l left)) := by
  induction d with
  | zero =>
    intro _ l left ho h1 h2
    have z0 : decide (((0 : Nat) : Int) = 0) = true := rfl
    refine con_of 56 [.tmp 6] Tryd.func68 rfl rfl rfl rfl ?_
    refine awp_seq_k fun K hK => ?_
    refine awp_region rfl ?_
    simp only [z0, RR, seval]
    refine hK _ _ ?_; clear hK K
    refine awp_seq ?_
    refine awp_seq_k fun K hK => ?_
    refine awp_region rfl ?_
    simp only [z0, RR, seval]
    refine hK _ _ ?_; clear hK K
    refine awp_if true rfl (fun _ => ?_) (fun hc => by cases hc)
    refine awp_seq_k fun K hK => ?_
    refine awp_region rfl ?_
    simp only [z0, RR, seval]
    refine hK _ _ ?_; clear hK K
    refine awp_ret ?_; simp only [bodyQ, aresult, ares, z0, RR, seval]
    refine Gives.pure ?_
    rfl
  | succ d ih =>
    intro hd l left ho h1 h2
    have hfit : l.length ≤ 9223372036854775807 := ho.fit
    have z0 : decide (((d + 1 : Nat) : Int) = 0) = false := decide_eq_false (by omega)
    have z1 : IntKind.wrap .i64 (left - (l.length : Int)) = left - (l.length : Int) := IntWalk.i64_in _ (by omega)
    have z2 : IntKind.wrap .i64 (((d + 1 : Nat) : Int) - 1) = ((d : Nat) : Int) := by rw [IntWalk.i64_in _ (by omega)]; omega
    generalize hr : lvS (d + 1) l left = res
    rw [lvS] at hr
    generalize hg : (fun (s : Sm) y => if 0 < lvE d s.es y then if 0 < lvS d s.thn (lvE d s.es y) then lvS d s.els (lvS d s.thn (lvE d s.es y)) else lvS d s.thn (lvE d s.es y) else lvE d s.es y) = g at hr
    refine con_of 56 [.tmp 6] Tryd.func68 rfl rfl rfl rfl ?_
    refine awp_seq_k fun K hK => ?_
    refine awp_region rfl ?_
    simp only [List.length_map, z0, z1, z2, RR, seval]
    refine hK _ _ ?_; clear hK K
    refine awp_seq ?_
    refine awp_seq_k fun K hK => ?_
    refine awp_region rfl ?_
    simp only [List.length_map, z0, z1, z2, RR, seval]
    refine hK _ _ ?_; clear hK K
    refine awp_if false rfl (fun hc => by cases hc) (fun _ => ?_)
    refine awp_skip ?_; try simp only [RR]
    refine awp_seq_k fun K hK => ?_
    refine awp_region rfl ?_
    simp only [List.length_map, z0, z1, z2, RR, seval]
    refine hK _ _ ?_; clear hK K
    refine awp_seq ?_
    refine awp_seq_k fun K hK => ?_
    refine awp_region rfl ?_
    simp only [List.length_map, z0, z1, z2, RR, seval]
    refine hK _ _ ?_; clear hK K
    refine awp_name fun F1 M1 hfr hH => ?_
    have g0 := hfr 0
    have g1 := hfr 1
    have g2 := hfr 2
    have g6 := hfr 6
    have g7 := hfr 7
    try simp only [List.length_map, z0, z1, z2, RR, seval] at g0 g1 g2 g6 g7
    have f0 := g0; clear g0
    have f1 := g1; clear g1
    have f2 := g2; clear g2
    have f6 := g6; clear g6
    have f7 := g7; clear g7
    clear hfr hH
    refine awp_block ?_
    refine awp_while [0, 2, 6] (l.length) (fun m fr M => (∃ (k : Nat) (x : Int), m = l.length - k ∧ k ≤ l.length ∧ fr 1 = .int .i64 x ∧ fr 7 = .int .i64 k ∧ goL g (l.drop k) x = res ∧ x ≤ left - l.length)) ⟨0, _, rfl, Nat.zero_le _, f1, f7, hr, Int.le_refl _⟩ ?_
    rintro m F2 M2 ⟨k, x, rfl, hk, f1, f7, hr, hx⟩ agx K0 hK0
    have f0 := (agx 0 rfl).trans f0
    have f2 := (agx 2 rfl).trans f2
    have f6 := (agx 6 rfl).trans f6
    have ag0 := agree.refl [0, 2, 6] F2
    clear agx
    all_goals
      refine awp_seq ?_
      refine awp_seq_k fun K hK => ?_
      refine awp_region rfl ?_
      simp only [f0, f1, f7, List.length_map, z0, z1, z2, RR, seval]
      repeat' ((first | refine awpG_splitN (fun h => ?_) (fun h => ?_) | refine awpG_split (fun h => ?_) (fun h => ?_)) <;> simp only [h, f0, f2, f6, f1, f7, List.length_map, z0, z1, z2, RR, seval])
      all_goals
        refine hK _ _ ?_; clear hK K
        refine awp_if _ rfl (fun hc => ?_) (fun hc => ?_)
        · try (cases hc; done)
          all_goals
            have hw0 := hc; clear hc
            have hlt : k < l.length := by have := of_decide_eq_true h; omega
            have hx0 : 0 < x := of_decide_eq_true hw0
            have hge := getS (List.getElem?_eq_getElem hlt)
            have hoe := ho.all _ (List.getElem_mem hlt)
            rw [goL_step hlt hx0, ← hg] at hr
            simp only at hr
            rw [hg] at hr
            generalize l[k] = s at hge hoe hr
            have hle := lvE_le d s.es x hx0
            have hw1 := i64_inc (n := k) (by omega)
            generalize hy : lvE d s.es x = y at hr hle
            have c0 := exprs5_con d (by omega) s.es x hoe.es (by omega) (by omega)
            rw [hy] at c0
            refine awp_skip ?_; try simp only [RR]
            refine awp_seq ?_
            refine awp_block ?_
            refine awp_seq_k fun K hK => ?_
            refine awp_region rfl ?_
            simp only [f0, f2, f1, f7, List.length_map, z0, z1, z2, hge, hw1, RR, seval]
            refine awpC_pure' (c0) ?_
            simp only [f0, f2, f1, f7, List.length_map, z0, z1, z2, hge, hw1, RR, seval]
            refine hK _ _ ?_; clear hK K
            refine awp_seq ?_
            refine awp_seq_k fun K hK => ?_
            refine awp_region rfl ?_
            simp only [f1, List.length_map, z0, z1, z2, hge, hw1, RR, seval]
            refine hK _ _ ?_; clear hK K
            refine awp_name fun F3 M3 hfr hH => ?_
            have g0 := hfr 0
            have g1 := hfr 1
            have g2 := hfr 2
            have g6 := hfr 6
            have g7 := hfr 7
            have g34 := hfr 34
            try simp only [f0, f2, f6, f1, f7, List.length_map, z0, z1, z2, hge, hw1, RR, seval] at g0 g1 g2 g6 g7 g34
            have ag0 : agree [0, 2, 6] F2 F3 := agree.same hfr (by repeat (first | exact ag0 | refine agree.upd rfl ?_))
            have f0 := g0; clear g0
            have f1 := g1; clear g1
            have f2 := g2; clear g2
            have f6 := g6; clear g6
            have f7 := g7; clear g7
            have f34 := g34; clear g34
            clear hfr hH
            refine awp_cutP (fun fr M => agree [0, 2, 6, 7] F3 fr ∧ fr 1 = .int .i64 (if 0 < y then lvS d s.thn y else y)) (fun KC8 hKC8 => ?_) ?_
            · have agC8 := agree.refl [0, 2, 6, 7] F3
              refine awp_if _ (by first | rfl | exact f34) (fun hc8 => ?_) (fun hc8 => ?_)
              · refine awp_region rfl ?_
                simp only [f0, f1, f2, f7, List.length_map, z0, z1, z2, hge, hw1, RR, seval]
                refine awpC_pure' (ih (by omega) s.thn y hoe.thn (by have := of_decide_eq_true hc8; omega) (by omega)) ?_
                simp only [f0, f1, f2, f7, List.length_map, z0, z1, z2, hge, hw1, RR, seval]
                refine hKC8 _ _ ⟨(by repeat (first | exact agC8 | refine agree.upd rfl ?_)), ?_⟩
                first | (rw [if_pos (of_decide_eq_true hc8)]; first | rfl | exact f1) | (rw [if_neg (of_decide_eq_false hc8)]; first | rfl | exact f1)
              · refine awp_skip ?_; try simp only [RR]
                refine hKC8 _ _ ⟨(by repeat (first | exact agC8 | refine agree.upd rfl ?_)), ?_⟩
                first | (rw [if_pos (of_decide_eq_true hc8)]; first | rfl | exact f1) | (rw [if_neg (of_decide_eq_false hc8)]; first | rfl | exact f1)
            rintro F4 M4 ⟨agx, f1⟩
            have f0 := (agx 0 rfl).trans f0
            have f2 := (agx 2 rfl).trans f2
            have f6 := (agx 6 rfl).trans f6
            have f7 := (agx 7 rfl).trans f7
            have ag0 : agree [0, 2, 6] F2 F4 := agree.sub agx rfl ag0
            clear agx
            simp only [RR, seval]
            have hy2l : (if 0 < y then lvS d s.thn y else y) ≤ y := by
              split
              · exact lvS_le d s.thn y ‹_›
              · exact Int.le_refl _
            generalize hy2 : (if 0 < y then lvS d s.thn y else y) = y2 at f1 hy2l
            refine awp_seq_k fun K hK => ?_
            refine awp_region rfl ?_
            simp only [f1, List.length_map, z0, z1, z2, hge, hw1, RR, seval]
            refine hK _ _ ?_; clear hK K
            refine awp_if _ rfl (fun hc10 => ?_) (fun hc10 => ?_)
            · have hr := hr
              have := of_decide_eq_true hc10
              rw [if_pos (show 0 < y by omega)] at hr hy2
              rw [hy2, if_pos this] at hr
              have hle3 := lvS_le d s.els y2 this
              refine awp_region rfl ?_
              simp only [f0, f2, f7, f1, List.length_map, z0, z1, z2, hge, hw1, RR, seval]
              refine awpC_pure' (ih (by omega) s.els y2 hoe.els (by have := of_decide_eq_true hc10; omega) (by omega)) ?_
              simp only [f0, f2, f7, f1, List.length_map, z0, z1, z2, hge, hw1, RR, seval]
              refine awp_region rfl ?_
              simp only [f7, List.length_map, z0, z1, z2, hge, hw1, RR, seval]
              try rw [IntWalk.i64_in _ (by omega)]
              refine hK0 (l.length - (k + 1)) _ _ (by omega) ⟨k + 1, _, rfl, hlt, (by first | rfl | assumption), rfl, (by first | exact hr | exact hr2), by omega⟩ (by repeat (first | exact ag0 | refine agree.upd rfl ?_))
            · have hr := hr
              have hn10 := of_decide_eq_false hc10
              have hr2 : goL g (l.drop (k + 1)) y2 = res := by
                by_cases hy0 : 0 < y
                · rw [if_pos hy0] at hr hy2; rw [hy2, if_neg hn10] at hr; exact hr
                · rw [if_neg hy0] at hr hy2; rw [← hy2]; exact hr
              refine awp_skip ?_; try simp only [RR]
              refine awp_region rfl ?_
              simp only [f7, List.length_map, z0, z1, z2, hge, hw1, RR, seval]
              try rw [IntWalk.i64_in _ (by omega)]
              refine hK0 (l.length - (k + 1)) _ _ (by omega) ⟨k + 1, _, rfl, hlt, (by first | rfl | assumption), rfl, (by first | exact hr | exact hr2), by omega⟩ (by repeat (first | exact ag0 | refine agree.upd rfl ?_))
        · try (cases hc; done)
          all_goals
            have hw0 := hc; clear hc
            have hend : x = res := by
              first
                | (have hx0 := of_decide_eq_false hw0; rw [goL_no g _ (by omega)] at hr; exact hr)
                | (have hk2 := of_decide_eq_false h; rw [List.drop_eq_nil_of_le (by omega)] at hr; exact hr)
            refine awp_exit ?_; simp only [RR, seval]
            refine awp_seq_k fun K hK => ?_
            refine awp_region rfl ?_
            simp only [f1, List.length_map, z0, z1, z2, RR, seval]
            refine hK _ _ ?_; clear hK K
            refine awp_ret ?_; simp only [bodyQ, aresult, ares, f6, List.length_map, z0, z1, z2, RR, seval]
            refine Gives.pure ?_
            rw [hend]
end Go.Proofs.YtlpeikljipknoaaDoor
