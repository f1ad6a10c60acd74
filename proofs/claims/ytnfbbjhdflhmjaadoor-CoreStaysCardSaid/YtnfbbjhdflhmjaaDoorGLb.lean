/- Chapter 19, the judge's: has a core few parts? The program's: how great it is. -/
import Derived.Test.YtnfbbjhdflhmjaaDoorCx
import Derived.Test.YtnfbbjhdflhmjaaDoorAl4
import Derived.Test.YtnfbbjhdflhmjaaDoorSy2
set_option linter.unusedSimpArgs false
set_option linter.unusedVariables false
set_option maxRecDepth 10000
namespace Go.Al
theorem i64_incC {n : Nat} (h : n < 9223372036854775807) : IntKind.wrap .i64 ((n : Int) + 1) = ((n + 1 : Nat) : Int) := by rw [IntWalk.i64_in _ (by omega)]; omega
def goN {α : Type} (g : α → Int → Int) : List α → Int → Int
 | [], x => x
 | a :: l, x => if x < 0 then x else goN g l (g a x)
theorem goN_no {α : Type} (g : α → Int → Int) (l : List α) {x : Int} (h : x < 0) : goN g l x = x := by
 cases l with
 | nil => rfl
 | cons a l => rw [goN, if_pos h]
theorem goN_step {α : Type} {g : α → Int → Int} {l : List α} {k : Nat} (hk : k < l.length) {x : Int} (h : 0 ≤ x) : goN g (l.drop k) x = goN g (l.drop (k + 1)) (g l[k] x) := by
 rw [List.drop_eq_getElem_cons hk, goN, if_neg (by omega)]
theorem goN_bd {α : Type} {g : α → Int → Int} : ∀ (l : List α) (x : Int), (∀ a ∈ l, ∀ y, 0 ≤ y → -1 ≤ g a y ∧ g a y ≤ y) → -1 ≤ x → -1 ≤ goN g l x ∧ goN g l x ≤ x
 | [], x, _, h => ⟨h, Int.le_refl _⟩
 | a :: l, x, h, hx => by
   rw [goN]
   split
   ·exact ⟨hx, Int.le_refl _⟩
   ·have h1 := h a (List.mem_cons_self) x (by omega)
    have h2 := goN_bd l (g a x) (fun b hb => h b (List.mem_cons_of_mem _ hb)) h1.1
    omega
theorem goN_sz {α : Type} {g : α → Int → Int} {z : α → Nat} : ∀ (l : List α) (x : Int), (∀ a ∈ l, ∀ y, 0 ≤ y → 0 ≤ g a y → g a y + z a ≤ y) → 0 ≤ goN g l x → goN g l x + (l.map z).sum ≤ x
 | [], x, _, hp => by simp [goN]
 | a :: l, x, h, hp => by
   rw [goN] at hp ⊢
   split at hp
   ·omega
   ·rename_i hx
    rw [if_neg hx]
    have h2 := goN_sz l (g a x) (fun b hb => h b (List.mem_cons_of_mem _ hb)) hp
    have h1 := h a (List.mem_cons_self) x (by omega) (by
     rcases Int.lt_or_le (g a x) 0 with h3 | h3
     ·rw [goN_no g l h3] at hp; omega
     ·exact h3)
    simp only [List.map_cons, List.sum_cons]
    omega
def lcE : Nat → List CE → Int → Int
 | 0, _, _ => -1
 | d + 1, l, x => goN (fun e y => lcE d e.kids (y - 1)) l x
theorem lcE_bd : ∀ (d : Nat) (l : List CE) (x : Int), -1 ≤ x → -1 ≤ lcE d l x ∧ lcE d l x ≤ x
 | 0, l, x, h => by rw [lcE]; omega
 | d + 1, l, x, h => by
   rw [lcE]
   exact goN_bd l x (fun a _ y hy => by have := lcE_bd d a.kids (y - 1) (by omega); omega) h
theorem sumCE : ∀ l : List CE, (l.map fun e => 1 + szCE e.kids).sum = szCE l
 | [] => rfl
 | e :: l => by have := sumCE l; have := e.sz_eq; simp only [List.map_cons, List.sum_cons, szCE]; omega
theorem lcE_sz : ∀ (d : Nat) (l : List CE) (x : Int), 0 ≤ lcE d l x → lcE d l x + szCE l ≤ x
 | 0, l, x, h => by rw [lcE] at h; omega
 | d + 1, l, x, h => by
   rw [lcE] at h ⊢
   have := goN_sz (g := fun e y => lcE d e.kids (y - 1)) (z := fun e => 1 + szCE e.kids) l x (fun a _ y _ hp => by have := lcE_sz d a.kids (y - 1) hp; omega) h
   have := sumCE l
   omega
def lcS : Nat → List CS → Int → Int
 | 0, _, _ => -1
 | d + 1, l, x => goN (fun s y => lcS d s.els (lcS d s.thn (lcE d s.es (y - 1)))) l x
theorem lcS_bd : ∀ (d : Nat) (l : List CS) (x : Int), -1 ≤ x → -1 ≤ lcS d l x ∧ lcS d l x ≤ x
 | 0, l, x, h => by rw [lcS]; omega
 | d + 1, l, x, h => by
   rw [lcS]
   exact goN_bd l x (fun a _ y hy => by
    have h1 := lcE_bd d a.es (y - 1) (by omega)
    have h2 := lcS_bd d a.thn _ h1.1
    have h3 := lcS_bd d a.els _ h2.1
    omega) h
theorem sumCS : ∀ l : List CS, (l.map fun s => 1 + szCE s.es + szCS s.thn + szCS s.els).sum = szCS l
 | [] => rfl
 | e :: l => by have := sumCS l; have := e.sz_eq; simp only [List.map_cons, List.sum_cons, szCS]; omega
theorem lcS_neg (d : Nat) (l : List CS) {x : Int} (h : x < 0) (hx : -1 ≤ x) : lcS d l x < 0 := by have := lcS_bd d l x hx; omega
theorem lcS_sz : ∀ (d : Nat) (l : List CS) (x : Int), 0 ≤ lcS d l x → lcS d l x + szCS l ≤ x
 | 0, l, x, h => by rw [lcS] at h; omega
 | d + 1, l, x, h => by
   rw [lcS] at h ⊢
   have := goN_sz (g := fun s y => lcS d s.els (lcS d s.thn (lcE d s.es (y - 1)))) (z := fun s => 1 + szCE s.es + szCS s.thn + szCS s.els) l x (fun a _ y hy hp => by
    have b1 := lcE_bd d a.es (y - 1) (by omega)
    have b2 := lcS_bd d a.thn _ b1.1
    have g3 := lcS_sz d a.els _ hp
    have p2 : 0 ≤ lcS d a.thn (lcE d a.es (y - 1)) := by
     rcases Int.lt_or_le (lcS d a.thn (lcE d a.es (y - 1))) 0 with h3 | h3
     ·have := lcS_neg d a.els h3 b2.1; omega
     ·exact h3
    have g2 := lcS_sz d a.thn _ p2
    have p1 : 0 ≤ lcE d a.es (y - 1) := by
     rcases Int.lt_or_le (lcE d a.es (y - 1)) 0 with h3 | h3
     ·have := lcS_neg d a.thn h3 b1.1; omega
     ·exact h3
    have g1 := lcE_sz d a.es _ p1
    omega) h
   have := sumCS l
   omega
def fewC (c : Co) (most : Int) : Bool := decide (c.funs.length ≤ 100) && decide (0 ≤ c.funs.foldl (fun x f => lcS 41 f.body x) most)
theorem fold_bd : ∀ (l : List CF) (x : Int), -1 ≤ x → -1 ≤ l.foldl (fun x f => lcS 41 f.body x) x ∧ l.foldl (fun x f => lcS 41 f.body x) x ≤ x
 | [], x, h => ⟨h, Int.le_refl _⟩
 | f :: l, x, h => by
   have h1 := lcS_bd 41 f.body x h
   have h2 := fold_bd l _ h1.1
   simp only [List.foldl_cons]; omega
theorem fold_sz : ∀ (l : List CF) (x : Int), -1 ≤ x → 0 ≤ l.foldl (fun x f => lcS 41 f.body x) x → l.foldl (fun x f => lcS 41 f.body x) x + ((l.map fun f => szCS f.body).sum : Nat) ≤ x
 | [], x, _, h => by simp
 | f :: l, x, hx, h => by
   have h1 := lcS_bd 41 f.body x hx
   simp only [List.foldl_cons] at h ⊢
   have h2 := fold_sz l _ h1.1 h
   have h3 := fold_bd l _ h1.1
   have h4 := lcS_sz 41 f.body x (by omega)
   simp only [List.map_cons, List.sum_cons]
   omega
end Go.Al
namespace Go.Proofs.YtnfbbjhdflhmjaaDoor
open Go.Al
theorem leftExprs_con (d : Nat) : d ≤ 50 → ∀ (l : List CE) (left : Int), okCE l → -1 ≤ left → left ≤ 1000000 → PCon env 40 [.isl 6 (l.map CE.row), .int .i64 left, .int .i64 ((d : Nat) - 1)] (.int .i64 (lcE d l left)) := by
 induction d with
 | zero =>
   intro _ l left ho h1 h2
   have z0 : (((0 : Nat) : Int) - 1) < 0 := by decide
   generalize (((0 : Nat) : Int) - 1) = zz at z0
   refine con_of 31 [.tmp 6] Tryd.func40 rfl rfl rfl rfl ?_
   refine awp_seq_k fun K hK => ?_
   refine awp_region rfl ?_
   simp only [RR, seval]
   refine hK _ _ ?_; clear hK K
   refine awp_seq ?_
   refine awp_seq_k fun K hK => ?_
   refine awp_region rfl ?_
   simp only [z0, RR, seval]
   refine hK _ _ ?_; clear hK K
   refine awp_if true rfl (fun _ => ?_) (fun hc => by cases hc)
   refine awp_seq_k fun K hK => ?_
   refine awp_region rfl ?_
   simp only [RR, seval]
   refine hK _ _ ?_; clear hK K
   refine awp_ret ?_; simp only [bodyQ, aresult, ares, RR, seval]
   refine Gives.pure ?_
   rfl
 | succ d ih =>
   intro hd l left ho h1 h2
   have hfit : l.length ≤ 9223372036854775807 := ho.fit
   have ez : (((d + 1 : Nat) : Int) - 1) = (d : Nat) := by omega
   rw [ez]
   have z0 : ¬ ((d : Nat) : Int) < 0 := by omega
   have z2 : IntKind.wrap .i64 (((d : Nat) : Int) - 1) = ((d : Nat) : Int) - 1 := by rw [IntWalk.i64_in _ (by omega)]
   generalize hr : lcE (d + 1) l left = res
   rw [lcE] at hr
   generalize hg : (fun (e : CE) y => lcE d e.kids (y - 1)) = g at hr
   refine con_of 31 [.tmp 6] Tryd.func40 rfl rfl rfl rfl ?_
   refine awp_seq_k fun K hK => ?_
   refine awp_region rfl ?_
   simp only [RR, seval]
   refine hK _ _ ?_; clear hK K
   refine awp_seq ?_
   refine awp_seq_k fun K hK => ?_
   refine awp_region rfl ?_
   simp only [z0, RR, seval]
   refine hK _ _ ?_; clear hK K
   refine awp_if false rfl (fun hc => by cases hc) (fun _ => ?_)
   refine awp_skip ?_; try simp only [RR]
   refine awp_seq ?_
   refine awp_seq_k fun K hK => ?_
   refine awp_region rfl ?_
   simp only [RR, seval]
   refine hK _ _ ?_; clear hK K
   refine awp_name fun F1 M1 hfr hH => ?_
   have g0 := hfr 0
   have g1 := hfr 1
   have g2 := hfr 2
   have g6 := hfr 6
   have g7 := hfr 7
   try simp only [RR, seval] at g0 g1 g2 g6 g7
   have f0 := g0; clear g0
   have f1 := g1; clear g1
   have f2 := g2; clear g2
   have f6 := g6; clear g6
   have f7 := g7; clear g7
   clear hfr hH
   refine awp_block ?_
   refine awp_while [0, 2, 6] (l.length) (fun m fr M => (∃ (k : Nat) (x : Int), m = l.length - k ∧ k ≤ l.length ∧ fr 1 = .int .i64 x ∧ fr 7 = .int .i64 k ∧ goN g (l.drop k) x = res ∧ -1 ≤ x ∧ x ≤ left)) ⟨0, _, rfl, Nat.zero_le _, f1, f7, hr, h1, Int.le_refl _⟩ ?_
   rintro m F2 M2 ⟨k, x, rfl, hk, f1, f7, hr, hx1, hx⟩ agx K0 hK0
   have f0 := (agx 0 rfl).trans f0
   have f2 := (agx 2 rfl).trans f2
   have f6 := (agx 6 rfl).trans f6
   have ag0 := agree.refl [0, 2, 6] F2
   clear agx
   all_goals
    refine awp_seq ?_
    refine awp_seq_k fun K hK => ?_
    refine awp_region rfl ?_
    simp only [f0, f7, List.length_map, RR, seval]
    repeat' ((first | refine awpG_splitN (fun h => ?_) (fun h => ?_) | refine awpG_split (fun h => ?_) (fun h => ?_)) <;> simp only [h, f1, RR, seval])
    all_goals
     refine hK _ _ ?_; clear hK K
     refine awp_if _ rfl (fun hc => ?_) (fun hc => ?_)
     ·try (cases hc; done)
      all_goals
       have hw0 := hc; clear hc
       have hlt : k < l.length := by have := of_decide_eq_true h; omega
       have hx0 : 0 ≤ x := of_decide_eq_true hw0
       have hge := getCE (List.getElem?_eq_getElem hlt)
       have hoe := (ho.all _ (List.getElem_mem hlt)).kids
       rw [goN_step hlt hx0, ← hg] at hr
       simp only at hr
       rw [hg] at hr
       generalize l[k] = e at hge hoe hr
       have hle := lcE_bd d e.kids (x - 1) (by omega)
       have z3 : IntKind.wrap .i64 (x - 1) = x - 1 := IntWalk.i64_in _ (by omega)
       have hw1 := i64_incC (n := k) (by omega)
       refine awp_skip ?_; try simp only [RR]
       refine awp_seq ?_
       refine awp_block ?_
       refine awp_region rfl ?_
       simp only [f0, f2, f1, f7, z2, hge, z3, RR, seval]
       refine awpC_pure' (ih (by omega) e.kids (x - 1) hoe (by omega) (by omega)) ?_
       simp only [RR, seval]
       refine awp_region rfl ?_
       simp only [f7, hw1, RR, seval]
       try rw [IntWalk.i64_in _ (by omega)]
       refine hK0 (l.length - (k + 1)) _ _ (by omega) ⟨k + 1, _, rfl, hlt, rfl, rfl, hr, by omega, by omega⟩ (by repeat (first | exact ag0 | refine agree.upd rfl ?_))
     ·try (cases hc; done)
      all_goals
       have hw0 := hc; clear hc
       have hend : x = res := by
        first
         | (have hx0 := of_decide_eq_false hw0; rw [goN_no g _ (by omega)] at hr; exact hr)
         | (have hk2 := of_decide_eq_false h; rw [List.drop_eq_nil_of_le (by omega)] at hr; exact hr)
       refine awp_exit ?_; simp only [RR, seval]
       refine awp_seq_k fun K hK => ?_
       refine awp_region rfl ?_
       simp only [f1, RR, seval]
       refine hK _ _ ?_; clear hK K
       refine awp_ret ?_; simp only [bodyQ, aresult, ares, RR, seval]
       refine Gives.pure ?_
       rw [hend]
theorem leftStmts_con (d : Nat) : d ≤ 50 → ∀ (l : List CS) (left : Int), okCS l → -1 ≤ left → left ≤ 1000000 → PCon env 26 [.isl 6 (l.map CS.row), .int .i64 left, .int .i64 ((d : Nat) - 1)] (.int .i64 (lcS d l left)) := by
 induction d with
 | zero =>
   intro _ l left ho h1 h2
   have z0 : (((0 : Nat) : Int) - 1) < 0 := by decide
   generalize (((0 : Nat) : Int) - 1) = zz at z0
   refine con_of 49 [.tmp 6] Tryd.func26 rfl rfl rfl rfl ?_
   refine awp_seq_k fun K hK => ?_
   refine awp_region rfl ?_
   simp only [RR, seval]
   refine hK _ _ ?_; clear hK K
   refine awp_seq ?_
   refine awp_seq_k fun K hK => ?_
   refine awp_region rfl ?_
   simp only [z0, RR, seval]
   refine hK _ _ ?_; clear hK K
   refine awp_if true rfl (fun _ => ?_) (fun hc => by cases hc)
   refine awp_seq_k fun K hK => ?_
   refine awp_region rfl ?_
   simp only [RR, seval]
   refine hK _ _ ?_; clear hK K
   refine awp_ret ?_; simp only [bodyQ, aresult, ares, RR, seval]
   refine Gives.pure ?_
   rfl
 | succ d ih =>
   intro hd l left ho h1 h2
   have hfit : l.length ≤ 9223372036854775807 := ho.fit
   have ez : (((d + 1 : Nat) : Int) - 1) = (d : Nat) := by omega
   rw [ez]
   have z0 : ¬ ((d : Nat) : Int) < 0 := by omega
   have z2 : IntKind.wrap .i64 (((d : Nat) : Int) - 1) = ((d : Nat) : Int) - 1 := by rw [IntWalk.i64_in _ (by omega)]
   generalize hr : lcS (d + 1) l left = res
   rw [lcS] at hr
   generalize hg : (fun (s : CS) y => lcS d s.els (lcS d s.thn (lcE d s.es (y - 1)))) = g at hr
   refine con_of 49 [.tmp 6] Tryd.func26 rfl rfl rfl rfl ?_
   refine awp_seq_k fun K hK => ?_
   refine awp_region rfl ?_
   simp only [RR, seval]
   refine hK _ _ ?_; clear hK K
   refine awp_seq ?_
   refine awp_seq_k fun K hK => ?_
   refine awp_region rfl ?_
   simp only [z0, RR, seval]
   refine hK _ _ ?_; clear hK K
   refine awp_if false rfl (fun hc => by cases hc) (fun _ => ?_)
   refine awp_skip ?_; try simp only [RR]
   refine awp_seq ?_
   refine awp_seq_k fun K hK => ?_
   refine awp_region rfl ?_
   simp only [RR, seval]
   refine hK _ _ ?_; clear hK K
   refine awp_name fun F1 M1 hfr hH => ?_
   have g0 := hfr 0
   have g1 := hfr 1
   have g2 := hfr 2
   have g6 := hfr 6
   have g7 := hfr 7
   try simp only [RR, seval] at g0 g1 g2 g6 g7
   have f0 := g0; clear g0
   have f1 := g1; clear g1
   have f2 := g2; clear g2
   have f6 := g6; clear g6
   have f7 := g7; clear g7
   clear hfr hH
   refine awp_block ?_
   refine awp_while [0, 2, 6] (l.length) (fun m fr M => (∃ (k : Nat) (x : Int), m = l.length - k ∧ k ≤ l.length ∧ fr 1 = .int .i64 x ∧ fr 7 = .int .i64 k ∧ goN g (l.drop k) x = res ∧ -1 ≤ x ∧ x ≤ left)) ⟨0, _, rfl, Nat.zero_le _, f1, f7, hr, h1, Int.le_refl _⟩ ?_
   rintro m F2 M2 ⟨k, x, rfl, hk, f1, f7, hr, hx1, hx⟩ agx K0 hK0
   have f0 := (agx 0 rfl).trans f0
   have f2 := (agx 2 rfl).trans f2
   have f6 := (agx 6 rfl).trans f6
   have ag0 := agree.refl [0, 2, 6] F2
   clear agx
   all_goals
    refine awp_seq ?_
    refine awp_seq_k fun K hK => ?_
    refine awp_region rfl ?_
    simp only [f0, f7, List.length_map, RR, seval]
    repeat' ((first | refine awpG_splitN (fun h => ?_) (fun h => ?_) | refine awpG_split (fun h => ?_) (fun h => ?_)) <;> simp only [h, f1, RR, seval])
    all_goals
     refine hK _ _ ?_; clear hK K
     refine awp_if _ rfl (fun hc => ?_) (fun hc => ?_)
     ·try (cases hc; done)
      all_goals
       have hw0 := hc; clear hc
       have hlt : k < l.length := by have := of_decide_eq_true h; omega
       have hx0 : 0 ≤ x := of_decide_eq_true hw0
       have hge := getCS (List.getElem?_eq_getElem hlt)
       have hoe := ho.all _ (List.getElem_mem hlt)
       rw [goN_step hlt hx0, ← hg] at hr
       simp only at hr
       rw [hg] at hr
       generalize l[k] = s at hge hoe hr
       have b1 := lcE_bd d s.es (x - 1) (by omega)
       have b2 := lcS_bd d s.thn _ b1.1
       have b3 := lcS_bd d s.els _ b2.1
       have z3 : IntKind.wrap .i64 (x - 1) = x - 1 := IntWalk.i64_in _ (by omega)
       have hw1 := i64_incC (n := k) (by omega)
       refine awp_skip ?_; try simp only [RR]
       refine awp_seq ?_
       refine awp_block ?_
       refine awp_seq_k fun K hK => ?_
       refine awp_region rfl ?_
       simp only [f0, f2, f1, f7, z2, hge, z3, RR, seval]
       refine awpC_pure' (leftExprs_con d (by omega) s.es (x - 1) hoe.es (by omega) (by omega)) ?_
       simp only [RR, seval]
       refine hK _ _ ?_; clear hK K
       refine awp_seq_k fun K hK => ?_
       refine awp_region rfl ?_
       simp only [f0, f2, f7, z2, hge, RR, seval]
       refine awpC_pure' (ih (by omega) s.thn (lcE d s.es (x - 1)) hoe.thn (by omega) (by omega)) ?_
       simp only [RR, seval]
       refine hK _ _ ?_; clear hK K
       refine awp_region rfl ?_
       simp only [f0, f2, f7, z2, hge, RR, seval]
       refine awpC_pure' (ih (by omega) s.els (lcS d s.thn (lcE d s.es (x - 1))) hoe.els (by omega) (by omega)) ?_
       simp only [RR, seval]
       refine awp_region rfl ?_
       simp only [f7, hw1, RR, seval]
       try rw [IntWalk.i64_in _ (by omega)]
       refine hK0 (l.length - (k + 1)) _ _ (by omega) ⟨k + 1, _, rfl, hlt, rfl, rfl, hr, by omega, by omega⟩ (by repeat (first | exact ag0 | refine agree.upd rfl ?_))
     ·try (cases hc; done)
      all_goals
       have hw0 := hc; clear hc
       have hend : x = res := by
        first
         | (have hx0 := of_decide_eq_false hw0; rw [goN_no g _ (by omega)] at hr; exact hr)
         | (have hk2 := of_decide_eq_false h; rw [List.drop_eq_nil_of_le (by omega)] at hr; exact hr)
       refine awp_exit ?_; simp only [RR, seval]
       refine awp_seq_k fun K hK => ?_
       refine awp_region rfl ?_
       simp only [f1, RR, seval]
       refine hK _ _ ?_; clear hK K
       refine awp_ret ?_; simp only [bodyQ, aresult, ares, RR, seval]
       refine Gives.pure ?_
       rw [hend]
theorem fewC_con (c : Co) (hc : c.ok) (m : Nat) (hm : m ≤ 1000) : PCon env 13 [c.av, .int .i64 (m : Nat)] (.bool (fewC c m)) := by
 have hav : c.av = .agg [.int .i64 c.words, .isl 5 (c.funs.map CF.row)] := rfl
 rw [hav]
 have hfit : c.funs.length ≤ 9223372036854775807 := hc.fit
 have hfu := hc.funs
 unfold fewC
 generalize c.funs = fs at *
 by_cases h0 : fs.length ≤ 100
 rotate_left
 ·have z0 : (100 : Int) < (fs.length : Int) := by omega
  rw [decide_eq_false h0, Bool.false_and]
  refine con_of 29 [.tmp 4] Tryd.func13 rfl rfl rfl rfl ?_
  refine awp_seq_k fun K hK => ?_
  refine awp_region rfl ?_
  simp only [RR, seval]
  refine awpN_intro fun b2 hn2 => ?_
  simp only [RR, seval]
  refine hK _ _ ?_; clear hK K
  refine awp_seq ?_
  refine awp_seq_k fun K hK => ?_
  refine awp_region rfl ?_
  simp only [z0, List.length_map, RR, seval]
  refine hK _ _ ?_; clear hK K
  refine awp_if true rfl (fun _ => ?_) (fun hc => by cases hc)
  refine awp_seq_k fun K hK => ?_
  refine awp_region rfl ?_
  simp only [RR, seval]
  refine hK _ _ ?_; clear hK K
  refine awp_ret ?_; simp only [bodyQ, aresult, ares, RR, seval]
  refine Gives.pure ?_
  rfl
 have z0 : ¬ (100 : Int) < (fs.length : Int) := by omega
 rw [decide_eq_true h0, Bool.true_and]
 generalize hr : fs.foldl (fun x f => lcS 41 f.body x) (m : Int) = res
 refine con_of 29 [.tmp 4] Tryd.func13 rfl rfl rfl rfl ?_
 refine awp_seq_k fun K hK => ?_
 refine awp_region rfl ?_
 simp only [RR, seval]
 refine awpN_intro fun b2 hn2 => ?_
 simp only [RR, seval]
 refine hK _ _ ?_; clear hK K
 refine awp_seq ?_
 refine awp_seq_k fun K hK => ?_
 refine awp_region rfl ?_
 simp only [z0, List.length_map, RR, seval]
 refine hK _ _ ?_; clear hK K
 refine awp_if false rfl (fun hc => by cases hc) (fun _ => ?_)
 refine awp_skip ?_; try simp only [RR]
 refine awp_seq_k fun K hK => ?_
 refine awp_region rfl ?_
 simp only [RR, seval]
 refine hK _ _ ?_; clear hK K
 refine awp_seq ?_
 refine awp_seq_k fun K hK => ?_
 refine awp_region rfl ?_
 simp only [RR, seval]
 refine hK _ _ ?_; clear hK K
 refine awp_name fun F1 M1 hfr hH => ?_
 have g2 := hfr 2
 have g4 := hfr 4
 have g5 := hfr 5
 have g6 := hfr 6
 have gb2 := hH b2
 try simp only [RR, seval] at g2 g4 g5 g6 gb2
 have f2 := g2; clear g2
 have f4 := g4; clear g4
 have f5 := g5; clear g5
 have f6 := g6; clear g6
 have hb2 := gb2; clear gb2
 clear hfr hH
 refine awp_block ?_
 refine awp_each [2, 4] (fs.length) (fun k fr M => fr 6 = .int .i64 (k : Nat) ∧ M b2 = M1 b2 ∧ ∃ x : Int, fr 5 = .int .i64 x ∧ (fs.drop k).foldl (fun x f => lcS 41 f.body x) x = res ∧ -1 ≤ x ∧ x ≤ m) ⟨f6, rfl, _, f5, (by simpa using hr), by omega, Int.le_refl _⟩ ?_
 rintro k F2 M2 hk0 ⟨fx, gb2, ⟨x, f5, hr, hx1, hx⟩⟩ agx K0 hK0
 have f2 := (agx 2 rfl).trans f2
 have f4 := (agx 4 rfl).trans f4
 have f6 := fx; clear fx
 have hb2 := gb2.trans hb2
 have ag0 := agree.refl [2, 4] F2
 have e0_b2 := gb2; clear gb2
 clear agx
 refine awp_seq ?_
 refine awp_seq_k fun K hK => ?_
 refine awp_region rfl ?_
 simp only [f2, f6, hb2, List.length_map, RR, seval]
 refine hK _ _ ?_; clear hK K
 refine awp_if _ rfl (fun hc => ?_) (fun hc => ?_)
 ·have hlt0 : k < fs.length := by have := of_decide_eq_true hc; omega
  clear hc
  have hge := getCF (List.getElem?_eq_getElem hlt0)
  have hoe := (hfu _ (List.getElem_mem hlt0)).body
  rw [List.drop_eq_getElem_cons hlt0, List.foldl_cons] at hr
  generalize fs[k] = f at hge hoe hr
  have hb := lcS_bd 41 f.body x hx1
  refine awp_skip ?_; try simp only [RR]
  refine awp_seq ?_
  refine awp_block ?_
  refine awp_region rfl ?_
  simp only [f2, f6, f5, hb2, hge, RR, seval]
  refine awpC_pure' (leftStmts_con 41 (by omega) f.body x hoe hx1 (by omega)) ?_
  simp only [RR, seval]
  refine awp_region rfl ?_
  simp only [f6, RR, seval]
  try rw [IntWalk.i64_in _ (by omega)]
  refine hK0 _ _ hlt0 ⟨by first | rfl | (simp only [upd_app, seval]; rfl), (by first | exact e0_b2 | (simp only [upd_app, seval]; first | done | exact e0_b2)), _, rfl, hr, by omega, by omega⟩ (by repeat (first | exact ag0 | refine agree.upd rfl ?_))
 ·have hkn0 : k = fs.length := by have := of_decide_eq_false hc; omega
  clear hc
  rw [hkn0, List.drop_length] at hr
  have hr : x = res := hr
  subst hr
  refine awp_exit ?_; simp only [RR, seval]
  refine awp_seq_k fun K hK => ?_
  refine awp_region rfl ?_
  simp only [f5, RR, seval]
  refine hK _ _ ?_; clear hK K
  refine awp_ret ?_; simp only [bodyQ, aresult, ares, RR, seval]
  refine Gives.pure ?_
  rfl
end Go.Proofs.YtnfbbjhdflhmjaaDoor
