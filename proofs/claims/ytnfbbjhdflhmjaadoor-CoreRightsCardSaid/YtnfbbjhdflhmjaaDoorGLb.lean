/- Chapter 19, the judge's: has a core few parts? The program's: how great it is. -/
import Derived.Test.YtnfbbjhdflhmjaaDoorCx
import Derived.Test.YtnfbbjhdflhmjaaDoorAl4
import Derived.Test.YtnfbbjhdflhmjaaDoorSy2
set_option linter.unusedSimpArgs false
set_option linter.unusedVariables false
set_option maxRecDepth 10000
namespace Go.Al
theorem Fi {n : Nat} (h : n < 9223372036854775807) : IntKind.wrap .i64 ((n : Int) + 1) = ((n + 1 : Nat) : Int) := by rw [aR _ (by omega)]; omega
def Fo {α : Type} (g : α → Int → Int) : List α → Int → Int
 | [], x => x
 | a :: l, x => if x < 0 then x else Fo g l (g a x)
theorem Ix {α : Type} (g : α → Int → Int) (l : List α) {x : Int} (h : x < 0) : Fo g l x = x := by
 cases l with
 | nil => rfl
 | cons a l => rw [Fo, if_pos h]
theorem Fl {α : Type} {g : α → Int → Int} {l : List α} {k : Nat} (hk : k < l.length) {x : Int} (h : 0 ≤ x) : Fo g (l.drop k) x = Fo g (l.drop (k + 1)) (g l[k] x) := by
 rw [bK hk, Fo, if_neg (by omega)]
theorem Iy {α : Type} {g : α → Int → Int} : ∀ (l : List α) (x : Int), (∀ a ∈ l, ∀ y, 0 ≤ y → -1 ≤ g a y ∧ g a y ≤ y) → -1 ≤ x → -1 ≤ Fo g l x ∧ Fo g l x ≤ x
 | [], x, _, h => ⟨h, Int.le_refl _⟩
 | a :: l, x, h, hx => by
   rw [Fo]
   split
   ·exact ⟨hx, Int.le_refl _⟩
   have h1 := h a (List.mem_cons_self) x (by omega)
   have h2 := Iy l (g a x) (fun b hb => h b (List.mem_cons_of_mem _ hb)) h1.1
   omega
theorem Iw {α : Type} {g : α → Int → Int} {z : α → Nat} : ∀ (l : List α) (x : Int), (∀ a ∈ l, ∀ y, 0 ≤ y → 0 ≤ g a y → g a y + z a ≤ y) → 0 ≤ Fo g l x → Fo g l x + (l.map z).sum ≤ x
 | [], x, _, hp => by simp [Fo]
 | a :: l, x, h, hp => by
   rw [Fo] at hp ⊢
   split at hp
   ·omega
   rename_i hx
   rw [if_neg hx]
   have h2 := Iw l (g a x) (fun b hb => h b (List.mem_cons_of_mem _ hb)) hp
   have h1 := h a (List.mem_cons_self) x (by omega) (by
    rcases Int.lt_or_le (g a x) 0 with h3 | h3
    ·rw [Ix g l h3] at hp; omega
    exact h3)
   simp only [List.map_cons, List.sum_cons]
   omega
def wJ : Nat → List CE → Int → Int
 | 0, _, _ => -1
 | d + 1, l, x => Fo (fun e y => wJ d e.kids (y - 1)) l x
theorem wI : ∀ (d : Nat) (l : List CE) (x : Int), -1 ≤ x → -1 ≤ wJ d l x ∧ wJ d l x ≤ x
 | 0, l, x, h => by rw [wJ]; omega
 | d + 1, l, x, h => by
   rw [wJ]
   exact Iy l x (fun a _ y hy => by have := wI d a.kids (y - 1) (by omega); omega) h
theorem Wl : ∀ l : List CE, (l.map fun e => 1 + dM e.kids).sum = dM l
 | [] => rfl
 | e :: l => by have := Wl l; have := e.sz_eq; simp only [List.map_cons, List.sum_cons, dM]; omega
theorem Ri : ∀ (d : Nat) (l : List CE) (x : Int), 0 ≤ wJ d l x → wJ d l x + dM l ≤ x
 | 0, l, x, h => by rw [wJ] at h; omega
 | d + 1, l, x, h => by
   rw [wJ] at h ⊢
   have := Iw (g := fun e y => wJ d e.kids (y - 1)) (z := fun e => 1 + dM e.kids) l x (fun a _ y _ hp => by have := Ri d a.kids (y - 1) hp; omega) h
   have := Wl l
   omega
def sX : Nat → List CS → Int → Int
 | 0, _, _ => -1
 | d + 1, l, x => Fo (fun s y => sX d s.els (sX d s.thn (wJ d s.es (y - 1)))) l x
theorem nQ : ∀ (d : Nat) (l : List CS) (x : Int), -1 ≤ x → -1 ≤ sX d l x ∧ sX d l x ≤ x
 | 0, l, x, h => by rw [sX]; omega
 | d + 1, l, x, h => by
   rw [sX]
   exact Iy l x (fun a _ y hy => by
    have h1 := wI d a.es (y - 1) (by omega)
    have h2 := nQ d a.thn _ h1.1
    have h3 := nQ d a.els _ h2.1
    omega) h
theorem Wk : ∀ l : List CS, (l.map fun s => 1 + dM s.es + cP s.thn + cP s.els).sum = cP l
 | [] => rfl
 | e :: l => by have := Wk l; have := e.sz_eq; simp only [List.map_cons, List.sum_cons, cP]; omega
theorem Li (d : Nat) (l : List CS) {x : Int} (h : x < 0) (hx : -1 ≤ x) : sX d l x < 0 := by have := nQ d l x hx; omega
theorem Iq : ∀ (d : Nat) (l : List CS) (x : Int), 0 ≤ sX d l x → sX d l x + cP l ≤ x
 | 0, l, x, h => by rw [sX] at h; omega
 | d + 1, l, x, h => by
   rw [sX] at h ⊢
   have := Iw (g := fun s y => sX d s.els (sX d s.thn (wJ d s.es (y - 1)))) (z := fun s => 1 + dM s.es + cP s.thn + cP s.els) l x (fun a _ y hy hp => by
    have b1 := wI d a.es (y - 1) (by omega)
    have b2 := nQ d a.thn _ b1.1
    have g3 := Iq d a.els _ hp
    have p2 : 0 ≤ sX d a.thn (wJ d a.es (y - 1)) := by
     rcases Int.lt_or_le (sX d a.thn (wJ d a.es (y - 1))) 0 with h3 | h3
     ·have := Li d a.els h3 b2.1; omega
     exact h3
    have g2 := Iq d a.thn _ p2
    have p1 : 0 ≤ wJ d a.es (y - 1) := by
     rcases Int.lt_or_le (wJ d a.es (y - 1)) 0 with h3 | h3
     ·have := Li d a.thn h3 b1.1; omega
     exact h3
    have g1 := Ri d a.es _ p1
    omega) h
   have := Wk l
   omega
def wW (c : Co) (most : Int) : Bool := decide (c.funs.length ≤ 100) && decide (0 ≤ c.funs.foldl (fun x f => sX 41 f.body x) most)
theorem Lq : ∀ (l : List CF) (x : Int), -1 ≤ x → -1 ≤ l.foldl (fun x f => sX 41 f.body x) x ∧ l.foldl (fun x f => sX 41 f.body x) x ≤ x
 | [], x, h => ⟨h, Int.le_refl _⟩
 | f :: l, x, h => by
   have h1 := nQ 41 f.body x h
   have h2 := Lq l _ h1.1
   simp only [List.foldl_cons]; omega
theorem Cd : ∀ (l : List CF) (x : Int), -1 ≤ x → 0 ≤ l.foldl (fun x f => sX 41 f.body x) x → l.foldl (fun x f => sX 41 f.body x) x + ((l.map fun f => cP f.body).sum : Nat) ≤ x
 | [], x, _, h => by simp
 | f :: l, x, hx, h => by
   have h1 := nQ 41 f.body x hx
   simp only [List.foldl_cons] at h ⊢
   have h2 := Cd l _ h1.1 h
   have h3 := Lq l _ h1.1
   have h4 := Iq 41 f.body x (by omega)
   simp only [List.map_cons, List.sum_cons]
   omega
end Go.Al
namespace Go.Proofs.YtnfbbjhdflhmjaaDoor
open Go.Al
theorem zF (d : Nat) : d ≤ 50 → ∀ (l : List CE) (left : Int), lS l → -1 ≤ left → left ≤ 1000000 → dG cO 40 [.isl 6 (l.map CE.row), .int .i64 left, .int .i64 ((d : Nat) - 1)] (.int .i64 (wJ d l left)) := by
 induction d with
 | zero =>
   intro _ l left ho h1 h2
   have z0 : (((0 : Nat) : Int) - 1) < 0 := by decide
   generalize (((0 : Nat) : Int) - 1) = zz at z0
   refine bD 31 [.tmp 6] Tryd.func40 rfl rfl rfl rfl ?_
   refine aB fun K hK => ?_
   refine aA rfl ?_
   simp only [RR, seval]
   refine hK _ _ ?_; clear hK K
   refine aJ ?_
   refine aB fun K hK => ?_
   refine aA rfl ?_
   simp only [z0, RR, seval]
   refine hK _ _ ?_; clear hK K
   refine aI true rfl (fun _ => ?_) (fun hc => by cases hc)
   refine aB fun K hK => ?_
   refine aA rfl ?_
   simp only [RR, seval]
   refine hK _ _ ?_; clear hK K
   refine aP ?_; simp only [aV, aM, bE, RR, seval]
   refine aU.pure ?_
   rfl
 | succ d ih =>
   intro hd l left ho h1 h2
   have hfit : l.length ≤ 9223372036854775807 := ho.fit
   have ez : (((d + 1 : Nat) : Int) - 1) = (d : Nat) := by omega
   rw [ez]
   have z0 : ¬ ((d : Nat) : Int) < 0 := by omega
   have z2 : IntKind.wrap .i64 (((d : Nat) : Int) - 1) = ((d : Nat) : Int) - 1 := by rw [aR _ (by omega)]
   generalize hr : wJ (d + 1) l left = res
   rw [wJ] at hr
   generalize hg : (fun (e : CE) y => wJ d e.kids (y - 1)) = g at hr
   refine bD 31 [.tmp 6] Tryd.func40 rfl rfl rfl rfl ?_
   refine aB fun K hK => ?_
   refine aA rfl ?_
   simp only [RR, seval]
   refine hK _ _ ?_; clear hK K
   refine aJ ?_
   refine aB fun K hK => ?_
   refine aA rfl ?_
   simp only [z0, RR, seval]
   refine hK _ _ ?_; clear hK K
   refine aI false rfl (fun hc => by cases hc) (fun _ => ?_)
   refine aL ?_; try simp only [RR]
   refine aJ ?_
   refine aB fun K hK => ?_
   refine aA rfl ?_
   simp only [RR, seval]
   refine hK _ _ ?_; clear hK K
   refine bG fun F1 M1 hfr hH => ?_
   have g0 := hfr 0
   have g1 := hfr 1
   have g2 := hfr 2
   have g6 := hfr 6
   have g7 := hfr 7
   try simp only [RR, seval] at g0 g1 g2 g6 g7
   have f0 := g0; clear g0
   have f1 := g1; clear g1
   have f2 := g2; clear g2
   have f6 := g6; clear g6
   have f7 := g7; clear g7
   clear hfr hH
   refine aQ ?_
   refine iS [0, 2, 6] (l.length) (fun m fr M => (∃ (k : Nat) (x : Int), m = l.length - k ∧ k ≤ l.length ∧ fr 1 = .int .i64 x ∧ fr 7 = .int .i64 k ∧ Fo g (l.drop k) x = res ∧ -1 ≤ x ∧ x ≤ left)) ⟨0, _, rfl, Nat.zero_le _, f1, f7, hr, h1, Int.le_refl _⟩ ?_
   rintro m F2 M2 ⟨k, x, rfl, hk, f1, f7, hr, hx1, hx⟩ agx K0 hK0
   have f0 := (agx 0 rfl).trans f0
   have f2 := (agx 2 rfl).trans f2
   have f6 := (agx 6 rfl).trans f6
   have ag0 := aW.refl [0, 2, 6] F2
   clear agx
   all_goals
    refine aJ ?_
    refine aB fun K hK => ?_
    refine aA rfl ?_
    simp only [f0, f7, aD, RR, seval]
    repeat' ((first | refine aS (fun h => ?_) (fun h => ?_) | refine aT (fun h => ?_) (fun h => ?_)) <;> simp only [h, f1, RR, seval])
    all_goals
     refine hK _ _ ?_; clear hK K
     refine aI _ rfl (fun hc => ?_) (fun hc => ?_)
     ·try (cases hc; done)
      all_goals
       have hw0 := hc; clear hc
       have hlt : k < l.length := by have := aC h; omega
       have hx0 : 0 ≤ x := aC hw0
       have hge := jF (aH hlt)
       have hoe := (ho.all _ (bA hlt)).kids
       rw [Fl hlt hx0, ← hg] at hr
       simp only at hr
       rw [hg] at hr
       generalize l[k] = e at hge hoe hr
       have hle := wI d e.kids (x - 1) (by omega)
       have z3 : IntKind.wrap .i64 (x - 1) = x - 1 := aR _ (by omega)
       have hw1 := Fi (n := k) (by omega)
       refine aL ?_; try simp only [RR]
       refine aJ ?_
       refine aQ ?_
       refine aA rfl ?_
       simp only [f0, f2, f1, f7, z2, hge, z3, RR, seval]
       refine aO (ih (by omega) e.kids (x - 1) hoe (by omega) (by omega)) ?_
       simp only [RR, seval]
       refine aA rfl ?_
       simp only [f7, hw1, RR, seval]
       try rw [aR _ (by omega)]
       refine hK0 (l.length - (k + 1)) _ _ (by omega) ⟨k + 1, _, rfl, hlt, rfl, rfl, hr, by omega, by omega⟩ (by repeat (first | exact ag0 | refine aW.upd rfl ?_))
     try (cases hc; done)
     all_goals
      have hw0 := hc; clear hc
      have hend : x = res := by
       first
        | (have hx0 := aF hw0; rw [Ix g _ (by omega)] at hr; exact hr)
        | (have hk2 := aF h; rw [List.drop_eq_nil_of_le (by omega)] at hr; exact hr)
      refine bH ?_; simp only [RR, seval]
      refine aB fun K hK => ?_
      refine aA rfl ?_
      simp only [f1, RR, seval]
      refine hK _ _ ?_; clear hK K
      refine aP ?_; simp only [aV, aM, bE, RR, seval]
      refine aU.pure ?_
      rw [hend]
theorem zE (d : Nat) : d ≤ 50 → ∀ (l : List CS) (left : Int), oV l → -1 ≤ left → left ≤ 1000000 → dG cO 26 [.isl 6 (l.map CS.row), .int .i64 left, .int .i64 ((d : Nat) - 1)] (.int .i64 (sX d l left)) := by
 induction d with
 | zero =>
   intro _ l left ho h1 h2
   have z0 : (((0 : Nat) : Int) - 1) < 0 := by decide
   generalize (((0 : Nat) : Int) - 1) = zz at z0
   refine bD 49 [.tmp 6] Tryd.func26 rfl rfl rfl rfl ?_
   refine aB fun K hK => ?_
   refine aA rfl ?_
   simp only [RR, seval]
   refine hK _ _ ?_; clear hK K
   refine aJ ?_
   refine aB fun K hK => ?_
   refine aA rfl ?_
   simp only [z0, RR, seval]
   refine hK _ _ ?_; clear hK K
   refine aI true rfl (fun _ => ?_) (fun hc => by cases hc)
   refine aB fun K hK => ?_
   refine aA rfl ?_
   simp only [RR, seval]
   refine hK _ _ ?_; clear hK K
   refine aP ?_; simp only [aV, aM, bE, RR, seval]
   refine aU.pure ?_
   rfl
 | succ d ih =>
   intro hd l left ho h1 h2
   have hfit : l.length ≤ 9223372036854775807 := ho.fit
   have ez : (((d + 1 : Nat) : Int) - 1) = (d : Nat) := by omega
   rw [ez]
   have z0 : ¬ ((d : Nat) : Int) < 0 := by omega
   have z2 : IntKind.wrap .i64 (((d : Nat) : Int) - 1) = ((d : Nat) : Int) - 1 := by rw [aR _ (by omega)]
   generalize hr : sX (d + 1) l left = res
   rw [sX] at hr
   generalize hg : (fun (s : CS) y => sX d s.els (sX d s.thn (wJ d s.es (y - 1)))) = g at hr
   refine bD 49 [.tmp 6] Tryd.func26 rfl rfl rfl rfl ?_
   refine aB fun K hK => ?_
   refine aA rfl ?_
   simp only [RR, seval]
   refine hK _ _ ?_; clear hK K
   refine aJ ?_
   refine aB fun K hK => ?_
   refine aA rfl ?_
   simp only [z0, RR, seval]
   refine hK _ _ ?_; clear hK K
   refine aI false rfl (fun hc => by cases hc) (fun _ => ?_)
   refine aL ?_; try simp only [RR]
   refine aJ ?_
   refine aB fun K hK => ?_
   refine aA rfl ?_
   simp only [RR, seval]
   refine hK _ _ ?_; clear hK K
   refine bG fun F1 M1 hfr hH => ?_
   have g0 := hfr 0
   have g1 := hfr 1
   have g2 := hfr 2
   have g6 := hfr 6
   have g7 := hfr 7
   try simp only [RR, seval] at g0 g1 g2 g6 g7
   have f0 := g0; clear g0
   have f1 := g1; clear g1
   have f2 := g2; clear g2
   have f6 := g6; clear g6
   have f7 := g7; clear g7
   clear hfr hH
   refine aQ ?_
   refine iS [0, 2, 6] (l.length) (fun m fr M => (∃ (k : Nat) (x : Int), m = l.length - k ∧ k ≤ l.length ∧ fr 1 = .int .i64 x ∧ fr 7 = .int .i64 k ∧ Fo g (l.drop k) x = res ∧ -1 ≤ x ∧ x ≤ left)) ⟨0, _, rfl, Nat.zero_le _, f1, f7, hr, h1, Int.le_refl _⟩ ?_
   rintro m F2 M2 ⟨k, x, rfl, hk, f1, f7, hr, hx1, hx⟩ agx K0 hK0
   have f0 := (agx 0 rfl).trans f0
   have f2 := (agx 2 rfl).trans f2
   have f6 := (agx 6 rfl).trans f6
   have ag0 := aW.refl [0, 2, 6] F2
   clear agx
   all_goals
    refine aJ ?_
    refine aB fun K hK => ?_
    refine aA rfl ?_
    simp only [f0, f7, aD, RR, seval]
    repeat' ((first | refine aS (fun h => ?_) (fun h => ?_) | refine aT (fun h => ?_) (fun h => ?_)) <;> simp only [h, f1, RR, seval])
    all_goals
     refine hK _ _ ?_; clear hK K
     refine aI _ rfl (fun hc => ?_) (fun hc => ?_)
     ·try (cases hc; done)
      all_goals
       have hw0 := hc; clear hc
       have hlt : k < l.length := by have := aC h; omega
       have hx0 : 0 ≤ x := aC hw0
       have hge := oZ (aH hlt)
       have hoe := ho.all _ (bA hlt)
       rw [Fl hlt hx0, ← hg] at hr
       simp only at hr
       rw [hg] at hr
       generalize l[k] = s at hge hoe hr
       have b1 := wI d s.es (x - 1) (by omega)
       have b2 := nQ d s.thn _ b1.1
       have b3 := nQ d s.els _ b2.1
       have z3 : IntKind.wrap .i64 (x - 1) = x - 1 := aR _ (by omega)
       have hw1 := Fi (n := k) (by omega)
       refine aL ?_; try simp only [RR]
       refine aJ ?_
       refine aQ ?_
       refine aB fun K hK => ?_
       refine aA rfl ?_
       simp only [f0, f2, f1, f7, z2, hge, z3, RR, seval]
       refine aO (zF d (by omega) s.es (x - 1) hoe.es (by omega) (by omega)) ?_
       simp only [RR, seval]
       refine hK _ _ ?_; clear hK K
       refine aB fun K hK => ?_
       refine aA rfl ?_
       simp only [f0, f2, f7, z2, hge, RR, seval]
       refine aO (ih (by omega) s.thn (wJ d s.es (x - 1)) hoe.thn (by omega) (by omega)) ?_
       simp only [RR, seval]
       refine hK _ _ ?_; clear hK K
       refine aA rfl ?_
       simp only [f0, f2, f7, z2, hge, RR, seval]
       refine aO (ih (by omega) s.els (sX d s.thn (wJ d s.es (x - 1))) hoe.els (by omega) (by omega)) ?_
       simp only [RR, seval]
       refine aA rfl ?_
       simp only [f7, hw1, RR, seval]
       try rw [aR _ (by omega)]
       refine hK0 (l.length - (k + 1)) _ _ (by omega) ⟨k + 1, _, rfl, hlt, rfl, rfl, hr, by omega, by omega⟩ (by repeat (first | exact ag0 | refine aW.upd rfl ?_))
     try (cases hc; done)
     all_goals
      have hw0 := hc; clear hc
      have hend : x = res := by
       first
        | (have hx0 := aF hw0; rw [Ix g _ (by omega)] at hr; exact hr)
        | (have hk2 := aF h; rw [List.drop_eq_nil_of_le (by omega)] at hr; exact hr)
      refine bH ?_; simp only [RR, seval]
      refine aB fun K hK => ?_
      refine aA rfl ?_
      simp only [f1, RR, seval]
      refine hK _ _ ?_; clear hK K
      refine aP ?_; simp only [aV, aM, bE, RR, seval]
      refine aU.pure ?_
      rw [hend]
theorem wV (c : Co) (hc : c.ok) (m : Nat) (hm : m ≤ 1000) : dG cO 13 [c.av, .int .i64 (m : Nat)] (.bool (wW c m)) := by
 have hav : c.av = .agg [.int .i64 c.words, .isl 5 (c.funs.map CF.row)] := rfl
 rw [hav]
 have hfit : c.funs.length ≤ 9223372036854775807 := hc.fit
 have hfu := hc.funs
 unfold wW
 generalize c.funs = fs at *
 by_cases h0 : fs.length ≤ 100
 rotate_left
 ·have z0 : (100 : Int) < (fs.length : Int) := by omega
  rw [aN h0, Bool.false_and]
  refine bD 29 [.tmp 4] Tryd.func13 rfl rfl rfl rfl ?_
  refine aB fun K hK => ?_
  refine aA rfl ?_
  simp only [RR, seval]
  refine aK fun b2 hn2 => ?_
  simp only [RR, seval]
  refine hK _ _ ?_; clear hK K
  refine aJ ?_
  refine aB fun K hK => ?_
  refine aA rfl ?_
  simp only [z0, aD, RR, seval]
  refine hK _ _ ?_; clear hK K
  refine aI true rfl (fun _ => ?_) (fun hc => by cases hc)
  refine aB fun K hK => ?_
  refine aA rfl ?_
  simp only [RR, seval]
  refine hK _ _ ?_; clear hK K
  refine aP ?_; simp only [aV, aM, bE, RR, seval]
  refine aU.pure ?_
  rfl
 have z0 : ¬ (100 : Int) < (fs.length : Int) := by omega
 rw [bB h0, Bool.true_and]
 generalize hr : fs.foldl (fun x f => sX 41 f.body x) (m : Int) = res
 refine bD 29 [.tmp 4] Tryd.func13 rfl rfl rfl rfl ?_
 refine aB fun K hK => ?_
 refine aA rfl ?_
 simp only [RR, seval]
 refine aK fun b2 hn2 => ?_
 simp only [RR, seval]
 refine hK _ _ ?_; clear hK K
 refine aJ ?_
 refine aB fun K hK => ?_
 refine aA rfl ?_
 simp only [z0, aD, RR, seval]
 refine hK _ _ ?_; clear hK K
 refine aI false rfl (fun hc => by cases hc) (fun _ => ?_)
 refine aL ?_; try simp only [RR]
 refine aB fun K hK => ?_
 refine aA rfl ?_
 simp only [RR, seval]
 refine hK _ _ ?_; clear hK K
 refine aJ ?_
 refine aB fun K hK => ?_
 refine aA rfl ?_
 simp only [RR, seval]
 refine hK _ _ ?_; clear hK K
 refine bG fun F1 M1 hfr hH => ?_
 have g2 := hfr 2
 have g4 := hfr 4
 have g5 := hfr 5
 have g6 := hfr 6
 have gb2 := hH b2
 try simp only [RR, seval] at g2 g4 g5 g6 gb2
 have f2 := g2; clear g2
 have f4 := g4; clear g4
 have f5 := g5; clear g5
 have f6 := g6; clear g6
 have hb2 := gb2; clear gb2
 clear hfr hH
 refine aQ ?_
 refine bY [2, 4] (fs.length) (fun k fr M => fr 6 = .int .i64 (k : Nat) ∧ M b2 = M1 b2 ∧ ∃ x : Int, fr 5 = .int .i64 x ∧ (fs.drop k).foldl (fun x f => sX 41 f.body x) x = res ∧ -1 ≤ x ∧ x ≤ m) ⟨f6, rfl, _, f5, (by simpa using hr), by omega, Int.le_refl _⟩ ?_
 rintro k F2 M2 hk0 ⟨fx, gb2, ⟨x, f5, hr, hx1, hx⟩⟩ agx K0 hK0
 have f2 := (agx 2 rfl).trans f2
 have f4 := (agx 4 rfl).trans f4
 have f6 := fx; clear fx
 have hb2 := gb2.trans hb2
 have ag0 := aW.refl [2, 4] F2
 have e0_b2 := gb2; clear gb2
 clear agx
 refine aJ ?_
 refine aB fun K hK => ?_
 refine aA rfl ?_
 simp only [f2, f6, hb2, aD, RR, seval]
 refine hK _ _ ?_; clear hK K
 refine aI _ rfl (fun hc => ?_) (fun hc => ?_)
 ·have hlt0 : k < fs.length := by have := aC hc; omega
  clear hc
  have hge := jE (aH hlt0)
  have hoe := (hfu _ (bA hlt0)).body
  rw [bK hlt0, List.foldl_cons] at hr
  generalize fs[k] = f at hge hoe hr
  have hb := nQ 41 f.body x hx1
  refine aL ?_; try simp only [RR]
  refine aJ ?_
  refine aQ ?_
  refine aA rfl ?_
  simp only [f2, f6, f5, hb2, hge, RR, seval]
  refine aO (zE 41 (by omega) f.body x hoe hx1 (by omega)) ?_
  simp only [RR, seval]
  refine aA rfl ?_
  simp only [f6, RR, seval]
  try rw [aR _ (by omega)]
  refine hK0 _ _ hlt0 ⟨by first | rfl | (simp only [aG, seval]; rfl), (by first | exact e0_b2 | (simp only [aG, seval]; first | done | exact e0_b2)), _, rfl, hr, by omega, by omega⟩ (by repeat (first | exact ag0 | refine aW.upd rfl ?_))
 have hkn0 : k = fs.length := by have := aF hc; omega
 clear hc
 rw [hkn0, List.drop_length] at hr
 have hr : x = res := hr
 subst hr
 refine bH ?_; simp only [RR, seval]
 refine aB fun K hK => ?_
 refine aA rfl ?_
 simp only [f5, RR, seval]
 refine hK _ _ ?_; clear hK K
 refine aP ?_; simp only [aV, aM, bE, RR, seval]
 refine aU.pure ?_
 rfl
end Go.Proofs.YtnfbbjhdflhmjaaDoor
