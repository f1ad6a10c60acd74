/- Chapter 19: a program's core, in plain Lean. -/
import Derived.Test.YtnfbbjhdflhmjaaDoorCx
import Derived.Test.YtnfbbjhdflhmjaaDoorT1
import Derived.Test.YtnfbbjhdflhmjaaDoorAl4
set_option linter.unusedSimpArgs false
set_option linter.unusedVariables false
set_option maxRecDepth 10000
namespace Go.Al
structure Tq where
 name : Str
 slot : Int
 size : Int
def entT (t : Tq) : AV × AV := (.str t.name, .agg [.int .i64 t.slot, .int .i64 t.size])
def lookQ : List Tq → Str → Option (Int × Int)
 | [], _ => none
 | t :: l, s => if s = t.name then some (t.slot, t.size) else lookQ l s
theorem afind_th (s : Str) : ∀ (m : List Tq) (i : Nat), (lookQ m s = none ∧ afind (.str s) (m.map entT) i = some none) ∨ (∃ j t, lookQ m s = some t ∧ afind (.str s) (m.map entT) i = some (some (j, .agg [.int .i64 t.1, .int .i64 t.2])))
 | [], i => .inl ⟨rfl, rfl⟩
 | t :: m, i => by
   simp only [List.map_cons, entT, afind, akey, lookQ]
   by_cases h : s = t.name
   ·right
    exact ⟨i, (t.slot, t.size), by rw [if_pos h], by rw [decide_eq_true h]⟩
   ·rw [decide_eq_false h, if_neg h]
    exact afind_th s m (i + 1)
theorem lookQ_none (s : Str) : ∀ m : List Tq, s ∉ m.map Tq.name → lookQ m s = none
 | [], _ => rfl
 | t :: m, h => by
   simp only [List.map_cons, List.mem_cons, not_or] at h
   simp only [lookQ, if_neg h.1]
   exact lookQ_none s m h.2
theorem lookQ_some (s : Str) : ∀ m : List Tq, s ∈ m.map Tq.name → lookQ m s ≠ none
 | [], h => by simp at h
 | t :: m, h => by
   simp only [List.map_cons, List.mem_cons] at h
   simp only [lookQ]
   by_cases e : s = t.name
   ·rw [if_pos e]; exact Option.some_ne_none _
   ·rw [if_neg e]; exact lookQ_some s m (h.resolve_left e)
theorem lookQ_app (s : Str) : ∀ (a b : List Tq), lookQ (a ++ b) s = (lookQ a s).or (lookQ b s)
 | [], b => by simp [lookQ]
 | t :: a, b => by
   simp only [List.cons_append, lookQ]
   by_cases e : s = t.name
   ·rw [if_pos e, if_pos e]; rfl
   ·rw [if_neg e, if_neg e]; exact lookQ_app s a b
theorem put_th (m : List Tq) (s : Str) (a z : Int) (h : s ∉ m.map Tq.name) : aput (m.map entT) (.str s) (.agg [.int .i64 a, .int .i64 z]) = some ((m ++ [(⟨s, a, z⟩ : Tq)]).map entT) := by
 rcases afind_th s m 0 with ⟨_, h2⟩ | ⟨j, t, h1, _⟩
 ·simp only [aput, h2, List.map_append, List.map_cons, List.map_nil, entT]
 ·rw [lookQ_none s m h] at h1; cases h1
def tqV : Int → List Str → List Tq
 | _, [] => []
 | w, s :: l => ⟨s, w, 0⟩ :: tqV (w + 1) l
def thA : Int → List Ar → List Tq
 | _, [] => []
 | w, a :: l => ⟨a.name, w, a.size⟩ :: thA (w + a.size) l
def sumA : List Ar → Int
 | [] => 0
 | a :: l => a.size + sumA l
theorem tqV_take : ∀ (l : List Str) (w : Int) (j : Nat) (s : Str), l[j]? = some s → tqV w (l.take (j + 1)) = tqV w (l.take j) ++ [⟨s, w + j, 0⟩]
 | [], w, j, s, h => by simp at h
 | x :: l, w, 0, s, h => by
   simp only [List.getElem?_cons_zero, Option.some.injEq] at h
   subst h; simp [tqV]
 | x :: l, w, j + 1, s, h => by
   simp only [List.getElem?_cons_succ] at h
   have := tqV_take l (w + 1) j s h
   rw [List.take_succ_cons, List.take_succ_cons, tqV, this, tqV]
   simp only [List.cons_append]
   rw [show w + 1 + (j : Int) = w + ((j + 1 : Nat) : Int) by omega]
theorem thA_take : ∀ (l : List Ar) (w : Int) (j : Nat) (s : Ar), l[j]? = some s → thA w (l.take (j + 1)) = thA w (l.take j) ++ [⟨s.name, w + sumA (l.take j), s.size⟩] ∧ sumA (l.take (j + 1)) = sumA (l.take j) + s.size
 | [], w, j, s, h => by simp at h
 | x :: l, w, 0, s, h => by
   simp only [List.getElem?_cons_zero, Option.some.injEq] at h
   subst h; simp [thA, sumA]
 | x :: l, w, j + 1, s, h => by
   simp only [List.getElem?_cons_succ] at h
   have := thA_take l (w + x.size) j s h
   simp only [List.take_succ_cons, thA, this.1, sumA, this.2, List.cons_append]
   refine ⟨?_, by omega⟩
   rw [show w + x.size + sumA (l.take j) = w + (x.size + sumA (l.take j)) by omega]
theorem tqV_app : ∀ (l m : List Str) (w : Int), tqV w (l ++ m) = tqV w l ++ tqV (w + l.length) m
 | [], m, w => by simp [tqV]
 | s :: l, m, w => by
   simp only [List.cons_append, tqV, tqV_app l m (w + 1), List.length_cons]
   rw [show w + 1 + (l.length : Int) = w + ((l.length + 1 : Nat) : Int) by omega]
theorem tqV_names : ∀ (l : List Str) (w : Int), (tqV w l).map Tq.name = l
 | [], _ => rfl
 | s :: l, w => by simp only [tqV, List.map_cons, tqV_names l (w + 1)]
theorem thA_names : ∀ (l : List Ar) (w : Int), (thA w l).map Tq.name = l.map Ar.name
 | [], _ => rfl
 | s :: l, w => by simp only [thA, List.map_cons, thA_names l (w + s.size)]
theorem mid_nodup {A B : List Str} (h : (A ++ B).Nodup) {k : Nat} {s : Str} (hs : B[k]? = some s) : s ∉ A ++ B.take k := by
 obtain ⟨hk, e⟩ := List.getElem?_eq_some_iff.1 hs
 have h2 : A ++ B = (A ++ B.take k) ++ s :: B.drop (k + 1) := by
  rw [List.append_assoc]
  congr 1
  rw [← e, ← List.drop_eq_getElem_cons hk, List.take_append_drop]
 rw [h2] at h
 have := (List.nodup_append.1 h).2.2
 exact fun hm => this s hm s List.mem_cons_self rfl
def outT (p : Pg) : List Tq := tqV 0 p.vars ++ thA p.vars.length p.arrs ++ tqV 0 (p.funs.map Fu.name)
def inT (w : Int) (f : Fu) : List Tq := tqV w (f.params ++ f.locs)
def rsT (G I : List Tq) (s : Str) : Int × Int := match lookQ I s with | some r => r | none => (lookQ G s).getD (0, 0)
def imT (m : List Tq) : AV := .imp ((m.map entT).map (·.1)) ((m.map entT).map (·.2))
def nmT (G I : List Tq) : AV := .agg [imT G, imT I]
mutual
def coE (rs : Str → Int × Int) : Ex → CE
 | .mk k o n s l => .mk k o n (rs s).1 (rs s).2 (coEs rs l)
def coEs (rs : Str → Int × Int) : List Ex → List CE
 | [] => []
 | e :: l => coE rs e :: coEs rs l
end
theorem coEs_map (rs : Str → Int × Int) : ∀ l : List Ex, coEs rs l = l.map (coE rs)
 | [] => by simp only [coEs, List.map_nil]
 | e :: l => by simp only [coEs, List.map_cons, coEs_map rs l]
theorem coE_row (rs : Str → Int × Int) (e : Ex) : (coE rs e).row = [.int .i64 e.kind, .int .i64 e.op, .int .u32 e.num, .int .i64 (rs e.name).1, .int .i64 (rs e.name).2, .isl 6 ((e.kids.map (coE rs)).map CE.row)] := by
 cases e; simp only [coE, CE.row_eq, coEs_map, Ex.kind, Ex.op, Ex.num, Ex.name, Ex.kids, CE.kind, CE.op, CE.num, CE.slot, CE.size, CE.kids]
mutual
def coS (rs : Str → Int × Int) : Sm → CS
 | .mk k s l t u => .mk k (rs s).1 (rs s).2 (l.map (coE rs)) (coSs rs t) (coSs rs u)
def coSs (rs : Str → Int × Int) : List Sm → List CS
 | [] => []
 | e :: l => coS rs e :: coSs rs l
end
theorem coSs_map (rs : Str → Int × Int) : ∀ l : List Sm, coSs rs l = l.map (coS rs)
 | [] => by simp only [coSs, List.map_nil]
 | e :: l => by simp only [coSs, List.map_cons, coSs_map rs l]
theorem coS_row (rs : Str → Int × Int) (e : Sm) : (coS rs e).row = [.int .i64 e.kind, .int .i64 (rs e.name).1, .int .i64 (rs e.name).2, .isl 6 ((e.es.map (coE rs)).map CE.row), .isl 6 ((e.thn.map (coS rs)).map CS.row), .isl 6 ((e.els.map (coS rs)).map CS.row)] := by
 cases e; simp only [coS, CS.row_eq, coSs_map, Sm.kind, Sm.name, Sm.es, Sm.thn, Sm.els, CS.kind, CS.slot, CS.size, CS.es, CS.thn, CS.els]
def coF (G : List Tq) (w : Int) (f : Fu) : CF := ⟨f.params.length, ((f.params.length + f.locs.length : Nat) : Int), w, f.word, f.body.map (coS (rsT G (inT w f)))⟩
def coFs (G : List Tq) : Int → List Fu → List CF
 | _, [] => []
 | w, f :: l => coF G w f :: coFs G (w + ((f.params.length + f.locs.length : Nat) : Int)) l
def sumF : List Fu → Int
 | [] => 0
 | f :: l => ((f.params.length + f.locs.length : Nat) : Int) + sumF l
theorem coFs_take (G : List Tq) : ∀ (l : List Fu) (w : Int) (j : Nat) (f : Fu), l[j]? = some f → coFs G w (l.take (j + 1)) = coFs G w (l.take j) ++ [coF G (w + sumF (l.take j)) f] ∧ sumF (l.take (j + 1)) = sumF (l.take j) + ((f.params.length + f.locs.length : Nat) : Int)
 | [], w, j, s, h => by simp at h
 | x :: l, w, 0, s, h => by
   simp only [List.getElem?_cons_zero, Option.some.injEq] at h
   subst h; simp [coFs, sumF]
 | x :: l, w, j + 1, s, h => by
   simp only [List.getElem?_cons_succ] at h
   have := coFs_take G l (w + ((x.params.length + x.locs.length : Nat) : Int)) j s h
   simp only [List.take_succ_cons, coFs, this.1, sumF, this.2, List.cons_append]
   refine ⟨?_, by omega⟩
   rw [show w + ((x.params.length + x.locs.length : Nat) : Int) + sumF (l.take j) = w + (((x.params.length + x.locs.length : Nat) : Int) + sumF (l.take j)) by omega]
theorem coFs_len (G : List Tq) : ∀ (l : List Fu) (w : Int), (coFs G w l).length = l.length
 | [], _ => rfl
 | f :: l, w => by simp only [coFs, List.length_cons, coFs_len G l]
def baseW (p : Pg) : Int := p.vars.length + sumA p.arrs
def wordsP (p : Pg) : Int := baseW p + sumF p.funs
def coreP (p : Pg) : Co := ⟨wordsP p, coFs (outT p) (baseW p) p.funs⟩
theorem sumA_nonneg : ∀ {l : List Ar}, (∀ a ∈ l, 0 ≤ a.size) → 0 ≤ sumA l
 | [], _ => Int.le_refl _
 | a :: l, h => by
   have h1 := h a (List.mem_cons_self)
   have h2 := sumA_nonneg (l := l) fun x hx => h x (List.mem_cons_of_mem _ hx)
   simp only [sumA]; omega
theorem sumF_nonneg : ∀ l : List Fu, 0 ≤ sumF l
 | [] => Int.le_refl _
 | f :: l => by have := sumF_nonneg l; simp only [sumF]; omega
end Go.Al
namespace Go.Proofs.YtnfbbjhdflhmjaaDoor
open Go.Al
def ofP (p : Pg) : Co × Int := if soundT p = 0 then (if wordsP p ≤ 32768 then (coreP p, 0) else (⟨0, []⟩, 2)) else (⟨0, []⟩, soundT p)
end Go.Proofs.YtnfbbjhdflhmjaaDoor
