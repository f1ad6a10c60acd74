/- Chapter 19: a program's core, in plain Lean. -/
import Derived.Test.YtnfbbjhdflhmjaaDoorCx
import Derived.Test.YtnfbbjhdflhmjaaDoorT1
import Derived.Test.YtnfbbjhdflhmjaaDoorAl4
set_option linter.unusedSimpArgs false
set_option linter.unusedVariables false
set_option maxRecDepth 10000
namespace Go.Al
structure Tq where
 name : dL
 slot : Int
 size : Int
def mQ (t : Tq) : AV × AV := (.str t.name, .agg [.int .i64 t.slot, .int .i64 t.size])
def kQ : List Tq → dL → Option (Int × Int)
 | [], _ => none
 | t :: l, s => if s = t.name then some (t.slot, t.size) else kQ l s
theorem sU (s : dL) : ∀ (m : List Tq) (i : Nat), (kQ m s = none ∧ lN (.str s) (m.map mQ) i = some none) ∨ (∃ j t, kQ m s = some t ∧ lN (.str s) (m.map mQ) i = some (some (j, .agg [.int .i64 t.1, .int .i64 t.2])))
 | [], i => .inl ⟨rfl, rfl⟩
 | t :: m, i => by
   simp only [List.map_cons, mQ, lN, On, kQ]
   by_cases h : s = t.name
   ·right
    exact ⟨i, (t.slot, t.size), by rw [if_pos h], by rw [bB h]⟩
   rw [aN h, if_neg h]
   exact sU s m (i + 1)
theorem wG (s : dL) : ∀ m : List Tq, s ∉ m.map Tq.name → kQ m s = none
 | [], _ => rfl
 | t :: m, h => by
   simp only [List.map_cons, List.mem_cons, not_or] at h
   simp only [kQ, if_neg h.1]
   exact wG s m h.2
theorem Im (s : dL) : ∀ m : List Tq, s ∈ m.map Tq.name → kQ m s ≠ none
 | [], h => by simp at h
 | t :: m, h => by
   simp only [List.map_cons, List.mem_cons] at h
   simp only [kQ]
   by_cases e : s = t.name
   ·rw [if_pos e]; exact cB _
   rw [if_neg e]; exact Im s m (h.resolve_left e)
theorem Nf (s : dL) : ∀ (a b : List Tq), kQ (a ++ b) s = (kQ a s).or (kQ b s)
 | [], b => by simp [kQ]
 | t :: a, b => by
   simp only [List.cons_append, kQ]
   by_cases e : s = t.name
   ·rw [if_pos e, if_pos e]; rfl
   rw [if_neg e, if_neg e]; exact Nf s a b
theorem wA (m : List Tq) (s : dL) (a z : Int) (h : s ∉ m.map Tq.name) : yJ (m.map mQ) (.str s) (.agg [.int .i64 a, .int .i64 z]) = some ((m ++ [(⟨s, a, z⟩ : Tq)]).map mQ) := by
 rcases sU s m 0 with ⟨_, h2⟩ | ⟨j, t, h1, _⟩
 ·simp only [yJ, h2, List.map_append, List.map_cons, List.map_nil, mQ]
 rw [wG s m h] at h1; cases h1
def mB : Int → List dL → List Tq
 | _, [] => []
 | w, s :: l => ⟨s, w, 0⟩ :: mB (w + 1) l
def Hu : Int → List Ar → List Tq
 | _, [] => []
 | w, a :: l => ⟨a.name, w, a.size⟩ :: Hu (w + a.size) l
def lP : List Ar → Int
 | [] => 0
 | a :: l => a.size + lP l
theorem oQ : ∀ (l : List dL) (w : Int) (j : Nat) (s : dL), l[j]? = some s → mB w (l.take (j + 1)) = mB w (l.take j) ++ [⟨s, w + j, 0⟩]
 | [], w, j, s, h => by simp at h
 | x :: l, w, 0, s, h => by
   simp only [List.getElem?_cons_zero, Option.some.injEq] at h
   subst h; simp [mB]
 | x :: l, w, j + 1, s, h => by
   simp only [List.getElem?_cons_succ] at h
   have := oQ l (w + 1) j s h
   rw [List.take_succ_cons, List.take_succ_cons, mB, this, mB]
   simp only [List.cons_append]
   rw [show w + 1 + (j : Int) = w + ((j + 1 : Nat) : Int) by omega]
theorem Df : ∀ (l : List Ar) (w : Int) (j : Nat) (s : Ar), l[j]? = some s → Hu w (l.take (j + 1)) = Hu w (l.take j) ++ [⟨s.name, w + lP (l.take j), s.size⟩] ∧ lP (l.take (j + 1)) = lP (l.take j) + s.size
 | [], w, j, s, h => by simp at h
 | x :: l, w, 0, s, h => by
   simp only [List.getElem?_cons_zero, Option.some.injEq] at h
   subst h; simp [Hu, lP]
 | x :: l, w, j + 1, s, h => by
   simp only [List.getElem?_cons_succ] at h
   have := Df l (w + x.size) j s h
   simp only [List.take_succ_cons, Hu, this.1, lP, this.2, List.cons_append]
   refine ⟨?_, by omega⟩
   rw [show w + x.size + lP (l.take j) = w + (x.size + lP (l.take j)) by omega]
theorem Kr : ∀ (l m : List dL) (w : Int), mB w (l ++ m) = mB w l ++ mB (w + l.length) m
 | [], m, w => by simp [mB]
 | s :: l, m, w => by
   simp only [List.cons_append, mB, Kr l m (w + 1), bX]
   rw [show w + 1 + (l.length : Int) = w + ((l.length + 1 : Nat) : Int) by omega]
theorem iM : ∀ (l : List dL) (w : Int), (mB w l).map Tq.name = l
 | [], _ => rfl
 | s :: l, w => by simp only [mB, List.map_cons, iM l (w + 1)]
theorem tB : ∀ (l : List Ar) (w : Int), (Hu w l).map Tq.name = l.map Ar.name
 | [], _ => rfl
 | s :: l, w => by simp only [Hu, List.map_cons, tB l (w + s.size)]
theorem mN {A B : List dL} (h : (A ++ B).Nodup) {k : Nat} {s : dL} (hs : B[k]? = some s) : s ∉ A ++ B.take k := by
 obtain ⟨hk, e⟩ := bM.1 hs
 have h2 : A ++ B = (A ++ B.take k) ++ s :: B.drop (k + 1) := by
  rw [List.append_assoc]
  congr 1
  rw [← e, ← bK hk, List.take_append_drop]
 rw [h2] at h
 have := (List.nodup_append.1 h).2.2
 exact fun hm => this s hm s List.mem_cons_self rfl
def Nb (p : Pg) : List Tq := mB 0 p.vars ++ Hu p.vars.length p.arrs ++ mB 0 (p.funs.map Fu.name)
def Yo (w : Int) (f : Fu) : List Tq := mB w (f.params ++ f.locs)
def Mw (G I : List Tq) (s : dL) : Int × Int := match kQ I s with | some r => r | none => (kQ G s).getD (0, 0)
def Ud (m : List Tq) : AV := .imp ((m.map mQ).map (·.1)) ((m.map mQ).map (·.2))
def Pa (G I : List Tq) : AV := .agg [Ud G, Ud I]
mutual
def Pc (rs : dL → Int × Int) : Ex → CE
 | .mk k o n s l => .mk k o n (rs s).1 (rs s).2 (Oc rs l)
def Oc (rs : dL → Int × Int) : List Ex → List CE
 | [] => []
 | e :: l => Pc rs e :: Oc rs l
end
theorem Gi (rs : dL → Int × Int) : ∀ l : List Ex, Oc rs l = l.map (Pc rs)
 | [] => by simp only [Oc, List.map_nil]
 | e :: l => by simp only [Oc, List.map_cons, Gi rs l]
theorem Uq (rs : dL → Int × Int) (e : Ex) : (Pc rs e).row = [.int .i64 e.kind, .int .i64 e.op, .int .u32 e.num, .int .i64 (rs e.name).1, .int .i64 (rs e.name).2, .isl 6 ((e.kids.map (Pc rs)).map CE.row)] := by
 cases e; simp only [Pc, CE.row_eq, Gi, Ex.kind, Ex.op, Ex.num, Ex.name, Ex.kids, CE.kind, CE.op, CE.num, CE.slot, CE.size, CE.kids]
mutual
def Ob (rs : dL → Int × Int) : Sm → CS
 | .mk k s l t u => .mk k (rs s).1 (rs s).2 (l.map (Pc rs)) (Jq rs t) (Jq rs u)
def Jq (rs : dL → Int × Int) : List Sm → List CS
 | [] => []
 | e :: l => Ob rs e :: Jq rs l
end
theorem Gg (rs : dL → Int × Int) : ∀ l : List Sm, Jq rs l = l.map (Ob rs)
 | [] => by simp only [Jq, List.map_nil]
 | e :: l => by simp only [Jq, List.map_cons, Gg rs l]
theorem Up (rs : dL → Int × Int) (e : Sm) : (Ob rs e).row = [.int .i64 e.kind, .int .i64 (rs e.name).1, .int .i64 (rs e.name).2, .isl 6 ((e.es.map (Pc rs)).map CE.row), .isl 6 ((e.thn.map (Ob rs)).map CS.row), .isl 6 ((e.els.map (Ob rs)).map CS.row)] := by
 cases e; simp only [Ob, CS.row_eq, Gg, Sm.kind, Sm.name, Sm.es, Sm.thn, Sm.els, CS.kind, CS.slot, CS.size, CS.es, CS.thn, CS.els]
def L2 (G : List Tq) (w : Int) (f : Fu) : CF := ⟨f.params.length, ((f.params.length + f.locs.length : Nat) : Int), w, f.word, f.body.map (Ob (Mw G (Yo w f)))⟩
def rM (G : List Tq) : Int → List Fu → List CF
 | _, [] => []
 | w, f :: l => L2 G w f :: rM G (w + ((f.params.length + f.locs.length : Nat) : Int)) l
def jX : List Fu → Int
 | [] => 0
 | f :: l => ((f.params.length + f.locs.length : Nat) : Int) + jX l
theorem Av (G : List Tq) : ∀ (l : List Fu) (w : Int) (j : Nat) (f : Fu), l[j]? = some f → rM G w (l.take (j + 1)) = rM G w (l.take j) ++ [L2 G (w + jX (l.take j)) f] ∧ jX (l.take (j + 1)) = jX (l.take j) + ((f.params.length + f.locs.length : Nat) : Int)
 | [], w, j, s, h => by simp at h
 | x :: l, w, 0, s, h => by
   simp only [List.getElem?_cons_zero, Option.some.injEq] at h
   subst h; simp [rM, jX]
 | x :: l, w, j + 1, s, h => by
   simp only [List.getElem?_cons_succ] at h
   have := Av G l (w + ((x.params.length + x.locs.length : Nat) : Int)) j s h
   simp only [List.take_succ_cons, rM, this.1, jX, this.2, List.cons_append]
   refine ⟨?_, by omega⟩
   rw [show w + ((x.params.length + x.locs.length : Nat) : Int) + jX (l.take j) = w + (((x.params.length + x.locs.length : Nat) : Int) + jX (l.take j)) by omega]
theorem Gh (G : List Tq) : ∀ (l : List Fu) (w : Int), (rM G w l).length = l.length
 | [], _ => rfl
 | f :: l, w => by simp only [rM, bX, Gh G l]
def uL (p : Pg) : Int := p.vars.length + lP p.arrs
def Bo (p : Pg) : Int := uL p + jX p.funs
def Lu (p : Pg) : Co := ⟨Bo p, rM (Nb p) (uL p) p.funs⟩
theorem Do : ∀ {l : List Ar}, (∀ a ∈ l, 0 ≤ a.size) → 0 ≤ lP l
 | [], _ => Int.le_refl _
 | a :: l, h => by
   have h1 := h a (List.mem_cons_self)
   have h2 := Do (l := l) fun x hx => h x (List.mem_cons_of_mem _ hx)
   simp only [lP]; omega
theorem Dn : ∀ l : List Fu, 0 ≤ jX l
 | [] => Int.le_refl _
 | f :: l => by have := Dn l; simp only [jX]; omega
end Go.Al
namespace Go.Proofs.YtnfbbjhdflhmjaaDoor
open Go.Al
def Wo (p : Pg) : Co × Int := if fP p = 0 then (if Bo p ≤ 32768 then (Lu p, 0) else (⟨0, []⟩, 2)) else (⟨0, []⟩, fP p)
end Go.Proofs.YtnfbbjhdflhmjaaDoor
