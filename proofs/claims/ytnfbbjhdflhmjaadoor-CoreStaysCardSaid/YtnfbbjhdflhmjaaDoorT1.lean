/- Chapter 17: types, in plain Lean. Chapter 17, the judge's: types of expressions. Chapter 17, the judge's: what is known; what fits; Expr, Check, Sound. Chapter 17, the judge's: what fits; Expr, Check, Sound. Chapter 17, the judge's: Expr, Check, Sound. -/
import Derived.Test.YtnfbbjhdflhmjaaDoorSy2
import Derived.Test.YtnfbbjhdflhmjaaDoorSc1
import Derived.Test.YtnfbbjhdflhmjaaDoorAl4
import Derived.Test.YtnfbbjhdflhmjaaDoorSy1
set_option linter.unusedSimpArgs false
set_option linter.unusedVariables false
set_option maxRecDepth 10000
namespace Go.Al
def fnOf (p : Pg) (s : Str) : Option Fu := p.funs.find? fun f => decide (f.name = s)
def knF (p : Pg) (s : Str) : Bool := (fnOf p s).isSome
def wdF (p : Pg) (s : Str) : Bool := match fnOf p s with | some f => f.word | none => false
mutual
def tyE (W : Str → Bool) : Ex → Int
 | .mk k o _ s l => if k = 1 ∨ k = 2 ∨ k = 5 then 1 else if k = 3 then (if allT W l 1 = true then 1 else 0) else if k = 4 then (if (W s && allT W l 1) = true then 1 else 0)
   else if k = 6 then (if allT W l 1 = true then (if o = 14 ∨ o = 15 then 2 else 1) else 0) else if k = 7 ∨ k = 8 ∨ k = 9 then (if allT W l 2 = true then 2 else 0) else 0
def allT (W : Str → Bool) : List Ex → Int → Bool
 | [], _ => true
 | e :: l, t => decide (tyE W e = t) && allT W l t
end
theorem tyE_eq (W : Str → Bool) (e : Ex) : tyE W e = if e.kind = 1 ∨ e.kind = 2 ∨ e.kind = 5 then 1 else if e.kind = 3 then (if allT W e.kids 1 = true then 1 else 0) else if e.kind = 4 then (if (W e.name && allT W e.kids 1) = true then 1 else 0)
   else if e.kind = 6 then (if allT W e.kids 1 = true then (if e.op = 14 ∨ e.op = 15 then 2 else 1) else 0) else if e.kind = 7 ∨ e.kind = 8 ∨ e.kind = 9 then (if allT W e.kids 2 = true then 2 else 0) else 0 := by
 cases e; simp only [tyE, Ex.kind, Ex.op, Ex.name, Ex.kids]; rfl
theorem allT_cons (W : Str → Bool) (e : Ex) (l : List Ex) (t : Int) : allT W (e :: l) t = (decide (tyE W e = t) && allT W l t) := by simp only [allT]
theorem allT_nil (W : Str → Bool) (t : Int) : allT W [] t = true := by simp only [allT]
mutual
def knE (K : Str → Bool) : Ex → Bool
 | .mk k _ _ s l => (!decide (k = 4) || K s) && knL K l
def knL (K : Str → Bool) : List Ex → Bool
 | [] => true
 | e :: l => knE K e && knL K l
end
theorem knE_eq (K : Str → Bool) (e : Ex) : knE K e = ((!decide (e.kind = 4) || K e.name) && knL K e.kids) := by
 cases e; simp only [knE, Ex.kind, Ex.name, Ex.kids]; rfl
theorem knL_cons (K : Str → Bool) (e : Ex) (l : List Ex) : knL K (e :: l) = (knE K e && knL K l) := by simp only [knL]
theorem knL_nil (K : Str → Bool) : knL K [] = true := by simp only [knL]
mutual
def knM (K : Str → Bool) : Sm → Bool
 | .mk k s l t u => (!decide (k = 6) || K s) && knL K l && knT K t && knT K u
def knT (K : Str → Bool) : List Sm → Bool
 | [] => true
 | e :: l => knM K e && knT K l
end
theorem knM_eq (K : Str → Bool) (e : Sm) : knM K e = ((!decide (e.kind = 6) || K e.name) && knL K e.es && knT K e.thn && knT K e.els) := by
 cases e; simp only [knM, Sm.kind, Sm.name, Sm.es, Sm.thn, Sm.els]; rfl
theorem knT_cons (K : Str → Bool) (e : Sm) (l : List Sm) : knT K (e :: l) = (knM K e && knT K l) := by simp only [knT]
theorem knT_nil (K : Str → Bool) : knT K [] = true := by simp only [knT]
def wantS (k : Int) : Int := if k = 4 ∨ k = 5 then 2 else 1
mutual
def fitM (W : Str → Bool) (w : Bool) : Sm → Bool
 | .mk k s l t u => allT W l (wantS k) && !(decide (k = 6) && W s) && !(decide (k = 7) && decide (0 < l.length) && !w) && fitT W w t && fitT W w u
def fitT (W : Str → Bool) (w : Bool) : List Sm → Bool
 | [] => true
 | e :: l => fitM W w e && fitT W w l
end
theorem fitM_eq (W : Str → Bool) (w : Bool) (e : Sm) : fitM W w e = (allT W e.es (wantS e.kind) && !(decide (e.kind = 6) && W e.name) && !(decide (e.kind = 7) && decide (0 < e.es.length) && !w) && fitT W w e.thn && fitT W w e.els) := by
 cases e; simp only [fitM, Sm.kind, Sm.name, Sm.es, Sm.thn, Sm.els]; rfl
theorem fitT_cons (W : Str → Bool) (w : Bool) (e : Sm) (l : List Sm) : fitT W w (e :: l) = (fitM W w e && fitT W w l) := by simp only [fitT]
theorem fitT_nil (W : Str → Bool) (w : Bool) : fitT W w [] = true := by simp only [fitT]
def exprT (p : Pg) (e : Ex) : Int × Int := if knE (knF p) e = true then (if tyE (wdF p) e = 0 then (0, 5) else (tyE (wdF p) e, 0)) else (0, 4)
def checkT (p : Pg) : Int := if (p.funs.all fun f => knT (knF p) f.body) = true then (if (p.funs.all fun f => fitT (wdF p) f.word f.body) = true then 0 else 5) else 4
theorem find_place : ∀ (l : List Fu) (s : Str), l.find? (fun f => decide (f.name = s)) = (placeN (l.map Fu.name) s).bind fun k => l[k]?
 | [], s => by simp [placeN]
 | f :: l, s => by
   have ih := find_place l s
   simp only [List.map_cons, placeN]
   by_cases h : f.name = s
   ·simp [h]
   ·simp only [List.find?_cons, decide_eq_false h, if_neg h, ih]
    cases placeN (l.map Fu.name) s <;> simp
theorem fnOf_place (p : Pg) (s : Str) : fnOf p s = (placeN (p.funs.map Fu.name) s).bind fun k => p.funs[k]? := find_place _ _
end Go.Al
namespace Go.Proofs.YtnfbbjhdflhmjaaDoor
open Go.Al
def soundT (p : Pg) : Int := if rightP p = true then (if checkI p = 0 then checkT p else checkI p) else 7
end Go.Proofs.YtnfbbjhdflhmjaaDoor
namespace Go.Proofs.YtnfbbjhdflhmjaaDoor
open Go.Al
end Go.Proofs.YtnfbbjhdflhmjaaDoor
namespace Go.Proofs.YtnfbbjhdflhmjaaDoor
open Go.Al
theorem knF_place (p : Pg) (s : Str) : decide (optI (placeN (p.funs.map Fu.name) s) < 0) = !knF p s := by
 have h : knF p s = ((placeN (p.funs.map Fu.name) s).bind fun k => p.funs[k]?).isSome := by simp only [knF, fnOf_place]
 cases hc : placeN (p.funs.map Fu.name) s with
 | none => rw [h, hc]; rfl
 | some k =>
   have hlt := (placeN_lt _ _ _ hc).1
   rw [List.length_map] at hlt
   rw [h, hc]
   simp [optI, List.getElem?_eq_getElem hlt]
   exact decide_eq_false (by omega)
end Go.Proofs.YtnfbbjhdflhmjaaDoor
namespace Go.Proofs.YtnfbbjhdflhmjaaDoor
open Go.Al
theorem wdF_place (p : Pg) (s : Str) (h : knF p s = true) : ∃ (k : Nat) (g : Fu), placeN (p.funs.map Fu.name) s = some k ∧ p.funs[k]? = some g ∧ wdF p s = g.word := by
 have h1 : knF p s = ((placeN (p.funs.map Fu.name) s).bind fun k => p.funs[k]?).isSome := by simp only [knF, fnOf_place]
 have h2 : wdF p s = match (placeN (p.funs.map Fu.name) s).bind (fun k => p.funs[k]?) with | some f => f.word | none => false := by simp only [wdF, fnOf_place] <;> rfl
 cases hc : placeN (p.funs.map Fu.name) s with
 | none => rw [h1, hc] at h; cases h
 | some k =>
   have hlt := (placeN_lt _ _ _ hc).1
   rw [List.length_map] at hlt
   refine ⟨k, p.funs[k], rfl, List.getElem?_eq_getElem hlt, ?_⟩
   rw [h2, hc]
   simp [List.getElem?_eq_getElem hlt]
end Go.Proofs.YtnfbbjhdflhmjaaDoor
namespace Go.Proofs.YtnfbbjhdflhmjaaDoor
open Go.Al
end Go.Proofs.YtnfbbjhdflhmjaaDoor
