/- Chapter 17: types, in plain Lean. Chapter 17, the judge's: types of expressions. Chapter 17, the judge's: what is known; what fits; Expr, Check, Sound. Chapter 17, the judge's: what fits; Expr, Check, Sound. Chapter 17, the judge's: Expr, Check, Sound. -/
import Derived.Test.YtnfbbjhdflhmjaaDoorSy2
import Derived.Test.YtnfbbjhdflhmjaaDoorSc1
import Derived.Test.YtnfbbjhdflhmjaaDoorAl4
import Derived.Test.YtnfbbjhdflhmjaaDoorSy1
set_option linter.unusedSimpArgs false
set_option linter.unusedVariables false
set_option maxRecDepth 10000
namespace Go.Al
def Xq (p : Pg) (s : dL) : Option Fu := p.funs.find? fun f => decide (f.name = s)
def yQ (p : Pg) (s : dL) : Bool := (Xq p s).isSome
def rO (p : Pg) (s : dL) : Bool := match Xq p s with | some f => f.word | none => false
mutual
def Ti (W : dL → Bool) : Ex → Int
 | .mk k o _ s l => if k = 1 ∨ k = 2 ∨ k = 5 then 1 else if k = 3 then (if iW W l 1 = true then 1 else 0) else if k = 4 then (if (W s && iW W l 1) = true then 1 else 0)
   else if k = 6 then (if iW W l 1 = true then (if o = 14 ∨ o = 15 then 2 else 1) else 0) else if k = 7 ∨ k = 8 ∨ k = 9 then (if iW W l 2 = true then 2 else 0) else 0
def iW (W : dL → Bool) : List Ex → Int → Bool
 | [], _ => true
 | e :: l, t => decide (Ti W e = t) && iW W l t
end
theorem Xd (W : dL → Bool) (e : Ex) : Ti W e = if e.kind = 1 ∨ e.kind = 2 ∨ e.kind = 5 then 1 else if e.kind = 3 then (if iW W e.kids 1 = true then 1 else 0) else if e.kind = 4 then (if (W e.name && iW W e.kids 1) = true then 1 else 0)
   else if e.kind = 6 then (if iW W e.kids 1 = true then (if e.op = 14 ∨ e.op = 15 then 2 else 1) else 0) else if e.kind = 7 ∨ e.kind = 8 ∨ e.kind = 9 then (if iW W e.kids 2 = true then 2 else 0) else 0 := by
 cases e; simp only [Ti, Ex.kind, Ex.op, Ex.name, Ex.kids]; rfl
theorem Om (W : dL → Bool) (e : Ex) (l : List Ex) (t : Int) : iW W (e :: l) t = (decide (Ti W e = t) && iW W l t) := by simp only [iW]
theorem Sz (W : dL → Bool) (t : Int) : iW W [] t = true := by simp only [iW]
mutual
def Ro (K : dL → Bool) : Ex → Bool
 | .mk k _ _ s l => (!decide (k = 4) || K s) && Ll K l
def Ll (K : dL → Bool) : List Ex → Bool
 | [] => true
 | e :: l => Ro K e && Ll K l
end
theorem Xm (K : dL → Bool) (e : Ex) : Ro K e = ((!decide (e.kind = 4) || K e.name) && Ll K e.kids) := by
 cases e; simp only [Ro, Ex.kind, Ex.name, Ex.kids]; rfl
theorem wL (K : dL → Bool) (e : Ex) (l : List Ex) : Ll K (e :: l) = (Ro K e && Ll K l) := by simp only [Ll]
theorem Ca (K : dL → Bool) : Ll K [] = true := by simp only [Ll]
mutual
def H6 (K : dL → Bool) : Sm → Bool
 | .mk k s l t u => (!decide (k = 6) || K s) && Ll K l && Ak K t && Ak K u
def Ak (K : dL → Bool) : List Sm → Bool
 | [] => true
 | e :: l => H6 K e && Ak K l
end
theorem Xl (K : dL → Bool) (e : Sm) : H6 K e = ((!decide (e.kind = 6) || K e.name) && Ll K e.es && Ak K e.thn && Ak K e.els) := by
 cases e; simp only [H6, Sm.kind, Sm.name, Sm.es, Sm.thn, Sm.els]; rfl
theorem Rn (K : dL → Bool) (e : Sm) (l : List Sm) : Ak K (e :: l) = (H6 K e && Ak K l) := by simp only [Ak]
theorem Ty (K : dL → Bool) : Ak K [] = true := by simp only [Ak]
def rQ (k : Int) : Int := if k = 4 ∨ k = 5 then 2 else 1
mutual
def Ul (W : dL → Bool) (w : Bool) : Sm → Bool
 | .mk k s l t u => iW W l (rQ k) && !(decide (k = 6) && W s) && !(decide (k = 7) && decide (0 < l.length) && !w) && mP W w t && mP W w u
def mP (W : dL → Bool) (w : Bool) : List Sm → Bool
 | [] => true
 | e :: l => Ul W w e && mP W w l
end
theorem Uk (W : dL → Bool) (w : Bool) (e : Sm) : Ul W w e = (iW W e.es (rQ e.kind) && !(decide (e.kind = 6) && W e.name) && !(decide (e.kind = 7) && decide (0 < e.es.length) && !w) && mP W w e.thn && mP W w e.els) := by
 cases e; simp only [Ul, Sm.kind, Sm.name, Sm.es, Sm.thn, Sm.els]; rfl
theorem Nw (W : dL → Bool) (w : Bool) (e : Sm) (l : List Sm) : mP W w (e :: l) = (Ul W w e && mP W w l) := by simp only [mP]
theorem Sc (W : dL → Bool) (w : Bool) : mP W w [] = true := by simp only [mP]
def Lr (p : Pg) (e : Ex) : Int × Int := if Ro (yQ p) e = true then (if Ti (rO p) e = 0 then (0, 5) else (Ti (rO p) e, 0)) else (0, 4)
def tL (p : Pg) : Int := if (p.funs.all fun f => Ak (yQ p) f.body) = true then (if (p.funs.all fun f => mP (rO p) f.word f.body) = true then 0 else 5) else 4
theorem wT : ∀ (l : List Fu) (s : dL), l.find? (fun f => decide (f.name = s)) = (dO (l.map Fu.name) s).bind fun k => l[k]?
 | [], s => by simp [dO]
 | f :: l, s => by
   have ih := wT l s
   simp only [List.map_cons, dO]
   by_cases h : f.name = s
   ·simp [h]
   simp only [List.find?_cons, aN h, if_neg h, ih]
   cases dO (l.map Fu.name) s <;> simp
theorem rL (p : Pg) (s : dL) : Xq p s = (dO (p.funs.map Fu.name) s).bind fun k => p.funs[k]? := wT _ _
end Go.Al
namespace Go.Proofs.YtnfbbjhdflhmjaaDoor
open Go.Al
def fP (p : Pg) : Int := if iZ p = true then (if jJ p = 0 then tL p else jJ p) else 7
end Go.Proofs.YtnfbbjhdflhmjaaDoor
namespace Go.Proofs.YtnfbbjhdflhmjaaDoor
open Go.Al
end Go.Proofs.YtnfbbjhdflhmjaaDoor
namespace Go.Proofs.YtnfbbjhdflhmjaaDoor
open Go.Al
theorem Ym (p : Pg) (s : dL) : decide (Zs (dO (p.funs.map Fu.name) s) < 0) = !yQ p s := by
 have h : yQ p s = ((dO (p.funs.map Fu.name) s).bind fun k => p.funs[k]?).isSome := by simp only [yQ, rL]
 cases hc : dO (p.funs.map Fu.name) s with
 | none => rw [h, hc]; rfl
 | some k =>
   have hlt := (iN _ _ _ hc).1
   rw [aD] at hlt
   rw [h, hc]
   simp [Zs, aH hlt]
   exact aN (by omega)
end Go.Proofs.YtnfbbjhdflhmjaaDoor
namespace Go.Proofs.YtnfbbjhdflhmjaaDoor
open Go.Al
theorem Yh (p : Pg) (s : dL) (h : yQ p s = true) : ∃ (k : Nat) (g : Fu), dO (p.funs.map Fu.name) s = some k ∧ p.funs[k]? = some g ∧ rO p s = g.word := by
 have h1 : yQ p s = ((dO (p.funs.map Fu.name) s).bind fun k => p.funs[k]?).isSome := by simp only [yQ, rL]
 have h2 : rO p s = match (dO (p.funs.map Fu.name) s).bind (fun k => p.funs[k]?) with | some f => f.word | none => false := by simp only [rO, rL] <;> rfl
 cases hc : dO (p.funs.map Fu.name) s with
 | none => rw [h1, hc] at h; cases h
 | some k =>
   have hlt := (iN _ _ _ hc).1
   rw [aD] at hlt
   refine ⟨k, p.funs[k], rfl, aH hlt, ?_⟩
   rw [h2, hc]
   simp [aH hlt]
end Go.Proofs.YtnfbbjhdflhmjaaDoor
namespace Go.Proofs.YtnfbbjhdflhmjaaDoor
open Go.Al
end Go.Proofs.YtnfbbjhdflhmjaaDoor
