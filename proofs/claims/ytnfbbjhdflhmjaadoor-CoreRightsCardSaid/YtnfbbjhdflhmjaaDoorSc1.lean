/- Chapter 16, the judge's: names and uses. Chapter 16, the judge's: what a name is; are names right? Chapter 16, the judge's: are names right, are numbers? Chapter 16, the judge's: are numbers right? Check; comparing lists of lists. -/
import Derived.Test.YtnfbbjhdflhmjaaDoorSy2
import Derived.Test.YtnfbbjhdflhmjaaDoorAl4
set_option linter.unusedSimpArgs false
set_option linter.unusedVariables false
set_option maxRecDepth 10000
namespace Go.Al
def dO : List dL → dL → Option Nat
 | [], _ => none
 | x :: l, s => if x = s then some 0 else (dO l s).map (· + 1)
def Zs : Option Nat → Int | some n => n | none => -1
theorem iN : ∀ (l : List dL) (s : dL) (k : Nat), dO l s = some k → k < l.length ∧ l[k]? = some s
 | [], s, k, h => by cases h
 | x :: l, s, k, h => by
   simp only [dO] at h
   split at h
   ·rename_i e; cases h; exact ⟨by simp, by simp [e]⟩
   rw [aZ] at h
   obtain ⟨j, hj, rfl⟩ := h
   have := iN l s j hj
   exact ⟨by simp only [bX]; omega, by simpa using this.2⟩
theorem Eo : ∀ (l : List dL) (s : dL) (k : Nat), (l.take k).contains s = false → dO l s = (dO (l.drop k) s).map (· + k)
 | l, s, 0, _ => by simp
 | [], s, k + 1, _ => by simp [dO]
 | x :: l, s, k + 1, h => by
   simp only [List.take_succ_cons, List.contains_cons, Bool.or_eq_false_iff] at h
   have hne : ¬ x = s := fun e => by rw [e] at h; simp at h
   simp only [dO, if_neg hne, List.drop_succ_cons]
   rw [Eo l s k h.2]
   cases dO (l.drop k) s <;> simp [Nat.add_assoc]
def gG (f : Fu) : List dL := f.params ++ f.locs
def kT (p : Pg) : List dL := p.vars ++ p.arrs.map Ar.name ++ p.funs.map Fu.name
def sN (p : Pg) (s : dL) : Int × Int := match dO (kT p) s with
 | none => (0, -1)
 | some k => if k < p.vars.length then (2, k) else if k - p.vars.length < p.arrs.length then (3, ((k - p.vars.length : Nat) : Int)) else (4, ((k - p.vars.length - p.arrs.length : Nat) : Int))
def fR (p : Pg) (f : Nat) (s : dL) : Int × Int := match (p.funs[f]?).bind fun g => dO (gG g) s with
 | some k => (1, k)
 | none => sN p s
structure Us where
 name : dL
 kind : Int
 num : Int
def Us.row (u : Us) : List AV := [.str u.name, .int .i64 u.kind, .int .i64 u.num]
def rR (e : Ex) : List Us := if e.kind = 2 then [⟨e.name, 1, 0⟩] else if e.kind = 3 then [⟨e.name, 3, 0⟩] else if e.kind = 4 then [⟨e.name, 4, e.kids.length⟩] else []
def fD : List Ex → List Us
 | [] => []
 | .mk k o n s kids :: l => rR (.mk k o n s kids) ++ fD kids ++ fD l
theorem iK (e : Ex) (l : List Ex) : fD (e :: l) = rR e ++ fD e.kids ++ fD l := by cases e; rw [fD]; rfl
def rS (e : Sm) : List Us := if e.kind = 1 then [⟨e.name, 1, 0⟩] else if e.kind = 2 then [⟨e.name, 3, 0⟩] else if e.kind = 6 then [⟨e.name, 4, e.es.length⟩] else []
def eO : List Sm → List Us
 | [] => []
 | .mk k s es t u :: l => rS (.mk k s es t u) ++ fD es ++ eO t ++ eO u ++ eO l
theorem iJ (e : Sm) (l : List Sm) : eO (e :: l) = rS e ++ fD e.es ++ eO e.thn ++ eO e.els ++ eO l := by cases e; rw [eO]; rfl
theorem Pk (e : Ex) : (rR e).length ≤ 1 := by
 unfold rR
 repeat' split
 all_goals simp
theorem Pl (e : Sm) : (rS e).length ≤ 1 := by
 unfold rS
 repeat' split
 all_goals simp
theorem Mn (n : Nat) : ∀ l : List Ex, mD l = n → (fD l).length ≤ n := by
 induction n using Nat.strongRecOn with
 | _ n ih =>
   intro l hn
   cases l with
   | nil => simp [fD]
   | cons e l =>
     have hs := e.sz_eq
     simp only [mD] at hn
     rw [iK, bU, bU]
     have := Pk e
     have h1 := ih (mD e.kids) (by omega) e.kids rfl
     have h2 := ih (mD l) (by omega) l rfl
     omega
theorem Yi (n : Nat) : ∀ l : List Sm, jD l = n → (eO l).length ≤ n := by
 induction n using Nat.strongRecOn with
 | _ n ih =>
   intro l hn
   cases l with
   | nil => simp [eO]
   | cons e l =>
     have hs := e.sz_eq
     simp only [jD] at hn
     rw [iJ, bU, bU, bU, bU]
     have := Pl e
     have h0 := Mn _ e.es rfl
     have h1 := ih (jD e.thn) (by omega) e.thn rfl
     have h2 := ih (jD e.els) (by omega) e.els rfl
     have h3 := ih (jD l) (by omega) l rfl
     omega
theorem Ib {l : List Ex} {k : Nat} (h : k < l.length) : fD (l.take (k + 1)) = fD (l.take k) ++ (rR l[k] ++ fD l[k].kids) := by
 have key : ∀ a b : List Ex, fD (a ++ b) = fD a ++ fD b := by
  intro a b
  induction a with
  | nil => simp [fD]
  | cons e a ih => rw [List.cons_append, iK, iK, ih]; simp only [List.append_assoc]
 rw [bT h, key, iK]
 simp [fD]
theorem Ia {l : List Sm} {k : Nat} (h : k < l.length) : eO (l.take (k + 1)) = eO (l.take k) ++ (rS l[k] ++ fD l[k].es ++ eO l[k].thn ++ eO l[k].els) := by
 have key : ∀ a b : List Sm, eO (a ++ b) = eO a ++ eO b := by
  intro a b
  induction a with
  | nil => simp [eO]
  | cons e a ih => rw [List.cons_append, iJ, iJ, ih]; simp only [List.append_assoc]
 rw [bT h, key, iJ]
 simp [eO]
theorem Zo (l : List Ex) (k : Nat) : mD (l.take k) ≤ mD l := by
 induction l generalizing k with
 | nil => simp
 | cons e l ih =>
   cases k with
   | zero => simp [mD]
   | succ k => simp only [List.take_succ_cons, mD]; have := ih k; omega
theorem Zn (l : List Sm) (k : Nat) : jD (l.take k) ≤ jD l := by
 induction l generalizing k with
 | nil => simp
 | cons e l ih =>
   cases k with
   | zero => simp [jD]
   | succ k => simp only [List.take_succ_cons, jD]; have := ih k; omega
theorem O2 (l : List dL) : (l.map cH).all (fun r => r.all one) = true := by
 rw [List.all_eq_true]; intro r hr; obtain ⟨t, _, rfl⟩ := List.mem_map.1 hr; rfl
theorem O1 (l : List Us) : (l.map Us.row).all (fun r => r.all one) = true := by
 rw [List.all_eq_true]; intro r hr; obtain ⟨t, _, rfl⟩ := List.mem_map.1 hr; rfl
end Go.Al
namespace Go.Proofs.YtnfbbjhdflhmjaaDoor
open Go.Al
end Go.Proofs.YtnfbbjhdflhmjaaDoor
namespace Go.Al
structure Pg.few (p : Pg) : Prop where
 ok : p.ok
 v : p.vars.length ≤ 10000
 a : p.arrs.length ≤ 10000
 f : p.funs.length ≤ 10000
 fs : ∀ f ∈ p.funs, f.params.length ≤ 10000 ∧ f.locs.length ≤ 1100000 ∧ jD f.body ≤ 1000000
theorem Es : ∀ l : List dL, l.Nodup ↔ ∀ (i : Nat) (h : i < l.length), dO l l[i] = some i
 | [] => by simp
 | x :: l => by
   rw [List.nodup_cons, Es l]
   constructor
   ·rintro ⟨h1, h2⟩ i hi
    cases i with
    | zero => simp [dO]
    | succ i =>
      have hi' : i < l.length := by simpa using hi
      have hne : ¬ x = l[i] := fun e => h1 (e ▸ bA hi')
      simp only [List.getElem_cons_succ, dO, if_neg hne, h2 i hi', Option.map_some]
   intro h
   refine ⟨fun hx => ?_, fun i hi => ?_⟩
   ·obtain ⟨i, hi, e⟩ := List.getElem_of_mem hx
    have := h (i + 1) (by simpa using hi)
    simp [dO, e] at this
   have := h (i + 1) (by simpa using hi)
   simp only [List.getElem_cons_succ, dO] at this
   split at this
   ·simp at this
   rw [aZ] at this
   obtain ⟨j, hj, e⟩ := this
   rw [hj]; congr 1; omega
def oU (p : Pg) (i : Nat) (u : Us) : Bool :=
 !((decide (u.kind = 1) && !decide ((fR p i u.name).1 = 1) && !decide ((fR p i u.name).1 = 2)) || (decide (u.kind = 3) && !decide ((fR p i u.name).1 = 3)) ||
   (decide (u.kind = 4) && (!decide ((fR p i u.name).1 = 4) || decide ((i : Int) ≤ (fR p i u.name).2))))
def fZ (p : Pg) : Nat → List Fu → Bool
 | _, [] => true
 | i, f :: l => decide (gG f).Nodup && (eO f.body).all (oU p i) && fZ p (i + 1) l
def jH (p : Pg) : Bool := decide (kT p).Nodup && fZ p 0 p.funs
theorem Ao (p : Pg) : (kT p).length = p.vars.length + p.arrs.length + p.funs.length := by simp [kT]; omega
theorem Se (p : Pg) (s : dL) (h : (kT p).length ≤ 1000000) : -1 ≤ (sN p s).2 ∧ (sN p s).2 ≤ 1000000 ∧ 0 ≤ (sN p s).1 ∧ (sN p s).1 ≤ 4 := by
 unfold sN
 split
 ·simp
 rename_i k hk
 have := (iN _ _ _ hk).1
 split
 ·simp only; omega
 split <;> simp only <;> omega
theorem B9 (p : Pg) (i : Nat) (s : dL) (h : (kT p).length ≤ 1000000) (h2 : ∀ f ∈ p.funs, (gG f).length ≤ 1200000) : -1 ≤ (fR p i s).2 ∧ (fR p i s).2 ≤ 1200000 ∧ 0 ≤ (fR p i s).1 ∧ (fR p i s).1 ≤ 4 := by
 unfold fR
 split
 ·rename_i k hk
  rw [bP] at hk
  obtain ⟨f, hf, hk⟩ := hk
  have := (iN _ _ _ hk).1
  have := h2 f (bN hf)
  simp only; omega
 have := Se p s h
 exact ⟨this.1, by omega, this.2.2⟩
theorem Pg.few.gl {p : Pg} (h : p.few) : (kT p).length ≤ 30000 := by
 rw [Ao]; have := h.v; have := h.a; have := h.f; omega
theorem Pg.few.nl {p : Pg} (h : p.few) : ∀ f ∈ p.funs, (gG f).length ≤ 1200000 := fun f hf => by
 have := h.fs f hf; simp only [gG, bU]; omega
end Go.Al
namespace Go.Proofs.YtnfbbjhdflhmjaaDoor
open Go.Al
end Go.Proofs.YtnfbbjhdflhmjaaDoor
namespace Go.Al
theorem O4 {l : List Us} {i : Nat} {u : Us} (h : l[i]? = some u) : (l.map Us.row)[i]? = some [.str u.name, .int .i64 u.kind, .int .i64 u.num] := kX _ h
def Er (p : Pg) (i : Nat) (u : Us) : Bool := !decide (u.kind = 4) || (match p.funs[(fR p i u.name).2.toNat]? with | some g => decide ((g.params.length : Int) = u.num) | none => false)
def gT (p : Pg) : Nat → List Fu → Bool
 | _, [] => true
 | i, f :: l => (eO f.body).all (Er p i) && gT p (i + 1) l
def Lf : dL := [109, 97, 105, 110]
def Rj (p : Pg) : Bool := match p.funs[p.funs.length - 1]? with | some g => decide (g.name = Lf) && decide (g.params.length = 0) && !g.word | none => false
def wD (p : Pg) : Bool := gT p 0 p.funs && Rj p
def jJ (p : Pg) : Int := if jH p then (if wD p then 0 else 1) else 4
theorem lT (p : Pg) : ∀ (l : List Fu) (i : Nat), fZ p i l = true → ∀ (j : Nat) f, l[j]? = some f → (gG f).Nodup ∧ (eO f.body).all (oU p (i + j)) = true
 | [], i, _, j, f, hf => by simp at hf
 | g :: l, i, h, j, f, hf => by
   simp only [fZ, aX, bF] at h
   cases j with
   | zero => simp at hf; subst hf; exact h.1
   | succ j =>
     have := lT p l (i + 1) h.2 j f (by simpa using hf)
     rwa [show i + 1 + j = i + (j + 1) by omega] at this
theorem Jf (p : Pg) (i : Nat) (s : dL) (h : (fR p i s).1 = 4) : 0 ≤ (fR p i s).2 ∧ (fR p i s).2 < p.funs.length := by
 unfold fR at *
 split at h
 ·exact absurd h (by simp)
 rename_i hn
 unfold sN at *
 split at h
 ·exact absurd h (by decide)
 rename_i k hk
 split at h
 ·exact absurd h (by simp)
 rename_i c1
 split at h
 ·exact absurd h (by simp)
 rename_i c2
 have := (iN _ _ _ hk).1
 rw [Ao] at this
 rw [if_neg c1, if_neg c2]
 simp only; omega
end Go.Al
namespace Go.Proofs.YtnfbbjhdflhmjaaDoor
open Go.Al
end Go.Proofs.YtnfbbjhdflhmjaaDoor
namespace Go.Al
def Iu (n : Int) : List AV := [.int .i64 n]
def Ub (l : List Int) : List AV := [.isl 1 (l.map Iu)]
theorem O5 {l : List Int} {i : Nat} {n : Int} (h : l[i]? = some n) : (l.map Iu)[i]? = some [.int .i64 n] := kX _ h
theorem N1 {l : List (List Int)} {i : Nat} {n : List Int} (h : l[i]? = some n) : (l.map Ub)[i]? = some [.isl 1 (n.map Iu)] := kX _ h
end Go.Al
namespace Go.Proofs.YtnfbbjhdflhmjaaDoor
open Go.Al
end Go.Proofs.YtnfbbjhdflhmjaaDoor
