/- Chapter 16, the judge's: names and uses. Chapter 16, the judge's: what a name is; are names right? Chapter 16, the judge's: are names right, are numbers? Chapter 16, the judge's: are numbers right? Check; comparing lists of lists. -/
import Derived.Test.YtnfbbjhdflhmjaaDoorSy2
import Derived.Test.YtnfbbjhdflhmjaaDoorAl4
set_option linter.unusedSimpArgs false
set_option linter.unusedVariables false
set_option maxRecDepth 10000
namespace Go.Al
def placeN : List Str → Str → Option Nat
 | [], _ => none
 | x :: l, s => if x = s then some 0 else (placeN l s).map (· + 1)
def optI : Option Nat → Int | some n => n | none => -1
theorem placeN_lt : ∀ (l : List Str) (s : Str) (k : Nat), placeN l s = some k → k < l.length ∧ l[k]? = some s
 | [], s, k, h => by cases h
 | x :: l, s, k, h => by
   simp only [placeN] at h
   split at h
   ·rename_i e; cases h; exact ⟨by simp, by simp [e]⟩
   ·rw [Option.map_eq_some_iff] at h
    obtain ⟨j, hj, rfl⟩ := h
    have := placeN_lt l s j hj
    exact ⟨by simp only [List.length_cons]; omega, by simpa using this.2⟩
theorem placeN_from : ∀ (l : List Str) (s : Str) (k : Nat), (l.take k).contains s = false → placeN l s = (placeN (l.drop k) s).map (· + k)
 | l, s, 0, _ => by simp
 | [], s, k + 1, _ => by simp [placeN]
 | x :: l, s, k + 1, h => by
   simp only [List.take_succ_cons, List.contains_cons, Bool.or_eq_false_iff] at h
   have hne : ¬ x = s := fun e => by rw [e] at h; simp at h
   simp only [placeN, if_neg hne, List.drop_succ_cons]
   rw [placeN_from l s k h.2]
   cases placeN (l.drop k) s <;> simp [Nat.add_assoc]
def namesL (f : Fu) : List Str := f.params ++ f.locs
def globL (p : Pg) : List Str := p.vars ++ p.arrs.map Ar.name ++ p.funs.map Fu.name
def findG (p : Pg) (s : Str) : Int × Int := match placeN (globL p) s with
 | none => (0, -1)
 | some k => if k < p.vars.length then (2, k) else if k - p.vars.length < p.arrs.length then (3, ((k - p.vars.length : Nat) : Int)) else (4, ((k - p.vars.length - p.arrs.length : Nat) : Int))
def findF (p : Pg) (f : Nat) (s : Str) : Int × Int := match (p.funs[f]?).bind fun g => placeN (namesL g) s with
 | some k => (1, k)
 | none => findG p s
structure Us where
 name : Str
 kind : Int
 num : Int
def Us.row (u : Us) : List AV := [.str u.name, .int .i64 u.kind, .int .i64 u.num]
def useX (e : Ex) : List Us := if e.kind = 2 then [⟨e.name, 1, 0⟩] else if e.kind = 3 then [⟨e.name, 3, 0⟩] else if e.kind = 4 then [⟨e.name, 4, e.kids.length⟩] else []
def usesE : List Ex → List Us
 | [] => []
 | .mk k o n s kids :: l => useX (.mk k o n s kids) ++ usesE kids ++ usesE l
theorem usesE_cons (e : Ex) (l : List Ex) : usesE (e :: l) = useX e ++ usesE e.kids ++ usesE l := by cases e; rw [usesE]; rfl
def useS (e : Sm) : List Us := if e.kind = 1 then [⟨e.name, 1, 0⟩] else if e.kind = 2 then [⟨e.name, 3, 0⟩] else if e.kind = 6 then [⟨e.name, 4, e.es.length⟩] else []
def usesS : List Sm → List Us
 | [] => []
 | .mk k s es t u :: l => useS (.mk k s es t u) ++ usesE es ++ usesS t ++ usesS u ++ usesS l
theorem usesS_cons (e : Sm) (l : List Sm) : usesS (e :: l) = useS e ++ usesE e.es ++ usesS e.thn ++ usesS e.els ++ usesS l := by cases e; rw [usesS]; rfl
theorem useX_len (e : Ex) : (useX e).length ≤ 1 := by
 unfold useX
 repeat' split
 all_goals simp
theorem useS_len (e : Sm) : (useS e).length ≤ 1 := by
 unfold useS
 repeat' split
 all_goals simp
theorem usesE_len (n : Nat) : ∀ l : List Ex, szE l = n → (usesE l).length ≤ n := by
 induction n using Nat.strongRecOn with
 | _ n ih =>
   intro l hn
   cases l with
   | nil => simp [usesE]
   | cons e l =>
     have hs := e.sz_eq
     simp only [szE] at hn
     rw [usesE_cons, List.length_append, List.length_append]
     have := useX_len e
     have h1 := ih (szE e.kids) (by omega) e.kids rfl
     have h2 := ih (szE l) (by omega) l rfl
     omega
theorem usesS_len (n : Nat) : ∀ l : List Sm, szS l = n → (usesS l).length ≤ n := by
 induction n using Nat.strongRecOn with
 | _ n ih =>
   intro l hn
   cases l with
   | nil => simp [usesS]
   | cons e l =>
     have hs := e.sz_eq
     simp only [szS] at hn
     rw [usesS_cons, List.length_append, List.length_append, List.length_append, List.length_append]
     have := useS_len e
     have h0 := usesE_len _ e.es rfl
     have h1 := ih (szS e.thn) (by omega) e.thn rfl
     have h2 := ih (szS e.els) (by omega) e.els rfl
     have h3 := ih (szS l) (by omega) l rfl
     omega
theorem usesE_take {l : List Ex} {k : Nat} (h : k < l.length) : usesE (l.take (k + 1)) = usesE (l.take k) ++ (useX l[k] ++ usesE l[k].kids) := by
 have key : ∀ a b : List Ex, usesE (a ++ b) = usesE a ++ usesE b := by
  intro a b
  induction a with
  | nil => simp [usesE]
  | cons e a ih => rw [List.cons_append, usesE_cons, usesE_cons, ih]; simp only [List.append_assoc]
 rw [List.take_succ_eq_append_getElem h, key, usesE_cons]
 simp [usesE]
theorem usesS_take {l : List Sm} {k : Nat} (h : k < l.length) : usesS (l.take (k + 1)) = usesS (l.take k) ++ (useS l[k] ++ usesE l[k].es ++ usesS l[k].thn ++ usesS l[k].els) := by
 have key : ∀ a b : List Sm, usesS (a ++ b) = usesS a ++ usesS b := by
  intro a b
  induction a with
  | nil => simp [usesS]
  | cons e a ih => rw [List.cons_append, usesS_cons, usesS_cons, ih]; simp only [List.append_assoc]
 rw [List.take_succ_eq_append_getElem h, key, usesS_cons]
 simp [usesS]
theorem szE_take (l : List Ex) (k : Nat) : szE (l.take k) ≤ szE l := by
 induction l generalizing k with
 | nil => simp
 | cons e l ih =>
   cases k with
   | zero => simp [szE]
   | succ k => simp only [List.take_succ_cons, szE]; have := ih k; omega
theorem szS_take (l : List Sm) (k : Nat) : szS (l.take k) ≤ szS l := by
 induction l generalizing k with
 | nil => simp
 | cons e l ih =>
   cases k with
   | zero => simp [szS]
   | succ k => simp only [List.take_succ_cons, szS]; have := ih k; omega
theorem oneN (l : List Str) : (l.map strRow).all (fun r => r.all one) = true := by
 rw [List.all_eq_true]; intro r hr; obtain ⟨t, _, rfl⟩ := List.mem_map.1 hr; rfl
theorem oneU (l : List Us) : (l.map Us.row).all (fun r => r.all one) = true := by
 rw [List.all_eq_true]; intro r hr; obtain ⟨t, _, rfl⟩ := List.mem_map.1 hr; rfl
end Go.Al
namespace Go.Proofs.YtnfbbjhdflhmjaaDoor
open Go.Al
end Go.Proofs.YtnfbbjhdflhmjaaDoor
namespace Go.Al
structure Pg.few (p : Pg) : Prop where
 ok : p.ok
 v : p.vars.length ≤ 10000
 a : p.arrs.length ≤ 10000
 f : p.funs.length ≤ 10000
 fs : ∀ f ∈ p.funs, f.params.length ≤ 10000 ∧ f.locs.length ≤ 1100000 ∧ szS f.body ≤ 1000000
theorem nodup_place : ∀ l : List Str, l.Nodup ↔ ∀ (i : Nat) (h : i < l.length), placeN l l[i] = some i
 | [] => by simp
 | x :: l => by
   rw [List.nodup_cons, nodup_place l]
   constructor
   ·rintro ⟨h1, h2⟩ i hi
    cases i with
    | zero => simp [placeN]
    | succ i =>
      have hi' : i < l.length := by simpa using hi
      have hne : ¬ x = l[i] := fun e => h1 (e ▸ List.getElem_mem hi')
      simp only [List.getElem_cons_succ, placeN, if_neg hne, h2 i hi', Option.map_some]
   ·intro h
    refine ⟨fun hx => ?_, fun i hi => ?_⟩
    ·obtain ⟨i, hi, e⟩ := List.getElem_of_mem hx
     have := h (i + 1) (by simpa using hi)
     simp [placeN, e] at this
    ·have := h (i + 1) (by simpa using hi)
     simp only [List.getElem_cons_succ, placeN] at this
     split at this
     ·simp at this
     ·rw [Option.map_eq_some_iff] at this
      obtain ⟨j, hj, e⟩ := this
      rw [hj]; congr 1; omega
def okUse (p : Pg) (i : Nat) (u : Us) : Bool :=
 !((decide (u.kind = 1) && !decide ((findF p i u.name).1 = 1) && !decide ((findF p i u.name).1 = 2)) || (decide (u.kind = 3) && !decide ((findF p i u.name).1 = 3)) ||
   (decide (u.kind = 4) && (!decide ((findF p i u.name).1 = 4) || decide ((i : Int) ≤ (findF p i u.name).2))))
def namesFrom (p : Pg) : Nat → List Fu → Bool
 | _, [] => true
 | i, f :: l => decide (namesL f).Nodup && (usesS f.body).all (okUse p i) && namesFrom p (i + 1) l
def namesB (p : Pg) : Bool := decide (globL p).Nodup && namesFrom p 0 p.funs
theorem globL_len (p : Pg) : (globL p).length = p.vars.length + p.arrs.length + p.funs.length := by simp [globL]; omega
theorem findG_bd (p : Pg) (s : Str) (h : (globL p).length ≤ 1000000) : -1 ≤ (findG p s).2 ∧ (findG p s).2 ≤ 1000000 ∧ 0 ≤ (findG p s).1 ∧ (findG p s).1 ≤ 4 := by
 unfold findG
 split
 ·simp
 ·rename_i k hk
  have := (placeN_lt _ _ _ hk).1
  split
  ·simp only; omega
  ·split <;> simp only <;> omega
theorem findF_bd (p : Pg) (i : Nat) (s : Str) (h : (globL p).length ≤ 1000000) (h2 : ∀ f ∈ p.funs, (namesL f).length ≤ 1200000) : -1 ≤ (findF p i s).2 ∧ (findF p i s).2 ≤ 1200000 ∧ 0 ≤ (findF p i s).1 ∧ (findF p i s).1 ≤ 4 := by
 unfold findF
 split
 ·rename_i k hk
  rw [Option.bind_eq_some_iff] at hk
  obtain ⟨f, hf, hk⟩ := hk
  have := (placeN_lt _ _ _ hk).1
  have := h2 f (List.mem_of_getElem? hf)
  simp only; omega
 ·have := findG_bd p s h
  exact ⟨this.1, by omega, this.2.2⟩
theorem Pg.few.gl {p : Pg} (h : p.few) : (globL p).length ≤ 30000 := by
 rw [globL_len]; have := h.v; have := h.a; have := h.f; omega
theorem Pg.few.nl {p : Pg} (h : p.few) : ∀ f ∈ p.funs, (namesL f).length ≤ 1200000 := fun f hf => by
 have := h.fs f hf; simp only [namesL, List.length_append]; omega
end Go.Al
namespace Go.Proofs.YtnfbbjhdflhmjaaDoor
open Go.Al
end Go.Proofs.YtnfbbjhdflhmjaaDoor
namespace Go.Al
theorem getU {l : List Us} {i : Nat} {u : Us} (h : l[i]? = some u) : (l.map Us.row)[i]? = some [.str u.name, .int .i64 u.kind, .int .i64 u.num] := getRow _ h
def numU (p : Pg) (i : Nat) (u : Us) : Bool := !decide (u.kind = 4) || (match p.funs[(findF p i u.name).2.toNat]? with | some g => decide ((g.params.length : Int) = u.num) | none => false)
def numsFrom (p : Pg) : Nat → List Fu → Bool
 | _, [] => true
 | i, f :: l => (usesS f.body).all (numU p i) && numsFrom p (i + 1) l
def mainS : Str := [109, 97, 105, 110]
def lastB (p : Pg) : Bool := match p.funs[p.funs.length - 1]? with | some g => decide (g.name = mainS) && decide (g.params.length = 0) && !g.word | none => false
def numsB (p : Pg) : Bool := numsFrom p 0 p.funs && lastB p
def checkI (p : Pg) : Int := if namesB p then (if numsB p then 0 else 1) else 4
theorem namesFrom_get (p : Pg) : ∀ (l : List Fu) (i : Nat), namesFrom p i l = true → ∀ (j : Nat) f, l[j]? = some f → (namesL f).Nodup ∧ (usesS f.body).all (okUse p (i + j)) = true
 | [], i, _, j, f, hf => by simp at hf
 | g :: l, i, h, j, f, hf => by
   simp only [namesFrom, Bool.and_eq_true, decide_eq_true_eq] at h
   cases j with
   | zero => simp at hf; subst hf; exact h.1
   | succ j =>
     have := namesFrom_get p l (i + 1) h.2 j f (by simpa using hf)
     rwa [show i + 1 + j = i + (j + 1) by omega] at this
theorem findF_call (p : Pg) (i : Nat) (s : Str) (h : (findF p i s).1 = 4) : 0 ≤ (findF p i s).2 ∧ (findF p i s).2 < p.funs.length := by
 unfold findF at *
 split at h
 ·exact absurd h (by simp)
 ·rename_i hn
  unfold findG at *
  split at h
  ·exact absurd h (by decide)
  ·rename_i k hk
   split at h
   ·exact absurd h (by simp)
   ·rename_i c1
    split at h
    ·exact absurd h (by simp)
    ·rename_i c2
     have := (placeN_lt _ _ _ hk).1
     rw [globL_len] at this
     rw [if_neg c1, if_neg c2]
     simp only; omega
end Go.Al
namespace Go.Proofs.YtnfbbjhdflhmjaaDoor
open Go.Al
end Go.Proofs.YtnfbbjhdflhmjaaDoor
namespace Go.Al
def intRow (n : Int) : List AV := [.int .i64 n]
def intsRow (l : List Int) : List AV := [.isl 1 (l.map intRow)]
theorem getI {l : List Int} {i : Nat} {n : Int} (h : l[i]? = some n) : (l.map intRow)[i]? = some [.int .i64 n] := getRow _ h
theorem getII {l : List (List Int)} {i : Nat} {n : List Int} (h : l[i]? = some n) : (l.map intsRow)[i]? = some [.isl 1 (n.map intRow)] := getRow _ h
end Go.Al
namespace Go.Proofs.YtnfbbjhdflhmjaaDoor
open Go.Al
end Go.Proofs.YtnfbbjhdflhmjaaDoor
