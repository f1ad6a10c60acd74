/- Chapter 19: programs without names, as plain Lean data, and the rows of cells that they stand for. No program in sight. Chapter 19: may a core be? How a core runs: a run that is cut at a depth. In plain Lean. Chapter 19, in plain Lean: a core's run that is cut deeper goes on the same; the run of a core that may be comes to an end. Chapter 19, in plain Lean: the run of a core that may be comes to an end, and all words are words. Chapter 19, in plain Lean: a core that may be runs to an end. Chapter 19, in plain Lean: what a core's run puts out and counts grows; what more fuel does; where nothing is got the input plays no part. -/
import Derived.Test.YtnfbbjhdflhmjaaDoorSy1
import Derived.Test.YtnfbbjhdflhmjaaDoorMa
import Derived.Test.YtnfbbjhdflhmjaaDoorMb
set_option linter.unusedSimpArgs false
set_option linter.unusedVariables false
set_option maxRecDepth 10000
namespace Go.Al
inductive CE where
 | mk (kind op num slot size : Int) (kids : List CE)
inductive CS where
 | mk (kind slot size : Int) (es : List CE) (thn els : List CS)
structure CF where
 params : Int
 slots : Int
 first : Int
 word : Bool
 body : List CS
structure Co where
 words : Int
 funs : List CF
def CE.kind : CE → Int | .mk k _ _ _ _ _ => k
def CE.op : CE → Int | .mk _ o _ _ _ _ => o
def CE.num : CE → Int | .mk _ _ n _ _ _ => n
def CE.slot : CE → Int | .mk _ _ _ a _ _ => a
def CE.size : CE → Int | .mk _ _ _ _ z _ => z
def CE.kids : CE → List CE | .mk _ _ _ _ _ l => l
def CS.kind : CS → Int | .mk k _ _ _ _ _ => k
def CS.slot : CS → Int | .mk _ a _ _ _ _ => a
def CS.size : CS → Int | .mk _ _ z _ _ _ => z
def CS.es : CS → List CE | .mk _ _ _ l _ _ => l
def CS.thn : CS → List CS | .mk _ _ _ _ l _ => l
def CS.els : CS → List CS | .mk _ _ _ _ _ l => l
mutual
def CE.row : CE → List AV
 | .mk k o n a z l => [.int .i64 k, .int .i64 o, .int .u32 n, .int .i64 a, .int .i64 z, .isl 6 (vX l)]
def vX : List CE → List (List AV)
 | [] => []
 | e :: l => e.row :: vX l
end
theorem vW : ∀ l : List CE, vX l = l.map CE.row
 | [] => by simp only [vX, List.map_nil]
 | e :: l => by simp only [vX, List.map_cons, vW l]
theorem CE.row_eq (e : CE) : e.row = [.int .i64 e.kind, .int .i64 e.op, .int .u32 e.num, .int .i64 e.slot, .int .i64 e.size, .isl 6 (e.kids.map CE.row)] := by
 cases e; simp only [CE.row, vW, CE.kind, CE.op, CE.num, CE.slot, CE.size, CE.kids]
mutual
def CS.row : CS → List AV
 | .mk k a z l t u => [.int .i64 k, .int .i64 a, .int .i64 z, .isl 6 (l.map CE.row), .isl 6 (tE t), .isl 6 (tE u)]
def tE : List CS → List (List AV)
 | [] => []
 | e :: l => e.row :: tE l
end
theorem vV : ∀ l : List CS, tE l = l.map CS.row
 | [] => by simp only [tE, List.map_nil]
 | e :: l => by simp only [tE, List.map_cons, vV l]
theorem CS.row_eq (s : CS) : s.row = [.int .i64 s.kind, .int .i64 s.slot, .int .i64 s.size, .isl 6 (s.es.map CE.row), .isl 6 (s.thn.map CS.row), .isl 6 (s.els.map CS.row)] := by
 cases s; simp only [CS.row, vV, CS.kind, CS.slot, CS.size, CS.es, CS.thn, CS.els]
def CF.row (f : CF) : List AV := [.int .i64 f.params, .int .i64 f.slots, .int .i64 f.first, .bool f.word, .isl 6 (f.body.map CS.row)]
def Co.row (c : Co) : List AV := [.int .i64 c.words, .isl 5 (c.funs.map CF.row)]
def Co.av (c : Co) : AV := .agg c.row
mutual
def CE.sz : CE → Nat
 | .mk _ _ _ _ _ l => 1 + dM l
def dM : List CE → Nat
 | [] => 0
 | e :: l => e.sz + dM l
end
mutual
def CS.sz : CS → Nat
 | .mk _ _ _ l t u => 1 + dM l + cP t + cP u
def cP : List CS → Nat
 | [] => 0
 | e :: l => e.sz + cP l
end
theorem CE.sz_eq (e : CE) : e.sz = 1 + dM e.kids := by cases e; simp only [CE.sz, CE.kids]
theorem CS.sz_eq (s : CS) : s.sz = 1 + dM s.es + cP s.thn + cP s.els := by cases s; simp only [CS.sz, CS.es, CS.thn, CS.els]
theorem jP : ∀ {l : List CE} {e : CE}, e ∈ l → e.sz ≤ dM l
 | e :: l, x, h => by
   simp only [dM]
   rcases List.mem_cons.1 h with rfl | h
   ·omega
   have := jP h; omega
theorem jO : ∀ {l : List CS} {e : CS}, e ∈ l → e.sz ≤ cP l
 | e :: l, x, h => by
   simp only [cP]
   rcases List.mem_cons.1 h with rfl | h
   ·omega
   have := jO h; omega
theorem mJ : ∀ l : List CE, l.length ≤ dM l
 | [] => aY _
 | e :: l => by have := mJ l; have := e.sz_eq; simp only [dM, bX]; omega
theorem oR : ∀ l : List CS, l.length ≤ cP l
 | [] => aY _
 | e :: l => by have := oR l; have := e.sz_eq; simp only [cP, bX]; omega
inductive CE.ok : CE → Prop where
 | mk (k o n a z : Int) (l : List CE) (hk : cX k) (ho : cX o) (hn : cJ n) (ha : cX a) (hz : cX z) (hl : cY l) (h : ∀ e ∈ l, CE.ok e) : CE.ok (.mk k o n a z l)
structure lS (l : List CE) : Prop where
 fit : cY l
 all : ∀ e ∈ l, e.ok
inductive CS.ok : CS → Prop where
 | mk (k a z : Int) (l : List CE) (t u : List CS) (hk : cX k) (ha : cX a) (hz : cX z) (hl : lS l) (ht : cY t) (hta : ∀ e ∈ t, CS.ok e) (hu : cY u) (hua : ∀ e ∈ u, CS.ok e) : CS.ok (.mk k a z l t u)
structure oV (l : List CS) : Prop where
 fit : cY l
 all : ∀ e ∈ l, e.ok
structure CF.ok (f : CF) : Prop where
 params : cX f.params
 slots : cX f.slots
 first : cX f.first
 body : oV f.body
structure Co.ok (c : Co) : Prop where
 words : cX c.words
 fit : cY c.funs
 funs : ∀ f ∈ c.funs, f.ok
theorem CE.ok.kids {e : CE} (h : e.ok) : lS e.kids := by cases h; exact ⟨by assumption, by assumption⟩
theorem CE.ok.num {e : CE} (h : e.ok) : cJ e.num := by cases h; assumption
theorem CE.ok.kind {e : CE} (h : e.ok) : cX e.kind := by cases h; assumption
theorem CE.ok.op {e : CE} (h : e.ok) : cX e.op := by cases h; assumption
theorem CE.ok.slot {e : CE} (h : e.ok) : cX e.slot := by cases h; assumption
theorem CE.ok.size {e : CE} (h : e.ok) : cX e.size := by cases h; assumption
theorem CS.ok.es {s : CS} (h : s.ok) : lS s.es := by cases h; assumption
theorem CS.ok.thn {s : CS} (h : s.ok) : oV s.thn := by cases h; exact ⟨by assumption, by assumption⟩
theorem CS.ok.els {s : CS} (h : s.ok) : oV s.els := by cases h; exact ⟨by assumption, by assumption⟩
theorem CS.ok.kind {s : CS} (h : s.ok) : cX s.kind := by cases h; assumption
theorem CS.ok.slot {s : CS} (h : s.ok) : cX s.slot := by cases h; assumption
theorem CS.ok.size {s : CS} (h : s.ok) : cX s.size := by cases h; assumption
theorem jF {l : List CE} {i : Nat} {e : CE} (h : l[i]? = some e) : (l.map CE.row)[i]? = some [.int .i64 e.kind, .int .i64 e.op, .int .u32 e.num, .int .i64 e.slot, .int .i64 e.size, .isl 6 (e.kids.map CE.row)] := by
 rw [kX _ h, e.row_eq]
theorem oZ {l : List CS} {i : Nat} {s : CS} (h : l[i]? = some s) : (l.map CS.row)[i]? = some [.int .i64 s.kind, .int .i64 s.slot, .int .i64 s.size, .isl 6 (s.es.map CE.row), .isl 6 (s.thn.map CS.row), .isl 6 (s.els.map CS.row)] := by
 rw [kX _ h, s.row_eq]
theorem jE {l : List CF} {i : Nat} {f : CF} (h : l[i]? = some f) : (l.map CF.row)[i]? = some [.int .i64 f.params, .int .i64 f.slots, .int .i64 f.first, .bool f.word, .isl 6 (f.body.map CS.row)] := kX _ h
end Go.Al
namespace Go.Al
def cF (words at' n : Int) : Bool := decide (0 ≤ at') && decide (0 ≤ n) && decide (at' ≤ words) && decide (n ≤ words - at')
def eT (below : List CF) (g : Int) (args : Nat) (word : Bool) : Bool := decide (0 ≤ g) && match below[g.toNat]? with
 | some f => decide (f.word = word) && decide (f.params = args)
 | none => false
def nT (words : Int) (below : List CF) (e : CE) : Bool :=
 (decide (e.kind = 1) || decide (e.num = 0)) && (decide (e.kind = 6) || decide (e.op = 0)) && (decide (e.kind = 3) || decide (e.size = 0)) && (decide (e.kind = 2) || decide (e.kind = 3) || decide (e.kind = 4) || decide (e.slot = 0)) &&
 (if e.kind = 1 ∨ e.kind = 5 then decide (e.kids.length = 0)
  else if e.kind = 2 then cF words e.slot 1 && decide (e.kids.length = 0)
  else if e.kind = 3 then decide (1 ≤ e.size) && decide (e.size ≤ 4096) && cF words e.slot e.size && decide (e.kids.length = 1)
  else if e.kind = 4 then eT below e.slot e.kids.length true
  else if e.kind = 6 then decide (4 ≤ e.op) && decide (e.op ≤ 15) && decide (e.kids.length = 2)
  else if e.kind = 7 then decide (e.kids.length = 1)
  else if e.kind = 8 ∨ e.kind = 9 then decide (e.kids.length = 2) else false)
mutual
def gK (words : Int) (below : List CF) : CE → Int → Bool
 | .mk k o n a z l, lv => decide (lv ≤ 24) && nT words below (.mk k o n a z l) && eF words below l (lv + 1)
def eF (words : Int) (below : List CF) : List CE → Int → Bool
 | [], _ => true
 | e :: l, lv => gK words below e lv && eF words below l lv
end
def lU (words : Int) (below : List CF) (word : Bool) (s : CS) : Bool :=
 (decide (s.kind = 2) || decide (s.size = 0)) && (decide (s.kind = 1) || decide (s.kind = 2) || decide (s.kind = 6) || decide (s.slot = 0)) && (decide (s.kind = 4) || decide (s.els.length = 0)) && (decide (s.kind = 4) || decide (s.kind = 5) || decide (s.thn.length = 0)) &&
 (if s.kind = 1 then cF words s.slot 1 && decide (s.es.length = 1)
  else if s.kind = 2 then decide (1 ≤ s.size) && decide (s.size ≤ 4096) && cF words s.slot s.size && decide (s.es.length = 2)
  else if s.kind = 3 ∨ s.kind = 4 ∨ s.kind = 5 then decide (s.es.length = 1)
  else if s.kind = 6 then eT below s.slot s.es.length false
  else if s.kind = 7 then decide (s.es.length = 0) || word && decide (s.es.length = 1) else false)
mutual
def fN (words : Int) (below : List CF) (word : Bool) : CS → Int → Bool
 | .mk k a z l t u, lv => decide (lv ≤ 24) && lU words below word (.mk k a z l t u) && eF words below l (lv + 1) && cR words below word t (lv + 1) && cR words below word u (lv + 1)
def cR (words : Int) (below : List CF) (word : Bool) : List CS → Int → Bool
 | [], _ => true
 | s :: l, lv => fN words below word s lv && cR words below word l lv
end
def gU (words : Int) (f : CF) : Bool := decide (0 ≤ f.params) && decide (f.params ≤ 6) && decide (f.params ≤ f.slots) && cF words f.first f.slots
def iI (words : Int) : List CF → List CF → Bool
 | _, [] => true
 | below, f :: l => cR words below f.word f.body 1 && iI words (below ++ [f]) l
def iA (c : Co) : Bool := decide (0 ≤ c.words) && decide (c.words ≤ 32768) && decide (1 ≤ c.funs.length) && decide (c.funs.length ≤ 64) && c.funs.all (gU c.words) && iI c.words [] c.funs &&
 match c.funs.getLast? with
 | some f => decide (f.params = 0) && !f.word
 | none => false
def oT (c : Co) : Nat := (c.funs.map fun f => cP f.body).sum
structure Kx where
 funs : List CF
 inp : dL
 fuel : Nat
def Kx.cx (k : Kx) : Cx := ⟨[], k.inp, k.fuel⟩
def jI (f : CF) (vs : List Int) (s : RS) : Option RS := if 0 ≤ f.first ∧ 0 ≤ f.slots ∧ f.first + f.slots ≤ s.vars.length ∧ vs.length ≤ f.slots then
    some { s with vars := s.vars.take f.first.toNat ++ (vs ++ List.replicate (f.slots.toNat - vs.length) 0) ++ s.vars.drop (f.first + f.slots).toNat } else none
def oW (a : Int) (s : RS) : Option Int := if 0 ≤ a then s.vars[a.toNat]? else none
def wB (a v : Int) (s : RS) : Option RS := if 0 ≤ a ∧ a < s.vars.length then some { s with vars := s.vars.set a.toNat v } else none
def He (z i : Int) (s : RS) : Rz Unit := if i < z then .val () s else .fin 3 s
mutual
def fJ (cx : Kx) : Nat → CE → RS → Option (Rz Int)
 | 0, _, _ => none
 | n + 1, .mk k o m a z l, st =>
   if k = 1 then some (.val m st)
   else if k = 2 then (oW a st).map fun v => .val v st
   else if k = 3 then match l[0]? with
    | none => none
    | some e => bindR (fJ cx n e st) fun i st => bindR (some (He z i st)) fun _ st => (oW (a + i) st).map fun v => .val v st
   else if k = 4 then oL cx n a l st
   else if k = 5 then some (kY cx.cx st)
   else match l[0]? with
    | none => none
    | some e =>
      if k = 7 then bindR (fJ cx n e st) fun x st => some (.val (if x = 0 then 1 else 0) st)
      else match l[1]? with
      | none => none
      | some b =>
        if k = 6 then bindR (fJ cx n e st) fun x st => bindR (fJ cx n b st) fun y st => if (dA o x y).2 = 0 then some (.val (dA o x y).1 st) else some (.fin 2 st)
        else bindR (fJ cx n e st) fun x st => if decide (x = 0) = decide (k = 8) then some (.val (if x = 0 then 0 else 1) st) else bindR (fJ cx n b st) fun y st => some (.val (if y = 0 then 0 else 1) st)
def jT (cx : Kx) : Nat → List CE → RS → Option (Rz (List Int))
 | 0, _, _ => none
 | _ + 1, [], st => some (.val [] st)
 | n + 1, e :: l, st => bindR (fJ cx n e st) fun v st => bindR (jT cx n l st) fun vs st => some (.val (v :: vs) st)
def oL (cx : Kx) : Nat → Int → List CE → RS → Option (Rz Int)
 | 0, _, _, _ => none
 | n + 1, i, l, st => if i < 0 then none else match cx.funs[i.toNat]? with
   | none => none
   | some f => bindR (jT cx n l st) fun vs st => bindR (some (eC cx.cx st)) fun _ st =>
     (jI f vs st).bind fun st => bindR (gX cx n f.body st) fun r st => some (.val (r.getD 0) st)
def nR (cx : Kx) : Nat → CS → RS → Option (Rz (Option Int))
 | 0, _, _ => none
 | n + 1, .mk k a z l t u, st =>
   if k = 1 then match l[0]? with
    | none => none
    | some e => bindR (fJ cx n e st) fun v st => (wB a v st).map fun st => .val none st
   else if k = 2 then match l[0]?, l[1]? with
    | some e, some b => bindR (fJ cx n e st) fun i st => bindR (fJ cx n b st) fun v st => bindR (some (He z i st)) fun _ st => (wB (a + i) v st).map fun st => .val none st
    | _, _ => none
   else if k = 3 then match l[0]? with
    | none => none
    | some e => bindR (fJ cx n e st) fun v st => bindR (some (lQ v st)) fun _ st => some (.val none st)
   else if k = 4 then match l[0]? with
    | none => none
    | some e => bindR (fJ cx n e st) fun v st => if v = 0 then gX cx n u st else gX cx n t st
   else if k = 5 then match l[0]? with
    | none => none
    | some e => oK cx n e t st
   else if k = 6 then bindR (oL cx n a l st) fun _ st => some (.val none st)
   else if k = 7 then match l[0]? with
    | none => some (.val (some 0) st)
    | some e => bindR (fJ cx n e st) fun v st => some (.val (some v) st)
   else some (.val none st)
def gX (cx : Kx) : Nat → List CS → RS → Option (Rz (Option Int))
 | 0, _, _ => none
 | _ + 1, [], st => some (.val none st)
 | n + 1, s :: l, st => bindR (nR cx n s st) fun r st => match r with
   | some v => some (.val (some v) st)
   | none => gX cx n l st
def oK (cx : Kx) : Nat → CE → List CS → RS → Option (Rz (Option Int))
 | 0, _, _, _ => none
 | n + 1, c, t, st => bindR (some (eC cx.cx st)) fun _ st => bindR (fJ cx n c st) fun x st => if x = 0 then some (.val none st) else
   bindR (gX cx n t st) fun r st => match r with
   | some v => some (.val (some v) st)
   | none => oK cx n c t st
end
end Go.Al
namespace Go.Al
structure G0 (cx : Kx) (n : Nat) : Prop where
 E : ∀ e st, dF (fJ cx n e st) (fJ cx (n + 1) e st)
 A : ∀ l st, dF (jT cx n l st) (jT cx (n + 1) l st)
 C : ∀ i l st, dF (oL cx n i l st) (oL cx (n + 1) i l st)
 S : ∀ e st, dF (nR cx n e st) (nR cx (n + 1) e st)
 L : ∀ l st, dF (gX cx n l st) (gX cx (n + 1) l st)
 W : ∀ c t st, dF (oK cx n c t st) (oK cx (n + 1) c t st)
theorem dF.bind {α β : Type} {x : Option α} {f g : α → Option β} (hf : ∀ a, dF (f a) (g a)) : dF (x.bind f) (x.bind g) := by
 cases x with
 | none => exact dF.refl _
 | some a => exact hf a
theorem oE (cx : Kx) (n : Nat) : G0 cx n := by
 induction n with
 | zero =>
   constructor
   all_goals
    intros
    intro o h
    simp [fJ, jT, oL, nR, gX, oK] at h
 | succ n ih =>
   obtain ⟨hE, hA, hC, hS, hL, hW⟩ := ih
   constructor
   ·rintro ⟨k, o, m, a, z, l⟩ st
    simp only [fJ]
    refine dF.ite (dF.refl _) (dF.ite (dF.refl _) (dF.ite ?_ (dF.ite (hC _ _ _) (dF.ite (dF.refl _) ?_))))
    ·cases l[0]? with
     | none => exact dF.refl _
     | some a => exact dF.bindR (hE _ _) fun _ _ => dF.refl _
    cases l[0]? with
    | none => exact dF.refl _
    | some a =>
      refine dF.ite (dF.bindR (hE _ _) fun _ _ => dF.refl _) ?_
      cases l[1]? with
      | none => exact dF.refl _
      | some b =>
        refine dF.ite (dF.bindR (hE _ _) fun _ _ => dF.bindR (hE _ _) fun _ _ => dF.refl _) ?_
        exact dF.bindR (hE _ _) fun _ _ => dF.ite (dF.refl _) (dF.bindR (hE _ _) fun _ _ => dF.refl _)
   ·intro l st
    cases l with
    | nil => simp only [jT]; exact dF.refl _
    | cons e l =>
      simp only [jT]
      exact dF.bindR (hE _ _) fun _ _ => dF.bindR (hA _ _) fun _ _ => dF.refl _
   ·intro i l st
    simp only [oL]
    refine dF.ite (dF.refl _) ?_
    cases cx.funs[i.toNat]? with
    | none => exact dF.refl _
    | some f => exact dF.bindR (hA _ _) fun _ _ => dF.bindR (dF.refl _) fun _ _ => dF.bind fun _ => dF.bindR (hL _ _) fun _ _ => dF.refl _
   ·rintro ⟨k, a, z, l, t, u⟩ st
    simp only [nR]
    refine dF.ite ?_ (dF.ite ?_ (dF.ite ?_ (dF.ite ?_ (dF.ite ?_ (dF.ite ?_ (dF.ite ?_ (dF.refl _)))))))
    ·cases l[0]? with
     | none => exact dF.refl _
     | some a => exact dF.bindR (hE _ _) fun _ _ => dF.refl _
    ·cases l[0]? with
     | none => exact dF.refl _
     | some a =>
       cases l[1]? with
       | none => exact dF.refl _
       | some b => exact dF.bindR (hE _ _) fun _ _ => dF.bindR (hE _ _) fun _ _ => dF.refl _
    ·cases l[0]? with
     | none => exact dF.refl _
     | some a => exact dF.bindR (hE _ _) fun _ _ => dF.refl _
    ·cases l[0]? with
     | none => exact dF.refl _
     | some a => exact dF.bindR (hE _ _) fun _ _ => dF.ite (hL _ _) (hL _ _)
    ·cases l[0]? with
     | none => exact dF.refl _
     | some a => exact hW _ _ _
    ·exact dF.bindR (hC _ _ _) fun _ _ => dF.refl _
    cases l[0]? with
    | none => exact dF.refl _
    | some a => exact dF.bindR (hE _ _) fun _ _ => dF.refl _
   ·intro l st
    cases l with
    | nil => simp only [gX]; exact dF.refl _
    | cons s l =>
      simp only [gX]
      refine dF.bindR (hS _ _) fun r st => ?_
      cases r with
      | some v => exact dF.refl _
      | none => exact hL _ _
   intro c t st
   simp only [oK]
   refine dF.bindR (dF.refl _) fun _ st => dF.bindR (hE _ _) fun x st => dF.ite (dF.refl _) (dF.bindR (hL _ _) fun r st => ?_)
   cases r with
   | some v => exact dF.refl _
   | none => exact hW _ _ _
theorem sF {cx : Kx} {n m : Nat} (hm : n ≤ m) {e st o} (h : fJ cx n e st = some o) : fJ cx m e st = some o := iB (f := fun n => fJ cx n e st) (fun n => (oE cx n).E _ _) hm o h
theorem A3 {cx : Kx} {n m : Nat} (hm : n ≤ m) {e st o} (h : jT cx n e st = some o) : jT cx m e st = some o := iB (f := fun n => jT cx n e st) (fun n => (oE cx n).A _ _) hm o h
theorem A0 {cx : Kx} {n m : Nat} (hm : n ≤ m) {i e st o} (h : oL cx n i e st = some o) : oL cx m i e st = some o := iB (f := fun n => oL cx n i e st) (fun n => (oE cx n).C _ _ _) hm o h
theorem Fa {cx : Kx} {n m : Nat} (hm : n ≤ m) {e st o} (h : nR cx n e st = some o) : nR cx m e st = some o := iB (f := fun n => nR cx n e st) (fun n => (oE cx n).S _ _) hm o h
theorem wK {cx : Kx} {n m : Nat} (hm : n ≤ m) {e st o} (h : gX cx n e st = some o) : gX cx m e st = some o := iB (f := fun n => gX cx n e st) (fun n => (oE cx n).L _ _) hm o h
theorem Zz {cx : Kx} {n m : Nat} (hm : n ≤ m) {c e st o} (h : oK cx n c e st = some o) : oK cx m c e st = some o := iB (f := fun n => oK cx n c e st) (fun n => (oE cx n).W _ _ _) hm o h
theorem nE (cx : Kx) (e st) : cI fun n => fJ cx n e st := fun n => (oE cx n).E _ _
theorem nA (cx : Kx) (e st) : cI fun n => jT cx n e st := fun n => (oE cx n).A _ _
theorem nC (cx : Kx) (i e st) : cI fun n => oL cx n i e st := fun n => (oE cx n).C _ _ _
theorem nS (cx : Kx) (e st) : cI fun n => nR cx n e st := fun n => (oE cx n).S _ _
theorem nL (cx : Kx) (e st) : cI fun n => gX cx n e st := fun n => (oE cx n).L _ _
theorem nW (cx : Kx) (c e st) : cI fun n => oK cx n c e st := fun n => (oE cx n).W _ _ _
theorem cI.obind {α β : Type} {x : Option α} {g : α → Nat → Option β} (hg : ∀ a, cI (g a)) : cI fun n => x.bind fun a => g a n := fun n => dF.bind fun a => hg a n
mutual
def Hv (words : Int) (fs : List CF) (i : Nat) : CE → Prop
 | .mk k _ m a z l => cJ m ∧ (k = 2 → 0 ≤ a ∧ a < words) ∧ (k = 3 → 0 ≤ a ∧ a + z ≤ words ∧ z ≤ 4096 ∧ 1 ≤ l.length ∧ 1 ≤ z) ∧ (k = 4 → 0 ≤ a ∧ a < i ∧ ∃ f, fs[a.toNat]? = some f ∧ f.params = l.length) ∧ (k = 7 → 1 ≤ l.length) ∧ (k ≠ 1 → k ≠ 2 → k ≠ 3 → k ≠ 4 → k ≠ 5 → k ≠ 7 → 2 ≤ l.length ∧ (k = 6 ∨ k = 8 ∨ k = 9)) ∧ lH words fs i l
def lH (words : Int) (fs : List CF) (i : Nat) : List CE → Prop
 | [] => True
 | e :: l => Hv words fs i e ∧ lH words fs i l
end
mutual
def Cy (words : Int) (fs : List CF) (i : Nat) : CS → Prop
 | .mk k a z l t u => (k = 1 → 0 ≤ a ∧ a < words) ∧ (k = 2 → 0 ≤ a ∧ a + z ≤ words ∧ z ≤ 4096 ∧ 2 ≤ l.length ∧ 1 ≤ z) ∧ (k = 6 → 0 ≤ a ∧ a < i ∧ ∃ f, fs[a.toNat]? = some f ∧ f.params = l.length) ∧ (k = 1 ∨ k = 3 ∨ k = 4 ∨ k = 5 → 1 ≤ l.length) ∧ lH words fs i l ∧ lO words fs i t ∧ lO words fs i u
def lO (words : Int) (fs : List CF) (i : Nat) : List CS → Prop
 | [] => True
 | e :: l => Cy words fs i e ∧ lO words fs i l
end
theorem fX {words : Int} {fs : List CF} {i : Nat} : ∀ {l : List CE}, lH words fs i l → ∀ {j : Nat} {e : CE}, l[j]? = some e → Hv words fs i e ∧ e.sz ≤ dM l
 | [], _, j, e, h => by simp at h
 | x :: l, hw, 0, e, h => by
   simp only [lH] at hw
   simp only [List.getElem?_cons_zero, Option.some.injEq] at h
   subst h
   exact ⟨hw.1, by simp only [dM]; omega⟩
 | x :: l, hw, j + 1, e, h => by
   simp only [lH] at hw
   simp only [List.getElem?_cons_succ] at h
   have := fX hw.2 h
   exact ⟨this.1, by simp only [dM]; omega⟩
theorem vH {words : Int} {fs : List CF} {i : Nat} : ∀ {l : List CS}, lO words fs i l → ∀ {j : Nat} {e : CS}, l[j]? = some e → Cy words fs i e ∧ e.sz ≤ cP l
 | [], _, j, e, h => by simp at h
 | x :: l, hw, 0, e, h => by
   simp only [lO] at hw
   simp only [List.getElem?_cons_zero, Option.some.injEq] at h
   subst h
   exact ⟨hw.1, by simp only [cP]; omega⟩
 | x :: l, hw, j + 1, e, h => by
   simp only [lO] at hw
   simp only [List.getElem?_cons_succ] at h
   have := vH hw.2 h
   exact ⟨this.1, by simp only [cP]; omega⟩
structure tX (words : Int) (fs : List CF) : Prop where
 head : ∀ (i : Nat) f, fs[i]? = some f → 0 ≤ f.params ∧ f.params ≤ 6 ∧ f.params ≤ f.slots ∧ 0 ≤ f.first ∧ f.first + f.slots ≤ words
 body : ∀ (i : Nat) f, fs[i]? = some f → lO words fs i f.body
structure Km (words : Int) (t : Nat) (s : RS) : Prop where
 v : (s.vars.length : Int) = words
 t : t ≤ s.ticks
 u : ∀ x ∈ s.vars, cJ x
theorem Km.self {words : Int} {t : Nat} {s : RS} (h : Km words t s) : Km words s.ticks s := ⟨h.v, aY _, h.u⟩
theorem Km.trans {words : Int} {t t' : Nat} {s : RS} (ht : t ≤ t') (h : Km words t' s) : Km words t s := ⟨h.v, Nat.le_trans ht h.t, h.u⟩
end Go.Al
namespace Go.Al
def Wv (cx : Kx) (words : Int) (j : Nat) : Prop := ∀ f, cx.funs[j]? = some f → ∀ st : RS, Km words st.ticks st → cV (fun n => gX cx n f.body st) (fun r s => (∀ v, r = some v → cJ v) ∧ Km words st.ticks s)
theorem mF : cJ 0 := by simp [cJ]
theorem Po : cJ 1 := by simp [cJ]
theorem Lg {words a : Int} {t : Nat} {s : RS} (h : Km words t s) (h1 : 0 ≤ a) (h2 : a < words) : ∃ v, oW a s = some v ∧ cJ v := by
 unfold oW
 rw [if_pos h1]
 have hl : a.toNat < s.vars.length := by have := h.v; omega
 exact ⟨_, aH hl, h.u _ (bA hl)⟩
theorem Qw {words a v : Int} {t : Nat} {s : RS} (h : Km words t s) (h1 : 0 ≤ a) (h2 : a < words) (hv : cJ v) : ∃ s', wB a v s = some s' ∧ Km words t s' := by
 unfold wB
 rw [if_pos ⟨h1, by have := h.v; omega⟩]
 refine ⟨_, rfl, by simp only [List.length_set]; exact h.v, h.t, fun x hx => ?_⟩
 rcases List.mem_or_eq_of_mem_set hx with hx | rfl
 ·exact h.u x hx
 exact hv
theorem Gc {words : Int} {t : Nat} {s : RS} (h : Km words t s) {f : CF} (h1 : 0 ≤ f.first) (h2 : 0 ≤ f.slots) (h3 : f.first + f.slots ≤ words) {vs : List Int} (h4 : (vs.length : Int) ≤ f.slots) (hu : ∀ v ∈ vs, cJ v) : ∃ s', jI f vs s = some s' ∧ Km words t s' := by
 have hv := h.v
 unfold jI
 rw [if_pos ⟨h1, h2, by omega, h4⟩]
 refine ⟨_, rfl, ?_, h.t, fun x hx => ?_⟩
 ·simp only [bU, cC, cW, List.length_drop]
  omega
 simp only [List.mem_append] at hx
 rcases hx with (hx | hx | hx) | hx
 ·exact h.u x (List.mem_of_mem_take hx)
 ·exact hu x hx
 ·rw [List.eq_of_mem_replicate hx]; exact mF
 exact h.u x (List.mem_of_mem_drop hx)
theorem Bp {cx : Cx} {words : Int} {t : Nat} {s s' : RS} (h : Km words t s) (e : eC cx s = .val () s') : Km words t s' ∧ s.ticks < s'.ticks ∧ s.ticks < cx.fuel := by
 unfold eC at e
 split at e
 ·cases e
 rename_i hf
 cases e
 exact ⟨⟨h.v, by have := h.t; simp only; omega, h.u⟩, by simp, by omega⟩
section
variable {cx : Kx} {words : Int} {i : Nat} (hfs : tX words cx.funs) (hb : ∀ j, j < i → Wv cx words j)
include hfs hb
theorem Wq (N : Nat) : ∀ e : CE, e.sz ≤ N → Hv words cx.funs i e → ∀ (st : RS) (t : Nat), Km words t st → cV (fun n => fJ cx n e st) (fun v s => cJ v ∧ Km words t s) := by
 induction N with
 | zero => intro e he; have := e.sz_eq; omega
 | succ N ih =>
   have ihA : ∀ l : List CE, dM l ≤ N → lH words cx.funs i l → ∀ (st : RS) (t : Nat), Km words t st → cV (fun n => jT cx n l st) (fun vs s => Km words t s ∧ vs.length = l.length ∧ ∀ v ∈ vs, cJ v) := by
    intro l
    induction l with
    | nil => intro _ _ st t hF; exact cV.succ (f := fun _ => some (.val [] st)) (cV.const fun a s e => by cases e; exact ⟨hF, rfl, fun v hv => by cases hv⟩) fun n => by simp only [jT]
    | cons e l ihl =>
      intro hs hw st t hF
      simp only [dM] at hs
      simp only [lH] at hw
      refine cV.succ (f := fun n => bindR (fJ cx n e st) fun v st => bindR (jT cx n l st) fun vs st => some (.val (v :: vs) st)) ?_ fun n => by simp only [jT]
      refine cV.bind (ih e (by omega) hw.1 st t hF) (nE _ _ _) (fun a s => cI.bind (nA _ _ _) fun _ _ => cI.const _) fun a s h1 => ?_
      refine cV.bind (ihl (by omega) hw.2 s t h1.2) (nA _ _ _) (fun _ _ => cI.const _) fun vs s2 h2 => ?_
      refine cV.const fun a' s e => by
       cases e
       refine ⟨h2.1, by simp [h2.2.1], fun v hv => ?_⟩
       rcases List.mem_cons.1 hv with rfl | hv
       ·exact h1.1
       exact h2.2.2 v hv
   rintro ⟨k, o, m, a, z, l⟩ he hw st t hF
   simp only [Hv] at hw
   obtain ⟨wm, w2, w3, w4, w7, w6, wl⟩ := hw
   simp only [CE.sz] at he
   have kid : ∀ {j : Nat} {a : CE}, l[j]? = some a → ∀ (st : RS) (t : Nat), Km words t st → cV (fun n => fJ cx n a st) (fun v s => cJ v ∧ Km words t s) := fun {j a} hj st t hF => by
    have := fX wl hj
    exact ih a (by omega) this.1 st t hF
   have get : ∀ {j : Nat}, j < l.length → ∃ a, l[j]? = some a := fun {j} h => ⟨l[j], aH h⟩
   refine cV.succ (f := fun n => fJ cx (n + 1) (.mk k o m a z l) st) ?_ fun n => rfl
   simp only [fJ]
   refine cV.ite (fun h1 => cV.const fun a s e => by cases e; exact ⟨wm, hF⟩) fun h1 => cV.ite (fun h2 => ?_) fun h2 => cV.ite (fun h3 => ?_) fun h3 => cV.ite (fun h4 => ?_) fun h4 => cV.ite (fun h5 => cV.const fun a s e => ?_) fun h5 => ?_
   ·obtain ⟨q1, q2⟩ := w2 h2
    obtain ⟨v, hv, hu⟩ := Lg hF q1 q2
    rw [hv]
    exact cV.const fun a s e => by cases e; exact ⟨hu, hF⟩
   ·obtain ⟨q1, q2, q3, q4⟩ := w3 h3
    obtain ⟨b, hb'⟩ := get (j := 0) (by omega)
    simp only [hb']
    refine cV.bind (kid hb' st t hF) (nE _ _ _) (fun _ _ => cI.const _) fun x s1 h6 => ?_
    unfold He
    have hx0 := h6.1.1
    by_cases hx : x < z
    ·rw [if_pos hx]
     simp only [bindR]
     obtain ⟨v, hv, hu⟩ := Lg (a := a + x) h6.2 (by omega) (by omega)
     rw [hv]
     exact cV.const fun a s e => by cases e; exact ⟨hu, h6.2⟩
    rw [if_neg hx]
    simp only [bindR]
    exact cV.const fun a s e => by cases e
   ·obtain ⟨q1, q2, g, hg, q3⟩ := w4 h4
    obtain ⟨g1, g2, g3, g4, g5⟩ := hfs.head _ _ hg
    refine cV.succ (f := fun n => oL cx (n + 1) a l st) ?_ fun n => rfl
    simp only [oL, if_neg (show ¬ a < 0 by omega), hg]
    refine cV.bind (ihA l (by omega) wl st t hF) (nA _ _ _) (fun a s => cI.bind (cI.const _) fun _ _ => cI.obind fun _ => cI.bind (nL _ _ _) fun _ _ => cI.const _) fun vs s1 h6 => ?_
    refine cV.bind (P := fun _ s => Km words t s) (cV.const fun a s e => (Bp h6.1 e).1) (cI.const _) (fun _ _ => cI.obind fun _ => cI.bind (nL _ _ _) fun _ _ => cI.const _) fun _ s2 h7 => ?_
    obtain ⟨s3, e3, k3⟩ := Gc h7.self (vs := vs) g4 (by omega) g5 (by rw [h6.2.1]; omega) h6.2.2
    rw [e3]
    simp only [Option.bind_some]
    refine cV.bind (hb _ (by omega) g hg s3 k3.self) (nL _ _ _) (fun _ _ => cI.const _) fun r s4 h8 => ?_
    refine cV.const fun v s e => by
     cases e
     refine ⟨?_, h8.2.trans (by have := h7.t; have := k3.t; omega)⟩
     cases r with
     | none => exact mF
     | some v => exact h8.1 v rfl
   ·unfold kY at e
    split at e
    ·rename_i c _
     cases e
     exact ⟨by have := UInt8.toNat_lt c; unfold cJ; omega, hF.v, hF.t, hF.u⟩
    cases e; exact ⟨by simp [cJ], hF⟩
   have h0 : 1 ≤ l.length := by
    by_cases h7 : k = 7
    ·exact w7 h7
    have := w6 h1 h2 h3 h4 h5 h7; omega
   obtain ⟨b, hb'⟩ := get (j := 0) (by omega)
   simp only [hb']
   refine cV.ite (fun h7 => ?_) fun h7 => ?_
   ·refine cV.bind (kid hb' st t hF) (nE _ _ _) (fun _ _ => cI.const _) fun x s1 h6 => ?_
    exact cV.const fun a s e => by
     cases e
     exact ⟨by split; exact Po; exact mF, h6.2⟩
   obtain ⟨d, hd⟩ := get (j := 1) (by have := w6 h1 h2 h3 h4 h5 h7; omega)
   simp only [hd]
   refine cV.ite (fun h6 => ?_) fun h6 => ?_
   ·refine cV.bind (kid hb' st t hF) (nE _ _ _) (fun _ _ => cI.bind (nE _ _ _) fun _ _ => cI.const _) fun x s1 h8 => ?_
    refine cV.bind (kid hd s1 t h8.2) (nE _ _ _) (fun _ _ => cI.const _) fun y s2 h9 => ?_
    split
    ·exact cV.const fun a s e => by cases e; exact ⟨yK o h8.1 h9.1, h9.2⟩
    exact cV.const fun a s e => by cases e
   refine cV.bind (kid hb' st t hF) (nE _ _ _) (fun _ _ => cI.ite (cI.const _) (cI.bind (nE _ _ _) fun _ _ => cI.const _)) fun x s1 h8 => ?_
   refine cV.ite (fun _ => cV.const fun a s e => ?_) fun _ => ?_
   ·cases e
    exact ⟨by split; exact mF; exact Po, h8.2⟩
   refine cV.bind (kid hd s1 t h8.2) (nE _ _ _) (fun _ _ => cI.const _) fun y s2 h9 => ?_
   exact cV.const fun a s e => by
    cases e
    exact ⟨by split; exact mF; exact Po, h9.2⟩
theorem A6 : ∀ l : List CE, lH words cx.funs i l → ∀ (st : RS) (t : Nat), Km words t st → cV (fun n => jT cx n l st) (fun vs s => Km words t s ∧ vs.length = l.length ∧ ∀ v ∈ vs, cJ v) := by
 intro l
 induction l with
 | nil => intro _ st t hF; exact cV.succ (f := fun _ => some (.val [] st)) (cV.const fun a s e => by cases e; exact ⟨hF, rfl, fun v hv => by cases hv⟩) fun n => by simp only [jT]
 | cons e l ihl =>
   intro hw st t hF
   simp only [lH] at hw
   refine cV.succ (f := fun n => bindR (fJ cx n e st) fun v st => bindR (jT cx n l st) fun vs st => some (.val (v :: vs) st)) ?_ fun n => by simp only [jT]
   refine cV.bind (Wq hfs hb e.sz e (aY _) hw.1 st t hF) (nE _ _ _) (fun a s => cI.bind (nA _ _ _) fun _ _ => cI.const _) fun a s h1 => ?_
   refine cV.bind (ihl hw.2 s t h1.2) (nA _ _ _) (fun _ _ => cI.const _) fun vs s2 h2 => ?_
   refine cV.const fun a' s e => by
    cases e
    refine ⟨h2.1, by simp [h2.2.1], fun v hv => ?_⟩
    rcases List.mem_cons.1 hv with rfl | hv
    ·exact h1.1
    exact h2.2.2 v hv
theorem A5 (l : List CE) (wl : lH words cx.funs i l) {a : Int} (hc : 0 ≤ a ∧ a < i ∧ ∃ f, cx.funs[a.toNat]? = some f ∧ f.params = l.length) (st : RS) (t : Nat) (hF : Km words t st) : cV (fun n => oL cx n a l st) (fun v s => cJ v ∧ Km words t s) := by
 obtain ⟨q1, q2, g, hg, q3⟩ := hc
 obtain ⟨g1, g2, g3, g4, g5⟩ := hfs.head _ _ hg
 refine cV.succ (f := fun n => oL cx (n + 1) a l st) ?_ fun n => rfl
 simp only [oL, if_neg (show ¬ a < 0 by omega), hg]
 refine cV.bind (A6 hfs hb l wl st t hF) (nA _ _ _) (fun a s => cI.bind (cI.const _) fun _ _ => cI.obind fun _ => cI.bind (nL _ _ _) fun _ _ => cI.const _) fun vs s1 h6 => ?_
 refine cV.bind (P := fun _ s => Km words t s) (cV.const fun a s e => (Bp h6.1 e).1) (cI.const _) (fun _ _ => cI.obind fun _ => cI.bind (nL _ _ _) fun _ _ => cI.const _) fun _ s2 h7 => ?_
 obtain ⟨s3, e3, k3⟩ := Gc h7.self (vs := vs) g4 (by omega) g5 (by rw [h6.2.1]; omega) h6.2.2
 rw [e3]
 simp only [Option.bind_some]
 refine cV.bind (hb _ (by omega) g hg s3 k3.self) (nL _ _ _) (fun _ _ => cI.const _) fun r s4 h8 => ?_
 refine cV.const fun v s e => by
  cases e
  refine ⟨?_, h8.2.trans (by have := h7.t; have := k3.t; omega)⟩
  cases r with
  | none => exact mF
  | some v => exact h8.1 v rfl
def Kn (words : Int) (t : Nat) (r : Option Int) (s : RS) : Prop := (∀ v, r = some v → cJ v) ∧ Km words t s
theorem A4 (M : Nat) : ∀ N : Nat, (∀ e : CS, e.sz ≤ N → Cy words cx.funs i e → ∀ st : RS, Km words st.ticks st → cx.fuel - st.ticks ≤ M → cV (fun n => nR cx n e st) (Kn words st.ticks)) ∧
  (∀ l : List CS, cP l < N → lO words cx.funs i l → ∀ st : RS, Km words st.ticks st → cx.fuel - st.ticks ≤ M → cV (fun n => gX cx n l st) (Kn words st.ticks)) := by
 induction M using Nat.strongRecOn with
 | _ M ihM =>
 intro N
 induction N with
 | zero => exact ⟨fun e he => by have := e.sz_eq; omega, fun l hl => by omega⟩
 | succ N ih =>
   obtain ⟨ihS, ihL⟩ := ih
   have one : ∀ e : CS, e.sz ≤ N + 1 → Cy words cx.funs i e → ∀ st : RS, Km words st.ticks st → cx.fuel - st.ticks ≤ M → cV (fun n => nR cx n e st) (Kn words st.ticks) := by
    rintro ⟨k, a, z, l, t, u⟩ he hw st hF hM
    simp only [Cy] at hw
    obtain ⟨w1, w2, w6, wk, wl, wt, wu⟩ := hw
    simp only [CS.sz] at he
    have kid : ∀ {j : Nat} {a : CE}, l[j]? = some a → ∀ (st : RS) (t : Nat), Km words t st → cV (fun n => fJ cx n a st) (fun v s => cJ v ∧ Km words t s) := fun {j a} hj st t hF => by
     have := fX wl hj
     exact Wq hfs hb a.sz a (aY _) this.1 st t hF
    have get : ∀ {j : Nat}, j < l.length → ∃ a, l[j]? = some a := fun {j} h => ⟨l[j], aH h⟩
    have kn0 : ∀ {t : Nat} {s : RS}, Km words t s → Kn words t none s := fun h => ⟨(fun v e => by cases e), h⟩
    refine cV.succ (f := fun n => nR cx (n + 1) (.mk k a z l t u) st) ?_ fun n => rfl
    simp only [nR]
    refine cV.ite (fun h1 => ?_) fun h1 => cV.ite (fun h2 => ?_) fun h2 => cV.ite (fun h3 => ?_) fun h3 => cV.ite (fun h4 => ?_) fun h4 => cV.ite (fun h5 => ?_) fun h5 => cV.ite (fun h6 => ?_) fun h6 => cV.ite (fun h7 => ?_) fun h7 => cV.const fun a s e => by cases e; exact kn0 hF
    ·obtain ⟨b, hb'⟩ := get (j := 0) (by have := wk (.inl h1); omega)
     simp only [hb']
     refine cV.bind (kid hb' st st.ticks hF) (nE _ _ _) (fun _ _ => cI.const _) fun v s1 h8 => ?_
     obtain ⟨q1, q2⟩ := w1 h1
     obtain ⟨s2, e2, k2⟩ := Qw h8.2 q1 q2 h8.1
     rw [e2]
     exact cV.const fun a s e => by cases e; exact kn0 k2
    ·obtain ⟨q1, q2, q3, q4⟩ := w2 h2
     obtain ⟨b, hb'⟩ := get (j := 0) (by omega)
     obtain ⟨d, hd⟩ := get (j := 1) (by omega)
     simp only [hb', hd]
     refine cV.bind (kid hb' st st.ticks hF) (nE _ _ _) (fun _ _ => cI.bind (nE _ _ _) fun _ _ => cI.const _) fun x s1 h8 => ?_
     refine cV.bind (kid hd s1 st.ticks h8.2) (nE _ _ _) (fun _ _ => cI.const _) fun v s2 h9 => ?_
     have hx0 := h8.1.1
     unfold He
     by_cases hx : x < z
     ·rw [if_pos hx]
      simp only [bindR]
      obtain ⟨s3, e3, k3⟩ := Qw (a := a + x) h9.2 (by omega) (by omega) h9.1
      rw [e3]
      exact cV.const fun a s e => by cases e; exact kn0 k3
     rw [if_neg hx]
     simp only [bindR]
     exact cV.const fun a s e => by cases e
    ·obtain ⟨b, hb'⟩ := get (j := 0) (by have := wk (.inr (.inl h3)); omega)
     simp only [hb']
     refine cV.bind (kid hb' st st.ticks hF) (nE _ _ _) (fun _ _ => cI.const _) fun v s1 h8 => ?_
     unfold lQ
     split
     ·simp only [bindR]
      exact cV.const fun a s e => by cases e
     simp only [bindR]
     exact cV.const fun a s e => by cases e; exact kn0 ⟨h8.2.v, h8.2.t, h8.2.u⟩
    ·obtain ⟨b, hb'⟩ := get (j := 0) (by have := wk (.inr (.inr (.inl h4))); omega)
     simp only [hb']
     refine cV.bind (kid hb' st st.ticks hF) (nE _ _ _) (fun _ _ => cI.ite (nL _ _ _) (nL _ _ _)) fun v s1 h8 => ?_
     have q0 := h8.2.t
     have q1 := (fX wl hb').2
     have q2 := b.sz_eq
     exact cV.ite (fun _ => (ihL u (by clear w1 w2 w6; omega) wu s1 h8.2.self (by clear w1 w2 w6; omega)).mono fun r s h => ⟨h.1, h.2.trans q0⟩) fun _ => (ihL t (by clear w1 w2 w6; omega) wt s1 h8.2.self (by clear w1 w2 w6; omega)).mono fun r s h => ⟨h.1, h.2.trans q0⟩
    ·obtain ⟨b, hb'⟩ := get (j := 0) (by have := wk (.inr (.inr (.inr h5))); omega)
     simp only [hb']
     refine cV.succ (f := fun n => oK cx (n + 1) b t st) ?_ fun n => rfl
     simp only [oK]
     refine cV.bind (P := fun _ s => Km words st.ticks s ∧ st.ticks < s.ticks ∧ cx.fuel - s.ticks < M) (cV.const fun a s e => ?_) (cI.const _) (fun _ _ => cI.bind (nE _ _ _) fun _ _ => cI.ite (cI.const _) (cI.bind (nL _ _ _) fun r _ => ?_)) fun _ s1 ⟨g1, g2, g3⟩ => ?_
     ·obtain ⟨k1, k2, k3⟩ := Bp hF e
      have k3 : st.ticks < cx.fuel := k3
      exact ⟨k1, k2, by clear w1 w2 w6; omega⟩
     ·cases r with
      | some v => exact cI.const _
      | none => exact nW _ _ _ _
     refine cV.bind (kid hb' s1 s1.ticks g1.self) (nE _ _ _) (fun _ _ => cI.ite (cI.const _) (cI.bind (nL _ _ _) fun r _ => ?_)) fun x s2 h8 => ?_
     ·cases r with
      | some v => exact cI.const _
      | none => exact nW _ _ _ _
     have h8t := h8.2.t
     refine cV.ite (fun _ => cV.const fun a s e => by cases e; exact kn0 (h8.2.trans (by omega))) fun _ => ?_
     refine cV.bind ((ihM (cx.fuel - s2.ticks) (by omega) (cP t + 1)).2 t (by omega) wt s2 h8.2.self (aY _)) (nL _ _ _) (fun r _ => ?_) fun r s3 h9 => ?_
     ·cases r with
      | some v => exact cI.const _
      | none => exact nW _ _ _ _
     have h9t := h9.2.t
     cases hr : r with
     | some v => exact cV.const fun a s e => by cases e; exact ⟨fun w hw => by cases hw; exact h9.1 _ hr, h9.2.trans (by omega)⟩
     | none =>
       have := (ihM (cx.fuel - s3.ticks) (by omega) (CS.mk 5 0 0 [b] t []).sz).1 (.mk 5 0 0 [b] t []) (aY _) (by
        simp only [Cy, lH, lO]
        exact ⟨fun e => absurd e (by decide), fun e => absurd e (by decide), fun e => absurd e (by decide), fun _ => by simp, ⟨(fX wl hb').1, trivial⟩, wt, trivial⟩) s3 h9.2.self (aY _)
       obtain ⟨n, o, e1, e2⟩ := this
       cases n with
       | zero => simp [nR] at e1
       | succ n =>
         simp [nR] at e1
         exact ⟨n, o, e1, fun r' s' e => by have := e2 r' s' e; exact ⟨this.1, this.2.trans (by omega)⟩⟩
    ·refine cV.bind (A5 hfs hb l wl (w6 h6) st st.ticks hF) (nC _ _ _ _) (fun _ _ => cI.const _) fun v s1 h8 => ?_
     exact cV.const fun a s e => by cases e; exact kn0 h8.2
    cases hl : l[0]? with
    | none => exact cV.const fun a s e => by cases e; exact ⟨fun v e => by cases e; exact mF, hF⟩
    | some b =>
      simp only
      refine cV.bind (kid hl st st.ticks hF) (nE _ _ _) (fun _ _ => cI.const _) fun v s1 h8 => ?_
      exact cV.const fun a s e => by cases e; exact ⟨fun v e => by cases e; exact h8.1, h8.2⟩
   refine ⟨one, ?_⟩
   intro l
   induction l with
   | nil =>
     intro _ _ st hF _
     exact cV.succ (f := fun _ => some (.val none st)) (cV.const fun a s e => by cases e; exact ⟨(fun v e => by cases e), hF⟩) fun n => by simp only [gX]
   | cons e l ihl =>
     intro hs hw st hF hM
     simp only [cP] at hs
     simp only [lO] at hw
     refine cV.succ (f := fun n => gX cx (n + 1) (e :: l) st) ?_ fun n => rfl
     simp only [gX]
     refine cV.bind (one e (by omega) hw.1 st hF hM) (nS _ _ _) (fun r _ => ?_) fun r s1 h1 => ?_
     ·cases r with
      | some v => exact cI.const _
      | none => exact nL _ _ _
     have h1t := h1.2.t
     cases hr : r with
     | some v => exact cV.const fun a s e => by cases e; exact ⟨fun w hw => by cases hw; exact h1.1 _ hr, h1.2⟩
     | none => exact (ihl (by omega) hw.2 s1 h1.2.self (by omega)).mono fun r s h => ⟨h.1, h.2.trans h1t⟩
end
theorem Tz {cx : Kx} {words : Int} (h : tX words cx.funs) (j : Nat) : Wv cx words j := by
 induction j using Nat.strongRecOn with
 | _ j ih =>
   intro f hf st hF
   exact (A4 h ih (cx.fuel - st.ticks) (cP f.body + 1)).2 f.body (by omega) (h.body j f hf) st hF (aY _)
def nB (cx : Kx) (n : Nat) (words : Nat) : Option (Int × dL × Nat) := (cx.funs.getLast?).bind fun f => (gX cx n f.body ⟨List.replicate words 0, [], 0, [], 0⟩).map oN
theorem Ir {cx : Kx} {words : Nat} (h0 : cx.funs ≠ []) (h : tX (words : Int) cx.funs) : ∃ n r, nB cx n words = some r := by
 have hl : cx.funs.length - 1 < cx.funs.length := by
  cases hc : cx.funs with
  | nil => exact absurd hc h0
  | cons a l => simp
 have hg : cx.funs.getLast? = some cx.funs[cx.funs.length - 1] := by rw [List.getLast?_eq_getElem?, aH hl]
 obtain ⟨n, r, hr, _⟩ := Tz h (cx.funs.length - 1) _ (aH hl) ⟨List.replicate words 0, [], 0, [], 0⟩ ⟨by simp, aY _, fun x hx => by rw [List.eq_of_mem_replicate hx]; exact mF⟩
 refine ⟨n, oN r, ?_⟩
 unfold nB
 rw [hg]
 simp only [Option.bind_some]
 rw [show gX cx n _ _ = some r from hr]
 rfl
theorem qB {cx : Kx} {n m words : Nat} (hm : n ≤ m) {r} (h : nB cx n words = some r) : nB cx m words = some r := by
 unfold nB at *
 cases hc : cx.funs.getLast? with
 | none => rw [hc] at h; cases h
 | some f =>
   rw [hc] at h
   simp only [Option.bind_some, aZ] at h ⊢
   obtain ⟨x, hx, e⟩ := h
   exact ⟨x, wK hm hx, e⟩
theorem Rm {cx : Kx} {n m words : Nat} {r r'} (h : nB cx n words = some r) (h' : nB cx m words = some r') : r = r' := by
 have a := qB (Nat.le_max_left n m) h
 have b := qB (Nat.le_max_right n m) h'
 rw [a] at b
 exact Option.some.inj b
end Go.Al
namespace Go.Al
theorem dD {w a n : Int} : cF w a n = true ↔ 0 ≤ a ∧ 0 ≤ n ∧ a ≤ w ∧ n ≤ w - a := by
 simp only [cF, aX, bF]; omega
theorem Ax {below : List CF} {g : Int} {n : Nat} {w : Bool} (h : eT below g n w = true) : 0 ≤ g ∧ ∃ f, below[g.toNat]? = some f ∧ f.params = n ∧ f.word = w := by
 unfold eT at h
 rw [aX] at h
 obtain ⟨h1, h2⟩ := h
 split at h2
 ·rename_i f hf
  simp only [aX, bF] at h2
  exact ⟨aC h1, f, hf, h2.2, h2.1⟩
 cases h2
theorem Dl {α : Type} {l : List α} {i j : Nat} {a : α} (h : (l.take i)[j]? = some a) : j < i ∧ l[j]? = some a := by
 rw [List.getElem?_take] at h
 split at h
 ·exact ⟨by assumption, h⟩
 cases h
section
variable {words : Int} {fs : List CF} {i : Nat}
theorem Ze (N : Nat) : ∀ (e : CE) (lv : Int), e.sz ≤ N → e.ok → gK words (fs.take i) e lv = true → Hv words fs i e := by
 induction N with
 | zero => intro e _ he; have := e.sz_eq; omega
 | succ N ih =>
   rintro ⟨k, o, m, a, z, l⟩ lv he hok hr
   have hkids : lS l := hok.kids
   have hnum : cJ m := hok.num
   simp only [CE.sz] at he
   simp only [gK, aX] at hr
   obtain ⟨⟨_, hf⟩, hl⟩ := hr
   have hF : nT words (fs.take i) (.mk k o m a z l) = ((decide (k = 1) || decide (m = 0)) && (decide (k = 6) || decide (o = 0)) && (decide (k = 3) || decide (z = 0)) && (decide (k = 2) || decide (k = 3) || decide (k = 4) || decide (a = 0)) &&
    (if k = 1 ∨ k = 5 then decide (l.length = 0) else if k = 2 then cF words a 1 && decide (l.length = 0) else if k = 3 then decide (1 ≤ z) && decide (z ≤ 4096) && cF words a z && decide (l.length = 1)
     else if k = 4 then eT (fs.take i) a l.length true else if k = 6 then decide (4 ≤ o) && decide (o ≤ 15) && decide (l.length = 2) else if k = 7 then decide (l.length = 1) else if k = 8 ∨ k = 9 then decide (l.length = 2) else false)) := rfl
   rw [hF, aX] at hf
   have hf := hf.2
   have kids : ∀ l : List CE, dM l ≤ N → (∀ e ∈ l, e.ok) → eF words (fs.take i) l (lv + 1) = true → lH words fs i l := by
    intro l
    induction l with
    | nil => intro _ _ _; simp only [lH]
    | cons e l ihl =>
      intro hs ho hr
      simp only [dM] at hs
      simp only [eF, aX] at hr
      simp only [lH]
      exact ⟨ih e _ (by omega) (ho e (List.mem_cons_self)) hr.1, ihl (by omega) (fun x hx => ho x (List.mem_cons_of_mem _ hx)) hr.2⟩
   simp only [Hv]
   refine ⟨hnum, fun h => ?_, fun h => ?_, fun h => ?_, fun h => ?_, fun h1 h2 h3 h4 h5 h7 => ?_, kids l (by omega) hkids.all hl⟩
   ·subst h
    simp only [Int.reduceEq, or_self, if_false, if_true, aX] at hf
    have := dD.1 hf.1
    omega
   ·subst h
    simp only [Int.reduceEq, or_self, if_false, if_true, aX, bF] at hf
    obtain ⟨⟨⟨q1, q2⟩, q3⟩, q4⟩ := hf
    have := dD.1 q3
    omega
   ·subst h
    simp only [Int.reduceEq, or_self, if_false, if_true] at hf
    obtain ⟨q1, f, q2, q3, _⟩ := Ax hf
    obtain ⟨r1, r2⟩ := Dl q2
    exact ⟨q1, by omega, f, r2, q3⟩
   ·subst h
    simp only [Int.reduceEq, or_self, if_false, if_true, bF] at hf
    omega
   rw [if_neg (by omega), if_neg h2, if_neg h3, if_neg h4] at hf
   split at hf
   ·simp only [aX, bF] at hf; omega
   split at hf
   ·have := aC hf; omega
   cases hf
theorem Ph : ∀ (l : List CE) (lv : Int), (∀ e ∈ l, e.ok) → eF words (fs.take i) l lv = true → lH words fs i l
 | [], _, _, _ => by simp only [lH]
 | e :: l, lv, ho, hr => by
   simp only [eF, aX] at hr
   simp only [lH]
   exact ⟨Ze e.sz e lv (aY _) (ho e (List.mem_cons_self)) hr.1, Ph l lv (fun x hx => ho x (List.mem_cons_of_mem _ hx)) hr.2⟩
theorem Xa {word : Bool} (N : Nat) : ∀ (e : CS) (lv : Int), e.sz ≤ N → e.ok → fN words (fs.take i) word e lv = true → Cy words fs i e := by
 induction N with
 | zero => intro e _ he; have := e.sz_eq; omega
 | succ N ih =>
   rintro ⟨k, a, z, l, t, u⟩ lv he hok hr
   have hes : lS l := hok.es
   have hth : oV t := hok.thn
   have hel : oV u := hok.els
   simp only [CS.sz] at he
   simp only [fN, aX] at hr
   obtain ⟨⟨⟨⟨_, hf⟩, hl⟩, ht⟩, hu⟩ := hr
   have hF : lU words (fs.take i) word (.mk k a z l t u) = ((decide (k = 2) || decide (z = 0)) && (decide (k = 1) || decide (k = 2) || decide (k = 6) || decide (a = 0)) && (decide (k = 4) || decide (u.length = 0)) && (decide (k = 4) || decide (k = 5) || decide (t.length = 0)) &&
    (if k = 1 then cF words a 1 && decide (l.length = 1) else if k = 2 then decide (1 ≤ z) && decide (z ≤ 4096) && cF words a z && decide (l.length = 2) else if k = 3 ∨ k = 4 ∨ k = 5 then decide (l.length = 1)
     else if k = 6 then eT (fs.take i) a l.length false else if k = 7 then decide (l.length = 0) || word && decide (l.length = 1) else false)) := rfl
   rw [hF, aX] at hf
   have hf := hf.2
   have body : ∀ l : List CS, cP l ≤ N → (∀ e ∈ l, e.ok) → cR words (fs.take i) word l (lv + 1) = true → lO words fs i l := by
    intro l
    induction l with
    | nil => intro _ _ _; simp only [lO]
    | cons e l ihl =>
      intro hs ho hr
      simp only [cP] at hs
      simp only [cR, aX] at hr
      simp only [lO]
      exact ⟨ih e _ (by omega) (ho e (List.mem_cons_self)) hr.1, ihl (by omega) (fun x hx => ho x (List.mem_cons_of_mem _ hx)) hr.2⟩
   simp only [Cy]
   refine ⟨fun h => ?_, fun h => ?_, fun h => ?_, fun h => ?_, Ph l _ hes.all hl, body t (by omega) hth.all ht, body u (by omega) hel.all hu⟩
   ·subst h
    simp only [if_true, aX] at hf
    have := dD.1 hf.1
    omega
   ·subst h
    simp only [Int.reduceEq, or_self, if_false, if_true, aX, bF] at hf
    obtain ⟨⟨⟨q1, q2⟩, q3⟩, q4⟩ := hf
    have := dD.1 q3
    omega
   ·subst h
    simp only [Int.reduceEq, or_self, if_false, if_true] at hf
    obtain ⟨q1, f, q2, q3, _⟩ := Ax hf
    obtain ⟨r1, r2⟩ := Dl q2
    exact ⟨q1, by omega, f, r2, q3⟩
   rcases h with rfl | rfl | rfl | rfl <;> simp only [Int.reduceEq, or_self, or_true, true_or, if_false, if_true, aX, bF] at hf <;> omega
theorem Kl {word : Bool} : ∀ (l : List CS) (lv : Int), (∀ e ∈ l, e.ok) → cR words (fs.take i) word l lv = true → lO words fs i l
 | [], _, _, _ => by simp only [lO]
 | e :: l, lv, ho, hr => by
   simp only [cR, aX] at hr
   simp only [lO]
   exact ⟨Xa e.sz e lv (aY _) (ho e (List.mem_cons_self)) hr.1, Kl l lv (fun x hx => ho x (List.mem_cons_of_mem _ hx)) hr.2⟩
end
theorem kZ {words : Int} {fs : List CF} : ∀ (l : List CF) (k : Nat), fs.drop k = l → iI words (fs.take k) l = true → ∀ (j : Nat) f, l[j]? = some f → cR words (fs.take (k + j)) f.word f.body 1 = true
 | [], _, _, _, j, f, h => by simp at h
 | g :: l, k, hd, hb, j, f, h => by
   rw [iI, aX] at hb
   have hk : k < fs.length := by
    rcases Nat.lt_or_ge k fs.length with h | h
    ·exact h
    rw [List.drop_eq_nil_of_le h] at hd; cases hd
   rw [bK hk] at hd
   injection hd with h1 h2
   cases j with
   | zero => simp only [List.getElem?_cons_zero, Option.some.injEq] at h; subst h; exact hb.1
   | succ j =>
     rw [List.getElem?_cons_succ] at h
     have hb2 := hb.2
     rw [← h1, ← bT hk] at hb2
     have := kZ l (k + 1) h2 hb2 j f h
     rwa [show k + 1 + j = k + (j + 1) by omega] at this
structure Te (c : Co) : Prop where
 ok : c.ok
 words : 0 ≤ c.words ∧ c.words ≤ 32768
 len : 1 ≤ c.funs.length ∧ c.funs.length ≤ 64
 funs : tX c.words c.funs
theorem Wt {c : Co} (ho : c.ok) (h : iA c = true) : Te c := by
 simp only [iA, aX, bF, List.all_eq_true] at h
 obtain ⟨⟨⟨⟨⟨⟨h1, h2⟩, h3⟩, h4⟩, h5⟩, h6⟩, _⟩ := h
 refine ⟨ho, ⟨h1, h2⟩, ⟨h3, h4⟩, ⟨fun i f hf => ?_, fun i f hf => ?_⟩⟩
 ·have := h5 f (bN hf)
  simp only [gU, aX, bF] at this
  obtain ⟨⟨⟨q1, q2⟩, q3⟩, q4⟩ := this
  have := dD.1 q4
  omega
 have := kZ (words := c.words) (fs := c.funs) c.funs 0 (by simp) (by simpa using h6) i f hf
 rw [Nat.zero_add] at this
 exact Kl f.body 1 (ho.funs f (bN hf)).body.all this
end Go.Al
namespace Go.Al
theorem bZ.obind {α β : Type} {fuel : Nat} {s : RS} {x : Option α} {f : α → Option (Rz β)} (hf : ∀ a, x = some a → bZ fuel s (f a)) : bZ fuel s (x.bind f) := by
 cases x with
 | none => exact bZ.none _ _
 | some a => exact hf a rfl
theorem vE (fuel : Nat) (a : Int) (st : RS) : bZ fuel st ((oW a st).map fun v => Rz.val v st) := by
 cases oW a st with
 | none => exact bZ.none _ _
 | some v => exact bZ.val (Gw.refl _ _) _
theorem pT (fuel : Nat) (a v : Int) (st : RS) : bZ fuel st ((wB a v st).map fun st => Rz.val (none : Option Int) st) := by
 unfold wB
 split
 ·exact bZ.val (by exact ⟨List.prefix_refl _, aY _, fun h => h⟩) _
 exact bZ.none _ _
theorem yG (fuel : Nat) (z i : Int) (st : RS) : bZ fuel st (some (He z i st)) := by
 unfold He
 split
 ·exact bZ.val (Gw.refl _ _) _
 exact bZ.fin (Gw.refl _ _) _
theorem bZ.of {α : Type} {fuel : Nat} {s s' : RS} {x : Option (Rz α)} (h : Gw fuel s s') (hx : bZ fuel s' x) : bZ fuel s x := fun o ho => h.trans (hx o ho)
theorem Gd {fuel : Nat} {f : CF} {vs : List Int} {s s' : RS} (h : jI f vs s = some s') : Gw fuel s s' := by
 unfold jI at h
 split at h
 ·cases h; exact ⟨List.prefix_refl _, aY _, fun h => h⟩
 cases h
structure F9 (cx : Kx) (n : Nat) : Prop where
 E : ∀ e st, bZ cx.fuel st (fJ cx n e st)
 A : ∀ l st, bZ cx.fuel st (jT cx n l st)
 C : ∀ i l st, bZ cx.fuel st (oL cx n i l st)
 S : ∀ e st, bZ cx.fuel st (nR cx n e st)
 L : ∀ l st, bZ cx.fuel st (gX cx n l st)
 W : ∀ c t st, bZ cx.fuel st (oK cx n c t st)
theorem Wr (cx : Kx) (n : Nat) : F9 cx n := by
 induction n with
 | zero =>
   constructor
   all_goals
    intros
    intro o h
    simp [fJ, jT, oL, nR, gX, oK] at h
 | succ n ih =>
   obtain ⟨hE, hA, hC, hS, hL, hW⟩ := ih
   have tk : ∀ st, bZ cx.fuel st (some (eC cx.cx st)) := fun st => pQ cx.cx st
   constructor
   ·rintro ⟨k, o, m, a, z, l⟩ st
    simp only [fJ]
    refine bZ.ite (bZ.val (Gw.refl _ _) _) (bZ.ite (vE _ _ _) (bZ.ite ?_ (bZ.ite (hC _ _ _) (bZ.ite (Ru _ _ _) ?_))))
    ·cases l[0]? with
     | none => exact bZ.none _ _
     | some a => exact bZ.bind (hE _ _) fun x st => bZ.bind (yG _ _ _ _) fun _ st => vE _ _ _
    cases l[0]? with
    | none => exact bZ.none _ _
    | some a =>
      refine bZ.ite (bZ.bind (hE _ _) fun _ _ => bZ.val (Gw.refl _ _) _) ?_
      cases l[1]? with
      | none => exact bZ.none _ _
      | some b =>
        refine bZ.ite (bZ.bind (hE _ _) fun _ _ => bZ.bind (hE _ _) fun _ _ => bZ.ite (bZ.val (Gw.refl _ _) _) (bZ.fin (Gw.refl _ _) _)) ?_
        exact bZ.bind (hE _ _) fun _ _ => bZ.ite (bZ.val (Gw.refl _ _) _) (bZ.bind (hE _ _) fun _ _ => bZ.val (Gw.refl _ _) _)
   ·intro l st
    cases l with
    | nil => simp only [jT]; exact bZ.val (Gw.refl _ _) _
    | cons e l =>
      simp only [jT]
      exact bZ.bind (hE _ _) fun _ _ => bZ.bind (hA _ _) fun _ _ => bZ.val (Gw.refl _ _) _
   ·intro i l st
    simp only [oL]
    refine bZ.ite (bZ.none _ _) ?_
    cases cx.funs[i.toNat]? with
    | none => exact bZ.none _ _
    | some f => exact bZ.bind (hA _ _) fun _ _ => bZ.bind (tk _) fun _ _ => bZ.obind fun _ h => bZ.of (Gd h) (bZ.bind (hL _ _) fun _ _ => bZ.val (Gw.refl _ _) _)
   ·rintro ⟨k, a, z, l, t, u⟩ st
    simp only [nR]
    refine bZ.ite ?_ (bZ.ite ?_ (bZ.ite ?_ (bZ.ite ?_ (bZ.ite ?_ (bZ.ite ?_ (bZ.ite ?_ (bZ.val (Gw.refl _ _) _)))))))
    ·cases l[0]? with
     | none => exact bZ.none _ _
     | some a => exact bZ.bind (hE _ _) fun _ _ => pT _ _ _ _
    ·cases l[0]? with
     | none => exact bZ.none _ _
     | some a =>
       cases l[1]? with
       | none => exact bZ.none _ _
       | some b => exact bZ.bind (hE _ _) fun _ _ => bZ.bind (hE _ _) fun _ st => bZ.bind (yG _ _ _ _) fun _ _ => pT _ _ _ _
    ·cases l[0]? with
     | none => exact bZ.none _ _
     | some a => exact bZ.bind (hE _ _) fun _ _ => bZ.bind (Bz _ _ _) fun _ _ => bZ.val (Gw.refl _ _) _
    ·cases l[0]? with
     | none => exact bZ.none _ _
     | some a => exact bZ.bind (hE _ _) fun _ _ => bZ.ite (hL _ _) (hL _ _)
    ·cases l[0]? with
     | none => exact bZ.none _ _
     | some a => exact hW _ _ _
    ·exact bZ.bind (hC _ _ _) fun _ _ => bZ.val (Gw.refl _ _) _
    cases l[0]? with
    | none => exact bZ.val (Gw.refl _ _) _
    | some a => exact bZ.bind (hE _ _) fun _ _ => bZ.val (Gw.refl _ _) _
   ·intro l st
    cases l with
    | nil => simp only [gX]; exact bZ.val (Gw.refl _ _) _
    | cons s l =>
      simp only [gX]
      refine bZ.bind (hS _ _) fun r st => ?_
      cases r with
      | some v => exact bZ.val (Gw.refl _ _) _
      | none => exact hL _ _
   intro c t st
   simp only [oK]
   refine bZ.bind (tk _) fun _ st => bZ.bind (hE _ _) fun x st => bZ.ite (bZ.val (Gw.refl _ _) _) (bZ.bind (hL _ _) fun r st => ?_)
   cases r with
   | some v => exact bZ.val (Gw.refl _ _) _
   | none => exact hW _ _ _
structure F0 (cx cx' : Kx) (n : Nat) : Prop where
 E : ∀ e st, cZ cx.fuel (fJ cx n e st) (fJ cx' n e st)
 A : ∀ l st, cZ cx.fuel (jT cx n l st) (jT cx' n l st)
 C : ∀ i l st, cZ cx.fuel (oL cx n i l st) (oL cx' n i l st)
 S : ∀ e st, cZ cx.fuel (nR cx n e st) (nR cx' n e st)
 L : ∀ l st, cZ cx.fuel (gX cx n l st) (gX cx' n l st)
 W : ∀ c t st, cZ cx.fuel (oK cx n c t st) (oK cx' n c t st)
theorem cZ.obind {α β : Type} {F : Nat} {x : Option α} {f g : α → Option (Rz β)} (hf : ∀ a, x = some a → cZ F (f a) (g a)) : cZ F (x.bind f) (x.bind g) := by
 cases x with
 | none => exact cZ.none _
 | some a => exact hf a rfl
theorem Lh (F : Nat) (a : Int) (st : RS) : cZ F ((oW a st).map fun v => Rz.val v st) ((oW a st).map fun v => Rz.val v st) := by
 cases oW a st with
 | none => exact cZ.none _
 | some v => exact cZ.val _ _
theorem Lb (F : Nat) (a v : Int) (st : RS) : cZ F ((wB a v st).map fun st => Rz.val (none : Option Int) st) ((wB a v st).map fun st => Rz.val (none : Option Int) st) := by
 cases wB a v st with
 | none => exact cZ.none _
 | some v => exact cZ.val _ _
theorem A7 {cx cx' : Kx} (hf : cx.fuel ≤ cx'.fuel) (hfun : cx'.funs = cx.funs) (hi : cx'.inp = cx.inp) (n : Nat) : F0 cx cx' n := by
 induction n with
 | zero =>
   constructor
   all_goals
    intros
    intro o h
    simp [fJ, jT, oL, nR, gX, oK] at h
 | succ n ih =>
   obtain ⟨hE, hA, hC, hS, hL, hW⟩ := ih
   obtain ⟨gE, gA, gC, gS, gL, gW⟩ := Wr cx' n
   have tk : ∀ st, bZ cx'.fuel st (some (eC cx'.cx st)) := fun st => pQ cx'.cx st
   have tf : ∀ st, cZ cx.fuel (some (eC cx.cx st)) (some (eC cx'.cx st)) := fun st => Bq (cx := cx.cx) (cx' := cx'.cx) hf st
   have hget : ∀ st, kY cx'.cx st = kY cx.cx st := fun st => by simp only [kY, Kx.cx, hi]
   have hat : ∀ z x st, cZ cx.fuel (some (He z x st)) (some (He z x st)) := fun z x st => cZ.same fun s h => by
    unfold He at h
    split at h <;> cases h
   have hput : ∀ v st, cZ cx.fuel (some (lQ v st)) (some (lQ v st)) := fun v st => cZ.same fun s h => by
    unfold lQ at h
    split at h <;> cases h
   constructor
   ·rintro ⟨k, o, m, a, z, l⟩ st
    simp only [fJ, hget]
    refine cZ.ite (cZ.val _ _) (cZ.ite (Lh _ _ _) (cZ.ite ?_ (cZ.ite (hC _ _ _) (cZ.ite ?_ ?_))))
    ·cases l[0]? with
     | none => exact cZ.none _
     | some a =>
       exact cZ.bind (F' := cx'.fuel) (hE _ _) (fun x st => cZ.bind (F' := cx'.fuel) (hat _ _ _) (fun _ st => Lh _ _ _) fun _ st => vE _ _ _) fun x st => bZ.bind (yG _ _ _ _) fun _ st => vE _ _ _
    ·exact cZ.same fun s h => by
      unfold kY at h
      split at h <;> cases h
    cases l[0]? with
    | none => exact cZ.none _
    | some a =>
      refine cZ.ite (cZ.bind (F' := cx'.fuel) (hE _ _) (fun _ _ => cZ.val _ _) fun _ _ => bZ.val (Gw.refl _ _) _) ?_
      cases l[1]? with
      | none => exact cZ.none _
      | some b =>
        refine cZ.ite (cZ.bind (F' := cx'.fuel) (hE _ _) (fun _ _ => cZ.bind (F' := cx'.fuel) (hE _ _) (fun _ _ => cZ.ite (cZ.val _ _) (cZ.fin (by decide) _)) fun _ _ => bZ.ite (bZ.val (Gw.refl _ _) _) (bZ.fin (Gw.refl _ _) _)) fun _ _ => bZ.bind (gE _ _) fun _ _ => bZ.ite (bZ.val (Gw.refl _ _) _) (bZ.fin (Gw.refl _ _) _)) ?_
        exact cZ.bind (F' := cx'.fuel) (hE _ _) (fun _ _ => cZ.ite (cZ.val _ _) (cZ.bind (F' := cx'.fuel) (hE _ _) (fun _ _ => cZ.val _ _) fun _ _ => bZ.val (Gw.refl _ _) _)) fun _ _ => bZ.ite (bZ.val (Gw.refl _ _) _) (bZ.bind (gE _ _) fun _ _ => bZ.val (Gw.refl _ _) _)
   ·intro l st
    cases l with
    | nil => simp only [jT]; exact cZ.val _ _
    | cons e l =>
      simp only [jT]
      exact cZ.bind (F' := cx'.fuel) (hE _ _) (fun _ _ => cZ.bind (F' := cx'.fuel) (hA _ _) (fun _ _ => cZ.val _ _) fun _ _ => bZ.val (Gw.refl _ _) _) fun _ _ => bZ.bind (gA _ _) fun _ _ => bZ.val (Gw.refl _ _) _
   ·intro i l st
    simp only [oL, hfun]
    refine cZ.ite (cZ.none _) ?_
    cases cx.funs[i.toNat]? with
    | none => exact cZ.none _
    | some f =>
      have g3 : ∀ vs st, bZ cx'.fuel st ((jI f vs st).bind fun st => bindR (gX cx' n f.body st) fun r st => some (.val (r.getD 0) st)) := fun vs st => bZ.obind fun _ h => bZ.of (Gd h) (bZ.bind (gL _ _) fun _ _ => bZ.val (Gw.refl _ _) _)
      exact cZ.bind (F' := cx'.fuel) (hA _ _) (fun vs _ => cZ.bind (F' := cx'.fuel) (tf _) (fun _ _ => cZ.obind fun _ _ => cZ.bind (F' := cx'.fuel) (hL _ _) (fun _ _ => cZ.val _ _) fun _ _ => bZ.val (Gw.refl _ _) _) fun _ _ => g3 vs _) fun vs _ => bZ.bind (tk _) fun _ _ => g3 vs _
   ·rintro ⟨k, a, z, l, t, u⟩ st
    simp only [nR]
    refine cZ.ite ?_ (cZ.ite ?_ (cZ.ite ?_ (cZ.ite ?_ (cZ.ite ?_ (cZ.ite ?_ (cZ.ite ?_ (cZ.val _ _)))))))
    ·cases l[0]? with
     | none => exact cZ.none _
     | some a => exact cZ.bind (F' := cx'.fuel) (hE _ _) (fun v st => Lb _ _ _ _) fun _ _ => pT _ _ _ _
    ·cases l[0]? with
     | none => exact cZ.none _
     | some a =>
       cases l[1]? with
       | none => exact cZ.none _
       | some b => exact cZ.bind (F' := cx'.fuel) (hE _ _) (fun _ _ => cZ.bind (F' := cx'.fuel) (hE _ _) (fun _ st => cZ.bind (F' := cx'.fuel) (hat _ _ _) (fun _ _ => Lb _ _ _ _) fun _ _ => pT _ _ _ _) fun _ _ => bZ.bind (yG _ _ _ _) fun _ _ => pT _ _ _ _) fun _ _ => bZ.bind (gE _ _) fun _ _ => bZ.bind (yG _ _ _ _) fun _ _ => pT _ _ _ _
    ·cases l[0]? with
     | none => exact cZ.none _
     | some a => exact cZ.bind (F' := cx'.fuel) (hE _ _) (fun _ _ => cZ.bind (F' := cx'.fuel) (hput _ _) (fun _ _ => cZ.val _ _) fun _ _ => bZ.val (Gw.refl _ _) _) fun _ _ => bZ.bind (Bz _ _ _) fun _ _ => bZ.val (Gw.refl _ _) _
    ·cases l[0]? with
     | none => exact cZ.none _
     | some a => exact cZ.bind (F' := cx'.fuel) (hE _ _) (fun _ _ => cZ.ite (hL _ _) (hL _ _)) fun _ _ => bZ.ite (gL _ _) (gL _ _)
    ·cases l[0]? with
     | none => exact cZ.none _
     | some a => exact hW _ _ _
    ·exact cZ.bind (F' := cx'.fuel) (hC _ _ _) (fun _ _ => cZ.val _ _) fun _ _ => bZ.val (Gw.refl _ _) _
    cases l[0]? with
    | none => exact cZ.val _ _
    | some a => exact cZ.bind (F' := cx'.fuel) (hE _ _) (fun _ _ => cZ.val _ _) fun _ _ => bZ.val (Gw.refl _ _) _
   ·intro l st
    cases l with
    | nil => simp only [gX]; exact cZ.val _ _
    | cons s l =>
      simp only [gX]
      refine cZ.bind (F' := cx'.fuel) (hS _ _) (fun r st => ?_) fun r st => ?_
      ·cases r with
       | some v => exact cZ.val _ _
       | none => exact hL _ _
      cases r with
      | some v => exact bZ.val (Gw.refl _ _) _
      | none => exact gL _ _
   intro c t st
   have g3 : ∀ (r : Option Int) st, bZ cx'.fuel st (match r with | some v => some (.val (some v) st) | none => oK cx' n c t st) := fun r st => by
    cases r with
    | some v => exact bZ.val (Gw.refl _ _) _
    | none => exact gW _ _ _
   simp only [oK]
   refine cZ.bind (F' := cx'.fuel) (tf _) (fun _ st => cZ.bind (F' := cx'.fuel) (hE _ _) (fun x st => cZ.ite (cZ.val _ _) (cZ.bind (F' := cx'.fuel) (hL _ _) (fun r st => ?_) fun r st => g3 r st)) fun _ _ => bZ.ite (bZ.val (Gw.refl _ _) _) (bZ.bind (gL _ _) g3)) fun _ _ => bZ.bind (gE _ _) fun _ _ => bZ.ite (bZ.val (Gw.refl _ _) _) (bZ.bind (gL _ _) g3)
   cases r with
   | some v => exact cZ.val _ _
   | none => exact hW _ _ _
theorem Aj {cx cx' : Kx} (hf : cx.fuel ≤ cx'.fuel) (hfun : cx'.funs = cx.funs) (hi : cx'.inp = cx.inp) {n m words : Nat} {r r' : Int × dL × Nat} (h : nB cx n words = some r) (h' : nB cx' m words = some r') :
  r.2.2 ≤ cx.fuel ∧ (r.1 ≠ 5 → r' = r) ∧ (r.1 = 5 → r.2.2 = cx.fuel ∧ r.2.1 <+: r'.2.1 ∧ cx.fuel ≤ r'.2.2) := by
 have h1 := qB (Nat.le_max_left n m) h
 have h2 := qB (Nat.le_max_right n m) h'
 unfold nB at h1 h2
 rw [hfun] at h2
 cases hc : cx.funs.getLast? with
 | none => rw [hc] at h1; cases h1
 | some f =>
   rw [hc] at h1 h2
   simp only [Option.bind_some, aZ] at h1 h2
   obtain ⟨x, hx, rfl⟩ := h1
   obtain ⟨y, hy, rfl⟩ := h2
   have g := (Wr cx (max n m)).L _ _ x hx
   have g2 := g.f (Nat.zero_le _)
   have e := (A7 hf hfun hi (max n m)).L _ _ x hx
   cases x with
   | val a s =>
     simp only at e
     rw [hy] at e
     cases e
     exact ⟨g2, fun _ => rfl, fun c => by simp [oN] at c⟩
   | fin k s =>
     simp only at e
     rcases e with ⟨hk, e⟩ | ⟨rfl, ht, e⟩
     ·rw [hy] at e
      cases e
      exact ⟨g2, fun _ => rfl, fun c => absurd c hk⟩
     have e2 := e y hy
     simp only [Rz.st] at g2
     refine ⟨g2, fun c => absurd rfl c, fun _ => ⟨by simp only [oN]; omega, ?_⟩⟩
     cases y with
     | val a s' => exact ⟨e2.1, by simp only [Rz.st] at e2; simp only [oN]; omega⟩
     | fin k s' => exact ⟨e2.1, by simp only [Rz.st] at e2; simp only [oN]; omega⟩
mutual
def kW : CE → Nat
 | .mk k _ _ _ _ l => (if k = 5 then 1 else 0) + eP l
def eP : List CE → Nat
 | [] => 0
 | e :: l => kW e + eP l
end
mutual
def kU : CS → Nat
 | .mk _ _ _ l t u => eP l + dZ t + dZ u
def dZ : List CS → Nat
 | [] => 0
 | s :: l => kU s + dZ l
end
theorem kV : ∀ {l : List CE} {j : Nat} {e : CE}, l[j]? = some e → eP l = 0 → kW e = 0
 | [], j, e, h, _ => by simp at h
 | x :: l, 0, e, h, h0 => by simp only [List.getElem?_cons_zero, Option.some.injEq] at h; subst h; simp only [eP] at h0; omega
 | x :: l, j + 1, e, h, h0 => by simp only [List.getElem?_cons_succ] at h; simp only [eP] at h0; exact kV h (by omega)
structure P0 (cx cx' : Kx) (n : Nat) : Prop where
 E : ∀ e st, kW e = 0 → fJ cx n e st = fJ cx' n e st
 A : ∀ l st, eP l = 0 → jT cx n l st = jT cx' n l st
 C : ∀ i l st, eP l = 0 → oL cx n i l st = oL cx' n i l st
 S : ∀ e st, kU e = 0 → nR cx n e st = nR cx' n e st
 L : ∀ l st, dZ l = 0 → gX cx n l st = gX cx' n l st
 W : ∀ c t st, kW c = 0 → dZ t = 0 → oK cx n c t st = oK cx' n c t st
theorem fG {α β : Type} {x y : Option (Rz α)} {f g : α → RS → Option (Rz β)} (h : x = y) (hf : ∀ a s, f a s = g a s) : bindR x f = bindR y g := by
 subst h
 cases x with
 | none => rfl
 | some r => cases r with
   | val a s => exact hf a s
   | fin e s => rfl
theorem O3 {cx cx' : Kx} (hfuel : cx'.fuel = cx.fuel) (hfun : cx'.funs = cx.funs) (hg : ∀ f ∈ cx.funs, dZ f.body = 0) (n : Nat) : P0 cx cx' n := by
 have tk : ∀ st, eC cx.cx st = eC cx'.cx st := fun st => by
  have e : cx.cx.fuel = cx'.cx.fuel := hfuel.symm
  unfold eC; rw [e]
 induction n with
 | zero => exact ⟨fun e st _ => by rw [fJ, fJ], fun e st _ => by rw [jT, jT], fun i e st _ => by rw [oL, oL], fun e st _ => by rw [nR, nR], fun e st _ => by rw [gX, gX], fun c t st _ _ => by rw [oK, oK]⟩
 | succ n ih =>
   obtain ⟨hE, hA, hC, hS, hL, hW⟩ := ih
   constructor
   ·rintro ⟨k, o, m, a, z, l⟩ st h0
    simp only [kW] at h0
    have hk : k ≠ 5 := fun e => by rw [if_pos e] at h0; omega
    have hl : eP l = 0 := by omega
    simp only [fJ]
    rw [hC a l st hl, if_neg (c := k = 5) hk, if_neg (c := k = 5) hk]
    cases e0 : l[0]? with
    | none => rfl
    | some b =>
      have hb := kV e0 hl
      simp only
      rw [hE b st hb]
      cases e1 : l[1]? with
      | none => rfl
      | some d =>
        have hd := kV e1 hl
        simp only
        simp only [hE d _ hd]
   ·intro l st h0
    cases l with
    | nil => rw [jT, jT]
    | cons e l =>
      simp only [eP] at h0
      simp only [jT]
      exact fG (hE _ _ (by omega)) fun _ _ => fG (hA _ _ (by omega)) fun _ _ => rfl
   ·intro i l st h0
    simp only [oL, hfun]
    split
    ·rfl
    cases hf : cx.funs[i.toNat]? with
    | none => rfl
    | some f =>
      simp only
      refine fG (hA _ _ h0) fun _ st => fG (by rw [tk]) fun _ st => ?_
      congr 1
      funext st
      exact fG (hL _ _ (hg f (bN hf))) fun _ _ => rfl
   ·rintro ⟨k, a, z, l, t, u⟩ st h0
    simp only [kU] at h0
    have hl : eP l = 0 := by omega
    have ht : dZ t = 0 := by omega
    have hu : dZ u = 0 := by omega
    simp only [nR]
    rw [hC a l st hl]
    simp only [hL t _ ht, hL u _ hu]
    cases e0 : l[0]? with
    | none => rfl
    | some b =>
      have hb := kV e0 hl
      simp only
      rw [hE b st hb, hW b t st hb ht]
      cases e1 : l[1]? with
      | none => rfl
      | some d =>
        have hd := kV e1 hl
        simp only [hE d _ hd, hE b _ hb]
   ·intro l st h0
    cases l with
    | nil => rw [gX, gX]
    | cons s l =>
      simp only [dZ] at h0
      simp only [gX]
      refine fG (hS _ _ (by omega)) fun r st => ?_
      cases r with
      | some v => rfl
      | none => exact hL _ _ (by omega)
   intro c t st hc ht
   simp only [oK]
   refine fG (by rw [tk]) fun _ st => fG (hE _ _ hc) fun x st => ?_
   split
   ·rfl
   refine fG (hL _ _ ht) fun r st => ?_
   cases r with
   | some v => rfl
   | none => exact hW _ _ _ hc ht
theorem Tx {cx cx' : Kx} (hfuel : cx'.fuel = cx.fuel) (hfun : cx'.funs = cx.funs) (hg : ∀ f ∈ cx.funs, dZ f.body = 0) (n words : Nat) : nB cx n words = nB cx' n words := by
 unfold nB
 rw [hfun]
 cases hc : cx.funs.getLast? with
 | none => rfl
 | some f =>
   simp only [Option.bind_some]
   rw [(O3 hfuel hfun hg n).L f.body _ (hg f (List.mem_of_getLast? hc))]
end Go.Al
