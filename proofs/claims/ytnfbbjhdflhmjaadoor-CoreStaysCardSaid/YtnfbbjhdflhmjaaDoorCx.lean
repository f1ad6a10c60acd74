/- Chapter 19: programs without names, as plain Lean data, and the rows of cells that they stand for. No program in sight. Chapter 19: may a core be? How a core runs: a run that is cut at a depth. In plain Lean. Chapter 19, in plain Lean: a core's run that is cut deeper goes on the same; the run of a core that may be comes to an end. Chapter 19, in plain Lean: the run of a core that may be comes to an end, and all words are words. Chapter 19, in plain Lean: a core that may be runs to an end. Chapter 19, in plain Lean: what a core's run puts out and counts grows; what more fuel does; where nothing is got the input plays no part. -/
import Derived.Test.YtnfbbjhdflhmjaaDoorSy1
import Derived.Test.YtnfbbjhdflhmjaaDoorMa
import Derived.Test.YtnfbbjhdflhmjaaDoorMb
set_option linter.unusedSimpArgs false
set_option linter.unusedVariables false
set_option maxRecDepth 10000
namespace Go.Al
inductive CE where
 | mk (kind op num slot size : Int) (kids : List CE)
inductive CS where
 | mk (kind slot size : Int) (es : List CE) (thn els : List CS)
structure CF where
 params : Int
 slots : Int
 first : Int
 word : Bool
 body : List CS
structure Co where
 words : Int
 funs : List CF
def CE.kind : CE → Int | .mk k _ _ _ _ _ => k
def CE.op : CE → Int | .mk _ o _ _ _ _ => o
def CE.num : CE → Int | .mk _ _ n _ _ _ => n
def CE.slot : CE → Int | .mk _ _ _ a _ _ => a
def CE.size : CE → Int | .mk _ _ _ _ z _ => z
def CE.kids : CE → List CE | .mk _ _ _ _ _ l => l
def CS.kind : CS → Int | .mk k _ _ _ _ _ => k
def CS.slot : CS → Int | .mk _ a _ _ _ _ => a
def CS.size : CS → Int | .mk _ _ z _ _ _ => z
def CS.es : CS → List CE | .mk _ _ _ l _ _ => l
def CS.thn : CS → List CS | .mk _ _ _ _ l _ => l
def CS.els : CS → List CS | .mk _ _ _ _ _ l => l
mutual
def CE.row : CE → List AV
 | .mk k o n a z l => [.int .i64 k, .int .i64 o, .int .u32 n, .int .i64 a, .int .i64 z, .isl 6 (rowsCE l)]
def rowsCE : List CE → List (List AV)
 | [] => []
 | e :: l => e.row :: rowsCE l
end
theorem rowsCE_map : ∀ l : List CE, rowsCE l = l.map CE.row
 | [] => by simp only [rowsCE, List.map_nil]
 | e :: l => by simp only [rowsCE, List.map_cons, rowsCE_map l]
theorem CE.row_eq (e : CE) : e.row = [.int .i64 e.kind, .int .i64 e.op, .int .u32 e.num, .int .i64 e.slot, .int .i64 e.size, .isl 6 (e.kids.map CE.row)] := by
 cases e; simp only [CE.row, rowsCE_map, CE.kind, CE.op, CE.num, CE.slot, CE.size, CE.kids]
mutual
def CS.row : CS → List AV
 | .mk k a z l t u => [.int .i64 k, .int .i64 a, .int .i64 z, .isl 6 (l.map CE.row), .isl 6 (rowsCS t), .isl 6 (rowsCS u)]
def rowsCS : List CS → List (List AV)
 | [] => []
 | e :: l => e.row :: rowsCS l
end
theorem rowsCS_map : ∀ l : List CS, rowsCS l = l.map CS.row
 | [] => by simp only [rowsCS, List.map_nil]
 | e :: l => by simp only [rowsCS, List.map_cons, rowsCS_map l]
theorem CS.row_eq (s : CS) : s.row = [.int .i64 s.kind, .int .i64 s.slot, .int .i64 s.size, .isl 6 (s.es.map CE.row), .isl 6 (s.thn.map CS.row), .isl 6 (s.els.map CS.row)] := by
 cases s; simp only [CS.row, rowsCS_map, CS.kind, CS.slot, CS.size, CS.es, CS.thn, CS.els]
def CF.row (f : CF) : List AV := [.int .i64 f.params, .int .i64 f.slots, .int .i64 f.first, .bool f.word, .isl 6 (f.body.map CS.row)]
def Co.row (c : Co) : List AV := [.int .i64 c.words, .isl 5 (c.funs.map CF.row)]
def Co.av (c : Co) : AV := .agg c.row
mutual
def CE.sz : CE → Nat
 | .mk _ _ _ _ _ l => 1 + szCE l
def szCE : List CE → Nat
 | [] => 0
 | e :: l => e.sz + szCE l
end
mutual
def CS.sz : CS → Nat
 | .mk _ _ _ l t u => 1 + szCE l + szCS t + szCS u
def szCS : List CS → Nat
 | [] => 0
 | e :: l => e.sz + szCS l
end
theorem CE.sz_eq (e : CE) : e.sz = 1 + szCE e.kids := by cases e; simp only [CE.sz, CE.kids]
theorem CS.sz_eq (s : CS) : s.sz = 1 + szCE s.es + szCS s.thn + szCS s.els := by cases s; simp only [CS.sz, CS.es, CS.thn, CS.els]
theorem szCE_mem : ∀ {l : List CE} {e : CE}, e ∈ l → e.sz ≤ szCE l
 | e :: l, x, h => by
   simp only [szCE]
   rcases List.mem_cons.1 h with rfl | h
   ·omega
   ·have := szCE_mem h; omega
theorem szCS_mem : ∀ {l : List CS} {e : CS}, e ∈ l → e.sz ≤ szCS l
 | e :: l, x, h => by
   simp only [szCS]
   rcases List.mem_cons.1 h with rfl | h
   ·omega
   ·have := szCS_mem h; omega
theorem szCE_len : ∀ l : List CE, l.length ≤ szCE l
 | [] => Nat.le_refl _
 | e :: l => by have := szCE_len l; have := e.sz_eq; simp only [szCE, List.length_cons]; omega
theorem szCS_len : ∀ l : List CS, l.length ≤ szCS l
 | [] => Nat.le_refl _
 | e :: l => by have := szCS_len l; have := e.sz_eq; simp only [szCS, List.length_cons]; omega
inductive CE.ok : CE → Prop where
 | mk (k o n a z : Int) (l : List CE) (hk : i64R k) (ho : i64R o) (hn : u32R n) (ha : i64R a) (hz : i64R z) (hl : fitL l) (h : ∀ e ∈ l, CE.ok e) : CE.ok (.mk k o n a z l)
structure okCE (l : List CE) : Prop where
 fit : fitL l
 all : ∀ e ∈ l, e.ok
inductive CS.ok : CS → Prop where
 | mk (k a z : Int) (l : List CE) (t u : List CS) (hk : i64R k) (ha : i64R a) (hz : i64R z) (hl : okCE l) (ht : fitL t) (hta : ∀ e ∈ t, CS.ok e) (hu : fitL u) (hua : ∀ e ∈ u, CS.ok e) : CS.ok (.mk k a z l t u)
structure okCS (l : List CS) : Prop where
 fit : fitL l
 all : ∀ e ∈ l, e.ok
structure CF.ok (f : CF) : Prop where
 params : i64R f.params
 slots : i64R f.slots
 first : i64R f.first
 body : okCS f.body
structure Co.ok (c : Co) : Prop where
 words : i64R c.words
 fit : fitL c.funs
 funs : ∀ f ∈ c.funs, f.ok
theorem CE.ok.kids {e : CE} (h : e.ok) : okCE e.kids := by cases h; exact ⟨by assumption, by assumption⟩
theorem CE.ok.num {e : CE} (h : e.ok) : u32R e.num := by cases h; assumption
theorem CE.ok.kind {e : CE} (h : e.ok) : i64R e.kind := by cases h; assumption
theorem CE.ok.op {e : CE} (h : e.ok) : i64R e.op := by cases h; assumption
theorem CE.ok.slot {e : CE} (h : e.ok) : i64R e.slot := by cases h; assumption
theorem CE.ok.size {e : CE} (h : e.ok) : i64R e.size := by cases h; assumption
theorem CS.ok.es {s : CS} (h : s.ok) : okCE s.es := by cases h; assumption
theorem CS.ok.thn {s : CS} (h : s.ok) : okCS s.thn := by cases h; exact ⟨by assumption, by assumption⟩
theorem CS.ok.els {s : CS} (h : s.ok) : okCS s.els := by cases h; exact ⟨by assumption, by assumption⟩
theorem CS.ok.kind {s : CS} (h : s.ok) : i64R s.kind := by cases h; assumption
theorem CS.ok.slot {s : CS} (h : s.ok) : i64R s.slot := by cases h; assumption
theorem CS.ok.size {s : CS} (h : s.ok) : i64R s.size := by cases h; assumption
theorem getCE {l : List CE} {i : Nat} {e : CE} (h : l[i]? = some e) : (l.map CE.row)[i]? = some [.int .i64 e.kind, .int .i64 e.op, .int .u32 e.num, .int .i64 e.slot, .int .i64 e.size, .isl 6 (e.kids.map CE.row)] := by
 rw [getRow _ h, e.row_eq]
theorem getCS {l : List CS} {i : Nat} {s : CS} (h : l[i]? = some s) : (l.map CS.row)[i]? = some [.int .i64 s.kind, .int .i64 s.slot, .int .i64 s.size, .isl 6 (s.es.map CE.row), .isl 6 (s.thn.map CS.row), .isl 6 (s.els.map CS.row)] := by
 rw [getRow _ h, s.row_eq]
theorem getCF {l : List CF} {i : Nat} {f : CF} (h : l[i]? = some f) : (l.map CF.row)[i]? = some [.int .i64 f.params, .int .i64 f.slots, .int .i64 f.first, .bool f.word, .isl 6 (f.body.map CS.row)] := getRow _ h
end Go.Al
namespace Go.Al
def withinC (words at' n : Int) : Bool := decide (0 ≤ at') && decide (0 ≤ n) && decide (at' ≤ words) && decide (n ≤ words - at')
def calleeC (below : List CF) (g : Int) (args : Nat) (word : Bool) : Bool := decide (0 ≤ g) && match below[g.toNat]? with
 | some f => decide (f.word = word) && decide (f.params = args)
 | none => false
def formCE (words : Int) (below : List CF) (e : CE) : Bool :=
 (decide (e.kind = 1) || decide (e.num = 0)) && (decide (e.kind = 6) || decide (e.op = 0)) && (decide (e.kind = 3) || decide (e.size = 0)) && (decide (e.kind = 2) || decide (e.kind = 3) || decide (e.kind = 4) || decide (e.slot = 0)) &&
 (if e.kind = 1 ∨ e.kind = 5 then decide (e.kids.length = 0)
  else if e.kind = 2 then withinC words e.slot 1 && decide (e.kids.length = 0)
  else if e.kind = 3 then decide (1 ≤ e.size) && decide (e.size ≤ 4096) && withinC words e.slot e.size && decide (e.kids.length = 1)
  else if e.kind = 4 then calleeC below e.slot e.kids.length true
  else if e.kind = 6 then decide (4 ≤ e.op) && decide (e.op ≤ 15) && decide (e.kids.length = 2)
  else if e.kind = 7 then decide (e.kids.length = 1)
  else if e.kind = 8 ∨ e.kind = 9 then decide (e.kids.length = 2) else false)
mutual
def rightCE (words : Int) (below : List CF) : CE → Int → Bool
 | .mk k o n a z l, lv => decide (lv ≤ 24) && formCE words below (.mk k o n a z l) && rightCEs words below l (lv + 1)
def rightCEs (words : Int) (below : List CF) : List CE → Int → Bool
 | [], _ => true
 | e :: l, lv => rightCE words below e lv && rightCEs words below l lv
end
def formCS (words : Int) (below : List CF) (word : Bool) (s : CS) : Bool :=
 (decide (s.kind = 2) || decide (s.size = 0)) && (decide (s.kind = 1) || decide (s.kind = 2) || decide (s.kind = 6) || decide (s.slot = 0)) && (decide (s.kind = 4) || decide (s.els.length = 0)) && (decide (s.kind = 4) || decide (s.kind = 5) || decide (s.thn.length = 0)) &&
 (if s.kind = 1 then withinC words s.slot 1 && decide (s.es.length = 1)
  else if s.kind = 2 then decide (1 ≤ s.size) && decide (s.size ≤ 4096) && withinC words s.slot s.size && decide (s.es.length = 2)
  else if s.kind = 3 ∨ s.kind = 4 ∨ s.kind = 5 then decide (s.es.length = 1)
  else if s.kind = 6 then calleeC below s.slot s.es.length false
  else if s.kind = 7 then decide (s.es.length = 0) || word && decide (s.es.length = 1) else false)
mutual
def rightCS (words : Int) (below : List CF) (word : Bool) : CS → Int → Bool
 | .mk k a z l t u, lv => decide (lv ≤ 24) && formCS words below word (.mk k a z l t u) && rightCEs words below l (lv + 1) && rightCSs words below word t (lv + 1) && rightCSs words below word u (lv + 1)
def rightCSs (words : Int) (below : List CF) (word : Bool) : List CS → Int → Bool
 | [], _ => true
 | s :: l, lv => rightCS words below word s lv && rightCSs words below word l lv
end
def headCF (words : Int) (f : CF) : Bool := decide (0 ≤ f.params) && decide (f.params ≤ 6) && decide (f.params ≤ f.slots) && withinC words f.first f.slots
def bodiesC (words : Int) : List CF → List CF → Bool
 | _, [] => true
 | below, f :: l => rightCSs words below f.word f.body 1 && bodiesC words (below ++ [f]) l
def rightC (c : Co) : Bool := decide (0 ≤ c.words) && decide (c.words ≤ 32768) && decide (1 ≤ c.funs.length) && decide (c.funs.length ≤ 64) && c.funs.all (headCF c.words) && bodiesC c.words [] c.funs &&
 match c.funs.getLast? with
 | some f => decide (f.params = 0) && !f.word
 | none => false
def sizC (c : Co) : Nat := (c.funs.map fun f => szCS f.body).sum
structure Kx where
 funs : List CF
 inp : Str
 fuel : Nat
def Kx.cx (k : Kx) : Cx := ⟨[], k.inp, k.fuel⟩
def enterC (f : CF) (vs : List Int) (s : RS) : Option RS := if 0 ≤ f.first ∧ 0 ≤ f.slots ∧ f.first + f.slots ≤ s.vars.length ∧ vs.length ≤ f.slots then
    some { s with vars := s.vars.take f.first.toNat ++ (vs ++ List.replicate (f.slots.toNat - vs.length) 0) ++ s.vars.drop (f.first + f.slots).toNat } else none
def lookC (a : Int) (s : RS) : Option Int := if 0 ≤ a then s.vars[a.toNat]? else none
def putC (a v : Int) (s : RS) : Option RS := if 0 ≤ a ∧ a < s.vars.length then some { s with vars := s.vars.set a.toNat v } else none
def atC (z i : Int) (s : RS) : Rz Unit := if i < z then .val () s else .fin 3 s
mutual
def kvE (cx : Kx) : Nat → CE → RS → Option (Rz Int)
 | 0, _, _ => none
 | n + 1, .mk k o m a z l, st =>
   if k = 1 then some (.val m st)
   else if k = 2 then (lookC a st).map fun v => .val v st
   else if k = 3 then match l[0]? with
    | none => none
    | some e => bindR (kvE cx n e st) fun i st => bindR (some (atC z i st)) fun _ st => (lookC (a + i) st).map fun v => .val v st
   else if k = 4 then kvC cx n a l st
   else if k = 5 then some (getR cx.cx st)
   else match l[0]? with
    | none => none
    | some e =>
      if k = 7 then bindR (kvE cx n e st) fun x st => some (.val (if x = 0 then 1 else 0) st)
      else match l[1]? with
      | none => none
      | some b =>
        if k = 6 then bindR (kvE cx n e st) fun x st => bindR (kvE cx n b st) fun y st => if (applyI o x y).2 = 0 then some (.val (applyI o x y).1 st) else some (.fin 2 st)
        else bindR (kvE cx n e st) fun x st => if decide (x = 0) = decide (k = 8) then some (.val (if x = 0 then 0 else 1) st) else bindR (kvE cx n b st) fun y st => some (.val (if y = 0 then 0 else 1) st)
def kvA (cx : Kx) : Nat → List CE → RS → Option (Rz (List Int))
 | 0, _, _ => none
 | _ + 1, [], st => some (.val [] st)
 | n + 1, e :: l, st => bindR (kvE cx n e st) fun v st => bindR (kvA cx n l st) fun vs st => some (.val (v :: vs) st)
def kvC (cx : Kx) : Nat → Int → List CE → RS → Option (Rz Int)
 | 0, _, _, _ => none
 | n + 1, i, l, st => if i < 0 then none else match cx.funs[i.toNat]? with
   | none => none
   | some f => bindR (kvA cx n l st) fun vs st => bindR (some (tickR cx.cx st)) fun _ st =>
     (enterC f vs st).bind fun st => bindR (kvL cx n f.body st) fun r st => some (.val (r.getD 0) st)
def kvS (cx : Kx) : Nat → CS → RS → Option (Rz (Option Int))
 | 0, _, _ => none
 | n + 1, .mk k a z l t u, st =>
   if k = 1 then match l[0]? with
    | none => none
    | some e => bindR (kvE cx n e st) fun v st => (putC a v st).map fun st => .val none st
   else if k = 2 then match l[0]?, l[1]? with
    | some e, some b => bindR (kvE cx n e st) fun i st => bindR (kvE cx n b st) fun v st => bindR (some (atC z i st)) fun _ st => (putC (a + i) v st).map fun st => .val none st
    | _, _ => none
   else if k = 3 then match l[0]? with
    | none => none
    | some e => bindR (kvE cx n e st) fun v st => bindR (some (putR v st)) fun _ st => some (.val none st)
   else if k = 4 then match l[0]? with
    | none => none
    | some e => bindR (kvE cx n e st) fun v st => if v = 0 then kvL cx n u st else kvL cx n t st
   else if k = 5 then match l[0]? with
    | none => none
    | some e => kvW cx n e t st
   else if k = 6 then bindR (kvC cx n a l st) fun _ st => some (.val none st)
   else if k = 7 then match l[0]? with
    | none => some (.val (some 0) st)
    | some e => bindR (kvE cx n e st) fun v st => some (.val (some v) st)
   else some (.val none st)
def kvL (cx : Kx) : Nat → List CS → RS → Option (Rz (Option Int))
 | 0, _, _ => none
 | _ + 1, [], st => some (.val none st)
 | n + 1, s :: l, st => bindR (kvS cx n s st) fun r st => match r with
   | some v => some (.val (some v) st)
   | none => kvL cx n l st
def kvW (cx : Kx) : Nat → CE → List CS → RS → Option (Rz (Option Int))
 | 0, _, _, _ => none
 | n + 1, c, t, st => bindR (some (tickR cx.cx st)) fun _ st => bindR (kvE cx n c st) fun x st => if x = 0 then some (.val none st) else
   bindR (kvL cx n t st) fun r st => match r with
   | some v => some (.val (some v) st)
   | none => kvW cx n c t st
end
end Go.Al
namespace Go.Al
structure KDeep (cx : Kx) (n : Nat) : Prop where
 E : ∀ e st, LeO (kvE cx n e st) (kvE cx (n + 1) e st)
 A : ∀ l st, LeO (kvA cx n l st) (kvA cx (n + 1) l st)
 C : ∀ i l st, LeO (kvC cx n i l st) (kvC cx (n + 1) i l st)
 S : ∀ e st, LeO (kvS cx n e st) (kvS cx (n + 1) e st)
 L : ∀ l st, LeO (kvL cx n l st) (kvL cx (n + 1) l st)
 W : ∀ c t st, LeO (kvW cx n c t st) (kvW cx (n + 1) c t st)
theorem LeO.bind {α β : Type} {x : Option α} {f g : α → Option β} (hf : ∀ a, LeO (f a) (g a)) : LeO (x.bind f) (x.bind g) := by
 cases x with
 | none => exact LeO.refl _
 | some a => exact hf a
theorem kdeep (cx : Kx) (n : Nat) : KDeep cx n := by
 induction n with
 | zero =>
   constructor
   all_goals
    intros
    intro o h
    simp [kvE, kvA, kvC, kvS, kvL, kvW] at h
 | succ n ih =>
   obtain ⟨hE, hA, hC, hS, hL, hW⟩ := ih
   constructor
   ·rintro ⟨k, o, m, a, z, l⟩ st
    simp only [kvE]
    refine LeO.ite (LeO.refl _) (LeO.ite (LeO.refl _) (LeO.ite ?_ (LeO.ite (hC _ _ _) (LeO.ite (LeO.refl _) ?_))))
    ·cases l[0]? with
     | none => exact LeO.refl _
     | some a => exact LeO.bindR (hE _ _) fun _ _ => LeO.refl _
    ·cases l[0]? with
     | none => exact LeO.refl _
     | some a =>
       refine LeO.ite (LeO.bindR (hE _ _) fun _ _ => LeO.refl _) ?_
       cases l[1]? with
       | none => exact LeO.refl _
       | some b =>
         refine LeO.ite (LeO.bindR (hE _ _) fun _ _ => LeO.bindR (hE _ _) fun _ _ => LeO.refl _) ?_
         exact LeO.bindR (hE _ _) fun _ _ => LeO.ite (LeO.refl _) (LeO.bindR (hE _ _) fun _ _ => LeO.refl _)
   ·intro l st
    cases l with
    | nil => simp only [kvA]; exact LeO.refl _
    | cons e l =>
      simp only [kvA]
      exact LeO.bindR (hE _ _) fun _ _ => LeO.bindR (hA _ _) fun _ _ => LeO.refl _
   ·intro i l st
    simp only [kvC]
    refine LeO.ite (LeO.refl _) ?_
    cases cx.funs[i.toNat]? with
    | none => exact LeO.refl _
    | some f => exact LeO.bindR (hA _ _) fun _ _ => LeO.bindR (LeO.refl _) fun _ _ => LeO.bind fun _ => LeO.bindR (hL _ _) fun _ _ => LeO.refl _
   ·rintro ⟨k, a, z, l, t, u⟩ st
    simp only [kvS]
    refine LeO.ite ?_ (LeO.ite ?_ (LeO.ite ?_ (LeO.ite ?_ (LeO.ite ?_ (LeO.ite ?_ (LeO.ite ?_ (LeO.refl _)))))))
    ·cases l[0]? with
     | none => exact LeO.refl _
     | some a => exact LeO.bindR (hE _ _) fun _ _ => LeO.refl _
    ·cases l[0]? with
     | none => exact LeO.refl _
     | some a =>
       cases l[1]? with
       | none => exact LeO.refl _
       | some b => exact LeO.bindR (hE _ _) fun _ _ => LeO.bindR (hE _ _) fun _ _ => LeO.refl _
    ·cases l[0]? with
     | none => exact LeO.refl _
     | some a => exact LeO.bindR (hE _ _) fun _ _ => LeO.refl _
    ·cases l[0]? with
     | none => exact LeO.refl _
     | some a => exact LeO.bindR (hE _ _) fun _ _ => LeO.ite (hL _ _) (hL _ _)
    ·cases l[0]? with
     | none => exact LeO.refl _
     | some a => exact hW _ _ _
    ·exact LeO.bindR (hC _ _ _) fun _ _ => LeO.refl _
    ·cases l[0]? with
     | none => exact LeO.refl _
     | some a => exact LeO.bindR (hE _ _) fun _ _ => LeO.refl _
   ·intro l st
    cases l with
    | nil => simp only [kvL]; exact LeO.refl _
    | cons s l =>
      simp only [kvL]
      refine LeO.bindR (hS _ _) fun r st => ?_
      cases r with
      | some v => exact LeO.refl _
      | none => exact hL _ _
   ·intro c t st
    simp only [kvW]
    refine LeO.bindR (LeO.refl _) fun _ st => LeO.bindR (hE _ _) fun x st => LeO.ite (LeO.refl _) (LeO.bindR (hL _ _) fun r st => ?_)
    cases r with
    | some v => exact LeO.refl _
    | none => exact hW _ _ _
theorem kvE_deep {cx : Kx} {n m : Nat} (hm : n ≤ m) {e st o} (h : kvE cx n e st = some o) : kvE cx m e st = some o := deeper (f := fun n => kvE cx n e st) (fun n => (kdeep cx n).E _ _) hm o h
theorem kvA_deep {cx : Kx} {n m : Nat} (hm : n ≤ m) {e st o} (h : kvA cx n e st = some o) : kvA cx m e st = some o := deeper (f := fun n => kvA cx n e st) (fun n => (kdeep cx n).A _ _) hm o h
theorem kvC_deep {cx : Kx} {n m : Nat} (hm : n ≤ m) {i e st o} (h : kvC cx n i e st = some o) : kvC cx m i e st = some o := deeper (f := fun n => kvC cx n i e st) (fun n => (kdeep cx n).C _ _ _) hm o h
theorem kvS_deep {cx : Kx} {n m : Nat} (hm : n ≤ m) {e st o} (h : kvS cx n e st = some o) : kvS cx m e st = some o := deeper (f := fun n => kvS cx n e st) (fun n => (kdeep cx n).S _ _) hm o h
theorem kvL_deep {cx : Kx} {n m : Nat} (hm : n ≤ m) {e st o} (h : kvL cx n e st = some o) : kvL cx m e st = some o := deeper (f := fun n => kvL cx n e st) (fun n => (kdeep cx n).L _ _) hm o h
theorem kvW_deep {cx : Kx} {n m : Nat} (hm : n ≤ m) {c e st o} (h : kvW cx n c e st = some o) : kvW cx m c e st = some o := deeper (f := fun n => kvW cx n c e st) (fun n => (kdeep cx n).W _ _ _) hm o h
theorem nE (cx : Kx) (e st) : Mono fun n => kvE cx n e st := fun n => (kdeep cx n).E _ _
theorem nA (cx : Kx) (e st) : Mono fun n => kvA cx n e st := fun n => (kdeep cx n).A _ _
theorem nC (cx : Kx) (i e st) : Mono fun n => kvC cx n i e st := fun n => (kdeep cx n).C _ _ _
theorem nS (cx : Kx) (e st) : Mono fun n => kvS cx n e st := fun n => (kdeep cx n).S _ _
theorem nL (cx : Kx) (e st) : Mono fun n => kvL cx n e st := fun n => (kdeep cx n).L _ _
theorem nW (cx : Kx) (c e st) : Mono fun n => kvW cx n c e st := fun n => (kdeep cx n).W _ _ _
theorem Mono.obind {α β : Type} {x : Option α} {g : α → Nat → Option β} (hg : ∀ a, Mono (g a)) : Mono fun n => x.bind fun a => g a n := fun n => LeO.bind fun a => hg a n
mutual
def wkE (words : Int) (fs : List CF) (i : Nat) : CE → Prop
 | .mk k _ m a z l => u32R m ∧ (k = 2 → 0 ≤ a ∧ a < words) ∧ (k = 3 → 0 ≤ a ∧ a + z ≤ words ∧ z ≤ 4096 ∧ 1 ≤ l.length ∧ 1 ≤ z) ∧ (k = 4 → 0 ≤ a ∧ a < i ∧ ∃ f, fs[a.toNat]? = some f ∧ f.params = l.length) ∧ (k = 7 → 1 ≤ l.length) ∧ (k ≠ 1 → k ≠ 2 → k ≠ 3 → k ≠ 4 → k ≠ 5 → k ≠ 7 → 2 ≤ l.length ∧ (k = 6 ∨ k = 8 ∨ k = 9)) ∧ wkEs words fs i l
def wkEs (words : Int) (fs : List CF) (i : Nat) : List CE → Prop
 | [] => True
 | e :: l => wkE words fs i e ∧ wkEs words fs i l
end
mutual
def wkS (words : Int) (fs : List CF) (i : Nat) : CS → Prop
 | .mk k a z l t u => (k = 1 → 0 ≤ a ∧ a < words) ∧ (k = 2 → 0 ≤ a ∧ a + z ≤ words ∧ z ≤ 4096 ∧ 2 ≤ l.length ∧ 1 ≤ z) ∧ (k = 6 → 0 ≤ a ∧ a < i ∧ ∃ f, fs[a.toNat]? = some f ∧ f.params = l.length) ∧ (k = 1 ∨ k = 3 ∨ k = 4 ∨ k = 5 → 1 ≤ l.length) ∧ wkEs words fs i l ∧ wkSs words fs i t ∧ wkSs words fs i u
def wkSs (words : Int) (fs : List CF) (i : Nat) : List CS → Prop
 | [] => True
 | e :: l => wkS words fs i e ∧ wkSs words fs i l
end
theorem wkEs_get {words : Int} {fs : List CF} {i : Nat} : ∀ {l : List CE}, wkEs words fs i l → ∀ {j : Nat} {e : CE}, l[j]? = some e → wkE words fs i e ∧ e.sz ≤ szCE l
 | [], _, j, e, h => by simp at h
 | x :: l, hw, 0, e, h => by
   simp only [wkEs] at hw
   simp only [List.getElem?_cons_zero, Option.some.injEq] at h
   subst h
   exact ⟨hw.1, by simp only [szCE]; omega⟩
 | x :: l, hw, j + 1, e, h => by
   simp only [wkEs] at hw
   simp only [List.getElem?_cons_succ] at h
   have := wkEs_get hw.2 h
   exact ⟨this.1, by simp only [szCE]; omega⟩
theorem wkSs_get {words : Int} {fs : List CF} {i : Nat} : ∀ {l : List CS}, wkSs words fs i l → ∀ {j : Nat} {e : CS}, l[j]? = some e → wkS words fs i e ∧ e.sz ≤ szCS l
 | [], _, j, e, h => by simp at h
 | x :: l, hw, 0, e, h => by
   simp only [wkSs] at hw
   simp only [List.getElem?_cons_zero, Option.some.injEq] at h
   subst h
   exact ⟨hw.1, by simp only [szCS]; omega⟩
 | x :: l, hw, j + 1, e, h => by
   simp only [wkSs] at hw
   simp only [List.getElem?_cons_succ] at h
   have := wkSs_get hw.2 h
   exact ⟨this.1, by simp only [szCS]; omega⟩
structure FunsOk (words : Int) (fs : List CF) : Prop where
 head : ∀ (i : Nat) f, fs[i]? = some f → 0 ≤ f.params ∧ f.params ≤ 6 ∧ f.params ≤ f.slots ∧ 0 ≤ f.first ∧ f.first + f.slots ≤ words
 body : ∀ (i : Nat) f, fs[i]? = some f → wkSs words fs i f.body
structure Km (words : Int) (t : Nat) (s : RS) : Prop where
 v : (s.vars.length : Int) = words
 t : t ≤ s.ticks
 u : ∀ x ∈ s.vars, u32R x
theorem Km.self {words : Int} {t : Nat} {s : RS} (h : Km words t s) : Km words s.ticks s := ⟨h.v, Nat.le_refl _, h.u⟩
theorem Km.trans {words : Int} {t t' : Nat} {s : RS} (ht : t ≤ t') (h : Km words t' s) : Km words t s := ⟨h.v, Nat.le_trans ht h.t, h.u⟩
end Go.Al
namespace Go.Al
def bodyK (cx : Kx) (words : Int) (j : Nat) : Prop := ∀ f, cx.funs[j]? = some f → ∀ st : RS, Km words st.ticks st → Tot (fun n => kvL cx n f.body st) (fun r s => (∀ v, r = some v → u32R v) ∧ Km words st.ticks s)
theorem u32_0 : u32R 0 := by simp [u32R]
theorem u32_1 : u32R 1 := by simp [u32R]
theorem look_km {words a : Int} {t : Nat} {s : RS} (h : Km words t s) (h1 : 0 ≤ a) (h2 : a < words) : ∃ v, lookC a s = some v ∧ u32R v := by
 unfold lookC
 rw [if_pos h1]
 have hl : a.toNat < s.vars.length := by have := h.v; omega
 exact ⟨_, List.getElem?_eq_getElem hl, h.u _ (List.getElem_mem hl)⟩
theorem put_km {words a v : Int} {t : Nat} {s : RS} (h : Km words t s) (h1 : 0 ≤ a) (h2 : a < words) (hv : u32R v) : ∃ s', putC a v s = some s' ∧ Km words t s' := by
 unfold putC
 rw [if_pos ⟨h1, by have := h.v; omega⟩]
 refine ⟨_, rfl, by simp only [List.length_set]; exact h.v, h.t, fun x hx => ?_⟩
 rcases List.mem_or_eq_of_mem_set hx with hx | rfl
 ·exact h.u x hx
 ·exact hv
theorem enter_km {words : Int} {t : Nat} {s : RS} (h : Km words t s) {f : CF} (h1 : 0 ≤ f.first) (h2 : 0 ≤ f.slots) (h3 : f.first + f.slots ≤ words) {vs : List Int} (h4 : (vs.length : Int) ≤ f.slots) (hu : ∀ v ∈ vs, u32R v) : ∃ s', enterC f vs s = some s' ∧ Km words t s' := by
 have hv := h.v
 unfold enterC
 rw [if_pos ⟨h1, h2, by omega, h4⟩]
 refine ⟨_, rfl, ?_, h.t, fun x hx => ?_⟩
 ·simp only [List.length_append, List.length_take, List.length_replicate, List.length_drop]
  omega
 ·simp only [List.mem_append] at hx
  rcases hx with (hx | hx | hx) | hx
  ·exact h.u x (List.mem_of_mem_take hx)
  ·exact hu x hx
  ·rw [List.eq_of_mem_replicate hx]; exact u32_0
  ·exact h.u x (List.mem_of_mem_drop hx)
theorem tick_km {cx : Cx} {words : Int} {t : Nat} {s s' : RS} (h : Km words t s) (e : tickR cx s = .val () s') : Km words t s' ∧ s.ticks < s'.ticks ∧ s.ticks < cx.fuel := by
 unfold tickR at e
 split at e
 ·cases e
 ·rename_i hf
  cases e
  exact ⟨⟨h.v, by have := h.t; simp only; omega, h.u⟩, by simp, by omega⟩
section
variable {cx : Kx} {words : Int} {i : Nat} (hfs : FunsOk words cx.funs) (hb : ∀ j, j < i → bodyK cx words j)
include hfs hb
theorem ktotE (N : Nat) : ∀ e : CE, e.sz ≤ N → wkE words cx.funs i e → ∀ (st : RS) (t : Nat), Km words t st → Tot (fun n => kvE cx n e st) (fun v s => u32R v ∧ Km words t s) := by
 induction N with
 | zero => intro e he; have := e.sz_eq; omega
 | succ N ih =>
   have ihA : ∀ l : List CE, szCE l ≤ N → wkEs words cx.funs i l → ∀ (st : RS) (t : Nat), Km words t st → Tot (fun n => kvA cx n l st) (fun vs s => Km words t s ∧ vs.length = l.length ∧ ∀ v ∈ vs, u32R v) := by
    intro l
    induction l with
    | nil => intro _ _ st t hF; exact Tot.succ (f := fun _ => some (.val [] st)) (Tot.const fun a s e => by cases e; exact ⟨hF, rfl, fun v hv => by cases hv⟩) fun n => by simp only [kvA]
    | cons e l ihl =>
      intro hs hw st t hF
      simp only [szCE] at hs
      simp only [wkEs] at hw
      refine Tot.succ (f := fun n => bindR (kvE cx n e st) fun v st => bindR (kvA cx n l st) fun vs st => some (.val (v :: vs) st)) ?_ fun n => by simp only [kvA]
      refine Tot.bind (ih e (by omega) hw.1 st t hF) (nE _ _ _) (fun a s => Mono.bind (nA _ _ _) fun _ _ => Mono.const _) fun a s h1 => ?_
      refine Tot.bind (ihl (by omega) hw.2 s t h1.2) (nA _ _ _) (fun _ _ => Mono.const _) fun vs s2 h2 => ?_
      refine Tot.const fun a' s e => by
       cases e
       refine ⟨h2.1, by simp [h2.2.1], fun v hv => ?_⟩
       rcases List.mem_cons.1 hv with rfl | hv
       ·exact h1.1
       ·exact h2.2.2 v hv
   rintro ⟨k, o, m, a, z, l⟩ he hw st t hF
   simp only [wkE] at hw
   obtain ⟨wm, w2, w3, w4, w7, w6, wl⟩ := hw
   simp only [CE.sz] at he
   have kid : ∀ {j : Nat} {a : CE}, l[j]? = some a → ∀ (st : RS) (t : Nat), Km words t st → Tot (fun n => kvE cx n a st) (fun v s => u32R v ∧ Km words t s) := fun {j a} hj st t hF => by
    have := wkEs_get wl hj
    exact ih a (by omega) this.1 st t hF
   have get : ∀ {j : Nat}, j < l.length → ∃ a, l[j]? = some a := fun {j} h => ⟨l[j], List.getElem?_eq_getElem h⟩
   refine Tot.succ (f := fun n => kvE cx (n + 1) (.mk k o m a z l) st) ?_ fun n => rfl
   simp only [kvE]
   refine Tot.ite (fun h1 => Tot.const fun a s e => by cases e; exact ⟨wm, hF⟩) fun h1 => Tot.ite (fun h2 => ?_) fun h2 => Tot.ite (fun h3 => ?_) fun h3 => Tot.ite (fun h4 => ?_) fun h4 => Tot.ite (fun h5 => Tot.const fun a s e => ?_) fun h5 => ?_
   ·obtain ⟨q1, q2⟩ := w2 h2
    obtain ⟨v, hv, hu⟩ := look_km hF q1 q2
    rw [hv]
    exact Tot.const fun a s e => by cases e; exact ⟨hu, hF⟩
   ·obtain ⟨q1, q2, q3, q4⟩ := w3 h3
    obtain ⟨b, hb'⟩ := get (j := 0) (by omega)
    simp only [hb']
    refine Tot.bind (kid hb' st t hF) (nE _ _ _) (fun _ _ => Mono.const _) fun x s1 h6 => ?_
    unfold atC
    have hx0 := h6.1.1
    by_cases hx : x < z
    ·rw [if_pos hx]
     simp only [bindR]
     obtain ⟨v, hv, hu⟩ := look_km (a := a + x) h6.2 (by omega) (by omega)
     rw [hv]
     exact Tot.const fun a s e => by cases e; exact ⟨hu, h6.2⟩
    ·rw [if_neg hx]
     simp only [bindR]
     exact Tot.const fun a s e => by cases e
   ·obtain ⟨q1, q2, g, hg, q3⟩ := w4 h4
    obtain ⟨g1, g2, g3, g4, g5⟩ := hfs.head _ _ hg
    refine Tot.succ (f := fun n => kvC cx (n + 1) a l st) ?_ fun n => rfl
    simp only [kvC, if_neg (show ¬ a < 0 by omega), hg]
    refine Tot.bind (ihA l (by omega) wl st t hF) (nA _ _ _) (fun a s => Mono.bind (Mono.const _) fun _ _ => Mono.obind fun _ => Mono.bind (nL _ _ _) fun _ _ => Mono.const _) fun vs s1 h6 => ?_
    refine Tot.bind (P := fun _ s => Km words t s) (Tot.const fun a s e => (tick_km h6.1 e).1) (Mono.const _) (fun _ _ => Mono.obind fun _ => Mono.bind (nL _ _ _) fun _ _ => Mono.const _) fun _ s2 h7 => ?_
    obtain ⟨s3, e3, k3⟩ := enter_km h7.self (vs := vs) g4 (by omega) g5 (by rw [h6.2.1]; omega) h6.2.2
    rw [e3]
    simp only [Option.bind_some]
    refine Tot.bind (hb _ (by omega) g hg s3 k3.self) (nL _ _ _) (fun _ _ => Mono.const _) fun r s4 h8 => ?_
    refine Tot.const fun v s e => by
     cases e
     refine ⟨?_, h8.2.trans (by have := h7.t; have := k3.t; omega)⟩
     cases r with
     | none => exact u32_0
     | some v => exact h8.1 v rfl
   ·unfold getR at e
    split at e
    ·rename_i c _
     cases e
     exact ⟨by have := UInt8.toNat_lt c; unfold u32R; omega, hF.v, hF.t, hF.u⟩
    ·cases e; exact ⟨by simp [u32R], hF⟩
   ·have h0 : 1 ≤ l.length := by
     by_cases h7 : k = 7
     ·exact w7 h7
     ·have := w6 h1 h2 h3 h4 h5 h7; omega
    obtain ⟨b, hb'⟩ := get (j := 0) (by omega)
    simp only [hb']
    refine Tot.ite (fun h7 => ?_) fun h7 => ?_
    ·refine Tot.bind (kid hb' st t hF) (nE _ _ _) (fun _ _ => Mono.const _) fun x s1 h6 => ?_
     exact Tot.const fun a s e => by
      cases e
      exact ⟨by split; exact u32_1; exact u32_0, h6.2⟩
    ·obtain ⟨d, hd⟩ := get (j := 1) (by have := w6 h1 h2 h3 h4 h5 h7; omega)
     simp only [hd]
     refine Tot.ite (fun h6 => ?_) fun h6 => ?_
     ·refine Tot.bind (kid hb' st t hF) (nE _ _ _) (fun _ _ => Mono.bind (nE _ _ _) fun _ _ => Mono.const _) fun x s1 h8 => ?_
      refine Tot.bind (kid hd s1 t h8.2) (nE _ _ _) (fun _ _ => Mono.const _) fun y s2 h9 => ?_
      split
      ·exact Tot.const fun a s e => by cases e; exact ⟨applyI_u o h8.1 h9.1, h9.2⟩
      ·exact Tot.const fun a s e => by cases e
     ·refine Tot.bind (kid hb' st t hF) (nE _ _ _) (fun _ _ => Mono.ite (Mono.const _) (Mono.bind (nE _ _ _) fun _ _ => Mono.const _)) fun x s1 h8 => ?_
      refine Tot.ite (fun _ => Tot.const fun a s e => ?_) fun _ => ?_
      ·cases e
       exact ⟨by split; exact u32_0; exact u32_1, h8.2⟩
      ·refine Tot.bind (kid hd s1 t h8.2) (nE _ _ _) (fun _ _ => Mono.const _) fun y s2 h9 => ?_
       exact Tot.const fun a s e => by
        cases e
        exact ⟨by split; exact u32_0; exact u32_1, h9.2⟩
theorem ktotA : ∀ l : List CE, wkEs words cx.funs i l → ∀ (st : RS) (t : Nat), Km words t st → Tot (fun n => kvA cx n l st) (fun vs s => Km words t s ∧ vs.length = l.length ∧ ∀ v ∈ vs, u32R v) := by
 intro l
 induction l with
 | nil => intro _ st t hF; exact Tot.succ (f := fun _ => some (.val [] st)) (Tot.const fun a s e => by cases e; exact ⟨hF, rfl, fun v hv => by cases hv⟩) fun n => by simp only [kvA]
 | cons e l ihl =>
   intro hw st t hF
   simp only [wkEs] at hw
   refine Tot.succ (f := fun n => bindR (kvE cx n e st) fun v st => bindR (kvA cx n l st) fun vs st => some (.val (v :: vs) st)) ?_ fun n => by simp only [kvA]
   refine Tot.bind (ktotE hfs hb e.sz e (Nat.le_refl _) hw.1 st t hF) (nE _ _ _) (fun a s => Mono.bind (nA _ _ _) fun _ _ => Mono.const _) fun a s h1 => ?_
   refine Tot.bind (ihl hw.2 s t h1.2) (nA _ _ _) (fun _ _ => Mono.const _) fun vs s2 h2 => ?_
   refine Tot.const fun a' s e => by
    cases e
    refine ⟨h2.1, by simp [h2.2.1], fun v hv => ?_⟩
    rcases List.mem_cons.1 hv with rfl | hv
    ·exact h1.1
    ·exact h2.2.2 v hv
theorem ktotC (l : List CE) (wl : wkEs words cx.funs i l) {a : Int} (hc : 0 ≤ a ∧ a < i ∧ ∃ f, cx.funs[a.toNat]? = some f ∧ f.params = l.length) (st : RS) (t : Nat) (hF : Km words t st) : Tot (fun n => kvC cx n a l st) (fun v s => u32R v ∧ Km words t s) := by
 obtain ⟨q1, q2, g, hg, q3⟩ := hc
 obtain ⟨g1, g2, g3, g4, g5⟩ := hfs.head _ _ hg
 refine Tot.succ (f := fun n => kvC cx (n + 1) a l st) ?_ fun n => rfl
 simp only [kvC, if_neg (show ¬ a < 0 by omega), hg]
 refine Tot.bind (ktotA hfs hb l wl st t hF) (nA _ _ _) (fun a s => Mono.bind (Mono.const _) fun _ _ => Mono.obind fun _ => Mono.bind (nL _ _ _) fun _ _ => Mono.const _) fun vs s1 h6 => ?_
 refine Tot.bind (P := fun _ s => Km words t s) (Tot.const fun a s e => (tick_km h6.1 e).1) (Mono.const _) (fun _ _ => Mono.obind fun _ => Mono.bind (nL _ _ _) fun _ _ => Mono.const _) fun _ s2 h7 => ?_
 obtain ⟨s3, e3, k3⟩ := enter_km h7.self (vs := vs) g4 (by omega) g5 (by rw [h6.2.1]; omega) h6.2.2
 rw [e3]
 simp only [Option.bind_some]
 refine Tot.bind (hb _ (by omega) g hg s3 k3.self) (nL _ _ _) (fun _ _ => Mono.const _) fun r s4 h8 => ?_
 refine Tot.const fun v s e => by
  cases e
  refine ⟨?_, h8.2.trans (by have := h7.t; have := k3.t; omega)⟩
  cases r with
  | none => exact u32_0
  | some v => exact h8.1 v rfl
def Kn (words : Int) (t : Nat) (r : Option Int) (s : RS) : Prop := (∀ v, r = some v → u32R v) ∧ Km words t s
theorem ktotS (M : Nat) : ∀ N : Nat, (∀ e : CS, e.sz ≤ N → wkS words cx.funs i e → ∀ st : RS, Km words st.ticks st → cx.fuel - st.ticks ≤ M → Tot (fun n => kvS cx n e st) (Kn words st.ticks)) ∧
  (∀ l : List CS, szCS l < N → wkSs words cx.funs i l → ∀ st : RS, Km words st.ticks st → cx.fuel - st.ticks ≤ M → Tot (fun n => kvL cx n l st) (Kn words st.ticks)) := by
 induction M using Nat.strongRecOn with
 | _ M ihM =>
 intro N
 induction N with
 | zero => exact ⟨fun e he => by have := e.sz_eq; omega, fun l hl => by omega⟩
 | succ N ih =>
   obtain ⟨ihS, ihL⟩ := ih
   have one : ∀ e : CS, e.sz ≤ N + 1 → wkS words cx.funs i e → ∀ st : RS, Km words st.ticks st → cx.fuel - st.ticks ≤ M → Tot (fun n => kvS cx n e st) (Kn words st.ticks) := by
    rintro ⟨k, a, z, l, t, u⟩ he hw st hF hM
    simp only [wkS] at hw
    obtain ⟨w1, w2, w6, wk, wl, wt, wu⟩ := hw
    simp only [CS.sz] at he
    have kid : ∀ {j : Nat} {a : CE}, l[j]? = some a → ∀ (st : RS) (t : Nat), Km words t st → Tot (fun n => kvE cx n a st) (fun v s => u32R v ∧ Km words t s) := fun {j a} hj st t hF => by
     have := wkEs_get wl hj
     exact ktotE hfs hb a.sz a (Nat.le_refl _) this.1 st t hF
    have get : ∀ {j : Nat}, j < l.length → ∃ a, l[j]? = some a := fun {j} h => ⟨l[j], List.getElem?_eq_getElem h⟩
    have kn0 : ∀ {t : Nat} {s : RS}, Km words t s → Kn words t none s := fun h => ⟨(fun v e => by cases e), h⟩
    refine Tot.succ (f := fun n => kvS cx (n + 1) (.mk k a z l t u) st) ?_ fun n => rfl
    simp only [kvS]
    refine Tot.ite (fun h1 => ?_) fun h1 => Tot.ite (fun h2 => ?_) fun h2 => Tot.ite (fun h3 => ?_) fun h3 => Tot.ite (fun h4 => ?_) fun h4 => Tot.ite (fun h5 => ?_) fun h5 => Tot.ite (fun h6 => ?_) fun h6 => Tot.ite (fun h7 => ?_) fun h7 => Tot.const fun a s e => by cases e; exact kn0 hF
    ·obtain ⟨b, hb'⟩ := get (j := 0) (by have := wk (.inl h1); omega)
     simp only [hb']
     refine Tot.bind (kid hb' st st.ticks hF) (nE _ _ _) (fun _ _ => Mono.const _) fun v s1 h8 => ?_
     obtain ⟨q1, q2⟩ := w1 h1
     obtain ⟨s2, e2, k2⟩ := put_km h8.2 q1 q2 h8.1
     rw [e2]
     exact Tot.const fun a s e => by cases e; exact kn0 k2
    ·obtain ⟨q1, q2, q3, q4⟩ := w2 h2
     obtain ⟨b, hb'⟩ := get (j := 0) (by omega)
     obtain ⟨d, hd⟩ := get (j := 1) (by omega)
     simp only [hb', hd]
     refine Tot.bind (kid hb' st st.ticks hF) (nE _ _ _) (fun _ _ => Mono.bind (nE _ _ _) fun _ _ => Mono.const _) fun x s1 h8 => ?_
     refine Tot.bind (kid hd s1 st.ticks h8.2) (nE _ _ _) (fun _ _ => Mono.const _) fun v s2 h9 => ?_
     have hx0 := h8.1.1
     unfold atC
     by_cases hx : x < z
     ·rw [if_pos hx]
      simp only [bindR]
      obtain ⟨s3, e3, k3⟩ := put_km (a := a + x) h9.2 (by omega) (by omega) h9.1
      rw [e3]
      exact Tot.const fun a s e => by cases e; exact kn0 k3
     ·rw [if_neg hx]
      simp only [bindR]
      exact Tot.const fun a s e => by cases e
    ·obtain ⟨b, hb'⟩ := get (j := 0) (by have := wk (.inr (.inl h3)); omega)
     simp only [hb']
     refine Tot.bind (kid hb' st st.ticks hF) (nE _ _ _) (fun _ _ => Mono.const _) fun v s1 h8 => ?_
     unfold putR
     split
     ·simp only [bindR]
      exact Tot.const fun a s e => by cases e
     ·simp only [bindR]
      exact Tot.const fun a s e => by cases e; exact kn0 ⟨h8.2.v, h8.2.t, h8.2.u⟩
    ·obtain ⟨b, hb'⟩ := get (j := 0) (by have := wk (.inr (.inr (.inl h4))); omega)
     simp only [hb']
     refine Tot.bind (kid hb' st st.ticks hF) (nE _ _ _) (fun _ _ => Mono.ite (nL _ _ _) (nL _ _ _)) fun v s1 h8 => ?_
     have q0 := h8.2.t
     have q1 := (wkEs_get wl hb').2
     have q2 := b.sz_eq
     exact Tot.ite (fun _ => (ihL u (by clear w1 w2 w6; omega) wu s1 h8.2.self (by clear w1 w2 w6; omega)).mono fun r s h => ⟨h.1, h.2.trans q0⟩) fun _ => (ihL t (by clear w1 w2 w6; omega) wt s1 h8.2.self (by clear w1 w2 w6; omega)).mono fun r s h => ⟨h.1, h.2.trans q0⟩
    ·obtain ⟨b, hb'⟩ := get (j := 0) (by have := wk (.inr (.inr (.inr h5))); omega)
     simp only [hb']
     refine Tot.succ (f := fun n => kvW cx (n + 1) b t st) ?_ fun n => rfl
     simp only [kvW]
     refine Tot.bind (P := fun _ s => Km words st.ticks s ∧ st.ticks < s.ticks ∧ cx.fuel - s.ticks < M) (Tot.const fun a s e => ?_) (Mono.const _) (fun _ _ => Mono.bind (nE _ _ _) fun _ _ => Mono.ite (Mono.const _) (Mono.bind (nL _ _ _) fun r _ => ?_)) fun _ s1 ⟨g1, g2, g3⟩ => ?_
     ·obtain ⟨k1, k2, k3⟩ := tick_km hF e
      have k3 : st.ticks < cx.fuel := k3
      exact ⟨k1, k2, by clear w1 w2 w6; omega⟩
     ·cases r with
      | some v => exact Mono.const _
      | none => exact nW _ _ _ _
     refine Tot.bind (kid hb' s1 s1.ticks g1.self) (nE _ _ _) (fun _ _ => Mono.ite (Mono.const _) (Mono.bind (nL _ _ _) fun r _ => ?_)) fun x s2 h8 => ?_
     ·cases r with
      | some v => exact Mono.const _
      | none => exact nW _ _ _ _
     have h8t := h8.2.t
     refine Tot.ite (fun _ => Tot.const fun a s e => by cases e; exact kn0 (h8.2.trans (by omega))) fun _ => ?_
     refine Tot.bind ((ihM (cx.fuel - s2.ticks) (by omega) (szCS t + 1)).2 t (by omega) wt s2 h8.2.self (Nat.le_refl _)) (nL _ _ _) (fun r _ => ?_) fun r s3 h9 => ?_
     ·cases r with
      | some v => exact Mono.const _
      | none => exact nW _ _ _ _
     have h9t := h9.2.t
     cases hr : r with
     | some v => exact Tot.const fun a s e => by cases e; exact ⟨fun w hw => by cases hw; exact h9.1 _ hr, h9.2.trans (by omega)⟩
     | none =>
       have := (ihM (cx.fuel - s3.ticks) (by omega) (CS.mk 5 0 0 [b] t []).sz).1 (.mk 5 0 0 [b] t []) (Nat.le_refl _) (by
        simp only [wkS, wkEs, wkSs]
        exact ⟨fun e => absurd e (by decide), fun e => absurd e (by decide), fun e => absurd e (by decide), fun _ => by simp, ⟨(wkEs_get wl hb').1, trivial⟩, wt, trivial⟩) s3 h9.2.self (Nat.le_refl _)
       obtain ⟨n, o, e1, e2⟩ := this
       cases n with
       | zero => simp [kvS] at e1
       | succ n =>
         simp [kvS] at e1
         exact ⟨n, o, e1, fun r' s' e => by have := e2 r' s' e; exact ⟨this.1, this.2.trans (by omega)⟩⟩
    ·refine Tot.bind (ktotC hfs hb l wl (w6 h6) st st.ticks hF) (nC _ _ _ _) (fun _ _ => Mono.const _) fun v s1 h8 => ?_
     exact Tot.const fun a s e => by cases e; exact kn0 h8.2
    ·cases hl : l[0]? with
     | none => exact Tot.const fun a s e => by cases e; exact ⟨fun v e => by cases e; exact u32_0, hF⟩
     | some b =>
       simp only
       refine Tot.bind (kid hl st st.ticks hF) (nE _ _ _) (fun _ _ => Mono.const _) fun v s1 h8 => ?_
       exact Tot.const fun a s e => by cases e; exact ⟨fun v e => by cases e; exact h8.1, h8.2⟩
   refine ⟨one, ?_⟩
   intro l
   induction l with
   | nil =>
     intro _ _ st hF _
     exact Tot.succ (f := fun _ => some (.val none st)) (Tot.const fun a s e => by cases e; exact ⟨(fun v e => by cases e), hF⟩) fun n => by simp only [kvL]
   | cons e l ihl =>
     intro hs hw st hF hM
     simp only [szCS] at hs
     simp only [wkSs] at hw
     refine Tot.succ (f := fun n => kvL cx (n + 1) (e :: l) st) ?_ fun n => rfl
     simp only [kvL]
     refine Tot.bind (one e (by omega) hw.1 st hF hM) (nS _ _ _) (fun r _ => ?_) fun r s1 h1 => ?_
     ·cases r with
      | some v => exact Mono.const _
      | none => exact nL _ _ _
     have h1t := h1.2.t
     cases hr : r with
     | some v => exact Tot.const fun a s e => by cases e; exact ⟨fun w hw => by cases hw; exact h1.1 _ hr, h1.2⟩
     | none => exact (ihl (by omega) hw.2 s1 h1.2.self (by omega)).mono fun r s h => ⟨h.1, h.2.trans h1t⟩
end
theorem kbodies {cx : Kx} {words : Int} (h : FunsOk words cx.funs) (j : Nat) : bodyK cx words j := by
 induction j using Nat.strongRecOn with
 | _ j ih =>
   intro f hf st hF
   exact (ktotS h ih (cx.fuel - st.ticks) (szCS f.body + 1)).2 f.body (by omega) (h.body j f hf) st hF (Nat.le_refl _)
def runK (cx : Kx) (n : Nat) (words : Nat) : Option (Int × Str × Nat) := (cx.funs.getLast?).bind fun f => (kvL cx n f.body ⟨List.replicate words 0, [], 0, [], 0⟩).map endR
theorem krun_total {cx : Kx} {words : Nat} (h0 : cx.funs ≠ []) (h : FunsOk (words : Int) cx.funs) : ∃ n r, runK cx n words = some r := by
 have hl : cx.funs.length - 1 < cx.funs.length := by
  cases hc : cx.funs with
  | nil => exact absurd hc h0
  | cons a l => simp
 have hg : cx.funs.getLast? = some cx.funs[cx.funs.length - 1] := by rw [List.getLast?_eq_getElem?, List.getElem?_eq_getElem hl]
 obtain ⟨n, r, hr, _⟩ := kbodies h (cx.funs.length - 1) _ (List.getElem?_eq_getElem hl) ⟨List.replicate words 0, [], 0, [], 0⟩ ⟨by simp, Nat.le_refl _, fun x hx => by rw [List.eq_of_mem_replicate hx]; exact u32_0⟩
 refine ⟨n, endR r, ?_⟩
 unfold runK
 rw [hg]
 simp only [Option.bind_some]
 rw [show kvL cx n _ _ = some r from hr]
 rfl
theorem krun_deep {cx : Kx} {n m words : Nat} (hm : n ≤ m) {r} (h : runK cx n words = some r) : runK cx m words = some r := by
 unfold runK at *
 cases hc : cx.funs.getLast? with
 | none => rw [hc] at h; cases h
 | some f =>
   rw [hc] at h
   simp only [Option.bind_some, Option.map_eq_some_iff] at h ⊢
   obtain ⟨x, hx, e⟩ := h
   exact ⟨x, kvL_deep hm hx, e⟩
theorem krun_one {cx : Kx} {n m words : Nat} {r r'} (h : runK cx n words = some r) (h' : runK cx m words = some r') : r = r' := by
 have a := krun_deep (Nat.le_max_left n m) h
 have b := krun_deep (Nat.le_max_right n m) h'
 rw [a] at b
 exact Option.some.inj b
end Go.Al
namespace Go.Al
theorem withinC_iff {w a n : Int} : withinC w a n = true ↔ 0 ≤ a ∧ 0 ≤ n ∧ a ≤ w ∧ n ≤ w - a := by
 simp only [withinC, Bool.and_eq_true, decide_eq_true_eq]; omega
theorem callee_of {below : List CF} {g : Int} {n : Nat} {w : Bool} (h : calleeC below g n w = true) : 0 ≤ g ∧ ∃ f, below[g.toNat]? = some f ∧ f.params = n ∧ f.word = w := by
 unfold calleeC at h
 rw [Bool.and_eq_true] at h
 obtain ⟨h1, h2⟩ := h
 split at h2
 ·rename_i f hf
  simp only [Bool.and_eq_true, decide_eq_true_eq] at h2
  exact ⟨of_decide_eq_true h1, f, hf, h2.2, h2.1⟩
 ·cases h2
theorem take_get {α : Type} {l : List α} {i j : Nat} {a : α} (h : (l.take i)[j]? = some a) : j < i ∧ l[j]? = some a := by
 rw [List.getElem?_take] at h
 split at h
 ·exact ⟨by assumption, h⟩
 ·cases h
section
variable {words : Int} {fs : List CF} {i : Nat}
theorem wk_of (N : Nat) : ∀ (e : CE) (lv : Int), e.sz ≤ N → e.ok → rightCE words (fs.take i) e lv = true → wkE words fs i e := by
 induction N with
 | zero => intro e _ he; have := e.sz_eq; omega
 | succ N ih =>
   rintro ⟨k, o, m, a, z, l⟩ lv he hok hr
   have hkids : okCE l := hok.kids
   have hnum : u32R m := hok.num
   simp only [CE.sz] at he
   simp only [rightCE, Bool.and_eq_true] at hr
   obtain ⟨⟨_, hf⟩, hl⟩ := hr
   have hF : formCE words (fs.take i) (.mk k o m a z l) = ((decide (k = 1) || decide (m = 0)) && (decide (k = 6) || decide (o = 0)) && (decide (k = 3) || decide (z = 0)) && (decide (k = 2) || decide (k = 3) || decide (k = 4) || decide (a = 0)) &&
    (if k = 1 ∨ k = 5 then decide (l.length = 0) else if k = 2 then withinC words a 1 && decide (l.length = 0) else if k = 3 then decide (1 ≤ z) && decide (z ≤ 4096) && withinC words a z && decide (l.length = 1)
     else if k = 4 then calleeC (fs.take i) a l.length true else if k = 6 then decide (4 ≤ o) && decide (o ≤ 15) && decide (l.length = 2) else if k = 7 then decide (l.length = 1) else if k = 8 ∨ k = 9 then decide (l.length = 2) else false)) := rfl
   rw [hF, Bool.and_eq_true] at hf
   have hf := hf.2
   have kids : ∀ l : List CE, szCE l ≤ N → (∀ e ∈ l, e.ok) → rightCEs words (fs.take i) l (lv + 1) = true → wkEs words fs i l := by
    intro l
    induction l with
    | nil => intro _ _ _; simp only [wkEs]
    | cons e l ihl =>
      intro hs ho hr
      simp only [szCE] at hs
      simp only [rightCEs, Bool.and_eq_true] at hr
      simp only [wkEs]
      exact ⟨ih e _ (by omega) (ho e (List.mem_cons_self)) hr.1, ihl (by omega) (fun x hx => ho x (List.mem_cons_of_mem _ hx)) hr.2⟩
   simp only [wkE]
   refine ⟨hnum, fun h => ?_, fun h => ?_, fun h => ?_, fun h => ?_, fun h1 h2 h3 h4 h5 h7 => ?_, kids l (by omega) hkids.all hl⟩
   ·subst h
    simp only [Int.reduceEq, or_self, if_false, if_true, Bool.and_eq_true] at hf
    have := withinC_iff.1 hf.1
    omega
   ·subst h
    simp only [Int.reduceEq, or_self, if_false, if_true, Bool.and_eq_true, decide_eq_true_eq] at hf
    obtain ⟨⟨⟨q1, q2⟩, q3⟩, q4⟩ := hf
    have := withinC_iff.1 q3
    omega
   ·subst h
    simp only [Int.reduceEq, or_self, if_false, if_true] at hf
    obtain ⟨q1, f, q2, q3, _⟩ := callee_of hf
    obtain ⟨r1, r2⟩ := take_get q2
    exact ⟨q1, by omega, f, r2, q3⟩
   ·subst h
    simp only [Int.reduceEq, or_self, if_false, if_true, decide_eq_true_eq] at hf
    omega
   ·rw [if_neg (by omega), if_neg h2, if_neg h3, if_neg h4] at hf
    split at hf
    ·simp only [Bool.and_eq_true, decide_eq_true_eq] at hf; omega
    ·split at hf
     ·have := of_decide_eq_true hf; omega
     ·cases hf
theorem wks_of : ∀ (l : List CE) (lv : Int), (∀ e ∈ l, e.ok) → rightCEs words (fs.take i) l lv = true → wkEs words fs i l
 | [], _, _, _ => by simp only [wkEs]
 | e :: l, lv, ho, hr => by
   simp only [rightCEs, Bool.and_eq_true] at hr
   simp only [wkEs]
   exact ⟨wk_of e.sz e lv (Nat.le_refl _) (ho e (List.mem_cons_self)) hr.1, wks_of l lv (fun x hx => ho x (List.mem_cons_of_mem _ hx)) hr.2⟩
theorem wkS_of {word : Bool} (N : Nat) : ∀ (e : CS) (lv : Int), e.sz ≤ N → e.ok → rightCS words (fs.take i) word e lv = true → wkS words fs i e := by
 induction N with
 | zero => intro e _ he; have := e.sz_eq; omega
 | succ N ih =>
   rintro ⟨k, a, z, l, t, u⟩ lv he hok hr
   have hes : okCE l := hok.es
   have hth : okCS t := hok.thn
   have hel : okCS u := hok.els
   simp only [CS.sz] at he
   simp only [rightCS, Bool.and_eq_true] at hr
   obtain ⟨⟨⟨⟨_, hf⟩, hl⟩, ht⟩, hu⟩ := hr
   have hF : formCS words (fs.take i) word (.mk k a z l t u) = ((decide (k = 2) || decide (z = 0)) && (decide (k = 1) || decide (k = 2) || decide (k = 6) || decide (a = 0)) && (decide (k = 4) || decide (u.length = 0)) && (decide (k = 4) || decide (k = 5) || decide (t.length = 0)) &&
    (if k = 1 then withinC words a 1 && decide (l.length = 1) else if k = 2 then decide (1 ≤ z) && decide (z ≤ 4096) && withinC words a z && decide (l.length = 2) else if k = 3 ∨ k = 4 ∨ k = 5 then decide (l.length = 1)
     else if k = 6 then calleeC (fs.take i) a l.length false else if k = 7 then decide (l.length = 0) || word && decide (l.length = 1) else false)) := rfl
   rw [hF, Bool.and_eq_true] at hf
   have hf := hf.2
   have body : ∀ l : List CS, szCS l ≤ N → (∀ e ∈ l, e.ok) → rightCSs words (fs.take i) word l (lv + 1) = true → wkSs words fs i l := by
    intro l
    induction l with
    | nil => intro _ _ _; simp only [wkSs]
    | cons e l ihl =>
      intro hs ho hr
      simp only [szCS] at hs
      simp only [rightCSs, Bool.and_eq_true] at hr
      simp only [wkSs]
      exact ⟨ih e _ (by omega) (ho e (List.mem_cons_self)) hr.1, ihl (by omega) (fun x hx => ho x (List.mem_cons_of_mem _ hx)) hr.2⟩
   simp only [wkS]
   refine ⟨fun h => ?_, fun h => ?_, fun h => ?_, fun h => ?_, wks_of l _ hes.all hl, body t (by omega) hth.all ht, body u (by omega) hel.all hu⟩
   ·subst h
    simp only [if_true, Bool.and_eq_true] at hf
    have := withinC_iff.1 hf.1
    omega
   ·subst h
    simp only [Int.reduceEq, or_self, if_false, if_true, Bool.and_eq_true, decide_eq_true_eq] at hf
    obtain ⟨⟨⟨q1, q2⟩, q3⟩, q4⟩ := hf
    have := withinC_iff.1 q3
    omega
   ·subst h
    simp only [Int.reduceEq, or_self, if_false, if_true] at hf
    obtain ⟨q1, f, q2, q3, _⟩ := callee_of hf
    obtain ⟨r1, r2⟩ := take_get q2
    exact ⟨q1, by omega, f, r2, q3⟩
   ·rcases h with rfl | rfl | rfl | rfl <;> simp only [Int.reduceEq, or_self, or_true, true_or, if_false, if_true, Bool.and_eq_true, decide_eq_true_eq] at hf <;> omega
theorem wkSs_of {word : Bool} : ∀ (l : List CS) (lv : Int), (∀ e ∈ l, e.ok) → rightCSs words (fs.take i) word l lv = true → wkSs words fs i l
 | [], _, _, _ => by simp only [wkSs]
 | e :: l, lv, ho, hr => by
   simp only [rightCSs, Bool.and_eq_true] at hr
   simp only [wkSs]
   exact ⟨wkS_of e.sz e lv (Nat.le_refl _) (ho e (List.mem_cons_self)) hr.1, wkSs_of l lv (fun x hx => ho x (List.mem_cons_of_mem _ hx)) hr.2⟩
end
theorem bodies_get {words : Int} {fs : List CF} : ∀ (l : List CF) (k : Nat), fs.drop k = l → bodiesC words (fs.take k) l = true → ∀ (j : Nat) f, l[j]? = some f → rightCSs words (fs.take (k + j)) f.word f.body 1 = true
 | [], _, _, _, j, f, h => by simp at h
 | g :: l, k, hd, hb, j, f, h => by
   rw [bodiesC, Bool.and_eq_true] at hb
   have hk : k < fs.length := by
    rcases Nat.lt_or_ge k fs.length with h | h
    ·exact h
    ·rw [List.drop_eq_nil_of_le h] at hd; cases hd
   rw [List.drop_eq_getElem_cons hk] at hd
   injection hd with h1 h2
   cases j with
   | zero => simp only [List.getElem?_cons_zero, Option.some.injEq] at h; subst h; exact hb.1
   | succ j =>
     rw [List.getElem?_cons_succ] at h
     have hb2 := hb.2
     rw [← h1, ← List.take_succ_eq_append_getElem hk] at hb2
     have := bodies_get l (k + 1) h2 hb2 j f h
     rwa [show k + 1 + j = k + (j + 1) by omega] at this
structure CoOk (c : Co) : Prop where
 ok : c.ok
 words : 0 ≤ c.words ∧ c.words ≤ 32768
 len : 1 ≤ c.funs.length ∧ c.funs.length ≤ 64
 funs : FunsOk c.words c.funs
theorem co_ok {c : Co} (ho : c.ok) (h : rightC c = true) : CoOk c := by
 simp only [rightC, Bool.and_eq_true, decide_eq_true_eq, List.all_eq_true] at h
 obtain ⟨⟨⟨⟨⟨⟨h1, h2⟩, h3⟩, h4⟩, h5⟩, h6⟩, _⟩ := h
 refine ⟨ho, ⟨h1, h2⟩, ⟨h3, h4⟩, ⟨fun i f hf => ?_, fun i f hf => ?_⟩⟩
 ·have := h5 f (List.mem_of_getElem? hf)
  simp only [headCF, Bool.and_eq_true, decide_eq_true_eq] at this
  obtain ⟨⟨⟨q1, q2⟩, q3⟩, q4⟩ := this
  have := withinC_iff.1 q4
  omega
 ·have := bodies_get (words := c.words) (fs := c.funs) c.funs 0 (by simp) (by simpa using h6) i f hf
  rw [Nat.zero_add] at this
  exact wkSs_of f.body 1 (ho.funs f (List.mem_of_getElem? hf)).body.all this
end Go.Al
namespace Go.Al
theorem GwO.obind {α β : Type} {fuel : Nat} {s : RS} {x : Option α} {f : α → Option (Rz β)} (hf : ∀ a, x = some a → GwO fuel s (f a)) : GwO fuel s (x.bind f) := by
 cases x with
 | none => exact GwO.none _ _
 | some a => exact hf a rfl
theorem look_gw (fuel : Nat) (a : Int) (st : RS) : GwO fuel st ((lookC a st).map fun v => Rz.val v st) := by
 cases lookC a st with
 | none => exact GwO.none _ _
 | some v => exact GwO.val (Gw.refl _ _) _
theorem putC_gw (fuel : Nat) (a v : Int) (st : RS) : GwO fuel st ((putC a v st).map fun st => Rz.val (none : Option Int) st) := by
 unfold putC
 split
 ·exact GwO.val (by exact ⟨List.prefix_refl _, Nat.le_refl _, fun h => h⟩) _
 ·exact GwO.none _ _
theorem atC_gw (fuel : Nat) (z i : Int) (st : RS) : GwO fuel st (some (atC z i st)) := by
 unfold atC
 split
 ·exact GwO.val (Gw.refl _ _) _
 ·exact GwO.fin (Gw.refl _ _) _
theorem GwO.of {α : Type} {fuel : Nat} {s s' : RS} {x : Option (Rz α)} (h : Gw fuel s s') (hx : GwO fuel s' x) : GwO fuel s x := fun o ho => h.trans (hx o ho)
theorem enter_gw {fuel : Nat} {f : CF} {vs : List Int} {s s' : RS} (h : enterC f vs s = some s') : Gw fuel s s' := by
 unfold enterC at h
 split at h
 ·cases h; exact ⟨List.prefix_refl _, Nat.le_refl _, fun h => h⟩
 ·cases h
structure KGrow (cx : Kx) (n : Nat) : Prop where
 E : ∀ e st, GwO cx.fuel st (kvE cx n e st)
 A : ∀ l st, GwO cx.fuel st (kvA cx n l st)
 C : ∀ i l st, GwO cx.fuel st (kvC cx n i l st)
 S : ∀ e st, GwO cx.fuel st (kvS cx n e st)
 L : ∀ l st, GwO cx.fuel st (kvL cx n l st)
 W : ∀ c t st, GwO cx.fuel st (kvW cx n c t st)
theorem kgrow (cx : Kx) (n : Nat) : KGrow cx n := by
 induction n with
 | zero =>
   constructor
   all_goals
    intros
    intro o h
    simp [kvE, kvA, kvC, kvS, kvL, kvW] at h
 | succ n ih =>
   obtain ⟨hE, hA, hC, hS, hL, hW⟩ := ih
   have tk : ∀ st, GwO cx.fuel st (some (tickR cx.cx st)) := fun st => tick_gw cx.cx st
   constructor
   ·rintro ⟨k, o, m, a, z, l⟩ st
    simp only [kvE]
    refine GwO.ite (GwO.val (Gw.refl _ _) _) (GwO.ite (look_gw _ _ _) (GwO.ite ?_ (GwO.ite (hC _ _ _) (GwO.ite (get_gw _ _ _) ?_))))
    ·cases l[0]? with
     | none => exact GwO.none _ _
     | some a => exact GwO.bind (hE _ _) fun x st => GwO.bind (atC_gw _ _ _ _) fun _ st => look_gw _ _ _
    ·cases l[0]? with
     | none => exact GwO.none _ _
     | some a =>
       refine GwO.ite (GwO.bind (hE _ _) fun _ _ => GwO.val (Gw.refl _ _) _) ?_
       cases l[1]? with
       | none => exact GwO.none _ _
       | some b =>
         refine GwO.ite (GwO.bind (hE _ _) fun _ _ => GwO.bind (hE _ _) fun _ _ => GwO.ite (GwO.val (Gw.refl _ _) _) (GwO.fin (Gw.refl _ _) _)) ?_
         exact GwO.bind (hE _ _) fun _ _ => GwO.ite (GwO.val (Gw.refl _ _) _) (GwO.bind (hE _ _) fun _ _ => GwO.val (Gw.refl _ _) _)
   ·intro l st
    cases l with
    | nil => simp only [kvA]; exact GwO.val (Gw.refl _ _) _
    | cons e l =>
      simp only [kvA]
      exact GwO.bind (hE _ _) fun _ _ => GwO.bind (hA _ _) fun _ _ => GwO.val (Gw.refl _ _) _
   ·intro i l st
    simp only [kvC]
    refine GwO.ite (GwO.none _ _) ?_
    cases cx.funs[i.toNat]? with
    | none => exact GwO.none _ _
    | some f => exact GwO.bind (hA _ _) fun _ _ => GwO.bind (tk _) fun _ _ => GwO.obind fun _ h => GwO.of (enter_gw h) (GwO.bind (hL _ _) fun _ _ => GwO.val (Gw.refl _ _) _)
   ·rintro ⟨k, a, z, l, t, u⟩ st
    simp only [kvS]
    refine GwO.ite ?_ (GwO.ite ?_ (GwO.ite ?_ (GwO.ite ?_ (GwO.ite ?_ (GwO.ite ?_ (GwO.ite ?_ (GwO.val (Gw.refl _ _) _)))))))
    ·cases l[0]? with
     | none => exact GwO.none _ _
     | some a => exact GwO.bind (hE _ _) fun _ _ => putC_gw _ _ _ _
    ·cases l[0]? with
     | none => exact GwO.none _ _
     | some a =>
       cases l[1]? with
       | none => exact GwO.none _ _
       | some b => exact GwO.bind (hE _ _) fun _ _ => GwO.bind (hE _ _) fun _ st => GwO.bind (atC_gw _ _ _ _) fun _ _ => putC_gw _ _ _ _
    ·cases l[0]? with
     | none => exact GwO.none _ _
     | some a => exact GwO.bind (hE _ _) fun _ _ => GwO.bind (put_gw _ _ _) fun _ _ => GwO.val (Gw.refl _ _) _
    ·cases l[0]? with
     | none => exact GwO.none _ _
     | some a => exact GwO.bind (hE _ _) fun _ _ => GwO.ite (hL _ _) (hL _ _)
    ·cases l[0]? with
     | none => exact GwO.none _ _
     | some a => exact hW _ _ _
    ·exact GwO.bind (hC _ _ _) fun _ _ => GwO.val (Gw.refl _ _) _
    ·cases l[0]? with
     | none => exact GwO.val (Gw.refl _ _) _
     | some a => exact GwO.bind (hE _ _) fun _ _ => GwO.val (Gw.refl _ _) _
   ·intro l st
    cases l with
    | nil => simp only [kvL]; exact GwO.val (Gw.refl _ _) _
    | cons s l =>
      simp only [kvL]
      refine GwO.bind (hS _ _) fun r st => ?_
      cases r with
      | some v => exact GwO.val (Gw.refl _ _) _
      | none => exact hL _ _
   ·intro c t st
    simp only [kvW]
    refine GwO.bind (tk _) fun _ st => GwO.bind (hE _ _) fun x st => GwO.ite (GwO.val (Gw.refl _ _) _) (GwO.bind (hL _ _) fun r st => ?_)
    cases r with
    | some v => exact GwO.val (Gw.refl _ _) _
    | none => exact hW _ _ _
structure KMore (cx cx' : Kx) (n : Nat) : Prop where
 E : ∀ e st, FuO cx.fuel (kvE cx n e st) (kvE cx' n e st)
 A : ∀ l st, FuO cx.fuel (kvA cx n l st) (kvA cx' n l st)
 C : ∀ i l st, FuO cx.fuel (kvC cx n i l st) (kvC cx' n i l st)
 S : ∀ e st, FuO cx.fuel (kvS cx n e st) (kvS cx' n e st)
 L : ∀ l st, FuO cx.fuel (kvL cx n l st) (kvL cx' n l st)
 W : ∀ c t st, FuO cx.fuel (kvW cx n c t st) (kvW cx' n c t st)
theorem FuO.obind {α β : Type} {F : Nat} {x : Option α} {f g : α → Option (Rz β)} (hf : ∀ a, x = some a → FuO F (f a) (g a)) : FuO F (x.bind f) (x.bind g) := by
 cases x with
 | none => exact FuO.none _
 | some a => exact hf a rfl
theorem look_fu (F : Nat) (a : Int) (st : RS) : FuO F ((lookC a st).map fun v => Rz.val v st) ((lookC a st).map fun v => Rz.val v st) := by
 cases lookC a st with
 | none => exact FuO.none _
 | some v => exact FuO.val _ _
theorem putC_fu (F : Nat) (a v : Int) (st : RS) : FuO F ((putC a v st).map fun st => Rz.val (none : Option Int) st) ((putC a v st).map fun st => Rz.val (none : Option Int) st) := by
 cases putC a v st with
 | none => exact FuO.none _
 | some v => exact FuO.val _ _
theorem kmore {cx cx' : Kx} (hf : cx.fuel ≤ cx'.fuel) (hfun : cx'.funs = cx.funs) (hi : cx'.inp = cx.inp) (n : Nat) : KMore cx cx' n := by
 induction n with
 | zero =>
   constructor
   all_goals
    intros
    intro o h
    simp [kvE, kvA, kvC, kvS, kvL, kvW] at h
 | succ n ih =>
   obtain ⟨hE, hA, hC, hS, hL, hW⟩ := ih
   obtain ⟨gE, gA, gC, gS, gL, gW⟩ := kgrow cx' n
   have tk : ∀ st, GwO cx'.fuel st (some (tickR cx'.cx st)) := fun st => tick_gw cx'.cx st
   have tf : ∀ st, FuO cx.fuel (some (tickR cx.cx st)) (some (tickR cx'.cx st)) := fun st => tick_fu (cx := cx.cx) (cx' := cx'.cx) hf st
   have hget : ∀ st, getR cx'.cx st = getR cx.cx st := fun st => by simp only [getR, Kx.cx, hi]
   have hat : ∀ z x st, FuO cx.fuel (some (atC z x st)) (some (atC z x st)) := fun z x st => FuO.same fun s h => by
    unfold atC at h
    split at h <;> cases h
   have hput : ∀ v st, FuO cx.fuel (some (putR v st)) (some (putR v st)) := fun v st => FuO.same fun s h => by
    unfold putR at h
    split at h <;> cases h
   constructor
   ·rintro ⟨k, o, m, a, z, l⟩ st
    simp only [kvE, hget]
    refine FuO.ite (FuO.val _ _) (FuO.ite (look_fu _ _ _) (FuO.ite ?_ (FuO.ite (hC _ _ _) (FuO.ite ?_ ?_))))
    ·cases l[0]? with
     | none => exact FuO.none _
     | some a =>
       exact FuO.bind (F' := cx'.fuel) (hE _ _) (fun x st => FuO.bind (F' := cx'.fuel) (hat _ _ _) (fun _ st => look_fu _ _ _) fun _ st => look_gw _ _ _) fun x st => GwO.bind (atC_gw _ _ _ _) fun _ st => look_gw _ _ _
    ·exact FuO.same fun s h => by
      unfold getR at h
      split at h <;> cases h
    ·cases l[0]? with
     | none => exact FuO.none _
     | some a =>
       refine FuO.ite (FuO.bind (F' := cx'.fuel) (hE _ _) (fun _ _ => FuO.val _ _) fun _ _ => GwO.val (Gw.refl _ _) _) ?_
       cases l[1]? with
       | none => exact FuO.none _
       | some b =>
         refine FuO.ite (FuO.bind (F' := cx'.fuel) (hE _ _) (fun _ _ => FuO.bind (F' := cx'.fuel) (hE _ _) (fun _ _ => FuO.ite (FuO.val _ _) (FuO.fin (by decide) _)) fun _ _ => GwO.ite (GwO.val (Gw.refl _ _) _) (GwO.fin (Gw.refl _ _) _)) fun _ _ => GwO.bind (gE _ _) fun _ _ => GwO.ite (GwO.val (Gw.refl _ _) _) (GwO.fin (Gw.refl _ _) _)) ?_
         exact FuO.bind (F' := cx'.fuel) (hE _ _) (fun _ _ => FuO.ite (FuO.val _ _) (FuO.bind (F' := cx'.fuel) (hE _ _) (fun _ _ => FuO.val _ _) fun _ _ => GwO.val (Gw.refl _ _) _)) fun _ _ => GwO.ite (GwO.val (Gw.refl _ _) _) (GwO.bind (gE _ _) fun _ _ => GwO.val (Gw.refl _ _) _)
   ·intro l st
    cases l with
    | nil => simp only [kvA]; exact FuO.val _ _
    | cons e l =>
      simp only [kvA]
      exact FuO.bind (F' := cx'.fuel) (hE _ _) (fun _ _ => FuO.bind (F' := cx'.fuel) (hA _ _) (fun _ _ => FuO.val _ _) fun _ _ => GwO.val (Gw.refl _ _) _) fun _ _ => GwO.bind (gA _ _) fun _ _ => GwO.val (Gw.refl _ _) _
   ·intro i l st
    simp only [kvC, hfun]
    refine FuO.ite (FuO.none _) ?_
    cases cx.funs[i.toNat]? with
    | none => exact FuO.none _
    | some f =>
      have g3 : ∀ vs st, GwO cx'.fuel st ((enterC f vs st).bind fun st => bindR (kvL cx' n f.body st) fun r st => some (.val (r.getD 0) st)) := fun vs st => GwO.obind fun _ h => GwO.of (enter_gw h) (GwO.bind (gL _ _) fun _ _ => GwO.val (Gw.refl _ _) _)
      exact FuO.bind (F' := cx'.fuel) (hA _ _) (fun vs _ => FuO.bind (F' := cx'.fuel) (tf _) (fun _ _ => FuO.obind fun _ _ => FuO.bind (F' := cx'.fuel) (hL _ _) (fun _ _ => FuO.val _ _) fun _ _ => GwO.val (Gw.refl _ _) _) fun _ _ => g3 vs _) fun vs _ => GwO.bind (tk _) fun _ _ => g3 vs _
   ·rintro ⟨k, a, z, l, t, u⟩ st
    simp only [kvS]
    refine FuO.ite ?_ (FuO.ite ?_ (FuO.ite ?_ (FuO.ite ?_ (FuO.ite ?_ (FuO.ite ?_ (FuO.ite ?_ (FuO.val _ _)))))))
    ·cases l[0]? with
     | none => exact FuO.none _
     | some a => exact FuO.bind (F' := cx'.fuel) (hE _ _) (fun v st => putC_fu _ _ _ _) fun _ _ => putC_gw _ _ _ _
    ·cases l[0]? with
     | none => exact FuO.none _
     | some a =>
       cases l[1]? with
       | none => exact FuO.none _
       | some b => exact FuO.bind (F' := cx'.fuel) (hE _ _) (fun _ _ => FuO.bind (F' := cx'.fuel) (hE _ _) (fun _ st => FuO.bind (F' := cx'.fuel) (hat _ _ _) (fun _ _ => putC_fu _ _ _ _) fun _ _ => putC_gw _ _ _ _) fun _ _ => GwO.bind (atC_gw _ _ _ _) fun _ _ => putC_gw _ _ _ _) fun _ _ => GwO.bind (gE _ _) fun _ _ => GwO.bind (atC_gw _ _ _ _) fun _ _ => putC_gw _ _ _ _
    ·cases l[0]? with
     | none => exact FuO.none _
     | some a => exact FuO.bind (F' := cx'.fuel) (hE _ _) (fun _ _ => FuO.bind (F' := cx'.fuel) (hput _ _) (fun _ _ => FuO.val _ _) fun _ _ => GwO.val (Gw.refl _ _) _) fun _ _ => GwO.bind (put_gw _ _ _) fun _ _ => GwO.val (Gw.refl _ _) _
    ·cases l[0]? with
     | none => exact FuO.none _
     | some a => exact FuO.bind (F' := cx'.fuel) (hE _ _) (fun _ _ => FuO.ite (hL _ _) (hL _ _)) fun _ _ => GwO.ite (gL _ _) (gL _ _)
    ·cases l[0]? with
     | none => exact FuO.none _
     | some a => exact hW _ _ _
    ·exact FuO.bind (F' := cx'.fuel) (hC _ _ _) (fun _ _ => FuO.val _ _) fun _ _ => GwO.val (Gw.refl _ _) _
    ·cases l[0]? with
     | none => exact FuO.val _ _
     | some a => exact FuO.bind (F' := cx'.fuel) (hE _ _) (fun _ _ => FuO.val _ _) fun _ _ => GwO.val (Gw.refl _ _) _
   ·intro l st
    cases l with
    | nil => simp only [kvL]; exact FuO.val _ _
    | cons s l =>
      simp only [kvL]
      refine FuO.bind (F' := cx'.fuel) (hS _ _) (fun r st => ?_) fun r st => ?_
      ·cases r with
       | some v => exact FuO.val _ _
       | none => exact hL _ _
      ·cases r with
       | some v => exact GwO.val (Gw.refl _ _) _
       | none => exact gL _ _
   ·intro c t st
    have g3 : ∀ (r : Option Int) st, GwO cx'.fuel st (match r with | some v => some (.val (some v) st) | none => kvW cx' n c t st) := fun r st => by
     cases r with
     | some v => exact GwO.val (Gw.refl _ _) _
     | none => exact gW _ _ _
    simp only [kvW]
    refine FuO.bind (F' := cx'.fuel) (tf _) (fun _ st => FuO.bind (F' := cx'.fuel) (hE _ _) (fun x st => FuO.ite (FuO.val _ _) (FuO.bind (F' := cx'.fuel) (hL _ _) (fun r st => ?_) fun r st => g3 r st)) fun _ _ => GwO.ite (GwO.val (Gw.refl _ _) _) (GwO.bind (gL _ _) g3)) fun _ _ => GwO.bind (gE _ _) fun _ _ => GwO.ite (GwO.val (Gw.refl _ _) _) (GwO.bind (gL _ _) g3)
    cases r with
    | some v => exact FuO.val _ _
    | none => exact hW _ _ _
theorem krun_fuel {cx cx' : Kx} (hf : cx.fuel ≤ cx'.fuel) (hfun : cx'.funs = cx.funs) (hi : cx'.inp = cx.inp) {n m words : Nat} {r r' : Int × Str × Nat} (h : runK cx n words = some r) (h' : runK cx' m words = some r') :
  r.2.2 ≤ cx.fuel ∧ (r.1 ≠ 5 → r' = r) ∧ (r.1 = 5 → r.2.2 = cx.fuel ∧ r.2.1 <+: r'.2.1 ∧ cx.fuel ≤ r'.2.2) := by
 have h1 := krun_deep (Nat.le_max_left n m) h
 have h2 := krun_deep (Nat.le_max_right n m) h'
 unfold runK at h1 h2
 rw [hfun] at h2
 cases hc : cx.funs.getLast? with
 | none => rw [hc] at h1; cases h1
 | some f =>
   rw [hc] at h1 h2
   simp only [Option.bind_some, Option.map_eq_some_iff] at h1 h2
   obtain ⟨x, hx, rfl⟩ := h1
   obtain ⟨y, hy, rfl⟩ := h2
   have g := (kgrow cx (max n m)).L _ _ x hx
   have g2 := g.f (Nat.zero_le _)
   have e := (kmore hf hfun hi (max n m)).L _ _ x hx
   cases x with
   | val a s =>
     simp only at e
     rw [hy] at e
     cases e
     exact ⟨g2, fun _ => rfl, fun c => by simp [endR] at c⟩
   | fin k s =>
     simp only at e
     rcases e with ⟨hk, e⟩ | ⟨rfl, ht, e⟩
     ·rw [hy] at e
      cases e
      exact ⟨g2, fun _ => rfl, fun c => absurd c hk⟩
     ·have e2 := e y hy
      simp only [Rz.st] at g2
      refine ⟨g2, fun c => absurd rfl c, fun _ => ⟨by simp only [endR]; omega, ?_⟩⟩
      cases y with
      | val a s' => exact ⟨e2.1, by simp only [Rz.st] at e2; simp only [endR]; omega⟩
      | fin k s' => exact ⟨e2.1, by simp only [Rz.st] at e2; simp only [endR]; omega⟩
mutual
def getsE : CE → Nat
 | .mk k _ _ _ _ l => (if k = 5 then 1 else 0) + getsEs l
def getsEs : List CE → Nat
 | [] => 0
 | e :: l => getsE e + getsEs l
end
mutual
def getsS : CS → Nat
 | .mk _ _ _ l t u => getsEs l + getsSs t + getsSs u
def getsSs : List CS → Nat
 | [] => 0
 | s :: l => getsS s + getsSs l
end
theorem getsEs_get : ∀ {l : List CE} {j : Nat} {e : CE}, l[j]? = some e → getsEs l = 0 → getsE e = 0
 | [], j, e, h, _ => by simp at h
 | x :: l, 0, e, h, h0 => by simp only [List.getElem?_cons_zero, Option.some.injEq] at h; subst h; simp only [getsEs] at h0; omega
 | x :: l, j + 1, e, h, h0 => by simp only [List.getElem?_cons_succ] at h; simp only [getsEs] at h0; exact getsEs_get h (by omega)
structure KNo (cx cx' : Kx) (n : Nat) : Prop where
 E : ∀ e st, getsE e = 0 → kvE cx n e st = kvE cx' n e st
 A : ∀ l st, getsEs l = 0 → kvA cx n l st = kvA cx' n l st
 C : ∀ i l st, getsEs l = 0 → kvC cx n i l st = kvC cx' n i l st
 S : ∀ e st, getsS e = 0 → kvS cx n e st = kvS cx' n e st
 L : ∀ l st, getsSs l = 0 → kvL cx n l st = kvL cx' n l st
 W : ∀ c t st, getsE c = 0 → getsSs t = 0 → kvW cx n c t st = kvW cx' n c t st
theorem bindR_congr {α β : Type} {x y : Option (Rz α)} {f g : α → RS → Option (Rz β)} (h : x = y) (hf : ∀ a s, f a s = g a s) : bindR x f = bindR y g := by
 subst h
 cases x with
 | none => rfl
 | some r => cases r with
   | val a s => exact hf a s
   | fin e s => rfl
theorem kno {cx cx' : Kx} (hfuel : cx'.fuel = cx.fuel) (hfun : cx'.funs = cx.funs) (hg : ∀ f ∈ cx.funs, getsSs f.body = 0) (n : Nat) : KNo cx cx' n := by
 have tk : ∀ st, tickR cx.cx st = tickR cx'.cx st := fun st => by
  have e : cx.cx.fuel = cx'.cx.fuel := hfuel.symm
  unfold tickR; rw [e]
 induction n with
 | zero => exact ⟨fun e st _ => by rw [kvE, kvE], fun e st _ => by rw [kvA, kvA], fun i e st _ => by rw [kvC, kvC], fun e st _ => by rw [kvS, kvS], fun e st _ => by rw [kvL, kvL], fun c t st _ _ => by rw [kvW, kvW]⟩
 | succ n ih =>
   obtain ⟨hE, hA, hC, hS, hL, hW⟩ := ih
   constructor
   ·rintro ⟨k, o, m, a, z, l⟩ st h0
    simp only [getsE] at h0
    have hk : k ≠ 5 := fun e => by rw [if_pos e] at h0; omega
    have hl : getsEs l = 0 := by omega
    simp only [kvE]
    rw [hC a l st hl, if_neg (c := k = 5) hk, if_neg (c := k = 5) hk]
    cases e0 : l[0]? with
    | none => rfl
    | some b =>
      have hb := getsEs_get e0 hl
      simp only
      rw [hE b st hb]
      cases e1 : l[1]? with
      | none => rfl
      | some d =>
        have hd := getsEs_get e1 hl
        simp only
        simp only [hE d _ hd]
   ·intro l st h0
    cases l with
    | nil => rw [kvA, kvA]
    | cons e l =>
      simp only [getsEs] at h0
      simp only [kvA]
      exact bindR_congr (hE _ _ (by omega)) fun _ _ => bindR_congr (hA _ _ (by omega)) fun _ _ => rfl
   ·intro i l st h0
    simp only [kvC, hfun]
    split
    ·rfl
    ·cases hf : cx.funs[i.toNat]? with
     | none => rfl
     | some f =>
       simp only
       refine bindR_congr (hA _ _ h0) fun _ st => bindR_congr (by rw [tk]) fun _ st => ?_
       congr 1
       funext st
       exact bindR_congr (hL _ _ (hg f (List.mem_of_getElem? hf))) fun _ _ => rfl
   ·rintro ⟨k, a, z, l, t, u⟩ st h0
    simp only [getsS] at h0
    have hl : getsEs l = 0 := by omega
    have ht : getsSs t = 0 := by omega
    have hu : getsSs u = 0 := by omega
    simp only [kvS]
    rw [hC a l st hl]
    simp only [hL t _ ht, hL u _ hu]
    cases e0 : l[0]? with
    | none => rfl
    | some b =>
      have hb := getsEs_get e0 hl
      simp only
      rw [hE b st hb, hW b t st hb ht]
      cases e1 : l[1]? with
      | none => rfl
      | some d =>
        have hd := getsEs_get e1 hl
        simp only [hE d _ hd, hE b _ hb]
   ·intro l st h0
    cases l with
    | nil => rw [kvL, kvL]
    | cons s l =>
      simp only [getsSs] at h0
      simp only [kvL]
      refine bindR_congr (hS _ _ (by omega)) fun r st => ?_
      cases r with
      | some v => rfl
      | none => exact hL _ _ (by omega)
   ·intro c t st hc ht
    simp only [kvW]
    refine bindR_congr (by rw [tk]) fun _ st => bindR_congr (hE _ _ hc) fun x st => ?_
    split
    ·rfl
    ·refine bindR_congr (hL _ _ ht) fun r st => ?_
     cases r with
     | some v => rfl
     | none => exact hW _ _ _ hc ht
theorem krun_no {cx cx' : Kx} (hfuel : cx'.fuel = cx.fuel) (hfun : cx'.funs = cx.funs) (hg : ∀ f ∈ cx.funs, getsSs f.body = 0) (n words : Nat) : runK cx n words = runK cx' n words := by
 unfold runK
 rw [hfun]
 cases hc : cx.funs.getLast? with
 | none => rfl
 | some f =>
   simp only [Option.bind_some]
   rw [(kno hfuel hfun hg n).L f.body _ (hg f (List.mem_of_getLast? hc))]
end Go.Al
