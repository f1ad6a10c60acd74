/- The language's trees, as plain Lean data, and the rows of cells that they stand for. No program in sight. -/
import Derived.Test.YtlokndnkpleegaaAl3
set_option linter.unusedSimpArgs false
set_option linter.unusedVariables false
set_option maxRecDepth 10000
namespace Go.Al
abbrev Str := List UInt8
inductive Ex where
  | mk (kind op num : Int) (name : Str) (kids : List Ex)
inductive Sm where
  | mk (kind : Int) (name : Str) (es : List Ex) (thn els : List Sm)
structure Ar where
  name : Str
  size : Int
structure Fu where
  name : Str
  params : List Str
  locs : List Str
  word : Bool
  body : List Sm
structure Pg where
  vars : List Str
  arrs : List Ar
  funs : List Fu
def Ex.kind : Ex → Int | .mk k _ _ _ _ => k
def Ex.op : Ex → Int | .mk _ o _ _ _ => o
def Ex.num : Ex → Int | .mk _ _ n _ _ => n
def Ex.name : Ex → Str | .mk _ _ _ s _ => s
def Ex.kids : Ex → List Ex | .mk _ _ _ _ l => l
def Sm.kind : Sm → Int | .mk k _ _ _ _ => k
def Sm.name : Sm → Str | .mk _ s _ _ _ => s
def Sm.es : Sm → List Ex | .mk _ _ l _ _ => l
def Sm.thn : Sm → List Sm | .mk _ _ _ l _ => l
def Sm.els : Sm → List Sm | .mk _ _ _ _ l => l
def strRow (s : Str) : List AV := [.str s]
/-- a list of texts -/
def strs (l : List Str) : AV := .isl 1 (l.map strRow)
mutual
def Ex.row : Ex → List AV
  | .mk k o n s l => [.int .i64 k, .int .i64 o, .int .u32 n, .str s, .isl 5 (rowsE l)]
def rowsE : List Ex → List (List AV)
  | [] => []
  | e :: l => e.row :: rowsE l
end
theorem rowsE_map : ∀ l : List Ex, rowsE l = l.map Ex.row
  | [] => by simp only [rowsE, List.map_nil]
  | e :: l => by simp only [rowsE, List.map_cons, rowsE_map l]
def exs (l : List Ex) : AV := .isl 5 (l.map Ex.row)
theorem Ex.row_eq (e : Ex) : e.row = [.int .i64 e.kind, .int .i64 e.op, .int .u32 e.num, .str e.name, .isl 5 (e.kids.map Ex.row)] := by
  cases e; simp only [Ex.row, rowsE_map, Ex.kind, Ex.op, Ex.num, Ex.name, Ex.kids]
mutual
def Sm.row : Sm → List AV
  | .mk k s l t u => [.int .i64 k, .str s, exs l, .isl 5 (rowsS t), .isl 5 (rowsS u)]
def rowsS : List Sm → List (List AV)
  | [] => []
  | e :: l => e.row :: rowsS l
end
theorem rowsS_map : ∀ l : List Sm, rowsS l = l.map Sm.row
  | [] => by simp only [rowsS, List.map_nil]
  | e :: l => by simp only [rowsS, List.map_cons, rowsS_map l]
def sms (l : List Sm) : AV := .isl 5 (l.map Sm.row)
theorem Sm.row_eq (s : Sm) : s.row = [.int .i64 s.kind, .str s.name, .isl 5 (s.es.map Ex.row), .isl 5 (s.thn.map Sm.row), .isl 5 (s.els.map Sm.row)] := by
  cases s; simp only [Sm.row, rowsS_map, rowsE_map, exs, Sm.kind, Sm.name, Sm.es, Sm.thn, Sm.els]
def Ar.row (a : Ar) : List AV := [.str a.name, .int .i64 a.size]
def ars (l : List Ar) : AV := .isl 2 (l.map Ar.row)
def Fu.row (f : Fu) : List AV := [.str f.name, .isl 1 (f.params.map strRow), .isl 1 (f.locs.map strRow), .bool f.word, .isl 5 (f.body.map Sm.row)]
def fus (l : List Fu) : AV := .isl 5 (l.map Fu.row)
def Pg.row (p : Pg) : List AV := [.isl 1 (p.vars.map strRow), .isl 2 (p.arrs.map Ar.row), .isl 5 (p.funs.map Fu.row)]
def Pg.av (p : Pg) : AV := .agg p.row
/-! ### sizes, for inductions -/
mutual
def Ex.sz : Ex → Nat
  | .mk _ _ _ _ l => 1 + szE l
def szE : List Ex → Nat
  | [] => 0
  | e :: l => e.sz + szE l
end
mutual
def Sm.sz : Sm → Nat
  | .mk _ _ l t u => 1 + szE l + szS t + szS u
def szS : List Sm → Nat
  | [] => 0
  | e :: l => e.sz + szS l
end
theorem Ex.sz_eq (e : Ex) : e.sz = 1 + szE e.kids := by cases e; simp only [Ex.sz, Ex.kids]
theorem Sm.sz_eq (s : Sm) : s.sz = 1 + szE s.es + szS s.thn + szS s.els := by cases s; simp only [Sm.sz, Sm.es, Sm.thn, Sm.els]
theorem szE_mem : ∀ {l : List Ex} {e : Ex}, e ∈ l → e.sz ≤ szE l
  | e :: l, x, h => by
    simp only [szE]
    rcases List.mem_cons.1 h with rfl | h
    · omega
    · have := szE_mem h; omega
theorem szS_mem : ∀ {l : List Sm} {e : Sm}, e ∈ l → e.sz ≤ szS l
  | e :: l, x, h => by
    simp only [szS]
    rcases List.mem_cons.1 h with rfl | h
    · omega
    · have := szS_mem h; omega
/-- lists that fit a machine -/
def fitL {α : Type} (l : List α) : Prop := l.length ≤ 9223372036854775807
def u32R (n : Int) : Prop := 0 ≤ n ∧ n < 4294967296
def i64R (n : Int) : Prop := -9223372036854775808 ≤ n ∧ n < 9223372036854775808
/-- what any tree that is handed in is -/
inductive Ex.ok : Ex → Prop where
  | mk (k o n : Int) (s : Str) (l : List Ex) (hk : i64R k) (ho : i64R o) (hn : u32R n) (hs : fitL s) (hl : fitL l) (h : ∀ e ∈ l, Ex.ok e) : Ex.ok (.mk k o n s l)
structure okE (l : List Ex) : Prop where
  fit : fitL l
  all : ∀ e ∈ l, e.ok
inductive Sm.ok : Sm → Prop where
  | mk (k : Int) (s : Str) (l : List Ex) (t u : List Sm) (hk : i64R k) (hs : fitL s) (hl : okE l) (ht : fitL t) (hta : ∀ e ∈ t, Sm.ok e) (hu : fitL u) (hua : ∀ e ∈ u, Sm.ok e) : Sm.ok (.mk k s l t u)
structure okS (l : List Sm) : Prop where
  fit : fitL l
  all : ∀ e ∈ l, e.ok
structure okN (l : List Str) : Prop where
  fit : fitL l
  all : ∀ s ∈ l, fitL s
structure Fu.ok (f : Fu) : Prop where
  name : fitL f.name
  params : okN f.params
  locs : okN f.locs
  body : okS f.body
structure Pg.ok (p : Pg) : Prop where
  vars : okN p.vars
  afit : fitL p.arrs
  arrs : ∀ a ∈ p.arrs, fitL a.name ∧ i64R a.size
  ffit : fitL p.funs
  funs : ∀ f ∈ p.funs, f.ok
theorem Ex.ok.kids {e : Ex} (h : e.ok) : okE e.kids := by cases h; exact ⟨by assumption, by assumption⟩
theorem Ex.ok.name {e : Ex} (h : e.ok) : fitL e.name := by cases h; assumption
theorem Ex.ok.num {e : Ex} (h : e.ok) : u32R e.num := by cases h; assumption
theorem Ex.ok.kind {e : Ex} (h : e.ok) : i64R e.kind := by cases h; assumption
theorem Ex.ok.op {e : Ex} (h : e.ok) : i64R e.op := by cases h; assumption
theorem Sm.ok.es {s : Sm} (h : s.ok) : okE s.es := by cases h; assumption
theorem Sm.ok.thn {s : Sm} (h : s.ok) : okS s.thn := by cases h; exact ⟨by assumption, by assumption⟩
theorem Sm.ok.els {s : Sm} (h : s.ok) : okS s.els := by cases h; exact ⟨by assumption, by assumption⟩
theorem Sm.ok.name {s : Sm} (h : s.ok) : fitL s.name := by cases h; assumption
theorem Sm.ok.kind {s : Sm} (h : s.ok) : i64R s.kind := by cases h; assumption
/-! ### rows of lists -/
theorem getRow {α : Type} (f : α → List AV) {l : List α} {i : Nat} {x : α} (h : l[i]? = some x) : (l.map f)[i]? = some (f x) := by
  rw [List.getElem?_map, h]; rfl
theorem getE {l : List Ex} {i : Nat} {e : Ex} (h : l[i]? = some e) : (l.map Ex.row)[i]? = some [.int .i64 e.kind, .int .i64 e.op, .int .u32 e.num, .str e.name, .isl 5 (e.kids.map Ex.row)] := by
  rw [getRow _ h, e.row_eq]
theorem getS {l : List Sm} {i : Nat} {s : Sm} (h : l[i]? = some s) : (l.map Sm.row)[i]? = some [.int .i64 s.kind, .str s.name, .isl 5 (s.es.map Ex.row), .isl 5 (s.thn.map Sm.row), .isl 5 (s.els.map Sm.row)] := by
  rw [getRow _ h, s.row_eq]
theorem getN {l : List Str} {i : Nat} {s : Str} (h : l[i]? = some s) : (l.map strRow)[i]? = some [.str s] := getRow _ h
theorem getF {l : List Fu} {i : Nat} {f : Fu} (h : l[i]? = some f) : (l.map Fu.row)[i]? = some [.str f.name, .isl 1 (f.params.map strRow), .isl 1 (f.locs.map strRow), .bool f.word, .isl 5 (f.body.map Sm.row)] := getRow _ h
theorem getA {l : List Ar} {i : Nat} {a : Ar} (h : l[i]? = some a) : (l.map Ar.row)[i]? = some [.str a.name, .int .i64 a.size] := getRow _ h
end Go.Al
