/- Chapter 18: what a program does, in plain Lean: a run that is cut at a depth. No program in sight. -/
import Derived.Test.YtlokndnkpleegaaSynA
set_option linter.unusedSimpArgs false
set_option linter.unusedVariables false
set_option maxRecDepth 10000
namespace Go.Al
/-- what two words make by an operation: the word, and the error -/
def applyI (op a b : Int) : Int × Int :=
  if op = 4 then (IntKind.wrap .u32 (a + b), 0)
  else if op = 5 then (IntKind.wrap .u32 (a - b), 0)
  else if op = 6 then (IntKind.wrap .u32 (a * b), 0)
  else if op = 7 then (if b = 0 then (0, 14) else (IntKind.wrap .u32 (a.tdiv b), 0))
  else if op = 8 then (if b = 0 then (0, 14) else (a.tmod b, 0))
  else if op = 9 then (IntKind.wrap .u32 (BitVec.ofInt 32 a &&& BitVec.ofInt 32 b).toNat, 0)
  else if op = 10 then (IntKind.wrap .u32 (BitVec.ofInt 32 a ||| BitVec.ofInt 32 b).toNat, 0)
  else if op = 11 then (IntKind.wrap .u32 (BitVec.ofInt 32 a ^^^ BitVec.ofInt 32 b).toNat, 0)
  else if op = 12 then (if 31 < b then (0, 0) else (IntKind.wrap .u32 (a * 2 ^ (min b.toNat 32)), 0))
  else if op = 13 then (if 31 < b then (0, 0) else (a.fdiv (2 ^ (min b.toNat 32)), 0))
  else if op = 14 then ((if a < b then 1 else 0), 0)
  else if op = 15 then ((if a = b then 1 else 0), 0)
  else (0, 1)
/-- a run in the midst -/
structure RS where
  vars : List Int
  arrs : List (List Int)
  read : Nat
  out : List UInt8
  ticks : Nat
/-- a value, or the run's end -/
inductive Rz (α : Type) where
  | val (a : α) (s : RS)
  | fin (e : Int) (s : RS)
def Rz.st {α : Type} : Rz α → RS | .val _ s => s | .fin _ s => s
/-- a function, its names looked up -/
structure Cf where
  words : Nat
  res : Str → Bool × Int
  body : List Sm
structure Cx where
  funs : List Cf
  inp : Str
  fuel : Nat
def bindR {α β : Type} (x : Option (Rz α)) (f : α → RS → Option (Rz β)) : Option (Rz β) := match x with
  | none => none
  | some (.val a s) => f a s
  | some (.fin e s) => some (.fin e s)
def tickR (cx : Cx) (s : RS) : Rz Unit := if cx.fuel ≤ s.ticks then .fin 5 s else .val () { s with ticks := s.ticks + 1 }
def getR (cx : Cx) (s : RS) : Rz Int := match cx.inp[s.read]? with
  | some c => .val c.toNat { s with read := s.read + 1 }
  | none => .val 256 s
def putR (v : Int) (s : RS) : Rz Unit := if 65536 ≤ s.out.length then .fin 4 s else .val () { s with out := s.out ++ [UInt8.ofNat (IntKind.wrap .u8 v).toNat] }
def atR (i at' : Int) (s : RS) : Option (Rz Nat) := match s.arrs[i.toNat]? with
  | none => none
  | some l => if at'.toNat < l.length then some (.val at'.toNat s) else some (.fin 3 s)
def storeR (i : Int) (j : Nat) (v : Int) (s : RS) : RS := { s with arrs := s.arrs.modify i.toNat fun l => l.set j v }
def setR (p : Bool × Int) (v : Int) (ow : List Int) (s : RS) : Option (List Int × RS) :=
  if 0 ≤ p.2 then (if p.1 then (if p.2.toNat < ow.length then some (ow.set p.2.toNat v, s) else none) else if p.2.toNat < s.vars.length then some (ow, { s with vars := s.vars.set p.2.toNat v }) else none) else none
def lookR (p : Bool × Int) (ow : List Int) (s : RS) : Option Int := if 0 ≤ p.2 then (if p.1 then ow[p.2.toNat]? else s.vars[p.2.toNat]?) else none
mutual
/-- an expression's value -/
def evE (cx : Cx) : Nat → (Str → Bool × Int) → List Int → Ex → RS → Option (Rz Int)
  | 0, _, _, _, _ => none
  | n + 1, rs, ow, .mk k o m s l, st =>
    if k = 1 then some (.val m st)
    else if k = 2 then (lookR (rs s) ow st).map fun v => .val v st
    else if k = 3 then match l[0]? with
      | none => none
      | some a => bindR (evE cx n rs ow a st) fun at' st => if 0 ≤ (rs s).2 then bindR (atR (rs s).2 at' st) fun j st => ((st.arrs[(rs s).2.toNat]?).bind fun l => l[j]?).map fun v => .val v st else none
    else if k = 4 then evC cx n rs ow (rs s).2 l st
    else if k = 5 then some (getR cx st)
    else match l[0]? with
      | none => none
      | some a =>
        if k = 7 then bindR (evE cx n rs ow a st) fun x st => some (.val (if x = 0 then 1 else 0) st)
        else match l[1]? with
        | none => none
        | some b =>
          if k = 6 then bindR (evE cx n rs ow a st) fun x st => bindR (evE cx n rs ow b st) fun y st => if (applyI o x y).2 = 0 then some (.val (applyI o x y).1 st) else some (.fin 2 st)
          else bindR (evE cx n rs ow a st) fun x st => if decide (x = 0) = decide (k = 8) then some (.val x st) else evE cx n rs ow b st
/-- the values of arguments -/
def evA (cx : Cx) : Nat → (Str → Bool × Int) → List Int → List Ex → RS → Option (Rz (List Int))
  | 0, _, _, _, _ => none
  | _ + 1, _, _, [], st => some (.val [] st)
  | n + 1, rs, ow, e :: l, st => bindR (evE cx n rs ow e st) fun v st => bindR (evA cx n rs ow l st) fun vs st => some (.val (v :: vs) st)
/-- a call's value -/
def evC (cx : Cx) : Nat → (Str → Bool × Int) → List Int → Int → List Ex → RS → Option (Rz Int)
  | 0, _, _, _, _, _ => none
  | n + 1, rs, ow, i, l, st => if i < 0 then none else match cx.funs[i.toNat]? with
    | none => none
    | some f => if f.words < l.length then none else bindR (evA cx n rs ow l st) fun vs st => bindR (some (tickR cx st)) fun _ st =>
      bindR (evL cx n f.res (vs ++ List.replicate (f.words - l.length) 0) f.body st) fun r st => some (.val (r.1.getD 0) st)
/-- a statement: what a return told, the words behind it -/
def evS (cx : Cx) : Nat → (Str → Bool × Int) → List Int → Sm → RS → Option (Rz (Option Int × List Int))
  | 0, _, _, _, _ => none
  | n + 1, rs, ow, .mk k s l t u, st =>
    if k = 1 then match l[0]? with
      | none => none
      | some a => bindR (evE cx n rs ow a st) fun v st => (setR (rs s) v ow st).map fun p => .val (none, p.1) p.2
    else if k = 2 then match l[0]?, l[1]? with
      | some a, some b => bindR (evE cx n rs ow a st) fun x st => bindR (evE cx n rs ow b st) fun v st => if 0 ≤ (rs s).2 then bindR (atR (rs s).2 x st) fun j st => some (.val (none, ow) (storeR (rs s).2 j v st)) else none
      | _, _ => none
    else if k = 3 then match l[0]? with
      | none => none
      | some a => bindR (evE cx n rs ow a st) fun v st => bindR (some (putR v st)) fun _ st => some (.val (none, ow) st)
    else if k = 4 then match l[0]? with
      | none => none
      | some a => bindR (evE cx n rs ow a st) fun v st => if v = 0 then evL cx n rs ow u st else evL cx n rs ow t st
    else if k = 5 then match l[0]? with
      | none => none
      | some a => evW cx n rs ow a t st
    else if k = 6 then bindR (evC cx n rs ow (rs s).2 l st) fun _ st => some (.val (none, ow) st)
    else if k = 7 then match l[0]? with
      | none => some (.val (some 0, ow) st)
      | some a => bindR (evE cx n rs ow a st) fun v st => some (.val (some v, ow) st)
    else some (.val (none, ow) st)
/-- statements -/
def evL (cx : Cx) : Nat → (Str → Bool × Int) → List Int → List Sm → RS → Option (Rz (Option Int × List Int))
  | 0, _, _, _, _ => none
  | _ + 1, _, ow, [], st => some (.val (none, ow) st)
  | n + 1, rs, ow, s :: l, st => bindR (evS cx n rs ow s st) fun r st => match r.1 with
    | some v => some (.val (some v, r.2) st)
    | none => evL cx n rs r.2 l st
/-- a loop -/
def evW (cx : Cx) : Nat → (Str → Bool × Int) → List Int → Ex → List Sm → RS → Option (Rz (Option Int × List Int))
  | 0, _, _, _, _, _ => none
  | n + 1, rs, ow, c, t, st => bindR (some (tickR cx st)) fun _ st => bindR (evE cx n rs ow c st) fun x st => if x = 0 then some (.val (none, ow) st) else
    bindR (evL cx n rs ow t st) fun r st => match r.1 with
    | some v => some (.val (some v, r.2) st)
    | none => evW cx n rs r.2 c t st
end
end Go.Al
