/- The little logic, fifth part: the operations that only read, one function for all of them, and that it tells what the model does. -/
import Derived.Test.YtcfapbmjaiipjaaDoorAlD
set_option linter.unusedSimpArgs false
set_option linter.unusedVariables false
namespace Go.Al

/-- the bounds of a slice expression -/
def ahi (n : Nat) : Option AV → Option Nat
  | none => some n
  | some (.int _ h) => if 0 ≤ h ∧ h ≤ n then some h.toNat else none
  | some _ => none
def alo (h : Nat) : Option AV → Option Nat
  | none => some 0
  | some (.int _ l) => if 0 ≤ l ∧ l ≤ h then some l.toNat else none
  | some _ => none
def abnd (n : Nat) (lo hi : Option AV) : Option (Nat × Nat) := (ahi n hi).bind fun h => (alo h lo).map fun l => (l, h)

def isPtr : AV → Bool
  | .ptr _ _ _ _ | .ipt _ _ => true
  | _ => false

/-- maps: the entry of a text or a number -/
def akey : AV → AV → Option Bool
  | .str a, .str b => some (decide (a = b))
  | .int k a, .int k' b => if k = k' then some (decide (a = b)) else none
  | _, _ => none
def afind (k : AV) : List (AV × AV) → Nat → Option (Option (Nat × AV))
  | [], _ => some none
  | (k', v) :: es, i => match akey k k' with
    | some true => some (some (i, v))
    | some false => afind k es (i + 1)
    | none => none

/-- the cells that a value takes -/
def cellsOf : AV → Option (List AV)
  | .agg cs => some cs
  | .undef => none
  | v => some [v]

/-- a struct literal: the zero's cells, each part's laid over them -/
def aq.abuild (E : Env) (fs : List (TypeId × Nat)) : List AV → List (Nat × AV) → Option (List AV)
  | z, [] => some z
  | z, (i, v) :: r => match fs[i]? with
    | some (t, off) => match tinfo E.P t with
      | some ti => match cellsOf v with
        | some cs => if cs.length = ti.size ∧ off + cs.length ≤ z.length then aq.abuild E fs (z.take off ++ cs ++ z.drop (off + cs.length)) r else none
        | none => none
      | none => none
    | none => none
/-- THE OPERATIONS THAT ONLY READ: what each yields. -/
def aq (E : Env) (H : Hp) (fr : Fr) : Op → Option AV
  | .move x | .assign x => some (ev E.G fr x)
  | .pick c x y => match ev E.G fr c with | .bool b => some (if b then ev E.G fr x else ev E.G fr y) | _ => none
  | .load t x => (tinfo E.P t).bind fun ti => aload H ti (ev E.G fr x)
  | .nilCheck x => if isPtr (ev E.G fr x) then some (ev E.G fr x) else none
  | .binOp op t x y _ => match ev E.G fr x, ev E.G fr y with
    | .int k a, .int k' b => aint op k a k' b
    | .str a, .str b => astr op a b
    | .agg cs, .agg ds => match op, (eqKinds E.P t).bind fun ks => acells ks cs ds with
      | .eql, some r => some (.bool r)
      | .neq, some r => some (.bool (!r))
      | _, _ => none
    | .bool a, .bool b => match op, tinfo E.P t with
      | .eql, some ⟨.bool, _, _, _⟩ => some (.bool (decide (a = b)))
      | .neq, some ⟨.bool, _, _, _⟩ => some (.bool (!decide (a = b)))
      | _, _ => none
    | _, _ => none
  | .unOp op _ x => match op, ev E.G fr x with
    | .not, .bool b => some (.bool (!b))
    | .neg, .int k n => some (.int k (k.wrap (0 - n)))
    | _, _ => none
  | .convert s d x => match tinfo E.P s, tinfo E.P d, ev E.G fr x with
    | some _, some ⟨.int k, _, _, _⟩, .int _ n => some (.int k (k.wrap n))
    | some _, some ⟨.str, _, _, _⟩, .str a => some (.str a)
    | _, _, _ => none
  | .slice t x lo hi none => match tinfo E.P t, ev E.G fr x with
    | some ⟨.str, _, _, _⟩, .str s => (abnd s.length (lo.map (ev E.G fr)) (hi.map (ev E.G fr))).map fun p => .str ((s.drop p.1).take (p.2 - p.1))
    | some ⟨.slice e, _, _, _⟩, .isl sz l => match tinfo E.P e with
      | some te => if te.size = sz then (abnd l.length (lo.map (ev E.G fr)) (hi.map (ev E.G fr))).map fun p => .isl sz ((l.drop p.1).take (p.2 - p.1)) else none
      | none => none
    | _, _ => none
  | .fieldAddr s x f => match tinfo E.P s with
    | some ⟨.strct fs, _, _, _⟩ => match fs[f]? with
      | some (t, off) => match tinfo E.P t with
        | some ti => if ti.size = 0 then none else match ev E.G fr x with
          | .ptr sz b i j => some (.ptr sz b i (j + off))
          | .ipt row j => some (.ipt row (j + off))
          | _ => none
        | none => none
      | none => none
    | _ => none
  | .field s x f => match tinfo E.P s, ev E.G fr x with
    | some ⟨.strct fs, _, _, _⟩, .agg cs => match fs[f]? with
      | some (t, off) => (tinfo E.P t).bind fun ti => rd ti cs off
      | none => none
    | _, _ => none
  | .indexAddr t x ix => match tinfo E.P t, ev E.G fr ix with
    | some ⟨.slice e, _, _, _⟩, .int _ i => match tinfo E.P e, ev E.G fr x with
      | some te, .isl sz l => if te.size = sz ∧ 0 ≤ i then (l[i.toNat]?).map fun row => .ipt row 0 else none
      | some te, .osl sz b len => if te.size = sz ∧ 0 ≤ i ∧ i < len then some (.ptr sz b i.toNat 0) else none
      | _, _ => none
    | some ⟨.array n e, _, _, _⟩, .int _ i => match tinfo E.P e, ev E.G fr x with
      | some te, .ptr sz b r j => if 0 ≤ i ∧ i < n then some (.ptr sz b r (j + i.toNat * te.size)) else none
      | some te, .ipt row j => if 0 ≤ i ∧ i < n then some (.ipt row (j + i.toNat * te.size)) else none
      | _, _ => none
    | _, _ => none
  | .index t x ix => match tinfo E.P t, ev E.G fr x, ev E.G fr ix with
    | some ⟨.str, _, _, _⟩, .str s, .int _ i => if 0 ≤ i then (s[i.toNat]?).map fun c => .int .u8 c.toNat else none
    | some ⟨.array n e, _, _, _⟩, .agg cs, .int _ i => (tinfo E.P e).bind fun te => if 0 ≤ i ∧ i < n then rd te cs (i.toNat * te.size) else none
    | _, _, _ => none
  | .extract x i => match ev E.G fr x with | .tup vs => vs[i]? | _ => none
  | .makeInterface t x => match tinfo E.P t with
    | some ⟨.iface, _, _, _⟩ => none
    | some _ => some (.ifc t (ev E.G fr x))
    | none => none
  | .makeFunc f first captured => some (.fn f (first.toList.map (ev E.G fr)) (captured.toList.map (ev E.G fr)))
  | .lookup t x k ok => match tinfo E.P t, ev E.G fr k with
    | some ⟨.map tk te, _, _, _⟩, .str s => match tinfo E.P tk, tinfo E.P te with
      | some ⟨.str, _, _, _⟩, some ie => match (match ev E.G fr x with | .mp b => (match H b with | some (.amap es) => some es | _ => none) | .nmp => some [] | _ => none) with
        | some es => match afind (.str s) es 0 with
          | some r => some (if ok then .tup [(r.map (·.2)).getD ie.zero, .bool r.isSome] else (r.map (·.2)).getD ie.zero)
          | none => none
        | none => none
      | _, _ => none
    | _, _ => none
  | .call ⟨.builtin .len, args, ts⟩ => match args.toList, ts.toList with
    | [x], [t] => match tinfo E.P t, ev E.G fr x with
      | some ⟨.str, _, _, _⟩, .str s => some (.int .i64 s.length)
      | some ⟨.slice _, _, _, _⟩, .isl _ l => some (.int .i64 l.length)
      | some ⟨.slice _, _, _, _⟩, .osl _ _ len => some (.int .i64 len)
      | some ⟨.slice _, _, _, _⟩, .nsl => some (.int .i64 0)
      | some ⟨.array n _, _, _, _⟩, _ => some (.int .i64 n)
      | _, _ => none
    | _, _ => none
  | .call ⟨.builtin .min, args, _⟩ => match args.toList with
    | [x, y] => match ev E.G fr x, ev E.G fr y with
      | .int k a, .int _ b => some (.int k (if b < a then b else a))
      | _, _ => none
    | _ => none
  | .call ⟨.builtin .max, args, _⟩ => match args.toList with
    | [x, y] => match ev E.G fr x, ev E.G fr y with
      | .int k a, .int _ b => some (.int k (if a < b then b else a))
      | _, _ => none
    | _ => none
  | .build t parts => (tinfo E.P t).bind fun ti => match ti.k with
    | .strct fs => if fs.all (fun p => (tinfo E.P p.1).isSome) = false then none else match ti.zero with
      | .agg z => (aq.abuild E fs z (parts.toList.map fun p => (p.1, ev E.G fr p.2))).map .agg
      | _ => none
    | _ => none
  | _ => none
end Go.Al
