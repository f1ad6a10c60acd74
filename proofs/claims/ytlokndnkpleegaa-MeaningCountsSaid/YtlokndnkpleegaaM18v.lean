/- Chapter 18: the echo, in plain Lean. -/
import Derived.Test.YtlokndnkpleegaaM18u
set_option linter.unusedSimpArgs false
set_option linter.unusedVariables false
set_option maxRecDepth 10000
namespace Go.Al
def getX : Ex := .mk 5 0 0 [] []
def getS' : Sm := setS [97] getX
def echoC : Ex := opX 14 (nameX [97]) (numX 256)
def echoB : List Sm := [putS (nameX [97]), getS']
def echoP : Pg := progP [97] [getS', whileS echoC echoB]
theorem wrap8 (c : UInt8) : UInt8.ofNat (IntKind.wrap .u8 (c.toNat : Int)).toNat = c := by
  have h : IntKind.wrap .u8 (c.toNat : Int) = (c.toNat : Int) % 256 := by simp [IntKind.wrap, IntKind.signed, IntKind.bits]
  have hc : c.toNat < 256 := c.toNat_lt
  have h2 : (c.toNat : Int) % 256 = (c.toNat : Int) := by omega
  rw [h, h2]; simp
/-- what a get leaves: the variable, and how much was read -/
def gotV : Str → Int | [] => 256 | c :: _ => c.toNat
def gotN : Str → Nat | [] => 0 | _ :: _ => 1
theorem get_ev {cx : Cx} {rs : Str → Bool × Int} (hrs : rs [97] = (false, 0)) (n : Nat) (ow : List Int) (pre rest : Str) (hi : cx.inp = pre ++ rest) (v : Int) (out : Str) (t : Nat) :
    evS cx (n + 2) rs ow getS' ⟨[v], [], pre.length, out, t⟩ = some (.val (none, ow) ⟨[gotV rest], [], pre.length + gotN rest, out, t⟩) := by
  rw [getS', setS, getX, evS]
  simp only [if_true, List.getElem?_cons_zero, evE, show ¬ ((5 : Int) = 1) from by decide, show ¬ ((5 : Int) = 2) from by decide, show ¬ ((5 : Int) = 3) from by decide, show ¬ ((5 : Int) = 4) from by decide, if_false, getR, hi]
  cases rest with
  | nil => simp [bindR, hrs, setR, gotV, gotN]
  | cons c r => simp [bindR, hrs, setR, gotV, gotN]
theorem cond_ev {cx : Cx} {rs : Str → Bool × Int} (hrs : rs [97] = (false, 0)) (n : Nat) (ow : List Int) (v : Int) (a : List (List Int)) (r : Nat) (out : Str) (t : Nat) :
    evE cx (n + 2) rs ow echoC ⟨[v], a, r, out, t⟩ = some (.val (if v < 256 then 1 else 0) ⟨[v], a, r, out, t⟩) := by
  rw [echoC, opX, nameX, numX, evE]
  simp [evE, bindR, lookR, hrs, applyI]
theorem body_ev {cx : Cx} {rs : Str → Bool × Int} (hrs : rs [97] = (false, 0)) (n : Nat) (ow : List Int) (pre : Str) (c : UInt8) (rest : Str) (hi : cx.inp = pre ++ c :: rest) (hl : pre.length < 65536) (t : Nat) :
    evL cx (n + 5) rs ow echoB ⟨[(c.toNat : Int)], [], pre.length + 1, pre, t⟩ = some (.val (none, ow) ⟨[gotV rest], [], (pre ++ [c]).length + gotN rest, pre ++ [c], t⟩) := by
  have hg := get_ev (cx := cx) hrs (n + 1) ow (pre ++ [c]) rest (by rw [hi]; simp) (c.toNat : Int) (pre ++ [c]) t
  have hp : evS cx (n + 4) rs ow (putS (nameX [97])) ⟨[(c.toNat : Int)], [], pre.length + 1, pre, t⟩ = some (.val (none, ow) ⟨[(c.toNat : Int)], [], pre.length + 1, pre ++ [c], t⟩) := by
    rw [putS, nameX, evS]
    simp only [show ¬ ((3 : Int) = 1) from by decide, show ¬ ((3 : Int) = 2) from by decide, show ¬ ((2 : Int) = 1) from by decide, if_false, if_true, List.getElem?_cons_zero, evE, bindR, putR, lookR, hrs, wrap8, Option.map, Bool.false_eq_true, Int.le_refl, show (0 : Int).toNat = 0 from rfl]
    rw [if_neg (by omega)]
  rw [echoB, evL, hp]
  simp only [bindR]
  rw [evL]
  rw [List.length_append, List.length_singleton] at hg
  rw [hg]
  simp [bindR, evL]
theorem echo_full {cx : Cx} {rs : Str → Bool × Int} (hrs : rs [97] = (false, 0)) (ow : List Int) (hF : cx.inp.length + 1 ≤ cx.fuel) (hL : cx.inp.length < 65536) : ∀ (rest pre : Str), cx.inp = pre ++ rest →
    evW cx (rest.length + 6) rs ow echoC echoB ⟨[gotV rest], [], pre.length + gotN rest, pre, pre.length⟩ = some (.val (none, ow) ⟨[256], [], cx.inp.length, cx.inp, cx.inp.length + 1⟩)
  | [], pre, hi => by
    rw [List.append_nil] at hi
    rw [hi] at hF ⊢
    rw [show ([] : Str).length + 6 = 5 + 1 from rfl, evW]
    simp only [tickR, gotV, gotN]
    rw [if_neg (by omega)]
    simp only [bindR, cond_ev hrs 3]
    simp
  | c :: r, pre, hi => by
    have hlen : cx.inp.length = pre.length + (r.length + 1) := by rw [hi, List.length_append, List.length_cons]
    have ih := echo_full hrs ow hF hL r (pre ++ [c]) (by rw [hi]; simp)
    rw [show (c :: r).length + 6 = (r.length + 6) + 1 from by simp, evW]
    simp only [tickR, gotV, gotN]
    rw [if_neg (by omega)]
    have hc : ((c.toNat : Int) < 256) := by have := c.toNat_lt; omega
    simp only [bindR, cond_ev hrs (r.length + 4), if_pos hc, show ¬ ((1 : Int) = 0) from by decide, if_false]
    rw [show r.length + 6 = (r.length + 1) + 5 from by omega, body_ev hrs (r.length + 1) ow pre c r hi (by omega)]
    simp only
    rw [show r.length + 1 + 5 = r.length + 6 from by omega]
    rw [List.length_append, List.length_singleton] at ih ⊢
    exact ih
theorem echo_cut {cx : Cx} {rs : Str → Bool × Int} (hrs : rs [97] = (false, 0)) (ow : List Int) (hF : cx.fuel ≤ cx.inp.length) (hL : cx.inp.length < 65536) : ∀ (rest pre : Str), cx.inp = pre ++ rest → pre.length ≤ cx.fuel →
    ∃ st, evW cx (rest.length + 6) rs ow echoC echoB ⟨[gotV rest], [], pre.length + gotN rest, pre, pre.length⟩ = some (.fin 5 st) ∧ st.out = cx.inp.take cx.fuel ∧ st.ticks = cx.fuel
  | rest, pre, hi, hp => by
    by_cases he : cx.fuel = pre.length
    · rw [show rest.length + 6 = (rest.length + 5) + 1 from by omega, evW]
      simp only [tickR]
      rw [if_pos (by omega)]
      refine ⟨_, rfl, ?_, ?_⟩
      · rw [he, hi]; simp
      · rw [he]
    · match rest, hi with
      | [], hi => rw [List.append_nil] at hi; rw [hi] at hF; omega
      | c :: r, hi =>
        have hlen : cx.inp.length = pre.length + (r.length + 1) := by rw [hi, List.length_append, List.length_cons]
        have ih := echo_cut hrs ow hF hL r (pre ++ [c]) (by rw [hi]; simp) (by rw [List.length_append, List.length_singleton]; omega)
        rw [show (c :: r).length + 6 = (r.length + 6) + 1 from by simp, evW]
        simp only [tickR, gotV, gotN]
        rw [if_neg (by omega)]
        have hc : ((c.toNat : Int) < 256) := by have := c.toNat_lt; omega
        simp only [bindR, cond_ev hrs (r.length + 4), if_pos hc, show ¬ ((1 : Int) = 0) from by decide, if_false]
        rw [show r.length + 6 = (r.length + 1) + 5 from by omega, body_ev hrs (r.length + 1) ow pre c r hi (by omega)]
        simp only
        rw [show r.length + 1 + 5 = r.length + 6 from by omega]
        rw [List.length_append, List.length_singleton] at ih ⊢
        exact ih
theorem echo_all {cx : Cx} {rs : Str → Bool × Int} (hrs : rs [97] = (false, 0)) (o : Rz (Option Int × List Int)) (h : evW cx (cx.inp.length + 6) rs [] echoC echoB ⟨[gotV cx.inp], [], ([] : Str).length + gotN cx.inp, [], ([] : Str).length⟩ = some o) (hs : ∀ a s, o = .val a s → a = (none, [])) :
    evL cx (cx.inp.length + 9) rs [] [getS', whileS echoC echoB] (RS.init 1 []) = some o := by
  have hg := get_ev (cx := cx) hrs (cx.inp.length + 6) [] [] cx.inp rfl 0 [] 0
  rw [evL, show RS.init 1 [] = ⟨[0], [], ([] : Str).length, [], 0⟩ from rfl, hg]
  simp only [bindR]
  rw [evL, whileS, evS]
  simp only [show ¬ ((5 : Int) = 1) from by decide, show ¬ ((5 : Int) = 2) from by decide, show ¬ ((5 : Int) = 3) from by decide, show ¬ ((5 : Int) = 4) from by decide, if_false, if_true, List.getElem?_cons_zero]
  simp only [List.length_nil] at h ⊢
  rw [h]
  cases o with
  | fin e s => rfl
  | val a s =>
    have := hs a s rfl
    subst this
    simp [bindR, evL]
end Go.Al
namespace Go.Proofs.Ytlokndnkpleegaa
open Go.Al
theorem echo_rs : (cfP (outP echoP) ⟨mainN, [], [], false, [getS', whileS echoC echoB]⟩).res [97] = (false, 0) := by decide +kernel
theorem echo_top (inp : Str) (fu : Int) (o : Rz (Option Int × List Int)) (h : evW (cxP echoP inp fu) (inp.length + 6) (cfP (outP echoP) ⟨mainN, [], [], false, [getS', whileS echoC echoB]⟩).res [] echoC echoB ⟨[gotV inp], [], ([] : Str).length + gotN inp, [], ([] : Str).length⟩ = some o) (hs : ∀ a s, o = .val a s → a = (none, [])) :
    runR (cxP echoP inp fu) (inp.length + 9) echoP.vars.length (echoP.arrs.map fun a => a.size.toNat) = some (endR o) := by
  have key := echo_all (cx := cxP echoP inp fu) echo_rs o h hs
  unfold runR
  exact (congrArg (Option.map endR) key)
theorem echo_run1 (inp : Str) (hl : inp.length ≤ 60) : runR (cxP echoP inp ((inp.length : Int) + 1)) (inp.length + 9) echoP.vars.length (echoP.arrs.map fun a => a.size.toNat) = some (1, inp, inp.length + 1) := by
  have hf : (cxP echoP inp ((inp.length : Int) + 1)).fuel = inp.length + 1 := by
    show (if ((inp.length : Int) + 1) < 0 then (0 : Int) else ((inp.length : Int) + 1)).toNat = _
    rw [if_neg (by omega)]; omega
  have h := echo_full (cx := cxP echoP inp ((inp.length : Int) + 1)) echo_rs [] (by rw [hf]; exact Nat.le_refl _) (by show inp.length < 65536; omega) inp [] rfl
  exact echo_top inp _ _ h (fun a s e => by cases e; rfl)
theorem echo_run2 (inp : Str) (k : Nat) (hl : inp.length ≤ 60) (hk : k ≤ inp.length) : runR (cxP echoP inp (k : Int)) (inp.length + 9) echoP.vars.length (echoP.arrs.map fun a => a.size.toNat) = some (5, inp.take k, k) := by
  have hf : (cxP echoP inp (k : Int)).fuel = k := by
    show (if (k : Int) < 0 then (0 : Int) else (k : Int)).toNat = _
    rw [if_neg (by omega)]; omega
  obtain ⟨st, h, h1, h2⟩ := echo_cut (cx := cxP echoP inp (k : Int)) echo_rs [] (by rw [hf]; exact hk) (by show inp.length < 65536; omega) inp [] rfl (by rw [hf]; exact Nat.zero_le _)
  have := echo_top inp _ _ h (fun a s e => by cases e)
  rw [this, hf] at *
  simp only [endR, h1, h2]
  rfl
end Go.Proofs.Ytlokndnkpleegaa
