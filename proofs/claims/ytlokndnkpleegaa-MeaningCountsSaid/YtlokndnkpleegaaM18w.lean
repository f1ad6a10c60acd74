/- Chapter 18: the sum by calls, in plain Lean. -/
import Derived.Test.YtlokndnkpleegaaM18v
set_option linter.unusedSimpArgs false
set_option linter.unusedVariables false
set_option maxRecDepth 10000
namespace Go.Al
def addN : Str := [97, 100, 100]
def callS (s : Str) (e : Ex) : Sm := .mk 6 s [e] [] []
def addF : Fu := ⟨addN, [[120]], [], false, [setS [115] (opX 4 (nameX [115]) (nameX [120])), setS [120] (numX 0)]⟩
def loopS (m : Nat) : Sm := whileS (opX 14 (nameX [105]) (numX (m : Int))) [callS addN (nameX [105]), setS [105] (opX 4 (nameX [105]) (numX 1))]
def outS (k : Nat) : Sm := putS (opX 13 (nameX [115]) (numX (8 * (k : Int))))
def cntP (m : Nat) : Pg := ⟨[[115]], [], [addF, ⟨mainN, [], [[105]], false, [loopS m, outS 0, outS 1, outS 2, outS 3]⟩]⟩
def sumB (m : Nat) : Str := let s := m * (m - 1) / 2; [UInt8.ofNat s, UInt8.ofNat (s / 256), UInt8.ofNat (s / 65536), UInt8.ofNat (s / 16777216)]
end Go.Al
namespace Go.Proofs.Ytlokndnkpleegaa
open Go.Al
theorem cnt_all : (List.range 100).all (fun m => decide (runR (cxP (cntP m) [] 1000) (m + 20) 1 [] = some (1, sumB m, 2 * m + 1))) = true := by decide +kernel
theorem cnt_run (m : Nat) (hm : m < 100) : runR (cxP (cntP m) [] 1000) (m + 20) (cntP m).vars.length ((cntP m).arrs.map fun a => a.size.toNat) = some (1, sumB m, 2 * m + 1) := by
  have h := List.all_eq_true.1 cnt_all m (List.mem_range.2 hm)
  exact of_decide_eq_true h
end Go.Proofs.Ytlokndnkpleegaa
