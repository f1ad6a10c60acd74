/- Chapter 19: from a row's world to the little logic's. -/
import Derived.Test.YtnfbbjhdflhmjaaDoorSy2
import Derived.Test.YtnfbbjhdflhmjaaDoorAl3
set_option linter.unusedSimpArgs false
set_option linter.unusedVariables false
set_option maxRecDepth 10000
namespace Go.Proofs.YtnfbbjhdflhmjaaDoor
open Go.Al
theorem Jb : Tryd.prog.globalNamed "seedcorn/token.words" = some 0 := by kernel_rfl
theorem Ug : (Tryd.prog.globals[0]?).map (·.type) = some 167 := by kernel_rfl
theorem N8 : Tryd.prog.underlying 167 = some (.array 10 9) := by kernel_rfl
theorem uStr : Tryd.prog.underlying 9 = some .string := by kernel_rfl
theorem L4 : Tryd.prog.cellsOf 9 = 1 := by kernel_rfl
theorem O7 : Tryd.prog.cellsOf 167 = 10 := by kernel_rfl
theorem Ec {S : dS} {w : World} {b : Nat} : ∀ (ws : List (List UInt8)) (off : Nat), (∀ (i : Nat) s, ws[i]? = some s → w.cell? ⟨b, off + i, none⟩ = some (.string ⟨s.toArray⟩)) → cT S w b off (ws.map .str)
 | [], _, _ => by simp only [List.map_nil, cT]
 | s :: ws, off, h => by
   simp only [List.map_cons, cT]
   refine ⟨⟨_, by simpa using h 0 s rfl, by simp only [bI]⟩, Ec ws (off + 1) fun i s' hs => ?_⟩
   rw [show off + 1 + i = off + (i + 1) by omega]
   exact h (i + 1) s' (by simpa using hs)
theorem mX {W : World} (hL : laidMet Tryd.prog [("seedcorn/token.words", Rows.laid_seedcorn_token_words)] W) : St cO ⟨W, Pb qF, old W, [], fun _ => Go.undef⟩ (old W) qF W := by
 obtain ⟨ps, hv, _⟩ := hL
 have v1 : W.var? Tryd.prog "seedcorn/token.words" = some (eD.map fun s => Value.string ⟨s.toArray⟩).toArray := rW Jb Ug N8 uStr L4 O7 hv (List.mem_cons_self)
 have lt : ∀ {n : String} {g : Nat} {cs : Array Value}, Tryd.prog.globalNamed n = some g → W.var? Tryd.prog n = some cs → g < W.heap.size := fun {n g cs} hg h => by
  simp only [World.var?, hg, Option.bind_some] at h
  split at h
  ·rename_i e; exact (Array.getElem?_eq_some_iff.1 e).1
  cases h
 refine ⟨fun k hk => hk, fun _ h => h, fun k hk => .inl hk, fun b o h => (by cases h), kC.refl _ _, fun g row h => ?_⟩
 have key : ∀ {n : String} {g : Nat} {ws : List (List UInt8)}, Tryd.prog.globalNamed n = some g → W.var? Tryd.prog n = some (ws.map fun s => Value.string ⟨s.toArray⟩).toArray → cT (old W) W g 0 (ws.map .str) := fun {n g ws} hg h =>
  Ec ws 0 fun i s hs => by
   rw [World.var?_cell hg h]
   simp [hs]
 simp only [Xs, Ue] at h
 split at h
 ·cases h; exact ⟨lt Jb v1, key Jb v1⟩
 cases h
end Go.Proofs.YtnfbbjhdflhmjaaDoor
