/- SyntaxApart: for every input it returns true and never panics; no conditions. -/
import Derived.Test.YtgcncdjnipfolaaDoorLApart
import Derived.Test.YtgcncdjnipfolaaDoorGFw
import Derived.Test.YtgcncdjnipfolaaDoorCards
import Derived.Test.YtgcncdjnipfolaaDoorTie
import Derived.Deep.DeepHandedRow
set_option linter.unusedSimpArgs false
set_option linter.unusedVariables false
set_option maxRecDepth 10000
namespace Go.Proofs.YtgcncdjnipfolaaDoor.fnSyntaxApart
open Go.ChangeShapes Go.WideShapes Go.ChangeAt Go.RowKit Go.Al Go.ChangeMaps
theorem own : ownKnob Tryd.prog.godebug = none := by kernel_rfl
theorem lay_ok : laidOutB env.P = true := by kernel_rfl
theorem par_ok : ∀ t ∈ Tryd.f7.params.toList, env.P.readableRec t = true ∧ t < env.P.types.size := by
  rw [Tryd.params7]
  intro t ht
  simp only [List.mem_cons, List.not_mem_nil, or_false] at ht
  rcases ht with rfl | rfl
  all_goals exact ⟨by kernel_rfl, of_decide_eq_true (by kernel_rfl)⟩
theorem uBool : Tryd.prog.underlying 4 = some .bool := by kernel_rfl
theorem uPgS : ∃ fs, Tryd.prog.underlying 26 = some (.struct fs) := by
  have h := tys.uPg
  simp only [structOf] at h
  split at h
  · rename_i fs hfs; exact ⟨fs, hfs⟩
  · cases h
theorem contract (H : Type) (enc : TypeId × Value → H) (W : World) (base : Nat) (args : Array Value) (ds gs : List (DataW H)) (before : List MemPlace)
    (hval : ∀ (j : Nat) t v, Tryd.f7.params[j]? = some t → args[j]? = some v → Value.okWide Tryd.prog W .any base t v)
    (hW : DataW.Whole enc Tryd.prog Tryd.f7.params.toList Rows.syntaxApartSpec.vars false W args.toList ds gs before) (hL : laidMetH Tryd.prog Rows.syntaxApartRow.laid W) :
    Calls Tryd.prog 7 args W fun e W' => ∃ v, e = .returned v ∧ Rows.syntaxApartSpec.post enc Tryd.prog Tryd.f7 false true false false W args v W' := by
  have hst := st_of_laid hL
  have hW2 := hW
  obtain ⟨p, q, hA, _⟩ := hW2
  rw [Tryd.params7] at hA hval
  obtain ⟨v0, vs0, d0, ds0, p0, q0, e0, rfl, rfl, h0, r0⟩ := trodAll_cons hA
  obtain ⟨v1, vs1, d1, ds1, p1, q1, e1, rfl, rfl, h1, r1⟩ := trodAll_cons r0
  obtain ⟨rfl, rfl, rfl⟩ := trodAll_nil r1
  obtain rfl : args = #[v0, v1] := by cases args; simp_all
  obtain ⟨x0, hx0, hv0⟩ := pg_arg tys uPgS (hval 0 _ v0 rfl rfl) h0
  obtain ⟨x1, hx1, hv1⟩ := pg_arg tys uPgS (hval 1 _ v1 rfl rfl) h1
  refine law_step (E := env) (xs := [x0.av, x1.av]) lay_ok par_ok rfl uBool rfl (fun ds h => ?_) hW hst ?_ (SyntaxApart_con x0 hx0 x1 hx1)
  · rw [Tryd.params7] at h
    match ds, h with
    | [a, b], _ => exact ⟨rfl, rfl, rfl⟩
  · simp only [LRel, VRel]
    exact ⟨_, _, rfl, by first | exact hv0 | simpa only [VRel, Pg.av] using hv0, ⟨_, _, rfl, by first | exact hv1 | simpa only [VRel, Pg.av] using hv1, rfl⟩⟩
noncomputable def laidWorld (os : Os) : World :=
  let w := World.holding Tryd.prog os ⟨#[], #[], []⟩
  { w with heap := laidHeap w.heap }
theorem laid_met (os : Os) : laidMet Tryd.prog Rows.syntaxApartRow.laid ((laidWorld os).forCall (fun _ _ => 0) ⟨#[], #[.agg #[.slice Option.none 0 0, .slice Option.none 0 0, .slice Option.none 0 0], .agg #[.slice Option.none 0 0, .slice Option.none 0 0, .slice Option.none 0 0]], []⟩).memory :=
  laidMet_of_run' 8 (by kernel_rfl) (by kernel_rfl)
theorem reads (os : Os) {H : Type} (enc : TypeId × Value → H) : ∃ places, DataW.whole enc Tryd.prog ((laidWorld os).forCall (fun _ _ => 0) ⟨#[], #[.agg #[.slice Option.none 0 0, .slice Option.none 0 0, .slice Option.none 0 0], .agg #[.slice Option.none 0 0, .slice Option.none 0 0, .slice Option.none 0 0]], []⟩).memory Tryd.f7.params.toList Rows.syntaxApartSpec.vars false (#[.agg #[.slice Option.none 0 0, .slice Option.none 0 0, .slice Option.none 0 0], .agg #[.slice Option.none 0 0, .slice Option.none 0 0, .slice Option.none 0 0]] : Array Value).toList 8 = some ([.agg [.nil, .nil, .nil], .agg [.nil, .nil, .nil]], [], places) :=
  ⟨[], by kernel_rfl⟩
set_option maxRecDepth 100000 in
theorem lifted (os : Os) (started : os.Started) (H : Type) (enc : TypeId × Value → H) (F : Stop.Interp) :
    ReturnsInHanded {} Tryd.checked os 7 .any ((OpenSpec.ofChange Rows.syntaxApartSpec).preRow enc Tryd.prog Tryd.f7 Rows.syntaxApartRow.domain false Rows.syntaxApartRow.laid) (((OpenSpec.ofChange Rows.syntaxApartSpec).at F).post enc Tryd.prog Tryd.f7 false true false false) := by
  obtain ⟨places, hx⟩ := reads os enc
  refine returnsInHanded_of_row (C := Tryd.checked) (s := OpenSpec.ofChange Rows.syntaxApartSpec) own started (by kernel_rfl) Tryd.func7
    (witness_row_at (enc := enc) (C := Tryd.checked) false (laidWorld os) #[.agg #[.slice Option.none 0 0, .slice Option.none 0 0, .slice Option.none 0 0], .agg #[.slice Option.none 0 0, .slice Option.none 0 0, .slice Option.none 0 0]] rfl (by kernel_rfl) (by kernel_rfl) (by kernel_rfl)
      (OpenSpec.preRow_of_cond 8 hx (by kernel_rfl) (fun k hk => by cases hk) (by kernel_rfl) (laid_met os))) ?_
  intro W base args ds gs before hval hW _ _ _ hL _ _
  exact contract H enc W base args ds gs before hval hW hL
theorem said : Rows.SyntaxApartSaid :=
  OpenClaim.holds_of_cond 7 Tryd.f7 rfl rfl rfl rfl rfl rfl rfl ⟨rfl, rfl, rfl, rfl, rfl⟩ rfl rfl rfl rfl rfl (by kernel_rfl) Tryd.func7 (by kernel_rfl)
    (of_decide_eq_true (by kernel_rfl)) (by unfold Func.isWrapper; first | (rw [if_pos (by decide +kernel)]; kernel_rfl) | (rw [if_neg (by decide +kernel)]; exact ⟨rfl, rfl⟩))
    (fun os started H enc _ F => by rw [OpenClaim.pre_eq_preRow]; exact lifted os started H enc F)
theorem plain (f : FuncId) (fn : Func) (hf : Tryd.pinned.checked.prog.funcNamed "seedcorn/seedcornlaw14.SyntaxApart" = some f) (hfn : Tryd.pinned.checked.prog.funcs[f]? = some fn) :
    false = Tryd.pinned.checked.prog.looks [] ∧ ∀ (j : Nat) t, fn.params[j]? = some t → Tryd.pinned.checked.prog.wantsStandIn t = false := by
  obtain rfl : f = 7 := Option.some.inj ((show Tryd.prog.funcNamed "seedcorn/seedcornlaw14.SyntaxApart" = some 7 by kernel_rfl).symm.trans hf) |>.symm
  obtain rfl : fn = Tryd.f7 := (Option.some.inj (Tryd.func7.symm.trans hfn)).symm
  refine ⟨by kernel_rfl, fun j t ht => ?_⟩
  rw [Tryd.params7] at ht
  have hm := Array.mem_of_getElem? ht
  simp only [List.mem_toArray, List.mem_cons, List.not_mem_nil, or_false] at hm
  rcases hm with rfl | rfl
  all_goals exact (show Tryd.prog.wantsStandIn _ = false by kernel_rfl)
theorem card : Rows.SyntaxApartCardSaid :=
  Claim7.holds_tied_plain_at .later [] _ _ _ _ said (fun _ h => by cases h) (by kernel_rfl) (fun _ h => by cases h) syntaxApart_row_tie rfl ⟨rfl, rfl⟩ (by kernel_rfl) rfl plain (by kernel_rfl)
end Go.Proofs.YtgcncdjnipfolaaDoor.fnSyntaxApart
