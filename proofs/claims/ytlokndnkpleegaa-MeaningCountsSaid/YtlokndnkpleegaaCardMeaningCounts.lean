/- Chapter 18: MeaningCounts: for every input it returns true and never panics; no conditions. -/
import Derived.Test.YtlokndnkpleegaaLawMeaningCounts
import Derived.Test.YtlokndnkpleegaaSynB
import Derived.Deep.DeepHandedRow
set_option linter.unusedSimpArgs false
set_option linter.unusedVariables false
set_option maxRecDepth 10000
namespace Go.Proofs.Ytlokndnkpleegaa.fnMeaningCounts
open Go.ChangeShapes Go.WideShapes Go.ChangeAt Go.RowKit Go.Al Go.ChangeMaps
theorem own : ownKnob Try.prog.godebug = none := by kernel_rfl
theorem lay_ok : laidOutB env.P = true := by kernel_rfl
theorem par_ok : ∀ t ∈ Try.f7.params.toList, env.P.readableRec t = true ∧ t < env.P.types.size := by
  rw [Try.params7]
  intro t ht
  simp only [List.mem_cons, List.not_mem_nil, or_false] at ht
  rcases ht with rfl
  all_goals exact ⟨by kernel_rfl, of_decide_eq_true (by kernel_rfl)⟩
theorem uBool : Try.prog.underlying 4 = some .bool := by kernel_rfl
theorem uU8 : Try.prog.underlying 5 = some (.int .u8) := by kernel_rfl
theorem contract (H : Type) (enc : TypeId × Value → H) (W : World) (base : Nat) (args : Array Value) (ds gs : List (DataW H)) (before : List MemPlace)
    (hval : ∀ (j : Nat) t v, Try.f7.params[j]? = some t → args[j]? = some v → Value.okWide Try.prog W .any base t v)
    (hW : DataW.Whole enc Try.prog Try.f7.params.toList Rows.meaningCountsSpec.vars false W args.toList ds gs before) :
    Calls Try.prog 7 args W fun e W' => ∃ v, e = .returned v ∧ Rows.meaningCountsSpec.post enc Try.prog Try.f7 false true false false W args v W' := by
  have hst := st_any W
  have hW2 := hW
  obtain ⟨p, q, hA, _⟩ := hW2
  rw [Try.params7] at hA hval
  obtain ⟨v0, vs0, d0, ds0, p0, q0, e0, rfl, rfl, h0, r0⟩ := trodAll_cons hA
  obtain ⟨rfl, rfl, rfl⟩ := trodAll_nil r0
  obtain rfl : args = #[v0] := by cases args; simp_all
  obtain ⟨s0, rfl, rfl, rfl, hs0⟩ := open_int uU8 (hval 0 _ v0 rfl rfl) h0
  refine law_step (E := env) (xs := [.int .u8 s0]) lay_ok par_ok rfl uBool rfl (fun ds h => ?_) hW hst ?_ (MeaningCounts_con s0 (Go.bounds_u8 hs0))
  · rw [Try.params7] at h
    match ds, h with
    | [a], _ => exact ⟨rfl, rfl, rfl⟩
  · simp only [LRel, VRel]
    exact ⟨_, _, rfl, rfl, rfl⟩
/-- a world for the witness -/
noncomputable def laidWorld (os : Os) : World := World.holding Try.prog os ⟨#[], #[], []⟩
theorem laid_met (os : Os) : laidMet Try.prog Rows.meaningCountsRow.laid ((laidWorld os).forCall (fun _ _ => 0) ⟨#[], #[.int .u8 0], []⟩).memory :=
  laidMet_of_run' 8 (by kernel_rfl) (by kernel_rfl)
theorem reads (os : Os) {H : Type} (enc : TypeId × Value → H) : ∃ places, DataW.whole enc Try.prog ((laidWorld os).forCall (fun _ _ => 0) ⟨#[], #[.int .u8 0], []⟩).memory Try.f7.params.toList Rows.meaningCountsSpec.vars false (#[.int .u8 0] : Array Value).toList 8 = some ([.lit (.int .u8 0)], [], places) :=
  ⟨[], by kernel_rfl⟩
set_option maxRecDepth 100000 in
theorem lifted (os : Os) (started : os.Started) (H : Type) (enc : TypeId × Value → H) (F : Stop.Interp) :
    ReturnsInHanded {} Try.checked os 7 .any ((OpenSpec.ofChange Rows.meaningCountsSpec).preRow enc Try.prog Try.f7 Rows.meaningCountsRow.domain false Rows.meaningCountsRow.laid) (((OpenSpec.ofChange Rows.meaningCountsSpec).at F).post enc Try.prog Try.f7 false true false false) := by
  obtain ⟨places, hx⟩ := reads os enc
  refine returnsInHanded_of_row (C := Try.checked) (s := OpenSpec.ofChange Rows.meaningCountsSpec) own started (by kernel_rfl) Try.func7
    (witness_row_at (enc := enc) (C := Try.checked) false (laidWorld os) #[.int .u8 0] rfl (by kernel_rfl) (by kernel_rfl) (by kernel_rfl)
      (OpenSpec.preRow_of_cond 8 hx (by kernel_rfl) (fun k hk => by cases hk) (by kernel_rfl) (laid_met os))) ?_
  intro W base args ds gs before hval hW _ _ _ _ _ _
  exact contract H enc W base args ds gs before hval hW
theorem said : Rows.MeaningCountsSaid :=
  OpenClaim.holds_of_cond 7 Try.f7 rfl rfl rfl rfl rfl rfl rfl ⟨rfl, rfl, rfl, rfl, rfl⟩ rfl rfl rfl rfl rfl (by kernel_rfl) Try.func7 (by kernel_rfl)
    (of_decide_eq_true (by kernel_rfl)) (by unfold Func.isWrapper; first | (rw [if_pos (by decide +kernel)]; kernel_rfl) | (rw [if_neg (by decide +kernel)]; exact ⟨rfl, rfl⟩))
    (fun os started H enc _ F => by rw [OpenClaim.pre_eq_preRow]; exact lifted os started H enc F)
end Go.Proofs.Ytlokndnkpleegaa.fnMeaningCounts
