/- Chapter 18: MeaningValues: for every input it returns true and never panics; no conditions. -/
import Derived.Test.YtlokndnkpleegaaLValues
import Derived.Test.YtlokndnkpleegaaSynB
import Derived.Deep.DeepHandedRow
set_option linter.unusedSimpArgs false
set_option linter.unusedVariables false
set_option maxRecDepth 10000
namespace Go.Proofs.Ytlokndnkpleegaa.fnMeaningValues
open Go.ChangeShapes Go.WideShapes Go.ChangeAt Go.RowKit Go.Al Go.ChangeMaps
theorem own : ownKnob Try.prog.godebug = none := by kernel_rfl
theorem lay_ok : laidOutB env.P = true := by kernel_rfl
theorem par_ok : ∀ t ∈ Try.f8.params.toList, env.P.readableRec t = true ∧ t < env.P.types.size := by
  rw [Try.params8]
  intro t ht
  simp only [List.mem_cons, List.not_mem_nil, or_false] at ht
  rcases ht with rfl
  all_goals exact ⟨by kernel_rfl, of_decide_eq_true (by kernel_rfl)⟩
theorem uBool : Try.prog.underlying 4 = some .bool := by kernel_rfl
theorem uExS : ∃ fs, Try.prog.underlying 42 = some (.struct fs) := by
  have h := tys.uEx
  simp only [structOf] at h
  split at h
  · rename_i fs hfs; exact ⟨fs, hfs⟩
  · cases h
theorem contract (H : Type) (enc : TypeId × Value → H) (W : World) (base : Nat) (args : Array Value) (ds gs : List (DataW H)) (before : List MemPlace)
    (hval : ∀ (j : Nat) t v, Try.f8.params[j]? = some t → args[j]? = some v → Value.okWide Try.prog W .any base t v)
    (hW : DataW.Whole enc Try.prog Try.f8.params.toList Rows.meaningValuesSpec.vars false W args.toList ds gs before) :
    Calls Try.prog 8 args W fun e W' => ∃ v, e = .returned v ∧ Rows.meaningValuesSpec.post enc Try.prog Try.f8 false true false false W args v W' := by
  have hst := st_any W
  have hW2 := hW
  obtain ⟨p, q, hA, _⟩ := hW2
  rw [Try.params8] at hA hval
  obtain ⟨v0, vs0, d0, ds0, p0, q0, e0, rfl, rfl, h0, r0⟩ := trodAll_cons hA
  obtain ⟨rfl, rfl, rfl⟩ := trodAll_nil r0
  obtain rfl : args = #[v0] := by cases args; simp_all
  obtain ⟨x0, hx0, hv0⟩ := ex_arg tys uExS (hval 0 _ v0 rfl rfl) h0
  refine law_step (E := env) (xs := [.agg x0.row]) lay_ok par_ok rfl uBool rfl (fun ds h => ?_) hW hst ?_ (MeaningValues_con x0 hx0)
  · rw [Try.params8] at h
    match ds, h with
    | [a], _ => exact ⟨rfl, rfl, rfl⟩
  · simp only [LRel, VRel]
    exact ⟨_, _, rfl, by first | exact hv0 | simpa only [VRel, Pg.av] using hv0, rfl⟩
/-- a world for the witness -/
noncomputable def laidWorld (os : Os) : World := World.holding Try.prog os ⟨#[], #[], []⟩
theorem laid_met (os : Os) : laidMet Try.prog Rows.meaningValuesRow.laid ((laidWorld os).forCall (fun _ _ => 0) ⟨#[], #[.agg #[.int .i64 0, .int .i64 0, .int .u32 0, .string ⟨#[]⟩, .slice Option.none 0 0]], []⟩).memory :=
  laidMet_of_run' 8 (by kernel_rfl) (by kernel_rfl)
theorem reads (os : Os) {H : Type} (enc : TypeId × Value → H) : ∃ places, DataW.whole enc Try.prog ((laidWorld os).forCall (fun _ _ => 0) ⟨#[], #[.agg #[.int .i64 0, .int .i64 0, .int .u32 0, .string ⟨#[]⟩, .slice Option.none 0 0]], []⟩).memory Try.f8.params.toList Rows.meaningValuesSpec.vars false (#[.agg #[.int .i64 0, .int .i64 0, .int .u32 0, .string ⟨#[]⟩, .slice Option.none 0 0]] : Array Value).toList 8 = some ([.agg [.lit (.int .i64 0), .lit (.int .i64 0), .lit (.int .u32 0), .lit (.string []), .nil]], [], places) :=
  ⟨[], by kernel_rfl⟩
set_option maxRecDepth 100000 in
theorem lifted (os : Os) (started : os.Started) (H : Type) (enc : TypeId × Value → H) (F : Stop.Interp) :
    ReturnsInHanded {} Try.checked os 8 .any ((OpenSpec.ofChange Rows.meaningValuesSpec).preRow enc Try.prog Try.f8 Rows.meaningValuesRow.domain false Rows.meaningValuesRow.laid) (((OpenSpec.ofChange Rows.meaningValuesSpec).at F).post enc Try.prog Try.f8 false true false false) := by
  obtain ⟨places, hx⟩ := reads os enc
  refine returnsInHanded_of_row (C := Try.checked) (s := OpenSpec.ofChange Rows.meaningValuesSpec) own started (by kernel_rfl) Try.func8
    (witness_row_at (enc := enc) (C := Try.checked) false (laidWorld os) #[.agg #[.int .i64 0, .int .i64 0, .int .u32 0, .string ⟨#[]⟩, .slice Option.none 0 0]] rfl (by kernel_rfl) (by kernel_rfl) (by kernel_rfl)
      (OpenSpec.preRow_of_cond 8 hx (by kernel_rfl) (fun k hk => by cases hk) (by kernel_rfl) (laid_met os))) ?_
  intro W base args ds gs before hval hW _ _ _ _ _ _
  exact contract H enc W base args ds gs before hval hW
theorem said : Rows.MeaningValuesSaid :=
  OpenClaim.holds_of_cond 8 Try.f8 rfl rfl rfl rfl rfl rfl rfl ⟨rfl, rfl, rfl, rfl, rfl⟩ rfl rfl rfl rfl rfl (by kernel_rfl) Try.func8 (by kernel_rfl)
    (of_decide_eq_true (by kernel_rfl)) (by unfold Func.isWrapper; first | (rw [if_pos (by decide +kernel)]; kernel_rfl) | (rw [if_neg (by decide +kernel)]; exact ⟨rfl, rfl⟩))
    (fun os started H enc _ F => by rw [OpenClaim.pre_eq_preRow]; exact lifted os started H enc F)
end Go.Proofs.Ytlokndnkpleegaa.fnMeaningValues
