/- Chapter 18: MeaningRuns: for every input it returns true and never panics; no conditions. -/
import Derived.Test.YtlokndnkpleegaaLRuns
import Derived.Test.YtlokndnkpleegaaMbk
import Derived.Deep.DeepHandedRow
set_option linter.unusedSimpArgs false
set_option linter.unusedVariables false
set_option maxRecDepth 10000
namespace Go.Proofs.Ytlokndnkpleegaa.fnMeaningRuns
open Go.ChangeShapes Go.WideShapes Go.ChangeAt Go.RowKit Go.Al Go.ChangeMaps
theorem own : ownKnob Try.prog.godebug = none := by kernel_rfl
theorem lay_ok : laidOutB env.P = true := by kernel_rfl
theorem par_ok : ∀ t ∈ Try.f3.params.toList, env.P.readableRec t = true ∧ t < env.P.types.size := by
  rw [Try.params3]
  intro t ht
  simp only [List.mem_cons, List.not_mem_nil, or_false] at ht
  rcases ht with rfl | rfl | rfl
  all_goals exact ⟨by kernel_rfl, of_decide_eq_true (by kernel_rfl)⟩
theorem uBool : Try.prog.underlying 4 = some .bool := by kernel_rfl
theorem uPgS : ∃ fs, Try.prog.underlying 26 = some (.struct fs) := by
  have h := tys.uPg
  simp only [structOf] at h
  split at h
  · rename_i fs hfs; exact ⟨fs, hfs⟩
  · cases h
theorem uStr0 : Try.prog.underlying 9 = some .string := by kernel_rfl
theorem uInt0 : Try.prog.underlying 3 = some (.int .i64) := by kernel_rfl
theorem contract (H : Type) (enc : TypeId × Value → H) (W : World) (base : Nat) (args : Array Value) (ds gs : List (DataW H)) (before : List MemPlace)
    (hval : ∀ (j : Nat) t v, Try.f3.params[j]? = some t → args[j]? = some v → Value.okWide Try.prog W .any base t v)
    (hW : DataW.Whole enc Try.prog Try.f3.params.toList Rows.meaningRunsSpec.vars false W args.toList ds gs before) (hk : Rows.uptoSmall H (ds ++ gs) = true) :
    Calls Try.prog 3 args W fun e W' => ∃ v, e = .returned v ∧ Rows.meaningRunsSpec.post enc Try.prog Try.f3 false true false false W args v W' := by
  have hst := st_any W
  have hW2 := hW
  obtain ⟨p, q, hA, _⟩ := hW2
  rw [Try.params3] at hA hval
  obtain ⟨v0, vs0, d0, ds0, p0, q0, e0, rfl, rfl, h0, r0⟩ := trodAll_cons hA
  obtain ⟨v1, vs1, d1, ds1, p1, q1, e1, rfl, rfl, h1, r1⟩ := trodAll_cons r0
  obtain ⟨v2, vs2, d2, ds2, p2, q2, e2, rfl, rfl, h2, r2⟩ := trodAll_cons r1
  obtain ⟨rfl, rfl, rfl⟩ := trodAll_nil r2
  obtain rfl : args = #[v0, v1, v2] := by cases args; simp_all
  obtain ⟨x0, hx0, hv0⟩ := pg_argB tys uPgS (hval 0 _ v0 rfl rfl) h0 (by have hB : Rows.uptoBulkAll _ ≤ 1048576 := of_decide_eq_true hk; simp only [List.cons_append, Rows.uptoBulkAll] at hB; omega)
  obtain ⟨s1, rfl, rfl, rfl, hs1⟩ := open_string uStr0 (hval 1 _ v1 rfl rfl) h1
  obtain ⟨s2, rfl, rfl, rfl, hs2⟩ := open_int uInt0 (hval 2 _ v2 rfl rfl) h2
  refine law_step (E := env) (xs := [x0.av, .str s1.data.toList, .int .i64 s2]) lay_ok par_ok rfl uBool rfl (fun ds h => ?_) hW hst ?_ (MeaningRuns_con x0 hx0 s1.data.toList s2 (wf_i64 hs2))
  · rw [Try.params3] at h
    match ds, h with
    | [a, b, c], _ => exact ⟨rfl, rfl, rfl⟩
  · simp only [LRel, VRel]
    exact ⟨_, _, rfl, by first | exact hv0 | simpa only [VRel, Pg.av] using hv0, ⟨_, _, rfl, rfl, ⟨_, _, rfl, rfl, rfl⟩⟩⟩
/-- a world for the witness -/
noncomputable def laidWorld (os : Os) : World := World.holding Try.prog os ⟨#[], #[], []⟩
theorem laid_met (os : Os) : laidMet Try.prog Rows.meaningRunsUptoRow.laid ((laidWorld os).forCall (fun _ _ => 0) ⟨#[], #[.agg #[.slice Option.none 0 0, .slice Option.none 0 0, .slice Option.none 0 0], .string ⟨#[]⟩, .int .i64 0], []⟩).memory :=
  laidMet_of_run' 8 (by kernel_rfl) (by kernel_rfl)
theorem reads (os : Os) {H : Type} (enc : TypeId × Value → H) : ∃ places, DataW.whole enc Try.prog ((laidWorld os).forCall (fun _ _ => 0) ⟨#[], #[.agg #[.slice Option.none 0 0, .slice Option.none 0 0, .slice Option.none 0 0], .string ⟨#[]⟩, .int .i64 0], []⟩).memory Try.f3.params.toList Rows.meaningRunsSpec.vars false (#[.agg #[.slice Option.none 0 0, .slice Option.none 0 0, .slice Option.none 0 0], .string ⟨#[]⟩, .int .i64 0] : Array Value).toList 8 = some ([.agg [.nil, .nil, .nil], .lit (.string []), .lit (.int .i64 0)], [], places) :=
  ⟨[], by kernel_rfl⟩
set_option maxRecDepth 100000 in
theorem lifted (os : Os) (started : os.Started) (H : Type) (enc : TypeId × Value → H) (F : Stop.Interp) :
    ReturnsInHanded {} Try.checked os 3 .any ((Rows.OpenSpec.upto Rows.meaningRunsSpec).preRow enc Try.prog Try.f3 Rows.meaningRunsUptoRow.domain false Rows.meaningRunsUptoRow.laid) (((Rows.OpenSpec.upto Rows.meaningRunsSpec).at F).post enc Try.prog Try.f3 false true false false) := by
  obtain ⟨places, hx⟩ := reads os enc
  refine returnsInHanded_of_row (C := Try.checked) (s := Rows.OpenSpec.upto Rows.meaningRunsSpec) own started (by kernel_rfl) Try.func3
    (witness_row_at (enc := enc) (C := Try.checked) false (laidWorld os) #[.agg #[.slice Option.none 0 0, .slice Option.none 0 0, .slice Option.none 0 0], .string ⟨#[]⟩, .int .i64 0] rfl (by kernel_rfl) (by kernel_rfl) (by kernel_rfl)
      (OpenSpec.preRow_of_cond 8 hx (by kernel_rfl) (fun k hk => by cases hk; kernel_rfl) (by kernel_rfl) (laid_met os))) ?_
  intro W base args ds gs before hval hW _ hk _ _ _ _
  exact contract H enc W base args ds gs before hval hW (hk _ rfl)
theorem said : Rows.MeaningRunsUptoSaid :=
  OpenClaim.holds_of_cond 3 Try.f3 rfl rfl rfl rfl rfl rfl rfl ⟨rfl, rfl, rfl, rfl, rfl⟩ rfl rfl rfl rfl rfl (by kernel_rfl) Try.func3 (by kernel_rfl)
    (of_decide_eq_true (by kernel_rfl)) (by unfold Func.isWrapper; first | (rw [if_pos (by decide +kernel)]; kernel_rfl) | (rw [if_neg (by decide +kernel)]; exact ⟨rfl, rfl⟩))
    (fun os started H enc _ F => by rw [OpenClaim.pre_eq_preRow]; exact lifted os started H enc F)
end Go.Proofs.Ytlokndnkpleegaa.fnMeaningRuns
