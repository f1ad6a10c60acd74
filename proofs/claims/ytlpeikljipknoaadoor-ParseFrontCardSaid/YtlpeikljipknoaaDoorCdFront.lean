/- ParseFront: for every input it returns true and never panics; no conditions. -/
import Derived.Test.YtlpeikljipknoaaDoorGLFr
import Derived.Test.YtlpeikljipknoaaDoorGAw
import Derived.Test.YtlpeikljipknoaaDoorCards
import Derived.Test.YtlpeikljipknoaaDoorTie
import Derived.Deep.DeepHandedRow
set_option linter.unusedSimpArgs false
set_option linter.unusedVariables false
set_option maxRecDepth 10000
namespace Go.Proofs.YtlpeikljipknoaaDoor.fnParseFront
open Go.ChangeShapes Go.WideShapes Go.ChangeAt Go.RowKit Go.Al Go.ChangeMaps
theorem own : ownKnob Tryd.prog.godebug = none := by kernel_rfl
theorem lay_ok : laidOutB env.P = true := by kernel_rfl
theorem par_ok : ∀ t ∈ Tryd.f10.params.toList, env.P.readableRec t = true ∧ t < env.P.types.size := by
  rw [Tryd.params10]
  intro t ht
  simp only [List.mem_cons, List.not_mem_nil, or_false] at ht
  rcases ht with rfl | rfl
  all_goals exact ⟨by kernel_rfl, of_decide_eq_true (by kernel_rfl)⟩
theorem uBool : Tryd.prog.underlying 4 = some .bool := by kernel_rfl
theorem uPgS : ∃ fs, Tryd.prog.underlying 27 = some (.struct fs) := by
  have h := tys.uPg
  simp only [structOf] at h
  split at h
  · rename_i fs hfs; exact ⟨fs, hfs⟩
  · cases h
theorem uI_u16 : Tryd.prog.underlying 53 = some (.int .u16) := by kernel_rfl
theorem contract (H : Type) (enc : TypeId × Value → H) (W : World) (base : Nat) (args : Array Value) (ds gs : List (DataW H)) (before : List MemPlace)
    (hval : ∀ (j : Nat) t v, Tryd.f10.params[j]? = some t → args[j]? = some v → Value.okWide Tryd.prog W .any base t v)
    (hW : DataW.Whole enc Tryd.prog Tryd.f10.params.toList Rows.parseFrontSpec.vars false W args.toList ds gs before) (hL : laidMetH Tryd.prog Rows.parseFrontRow.laid W) (hz : (DataW.weightsEach Tryd.prog (Tryd.f10.params.toList ++ (OpenSpec.ofChange Rows.parseFrontSpec).bare.plain.varTypes Tryd.prog) (ds ++ gs)).all (· ≤ reachBytes) = true) :
    Calls Tryd.prog 10 args W fun e W' => ∃ v, e = .returned v ∧ Rows.parseFrontSpec.post enc Tryd.prog Tryd.f10 false true false false W args v W' := by
  have hst := st_of_laid hL
  have hW2 := hW
  obtain ⟨p, q, hA, _⟩ := hW2
  rw [Tryd.params10] at hA hval
  obtain ⟨v0, vs0, d0, ds0, p0, q0, e0, rfl, rfl, h0, r0⟩ := trodAll_cons hA
  obtain ⟨v1, vs1, d1, ds1, p1, q1, e1, rfl, rfl, h1, r1⟩ := trodAll_cons r0
  obtain ⟨rfl, rfl, rfl⟩ := trodAll_nil r1
  obtain rfl : args = #[v0, v1] := by cases args; simp_all
  obtain ⟨x0, hx0, hv0⟩ := pg_arg tys uPgS (hval 0 _ v0 rfl rfl) h0
  have hl0 : Lim x0 := prog_lim tys uPgS (hval 0 _ v0 rfl rfl) h0 hv0 (fun m hm => by simpa using List.all_eq_true.1 hz m (DataW.weights_mem_each (j := 0) (by rw [Tryd.params10]; rfl) rfl m hm)) ⟨of_decide_eq_true (by kernel_rfl), of_decide_eq_true (by kernel_rfl), of_decide_eq_true (by kernel_rfl)⟩
  obtain ⟨s1, rfl, rfl, rfl, hs1⟩ := open_int uI_u16 (hval 1 _ v1 rfl rfl) h1
  refine law_step (E := env) (xs := [x0.av, .int .u16 s1]) lay_ok par_ok rfl uBool rfl (fun ds h => ?_) hW hst ?_ (ParseFront_con x0 hx0 hl0 s1 (Go.bounds_u16 hs1))
  · rw [Tryd.params10] at h
    match ds, h with
    | [a, b], _ => exact ⟨rfl, rfl, rfl⟩
  · simp only [LRel, VRel]
    exact ⟨_, _, rfl, by first | exact hv0 | simpa only [VRel, Pg.av] using hv0, ⟨_, _, rfl, rfl, rfl⟩⟩
noncomputable def laidWorld (os : Os) : World :=
  let w := World.holding Tryd.prog os ⟨#[], #[], []⟩
  { w with heap := (w.heap.modify 1 fun
      | .cells _ t frozen => .cells (wordsL.map fun s => Value.string ⟨s.toArray⟩).toArray t frozen
      | o => o).modify 0 fun
      | .cells _ t frozen => .cells (signsL.map fun s => Value.string ⟨s.toArray⟩).toArray t frozen
      | o => o }
theorem laid_met (os : Os) : laidMet Tryd.prog Rows.parseFrontRow.laid ((laidWorld os).forCall (fun _ _ => 0) ⟨#[], #[.agg #[.slice Option.none 0 0, .slice Option.none 0 0, .slice Option.none 0 0], .int .u16 0], []⟩).memory :=
  laidMet_of_run' 8 (by kernel_rfl) (by kernel_rfl)
theorem reads (os : Os) {H : Type} (enc : TypeId × Value → H) : ∃ places, DataW.whole enc Tryd.prog ((laidWorld os).forCall (fun _ _ => 0) ⟨#[], #[.agg #[.slice Option.none 0 0, .slice Option.none 0 0, .slice Option.none 0 0], .int .u16 0], []⟩).memory Tryd.f10.params.toList Rows.parseFrontSpec.vars false (#[.agg #[.slice Option.none 0 0, .slice Option.none 0 0, .slice Option.none 0 0], .int .u16 0] : Array Value).toList 8 = some ([.agg [.nil, .nil, .nil], .lit (.int .u16 0)], [], places) :=
  ⟨[], by kernel_rfl⟩
set_option maxRecDepth 100000 in
theorem lifted (os : Os) (started : os.Started) (H : Type) (enc : TypeId × Value → H) (F : Stop.Interp) :
    ReturnsInHanded {} Tryd.checked os 10 .any ((OpenSpec.ofChange Rows.parseFrontSpec).preRow enc Tryd.prog Tryd.f10 Rows.parseFrontRow.domain false Rows.parseFrontRow.laid) (((OpenSpec.ofChange Rows.parseFrontSpec).at F).post enc Tryd.prog Tryd.f10 false true false false) := by
  obtain ⟨places, hx⟩ := reads os enc
  refine returnsInHanded_of_row (C := Tryd.checked) (s := OpenSpec.ofChange Rows.parseFrontSpec) own started (by kernel_rfl) Tryd.func10
    (witness_row_at (enc := enc) (C := Tryd.checked) false (laidWorld os) #[.agg #[.slice Option.none 0 0, .slice Option.none 0 0, .slice Option.none 0 0], .int .u16 0] rfl (by kernel_rfl) (by kernel_rfl) (by kernel_rfl)
      (OpenSpec.preRow_of_cond 8 hx (by kernel_rfl) (fun k hk => by cases hk) (by kernel_rfl) (laid_met os))) ?_
  intro W base args ds gs before hval hW _ _ hz hL _ _
  exact contract H enc W base args ds gs before hval hW hL hz
theorem said : Rows.ParseFrontSaid :=
  OpenClaim.holds_of_cond 10 Tryd.f10 rfl rfl rfl rfl rfl rfl rfl ⟨rfl, rfl, rfl, rfl, rfl⟩ rfl rfl rfl rfl rfl (by kernel_rfl) Tryd.func10 (by kernel_rfl)
    (of_decide_eq_true (by kernel_rfl)) (by unfold Func.isWrapper; first | (rw [if_pos (by decide +kernel)]; kernel_rfl) | (rw [if_neg (by decide +kernel)]; exact ⟨rfl, rfl⟩))
    (fun os started H enc _ F => by rw [OpenClaim.pre_eq_preRow]; exact lifted os started H enc F)
theorem plain (f : FuncId) (fn : Func) (hf : Tryd.pinned.checked.prog.funcNamed "seedcorn/seedcornlaw15.ParseFront" = some f) (hfn : Tryd.pinned.checked.prog.funcs[f]? = some fn) :
    true = Tryd.pinned.checked.prog.looks [] ∧ ∀ (j : Nat) t, fn.params[j]? = some t → Tryd.pinned.checked.prog.wantsStandIn t = false := by
  obtain rfl : f = 10 := Option.some.inj ((show Tryd.prog.funcNamed "seedcorn/seedcornlaw15.ParseFront" = some 10 by kernel_rfl).symm.trans hf) |>.symm
  obtain rfl : fn = Tryd.f10 := (Option.some.inj (Tryd.func10.symm.trans hfn)).symm
  refine ⟨by kernel_rfl, fun j t ht => ?_⟩
  rw [Tryd.params10] at ht
  have hm := Array.mem_of_getElem? ht
  simp only [List.mem_toArray, List.mem_cons, List.not_mem_nil, or_false] at hm
  rcases hm with rfl | rfl
  all_goals exact (show Tryd.prog.wantsStandIn _ = false by kernel_rfl)
theorem card : Rows.ParseFrontCardSaid :=
  Claim7.holds_tied_plain_at .later [] _ _ _ _ said (fun _ h => by cases h) (by kernel_rfl) (fun _ h => by cases h) parseFront_row_tie rfl ⟨rfl, rfl⟩ (by kernel_rfl) rfl plain (by kernel_rfl)
end Go.Proofs.YtlpeikljipknoaaDoor.fnParseFront
