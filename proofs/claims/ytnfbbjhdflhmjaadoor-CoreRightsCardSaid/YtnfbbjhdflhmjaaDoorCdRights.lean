/- CoreRights: for every input it returns true and never panics; no conditions. -/
import Derived.Test.YtnfbbjhdflhmjaaDoorGRe
import Derived.Test.YtnfbbjhdflhmjaaDoorGLift
import Derived.Test.YtnfbbjhdflhmjaaDoorCards
import Derived.Test.YtnfbbjhdflhmjaaDoorTie
import Derived.Test.YtnfbbjhdflhmjaaDoorGCg
import Derived.Deep.DeepHandedRow
set_option linter.unusedSimpArgs false
set_option linter.unusedVariables false
set_option maxRecDepth 10000
namespace Go.Proofs.YtnfbbjhdflhmjaaDoor.fnCoreRights
open Go.ChangeShapes Go.WideShapes Go.ChangeAt Go.RowKit Go.Al Go.ChangeMaps
theorem own : ownKnob Tryd.prog.godebug = none := by kernel_rfl
theorem rK : laidOutB cO.P = true := by kernel_rfl
theorem rG : ∀ t ∈ Tryd.f6.params.toList, cO.P.readableRec t = true ∧ t < cO.P.types.size := by
 rw [Tryd.params6]
 intro t ht
 simp only [List.mem_cons, List.not_mem_nil, or_false] at ht
 rcases ht with rfl | rfl
 all_goals exact ⟨by kernel_rfl, aC (by kernel_rfl)⟩
theorem uBool : Tryd.prog.underlying 4 = some .bool := by kernel_rfl
noncomputable def uX : Oq cO.P where
 int := 3
 u32 := 57
 bool := 4
 ce := 110
 ces := 91
 cs := 93
 css := 47
 cf := 49
 cfs := 22
 co := 24
 uInt := by kernel_rfl
 uU32 := by kernel_rfl
 uBool := by kernel_rfl
 uCe := by kernel_rfl
 uCes := by kernel_rfl
 uCs := by kernel_rfl
 uCss := by kernel_rfl
 uCf := by kernel_rfl
 uCfs := by kernel_rfl
 uCo := by kernel_rfl
 c1 := by kernel_rfl
 cCe := by kernel_rfl
 cCs := by kernel_rfl
 cCf := by kernel_rfl
 cCo := by kernel_rfl
theorem Db : ∃ fs, Tryd.prog.underlying 24 = some (.struct fs) := by
 have h := uX.uCo
 simp only [eV] at h
 split at h
 ·rename_i fs hfs; exact ⟨fs, hfs⟩
 cases h
theorem jB (H : Type) (enc : TypeId × Value → H) (W : World) (base : Nat) (args : Array Value) (ds gs : List (DataW H)) (before : List MemPlace)
  (hval : ∀ (j : Nat) t v, Tryd.f6.params[j]? = some t → args[j]? = some v → Value.okWide Tryd.prog W .any base t v)
  (hW : DataW.Whole enc Tryd.prog Tryd.f6.params.toList Rows.coreRightsSpec.vars false W args.toList ds gs before) (hL : laidMetH Tryd.prog Rows.coreRightsRow.laid W) :
  Calls Tryd.prog 6 args W fun e W' => ∃ v, e = .returned v ∧ Rows.coreRightsSpec.post enc Tryd.prog Tryd.f6 false true false false W args v W' := by
 have hst := mX hL
 have hW2 := hW
 obtain ⟨p, q, hA, _⟩ := hW2
 rw [Tryd.params6] at hA hval
 obtain ⟨v0, vs0, d0, ds0, p0, q0, e0, rfl, rfl, h0, r0⟩ := trodAll_cons hA
 obtain ⟨v1, vs1, d1, ds1, p1, q1, e1, rfl, rfl, h1, r1⟩ := trodAll_cons r0
 obtain ⟨rfl, rfl, rfl⟩ := trodAll_nil r1
 obtain rfl : args = #[v0, v1] := by cases args; simp_all
 obtain ⟨x0, hx0, hv0⟩ := xD uX Db (hval 0 _ v0 rfl rfl) h0
 obtain ⟨x1, hx1, hv1⟩ := xD uX Db (hval 1 _ v1 rfl rfl) h1
 refine sE (E := cO) (xs := [x0.av, x1.av]) rK rG rfl uBool rfl (fun ds h => ?_) hW hst ?_ (yN x0 hx0 x1 hx1)
 ·rw [Tryd.params6] at h
  match ds, h with
  | [a, b], _ => exact ⟨rfl, rfl, rfl⟩
 simp only [bQ]
 exact ⟨_, _, rfl, by first | exact hv0 | simpa only [bI, Co.av] using hv0, ⟨_, _, rfl, by first | exact hv1 | simpa only [bI, Co.av] using hv1, rfl⟩⟩
noncomputable def eJ (os : Os) : World :=
 let w := World.holding Tryd.prog os ⟨#[], #[], []⟩
 { w with heap := w.heap.modify 0 fun
     | .cells _ t frozen => .cells (eD.map fun s => Value.string ⟨s.toArray⟩).toArray t frozen
     | o => o }
theorem kR (os : Os) : laidMet Tryd.prog Rows.coreRightsRow.laid ((eJ os).forCall (fun _ _ => 0) ⟨#[], #[.agg #[.int .i64 0, .slice Option.none 0 0], .agg #[.int .i64 0, .slice Option.none 0 0]], []⟩).memory :=
 laidMet_of_run' 8 (by kernel_rfl) (by kernel_rfl)
theorem uC (os : Os) {H : Type} (enc : TypeId × Value → H) : ∃ places, DataW.whole enc Tryd.prog ((eJ os).forCall (fun _ _ => 0) ⟨#[], #[.agg #[.int .i64 0, .slice Option.none 0 0], .agg #[.int .i64 0, .slice Option.none 0 0]], []⟩).memory Tryd.f6.params.toList Rows.coreRightsSpec.vars false (#[.agg #[.int .i64 0, .slice Option.none 0 0], .agg #[.int .i64 0, .slice Option.none 0 0]] : Array Value).toList 8 = some ([.agg [.lit (.int .i64 0), .nil], .agg [.lit (.int .i64 0), .nil]], [], places) :=
 ⟨[], by kernel_rfl⟩
set_option maxRecDepth 100000 in
theorem rH (os : Os) (started : os.Started) (H : Type) (enc : TypeId × Value → H) (F : Stop.Interp) :
  ReturnsInHanded {} Tryd.checked os 6 .any ((OpenSpec.ofChange Rows.coreRightsSpec).preRow enc Tryd.prog Tryd.f6 Rows.coreRightsRow.domain false Rows.coreRightsRow.laid) (((OpenSpec.ofChange Rows.coreRightsSpec).at F).post enc Tryd.prog Tryd.f6 false true false false) := by
 obtain ⟨places, hx⟩ := uC os enc
 refine returnsInHanded_of_row (C := Tryd.checked) (s := OpenSpec.ofChange Rows.coreRightsSpec) own started (by kernel_rfl) Tryd.func6
  (witness_row_at (enc := enc) (C := Tryd.checked) false (eJ os) #[.agg #[.int .i64 0, .slice Option.none 0 0], .agg #[.int .i64 0, .slice Option.none 0 0]] rfl (by kernel_rfl) (by kernel_rfl) (by kernel_rfl)
   (OpenSpec.preRow_of_cond 8 hx (by kernel_rfl) (fun k hk => by cases hk) (by kernel_rfl) (kR os))) ?_
 intro W base args ds gs before hval hW _ _ _ hL _ _
 exact jB H enc W base args ds gs before hval hW hL
theorem said : Rows.CoreRightsSaid :=
 OpenClaim.holds_of_cond 6 Tryd.f6 rfl rfl rfl rfl rfl rfl rfl ⟨rfl, rfl, rfl, rfl, rfl⟩ rfl rfl rfl rfl rfl (by kernel_rfl) Tryd.func6 (by kernel_rfl)
  (aC (by kernel_rfl)) (by unfold Func.isWrapper; first | (rw [if_pos (by decide +kernel)]; kernel_rfl) | (rw [if_neg (by decide +kernel)]; exact ⟨rfl, rfl⟩))
  (fun os started H enc _ F => by rw [OpenClaim.pre_eq_preRow]; exact rH os started H enc F)
theorem gQ (f : FuncId) (fn : Func) (hf : Tryd.pinned.checked.prog.funcNamed "seedcorn/seedcornlaw19.CoreRights" = some f) (hfn : Tryd.pinned.checked.prog.funcs[f]? = some fn) :
  true = Tryd.pinned.checked.prog.looks [] ∧ ∀ (j : Nat) t, fn.params[j]? = some t → Tryd.pinned.checked.prog.wantsStandIn t = false := by
 obtain rfl : f = 6 := Option.some.inj ((show Tryd.prog.funcNamed "seedcorn/seedcornlaw19.CoreRights" = some 6 by kernel_rfl).symm.trans hf) |>.symm
 obtain rfl : fn = Tryd.f6 := (Option.some.inj (Tryd.func6.symm.trans hfn)).symm
 refine ⟨by kernel_rfl, fun j t ht => ?_⟩
 rw [Tryd.params6] at ht
 have hm := Array.mem_of_getElem? ht
 simp only [List.mem_toArray, List.mem_cons, List.not_mem_nil, or_false] at hm
 rcases hm with rfl | rfl
 all_goals exact (show Tryd.prog.wantsStandIn _ = false by kernel_rfl)
theorem card : Rows.CoreRightsCardSaid :=
 Claim7.holds_tied_plain_at .later [] _ _ _ _ said (fun _ h => by cases h) (by kernel_rfl) (fun _ h => by cases h) coreRights_row_tie rfl ⟨rfl, rfl⟩ (by kernel_rfl) rfl gQ (by kernel_rfl)
end Go.Proofs.YtnfbbjhdflhmjaaDoor.fnCoreRights
