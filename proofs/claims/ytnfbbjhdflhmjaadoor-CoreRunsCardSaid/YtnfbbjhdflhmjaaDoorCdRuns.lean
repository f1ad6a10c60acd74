/- CoreRuns: for every input it returns true and never panics; no conditions. -/
import Derived.Test.YtnfbbjhdflhmjaaDoorGQe
import Derived.Test.YtnfbbjhdflhmjaaDoorGLift
import Derived.Test.YtnfbbjhdflhmjaaDoorCards
import Derived.Test.YtnfbbjhdflhmjaaDoorTie
import Derived.Test.YtnfbbjhdflhmjaaDoorGCg
import Derived.Deep.DeepHandedRow
set_option linter.unusedSimpArgs false
set_option linter.unusedVariables false
set_option maxRecDepth 10000
namespace Go.Proofs.YtnfbbjhdflhmjaaDoor.fnCoreRuns
open Go.ChangeShapes Go.WideShapes Go.ChangeAt Go.RowKit Go.Al Go.ChangeMaps
theorem own : ownKnob Tryd.prog.godebug = none := by kernel_rfl
theorem rK : laidOutB cO.P = true := by kernel_rfl
theorem rG : ∀ t ∈ Tryd.f3.params.toList, cO.P.readableRec t = true ∧ t < cO.P.types.size := by
 rw [Tryd.params3]
 intro t ht
 simp only [List.mem_cons, List.not_mem_nil, or_false] at ht
 rcases ht with rfl | rfl | rfl
 all_goals exact ⟨by kernel_rfl, aC (by kernel_rfl)⟩
theorem uBool : Tryd.prog.underlying 4 = some .bool := by kernel_rfl
noncomputable def uX : Oq cO.P where
 int := 3
 u32 := 57
 bool := 4
 ce := 110
 ces := 91
 cs := 93
 css := 47
 cf := 49
 cfs := 22
 co := 24
 uInt := by kernel_rfl
 uU32 := by kernel_rfl
 uBool := by kernel_rfl
 uCe := by kernel_rfl
 uCes := by kernel_rfl
 uCs := by kernel_rfl
 uCss := by kernel_rfl
 uCf := by kernel_rfl
 uCfs := by kernel_rfl
 uCo := by kernel_rfl
 c1 := by kernel_rfl
 cCe := by kernel_rfl
 cCs := by kernel_rfl
 cCf := by kernel_rfl
 cCo := by kernel_rfl
theorem Db : ∃ fs, Tryd.prog.underlying 24 = some (.struct fs) := by
 have h := uX.uCo
 simp only [eV] at h
 split at h
 ·rename_i fs hfs; exact ⟨fs, hfs⟩
 cases h
theorem Xc : Tryd.prog.underlying 3 = some (.int .i64) := by kernel_rfl
theorem zR : Tryd.prog.underlying 9 = some .string := by kernel_rfl
theorem jB (H : Type) (enc : TypeId × Value → H) (W : World) (base : Nat) (args : Array Value) (ds gs : List (DataW H)) (before : List MemPlace)
  (hval : ∀ (j : Nat) t v, Tryd.f3.params[j]? = some t → args[j]? = some v → Value.okWide Tryd.prog W .any base t v)
  (hW : DataW.Whole enc Tryd.prog Tryd.f3.params.toList Rows.coreRunsSpec.vars false W args.toList ds gs before) (hL : laidMetH Tryd.prog Rows.coreRunsRow.laid W) :
  Calls Tryd.prog 3 args W fun e W' => ∃ v, e = .returned v ∧ Rows.coreRunsSpec.post enc Tryd.prog Tryd.f3 false true false false W args v W' := by
 have hst := mX hL
 have hW2 := hW
 obtain ⟨p, q, hA, _⟩ := hW2
 rw [Tryd.params3] at hA hval
 obtain ⟨v0, vs0, d0, ds0, p0, q0, e0, rfl, rfl, h0, r0⟩ := trodAll_cons hA
 obtain ⟨v1, vs1, d1, ds1, p1, q1, e1, rfl, rfl, h1, r1⟩ := trodAll_cons r0
 obtain ⟨v2, vs2, d2, ds2, p2, q2, e2, rfl, rfl, h2, r2⟩ := trodAll_cons r1
 obtain ⟨rfl, rfl, rfl⟩ := trodAll_nil r2
 obtain rfl : args = #[v0, v1, v2] := by cases args; simp_all
 obtain ⟨x0, hx0, hv0⟩ := xD uX Db (hval 0 _ v0 rfl rfl) h0
 obtain ⟨s1, rfl, rfl, rfl, hs1⟩ := open_string zR (hval 1 _ v1 rfl rfl) h1
 obtain ⟨s2, rfl, rfl, rfl, hs2⟩ := open_int Xc (hval 2 _ v2 rfl rfl) h2
 refine sE (E := cO) (xs := [x0.av, .str s1.data.toList, .int .i64 s2]) rK rG rfl uBool rfl (fun ds h => ?_) hW hst ?_ (Cv x0 hx0 s1.data.toList s2 (gD hs2))
 ·rw [Tryd.params3] at h
  match ds, h with
  | [a, b, c], _ => exact ⟨rfl, rfl, rfl⟩
 simp only [bQ, bI]
 exact ⟨_, _, rfl, by first | exact hv0 | simpa only [bI, Co.av] using hv0, ⟨_, _, rfl, rfl, ⟨_, _, rfl, rfl, rfl⟩⟩⟩
noncomputable def eJ (os : Os) : World :=
 let w := World.holding Tryd.prog os ⟨#[], #[], []⟩
 { w with heap := w.heap.modify 0 fun
     | .cells _ t frozen => .cells (eD.map fun s => Value.string ⟨s.toArray⟩).toArray t frozen
     | o => o }
theorem kR (os : Os) : laidMet Tryd.prog Rows.coreRunsRow.laid ((eJ os).forCall (fun _ _ => 0) ⟨#[], #[.agg #[.int .i64 0, .slice Option.none 0 0], .string ⟨#[]⟩, .int .i64 0], []⟩).memory :=
 laidMet_of_run' 8 (by kernel_rfl) (by kernel_rfl)
theorem uC (os : Os) {H : Type} (enc : TypeId × Value → H) : ∃ places, DataW.whole enc Tryd.prog ((eJ os).forCall (fun _ _ => 0) ⟨#[], #[.agg #[.int .i64 0, .slice Option.none 0 0], .string ⟨#[]⟩, .int .i64 0], []⟩).memory Tryd.f3.params.toList Rows.coreRunsSpec.vars false (#[.agg #[.int .i64 0, .slice Option.none 0 0], .string ⟨#[]⟩, .int .i64 0] : Array Value).toList 8 = some ([.agg [.lit (.int .i64 0), .nil], .lit (.string []), .lit (.int .i64 0)], [], places) :=
 ⟨[], by kernel_rfl⟩
set_option maxRecDepth 100000 in
theorem rH (os : Os) (started : os.Started) (H : Type) (enc : TypeId × Value → H) (F : Stop.Interp) :
  ReturnsInHanded {} Tryd.checked os 3 .any ((OpenSpec.ofChange Rows.coreRunsSpec).preRow enc Tryd.prog Tryd.f3 Rows.coreRunsRow.domain false Rows.coreRunsRow.laid) (((OpenSpec.ofChange Rows.coreRunsSpec).at F).post enc Tryd.prog Tryd.f3 false true false false) := by
 obtain ⟨places, hx⟩ := uC os enc
 refine returnsInHanded_of_row (C := Tryd.checked) (s := OpenSpec.ofChange Rows.coreRunsSpec) own started (by kernel_rfl) Tryd.func3
  (witness_row_at (enc := enc) (C := Tryd.checked) false (eJ os) #[.agg #[.int .i64 0, .slice Option.none 0 0], .string ⟨#[]⟩, .int .i64 0] rfl (by kernel_rfl) (by kernel_rfl) (by kernel_rfl)
   (OpenSpec.preRow_of_cond 8 hx (by kernel_rfl) (fun k hk => by cases hk) (by kernel_rfl) (kR os))) ?_
 intro W base args ds gs before hval hW _ _ _ hL _ _
 exact jB H enc W base args ds gs before hval hW hL
theorem said : Rows.CoreRunsSaid :=
 OpenClaim.holds_of_cond 3 Tryd.f3 rfl rfl rfl rfl rfl rfl rfl ⟨rfl, rfl, rfl, rfl, rfl⟩ rfl rfl rfl rfl rfl (by kernel_rfl) Tryd.func3 (by kernel_rfl)
  (aC (by kernel_rfl)) (by unfold Func.isWrapper; first | (rw [if_pos (by decide +kernel)]; kernel_rfl) | (rw [if_neg (by decide +kernel)]; exact ⟨rfl, rfl⟩))
  (fun os started H enc _ F => by rw [OpenClaim.pre_eq_preRow]; exact rH os started H enc F)
theorem gQ (f : FuncId) (fn : Func) (hf : Tryd.pinned.checked.prog.funcNamed "seedcorn/seedcornlaw19.CoreRuns" = some f) (hfn : Tryd.pinned.checked.prog.funcs[f]? = some fn) :
  true = Tryd.pinned.checked.prog.looks [] ∧ ∀ (j : Nat) t, fn.params[j]? = some t → Tryd.pinned.checked.prog.wantsStandIn t = false := by
 obtain rfl : f = 3 := Option.some.inj ((show Tryd.prog.funcNamed "seedcorn/seedcornlaw19.CoreRuns" = some 3 by kernel_rfl).symm.trans hf) |>.symm
 obtain rfl : fn = Tryd.f3 := (Option.some.inj (Tryd.func3.symm.trans hfn)).symm
 refine ⟨by kernel_rfl, fun j t ht => ?_⟩
 rw [Tryd.params3] at ht
 have hm := Array.mem_of_getElem? ht
 simp only [List.mem_toArray, List.mem_cons, List.not_mem_nil, or_false] at hm
 rcases hm with rfl | rfl | rfl
 all_goals exact (show Tryd.prog.wantsStandIn _ = false by kernel_rfl)
theorem card : Rows.CoreRunsCardSaid :=
 Claim7.holds_tied_plain_at .later [] _ _ _ _ said (fun _ h => by cases h) (by kernel_rfl) (fun _ h => by cases h) coreRuns_row_tie rfl ⟨rfl, rfl⟩ (by kernel_rfl) rfl gQ (by kernel_rfl)
end Go.Proofs.YtnfbbjhdflhmjaaDoor.fnCoreRuns
