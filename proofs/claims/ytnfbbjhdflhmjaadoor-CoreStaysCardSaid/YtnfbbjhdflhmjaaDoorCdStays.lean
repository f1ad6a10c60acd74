/- CoreStays: for every input it returns true and never panics; no conditions. -/
import Derived.Test.YtnfbbjhdflhmjaaDoorGCs
import Derived.Test.YtnfbbjhdflhmjaaDoorGLift
import Derived.Test.YtnfbbjhdflhmjaaDoorCards
import Derived.Test.YtnfbbjhdflhmjaaDoorTie
import Derived.Test.YtnfbbjhdflhmjaaDoorGCg
import Derived.Deep.DeepHandedRow
set_option linter.unusedSimpArgs false
set_option linter.unusedVariables false
set_option maxRecDepth 10000
namespace Go.Proofs.YtnfbbjhdflhmjaaDoor.fnCoreStays
open Go.ChangeShapes Go.WideShapes Go.ChangeAt Go.RowKit Go.Al Go.ChangeMaps
theorem own : ownKnob Tryd.prog.godebug = none := by kernel_rfl
theorem lay_ok : laidOutB env.P = true := by kernel_rfl
theorem par_ok : ∀ t ∈ Tryd.f4.params.toList, env.P.readableRec t = true ∧ t < env.P.types.size := by
 rw [Tryd.params4]
 intro t ht
 simp only [List.mem_cons, List.not_mem_nil, or_false] at ht
 rcases ht with rfl | rfl | rfl
 all_goals exact ⟨by kernel_rfl, of_decide_eq_true (by kernel_rfl)⟩
theorem uBool : Tryd.prog.underlying 4 = some .bool := by kernel_rfl
noncomputable def tysC : TysC env.P where
 int := 3
 u32 := 57
 bool := 4
 ce := 110
 ces := 91
 cs := 93
 css := 47
 cf := 49
 cfs := 22
 co := 24
 uInt := by kernel_rfl
 uU32 := by kernel_rfl
 uBool := by kernel_rfl
 uCe := by kernel_rfl
 uCes := by kernel_rfl
 uCs := by kernel_rfl
 uCss := by kernel_rfl
 uCf := by kernel_rfl
 uCfs := by kernel_rfl
 uCo := by kernel_rfl
 c1 := by kernel_rfl
 cCe := by kernel_rfl
 cCs := by kernel_rfl
 cCf := by kernel_rfl
 cCo := by kernel_rfl
theorem uCoS : ∃ fs, Tryd.prog.underlying 24 = some (.struct fs) := by
 have h := tysC.uCo
 simp only [structOf] at h
 split at h
 ·rename_i fs hfs; exact ⟨fs, hfs⟩
 ·cases h
theorem uTwo : Tryd.prog.underlying 32 = some (.array 2 3) := by kernel_rfl
theorem uTi : Tryd.prog.underlying 3 = some (.int .i64) := by kernel_rfl
theorem cTi : Tryd.prog.cellsOf 3 = 1 := by kernel_rfl
theorem cTwo : Tryd.prog.cellsOf 32 = 2 := by kernel_rfl
theorem uStr0 : Tryd.prog.underlying 9 = some .string := by kernel_rfl
theorem contract (H : Type) (enc : TypeId × Value → H) (W : World) (base : Nat) (args : Array Value) (ds gs : List (DataW H)) (before : List MemPlace)
  (hval : ∀ (j : Nat) t v, Tryd.f4.params[j]? = some t → args[j]? = some v → Value.okWide Tryd.prog W .any base t v)
  (hW : DataW.Whole enc Tryd.prog Tryd.f4.params.toList Rows.coreStaysSpec.vars false W args.toList ds gs before) (hL : laidMetH Tryd.prog Rows.coreStaysRow.laid W) :
  Calls Tryd.prog 4 args W fun e W' => ∃ v, e = .returned v ∧ Rows.coreStaysSpec.post enc Tryd.prog Tryd.f4 false true false false W args v W' := by
 have hst := st_of_laid hL
 have hW2 := hW
 obtain ⟨p, q, hA, _⟩ := hW2
 rw [Tryd.params4] at hA hval
 obtain ⟨v0, vs0, d0, ds0, p0, q0, e0, rfl, rfl, h0, r0⟩ := trodAll_cons hA
 obtain ⟨v1, vs1, d1, ds1, p1, q1, e1, rfl, rfl, h1, r1⟩ := trodAll_cons r0
 obtain ⟨v2, vs2, d2, ds2, p2, q2, e2, rfl, rfl, h2, r2⟩ := trodAll_cons r1
 obtain ⟨rfl, rfl, rfl⟩ := trodAll_nil r2
 obtain rfl : args = #[v0, v1, v2] := by cases args; simp_all
 obtain ⟨x0, hx0, hv0⟩ := co_arg tysC uCoS (hval 0 _ v0 rfl rfl) h0
 obtain ⟨s1, rfl, rfl, rfl, hs1⟩ := open_string uStr0 (hval 1 _ v1 rfl rfl) h1
 obtain ⟨a2, b2, rfl, ha2, hb2⟩ := two_argI uTwo uTi cTi cTwo (hval 2 _ v2 rfl rfl) h2
 refine law_step (E := env) (xs := [x0.av, .str s1.data.toList, .agg [.int .i64 a2, .int .i64 b2]]) lay_ok par_ok rfl uBool rfl (fun ds h => ?_) hW hst ?_ (CoreStays_con x0 hx0 s1.data.toList a2 b2 ha2 hb2)
 ·rw [Tryd.params4] at h
  match ds, h with
  | [a, b, c], _ => exact ⟨rfl, rfl, rfl⟩
 ·simp only [LRel, VRel]
  exact ⟨_, _, rfl, by first | exact hv0 | simpa only [VRel, Co.av] using hv0, ⟨_, _, rfl, rfl, ⟨_, _, rfl, by first | rfl | exact ⟨_, rfl, _, _, rfl, rfl, _, _, rfl, rfl, rfl⟩, rfl⟩⟩⟩
noncomputable def laidWorld (os : Os) : World :=
 let w := World.holding Tryd.prog os ⟨#[], #[], []⟩
 { w with heap := w.heap.modify 0 fun
     | .cells _ t frozen => .cells (wordsL.map fun s => Value.string ⟨s.toArray⟩).toArray t frozen
     | o => o }
theorem laid_met (os : Os) : laidMet Tryd.prog Rows.coreStaysRow.laid ((laidWorld os).forCall (fun _ _ => 0) ⟨#[], #[.agg #[.int .i64 0, .slice Option.none 0 0], .string ⟨#[]⟩, .agg #[.int .i64 0, .int .i64 0]], []⟩).memory :=
 laidMet_of_run' 8 (by kernel_rfl) (by kernel_rfl)
theorem reads (os : Os) {H : Type} (enc : TypeId × Value → H) : ∃ places, DataW.whole enc Tryd.prog ((laidWorld os).forCall (fun _ _ => 0) ⟨#[], #[.agg #[.int .i64 0, .slice Option.none 0 0], .string ⟨#[]⟩, .agg #[.int .i64 0, .int .i64 0]], []⟩).memory Tryd.f4.params.toList Rows.coreStaysSpec.vars false (#[.agg #[.int .i64 0, .slice Option.none 0 0], .string ⟨#[]⟩, .agg #[.int .i64 0, .int .i64 0]] : Array Value).toList 8 = some ([.agg [.lit (.int .i64 0), .nil], .lit (.string []), .agg [.lit (.int .i64 0), .lit (.int .i64 0)]], [], places) :=
 ⟨[], by kernel_rfl⟩
set_option maxRecDepth 100000 in
theorem lifted (os : Os) (started : os.Started) (H : Type) (enc : TypeId × Value → H) (F : Stop.Interp) :
  ReturnsInHanded {} Tryd.checked os 4 .any ((OpenSpec.ofChange Rows.coreStaysSpec).preRow enc Tryd.prog Tryd.f4 Rows.coreStaysRow.domain false Rows.coreStaysRow.laid) (((OpenSpec.ofChange Rows.coreStaysSpec).at F).post enc Tryd.prog Tryd.f4 false true false false) := by
 obtain ⟨places, hx⟩ := reads os enc
 refine returnsInHanded_of_row (C := Tryd.checked) (s := OpenSpec.ofChange Rows.coreStaysSpec) own started (by kernel_rfl) Tryd.func4
  (witness_row_at (enc := enc) (C := Tryd.checked) false (laidWorld os) #[.agg #[.int .i64 0, .slice Option.none 0 0], .string ⟨#[]⟩, .agg #[.int .i64 0, .int .i64 0]] rfl (by kernel_rfl) (by kernel_rfl) (by kernel_rfl)
   (OpenSpec.preRow_of_cond 8 hx (by kernel_rfl) (fun k hk => by cases hk) (by kernel_rfl) (laid_met os))) ?_
 intro W base args ds gs before hval hW _ _ _ hL _ _
 exact contract H enc W base args ds gs before hval hW hL
theorem said : Rows.CoreStaysSaid :=
 OpenClaim.holds_of_cond 4 Tryd.f4 rfl rfl rfl rfl rfl rfl rfl ⟨rfl, rfl, rfl, rfl, rfl⟩ rfl rfl rfl rfl rfl (by kernel_rfl) Tryd.func4 (by kernel_rfl)
  (of_decide_eq_true (by kernel_rfl)) (by unfold Func.isWrapper; first | (rw [if_pos (by decide +kernel)]; kernel_rfl) | (rw [if_neg (by decide +kernel)]; exact ⟨rfl, rfl⟩))
  (fun os started H enc _ F => by rw [OpenClaim.pre_eq_preRow]; exact lifted os started H enc F)
theorem plain (f : FuncId) (fn : Func) (hf : Tryd.pinned.checked.prog.funcNamed "seedcorn/seedcornlaw19.CoreStays" = some f) (hfn : Tryd.pinned.checked.prog.funcs[f]? = some fn) :
  true = Tryd.pinned.checked.prog.looks [] ∧ ∀ (j : Nat) t, fn.params[j]? = some t → Tryd.pinned.checked.prog.wantsStandIn t = false := by
 obtain rfl : f = 4 := Option.some.inj ((show Tryd.prog.funcNamed "seedcorn/seedcornlaw19.CoreStays" = some 4 by kernel_rfl).symm.trans hf) |>.symm
 obtain rfl : fn = Tryd.f4 := (Option.some.inj (Tryd.func4.symm.trans hfn)).symm
 refine ⟨by kernel_rfl, fun j t ht => ?_⟩
 rw [Tryd.params4] at ht
 have hm := Array.mem_of_getElem? ht
 simp only [List.mem_toArray, List.mem_cons, List.not_mem_nil, or_false] at hm
 rcases hm with rfl | rfl | rfl
 all_goals exact (show Tryd.prog.wantsStandIn _ = false by kernel_rfl)
theorem card : Rows.CoreStaysCardSaid :=
 Claim7.holds_tied_plain_at .later [] _ _ _ _ said (fun _ h => by cases h) (by kernel_rfl) (fun _ h => by cases h) coreStays_row_tie rfl ⟨rfl, rfl⟩ (by kernel_rfl) rfl plain (by kernel_rfl)
end Go.Proofs.YtnfbbjhdflhmjaaDoor.fnCoreStays
