/- CoreSound: for every input it returns true and never panics; no conditions. -/
import Derived.Test.YtnfbbjhdflhmjaaGreatDoorGZb
import Derived.Test.YtnfbbjhdflhmjaaGreatDoorGLift
import Derived.Test.YtnfbbjhdflhmjaaGreatDoorCards
import Derived.Test.YtnfbbjhdflhmjaaGreatDoorTie
import Derived.Deep.DeepHandedRow
set_option linter.unusedSimpArgs false
set_option linter.unusedVariables false
set_option maxRecDepth 10000
namespace Go.Proofs.YtnfbbjhdflhmjaaGreatDoor.fnCoreSound
open Go.ChangeShapes Go.WideShapes Go.ChangeAt Go.RowKit Go.Al Go.ChangeMaps
theorem own:ownKnob Tryz.prog.godebug=none:=by kernel_rfl
theorem Kb:laidOutB cK.P=true:=by kernel_rfl
theorem Js: ∀t∈Tryz.f3.params.toList,cK.P.readableRec t=true∧t<cK.P.types.size:=by
 rw[Tryz.params3];intro t ht;simp only[List.mem_cons,List.not_mem_nil,or_false]at ht;rcases ht with rfl
 all_goals exact⟨by kernel_rfl,aC (by kernel_rfl)⟩
theorem uBool:Tryz.prog.underlying 4=some .bool:=by kernel_rfl
theorem Ys: ∃fs,Tryz.prog.underlying 26=some (.struct fs):=by
 have h:=L3.uPg;simp only[jO]at h;split at h
 ·rename_i fs hfs;exact⟨fs,hfs⟩
 cases h
theorem pT (H:Type) (enc:TypeId×Value→H) (W:World) (base:Nat) (args:Array Value) (ds gs:List (DataW H)) (before:List MemPlace)
  (hval: ∀(j:Nat) t v,Tryz.f3.params[j]?=some t→args[j]?=some v→Value.okWide Tryz.prog W .any base t v)
  (hW:DataW.Whole enc Tryz.prog Tryz.f3.params.toList Rows.coreSoundSpec.vars false W args.toList ds gs before) (hL:laidMetH Tryz.prog Rows.coreSoundRow.laid W):
  Calls Tryz.prog 3 args W fun e W'=> ∃v,e= .returned v∧Rows.coreSoundSpec.post enc Tryz.prog Tryz.f3 false true false false W args v W':=by
 have hst:=wV hL;have hW2:=hW;obtain⟨p,q,hA,_⟩:=hW2;rw[Tryz.params3]at hA hval;obtain⟨v0,vs0,d0,ds0,p0,q0,e0,rfl,rfl,h0,r0⟩:=trodAll_cons hA;obtain⟨rfl,rfl,rfl⟩:=trodAll_nil r0;obtain rfl:args= #[v0]:=by cases args;simp_all
 obtain⟨x0,hx0,hv0⟩:=Sz L3 Ys (hval 0 _ v0 rfl rfl) h0;refine Gm (E:=cK) (xs:=[x0.av]) Kb Js rfl uBool rfl (fun ds h=>?_) hW hst ?_ (Az x0 hx0)
 ·rw[Tryz.params3]at h
  match ds,h with
  |[a],_=>exact⟨rfl,rfl,rfl⟩
 simp only[bV];exact⟨_,_,rfl,by first|exact hv0|simpa only[bL,Pg.av]using hv0,rfl⟩
noncomputable def kA (os:Os):World:=
 let w:=World.holding Tryz.prog os ⟨#[], #[],[]⟩
 {w with heap:=w.heap.modify 0 fun
    | .cells _ t frozen=> .cells (dL.map fun s=>Value.string ⟨s.toArray⟩).toArray t frozen
    |o=>o}
theorem xZ (os:Os):laidMet Tryz.prog Rows.coreSoundRow.laid ((kA os).forCall (fun _ _=>0) ⟨#[], #[.agg #[.slice Option.none 0 0, .slice Option.none 0 0, .slice Option.none 0 0]],[]⟩).memory:=
 laidMet_of_run' 8 (by kernel_rfl) (by kernel_rfl)
theorem Mi (os:Os) {H:Type} (enc:TypeId×Value→H): ∃places,DataW.whole enc Tryz.prog ((kA os).forCall (fun _ _=>0) ⟨#[], #[.agg #[.slice Option.none 0 0, .slice Option.none 0 0, .slice Option.none 0 0]],[]⟩).memory Tryz.f3.params.toList Rows.coreSoundSpec.vars false (#[.agg #[.slice Option.none 0 0, .slice Option.none 0 0, .slice Option.none 0 0]]:Array Value).toList 8=some ([.agg [.nil, .nil, .nil]],[],places):=
 ⟨[],by kernel_rfl⟩
set_option maxRecDepth 100000 in
theorem Jy (os:Os) (started:os.Started) (H:Type) (enc:TypeId×Value→H) (F:Stop.Interp):
  ReturnsInHanded {} Tryz.checked os 3 .any ((OpenSpec.ofChange Rows.coreSoundSpec).preRow enc Tryz.prog Tryz.f3 Rows.coreSoundRow.domain false Rows.coreSoundRow.laid) (((OpenSpec.ofChange Rows.coreSoundSpec).at F).post enc Tryz.prog Tryz.f3 false true false false):=by
 obtain⟨places,hx⟩:=Mi os enc
 refine returnsInHanded_of_row (C:=Tryz.checked) (s:=OpenSpec.ofChange Rows.coreSoundSpec) own started (by kernel_rfl) Tryz.func3
  (witness_row_at (enc:=enc) (C:=Tryz.checked) false (kA os) #[.agg #[.slice Option.none 0 0, .slice Option.none 0 0, .slice Option.none 0 0]] rfl (by kernel_rfl) (by kernel_rfl) (by kernel_rfl)
   (OpenSpec.preRow_of_cond 8 hx (by kernel_rfl) (fun k hk=>by cases hk) (by kernel_rfl) (xZ os))) ?_
 intro W base args ds gs before hval hW _ _ _ hL _ _;exact pT H enc W base args ds gs before hval hW hL
theorem said:Rows.CoreSoundSaid:=
 OpenClaim.holds_of_cond 3 Tryz.f3 rfl rfl rfl rfl rfl rfl rfl ⟨rfl,rfl,rfl,rfl,rfl⟩ rfl rfl rfl rfl rfl (by kernel_rfl) Tryz.func3 (by kernel_rfl)
  (aC (by kernel_rfl)) (by unfold Func.isWrapper;first|(rw[if_pos (by decide+kernel)];kernel_rfl)|(rw[if_neg (by decide+kernel)];exact⟨rfl,rfl⟩))
  (fun os started H enc _ F=>by rw[OpenClaim.pre_eq_preRow];exact Jy os started H enc F)
theorem iU (f:FuncId) (fn:Func) (hf:Tryz.pinned.checked.prog.funcNamed "seedcorn/seedcornlaw19.CoreSound" =some f) (hfn:Tryz.pinned.checked.prog.funcs[f]?=some fn):
  true=Tryz.pinned.checked.prog.looks []∧ ∀(j:Nat) t,fn.params[j]?=some t→Tryz.pinned.checked.prog.wantsStandIn t=false:=by
 obtain rfl:f=3:=Option.some.inj ((show Tryz.prog.funcNamed "seedcorn/seedcornlaw19.CoreSound" =some 3 by kernel_rfl).symm.trans hf)|>.symm
 obtain rfl:fn=Tryz.f3:=(Option.some.inj (Tryz.func3.symm.trans hfn)).symm;refine⟨by kernel_rfl,fun j t ht=>?_⟩;rw[Tryz.params3]at ht;have hm:=Array.mem_of_getElem? ht;simp only[List.mem_toArray,List.mem_cons,List.not_mem_nil,or_false]at hm;rcases hm with rfl
 all_goals exact(show Tryz.prog.wantsStandIn _=false by kernel_rfl)
theorem card:Rows.CoreSoundCardSaid:=
 Claim7.holds_tied_plain_at .later [] _ _ _ _ said (fun _ h=>by cases h) (by kernel_rfl) (fun _ h=>by cases h) coreSound_row_tie rfl ⟨rfl,rfl⟩ (by kernel_rfl) rfl iU (by kernel_rfl)
end Go.Proofs.YtnfbbjhdflhmjaaGreatDoor.fnCoreSound
