/- SelfAgain: for every input it returns true and never panics; no conditions. -/
import Derived.Test.YtaecpjgmcffliaaGreatDoorXj
import Derived.Test.YtaecpjgmcffliaaGreatDoorCards
import Derived.Test.YtaecpjgmcffliaaGreatDoorTie
import Derived.Deep.DeepHandedRow
set_option linter.unusedSimpArgs false
set_option linter.unusedVariables false
set_option maxRecDepth 10000
namespace Go.Proofs.YtaecpjgmcffliaaGreatDoor.fnSelfAgain
open Go.ChangeShapes Go.WideShapes Go.ChangeAt Go.RowKit Go.Al Go.ChangeMaps
theorem own:ownKnob Tryz.prog.godebug=none:=by kernel_rfl
theorem SA:laidOutB dP.P=true:=by kernel_rfl
theorem RO: ∀t∈Tryz.f6.params.toList,dP.P.readableRec t=true∧t<dP.P.types.size:=by
 rw[Tryz.params6];intro t ht;cases ht
theorem OU:Tryz.prog.underlying 4=some .bool:=by kernel_rfl
theorem JZ (H:Type) (enc:TypeId×Value→H) (W:World) (base:Nat) (args:Array Value) (ds gs:List (DataW H)) (before:List MemPlace)
  (hval: ∀(j:Nat) t v,Tryz.f6.params[j]?=some t→args[j]?=some v→Value.okWide Tryz.prog W .any base t v)
  (hW:DataW.Whole enc Tryz.prog Tryz.f6.params.toList Rows.selfAgainSpec.vars false W args.toList ds gs before) (hL:laidMetH Tryz.prog Rows.selfAgainRow.laid W):
  Calls Tryz.prog 6 args W fun e W'=> ∃v,e= .returned v∧Rows.selfAgainSpec.post enc Tryz.prog Tryz.f6 false true false false W args v W':=by
 have hst:=D1 hL;have hW2:=hW;obtain⟨p,q,hA,_⟩:=hW2;rw[Tryz.params6]at hA hval;obtain⟨ha,rfl,rfl⟩:=trodAll_nil hA;obtain rfl:args= #[]:=by rcases args with⟨l⟩;simp only at ha;rw[ha]
 refine II (E:=dP) (xs:=[]) SA RO rfl OU rfl (fun ds h=>?_) hW hst ?_ (Oa)
 ·rw[Tryz.params6]at h
  match ds,h with
  |[],_=>exact⟨rfl,rfl,rfl⟩
 simp only[dF]
noncomputable def Ce (os:Os):World:=
 let w:=World.holding Tryz.prog os ⟨#[], #[],[]⟩
 {w with heap:=IK w.heap}
theorem IJ (os:Os):laidMet Tryz.prog Rows.selfAgainRow.laid ((Ce os).forCall (fun _ _=>0) ⟨#[], #[],[]⟩).memory:=
 laidMet_of_run' 8 (by kernel_rfl) (by kernel_rfl)
theorem UY (os:Os) {H:Type} (enc:TypeId×Value→H): ∃places,DataW.whole enc Tryz.prog ((Ce os).forCall (fun _ _=>0) ⟨#[], #[],[]⟩).memory Tryz.f6.params.toList Rows.selfAgainSpec.vars false (#[]:Array Value).toList 8=some ([],[],places):=
 ⟨[],by kernel_rfl⟩
set_option maxRecDepth 100000 in
theorem RZ (os:Os) (started:os.Started) (H:Type) (enc:TypeId×Value→H) (F:Stop.Interp):
  ReturnsInHanded {} Tryz.checked os 6 .any ((OpenSpec.ofChange Rows.selfAgainSpec).preRow enc Tryz.prog Tryz.f6 Rows.selfAgainRow.domain false Rows.selfAgainRow.laid) (((OpenSpec.ofChange Rows.selfAgainSpec).at F).post enc Tryz.prog Tryz.f6 false true false false):=by
 obtain⟨places,hx⟩:=UY os enc
 refine returnsInHanded_of_row (C:=Tryz.checked) (s:=OpenSpec.ofChange Rows.selfAgainSpec) own started (by kernel_rfl) Tryz.func6
  (witness_row_at (enc:=enc) (C:=Tryz.checked) false (Ce os) #[] rfl (by kernel_rfl) (by kernel_rfl) (by kernel_rfl)
   (OpenSpec.preRow_of_cond 8 hx (by kernel_rfl) (fun k hk=>by cases hk) (by kernel_rfl) (IJ os))) ?_
 intro W base args ds gs before hval hW _ _ _ hL _ _;exact JZ H enc W base args ds gs before hval hW hL
theorem XI:(Rows.selfAgainRow.inPlace==Tryz.pinned.checked.prog.inPlace 6)=true:=by kernel_rfl
theorem XH:(Rows.selfAgainRow.unfollowed==Tryz.pinned.checked.prog.unfollowed 6)=true:=by kernel_rfl
theorem XG:(Rows.selfAgainRow.recurses==Tryz.pinned.checked.prog.recurses 6)=true:=by kernel_rfl
theorem XF:(Rows.selfAgainRow.named==Tryz.pinned.checked.prog.varsNamed 6)=true:=by kernel_rfl
theorem SV:joinedFacts Tryz.pinned.checked.prog 6 Tryz.f6 (OpenSpec.ofChange Rows.selfAgainSpec).bare Rows.selfAgainRow=true:=by
 unfold joinedFacts;rw[XI,XH,XG,XF]
 kernel_rfl
theorem said:Rows.SelfAgainSaid:=
 OpenClaim.holds_of_cond 6 Tryz.f6 rfl rfl rfl rfl rfl rfl rfl ⟨rfl,rfl,rfl,rfl,rfl⟩ rfl rfl rfl rfl rfl (by kernel_rfl) Tryz.func6 SV
  (aD (by kernel_rfl)) (by unfold Func.isWrapper;first|(rw[bD (by decide+kernel)];kernel_rfl)|(rw[aJ (by decide+kernel)];exact⟨rfl,rfl⟩))
  (fun os started H enc _ F=>by rw[OpenClaim.pre_eq_preRow];exact RZ os started H enc F)
theorem qE (f:FuncId) (fn:Func) (hf:Tryz.pinned.checked.prog.funcNamed "seedcorn/seedcornlaw52.SelfAgain" =some f) (hfn:Tryz.pinned.checked.prog.funcs[f]?=some fn):
  false=Tryz.pinned.checked.prog.looks []∧ ∀(j:Nat) t,fn.params[j]?=some t→Tryz.pinned.checked.prog.wantsStandIn t=false:=by
 obtain rfl:f=6:=Option.some.inj ((show Tryz.prog.funcNamed "seedcorn/seedcornlaw52.SelfAgain" =some 6 by kernel_rfl).symm.trans hf)|>.symm
 obtain rfl:fn=Tryz.f6:=(Option.some.inj (Tryz.func6.symm.trans hfn)).symm;refine⟨by kernel_rfl,fun j t ht=>?_⟩;rw[Tryz.params6]at ht;have hm:=uB ht;simp at hm
theorem card:Rows.SelfAgainCardSaid:=
 Claim7.holds_tied_plain_at .later [] _ _ _ _ said (fun _ h=>by cases h) (by kernel_rfl) (fun _ h=>by cases h) selfAgain_row_tie rfl ⟨rfl,rfl⟩ (by kernel_rfl) rfl qE (by kernel_rfl)
end Go.Proofs.YtaecpjgmcffliaaGreatDoor.fnSelfAgain
