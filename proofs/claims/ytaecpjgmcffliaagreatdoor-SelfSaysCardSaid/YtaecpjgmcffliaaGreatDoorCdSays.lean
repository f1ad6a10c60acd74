/- SelfSays: for every input it returns true and never panics; no conditions. -/
import Derived.Test.YtaecpjgmcffliaaGreatDoorXk
import Derived.Test.YtaecpjgmcffliaaGreatDoorCards
import Derived.Test.YtaecpjgmcffliaaGreatDoorTie
import Derived.Deep.DeepHandedRow
set_option linter.unusedSimpArgs false
set_option linter.unusedVariables false
set_option maxRecDepth 10000
namespace Go.Proofs.YtaecpjgmcffliaaGreatDoor.fnSelfSays
open Go.ChangeShapes Go.WideShapes Go.ChangeAt Go.RowKit Go.Al Go.ChangeMaps
theorem own:ownKnob Tryz.prog.godebug=none:=by kernel_rfl
theorem TV:laidOutB dV.P=true:=by kernel_rfl
theorem TL: ∀t∈Tryz.f9.params.toList,dV.P.readableRec t=true∧t<dV.P.types.size:=by
 rw[Tryz.params9];intro t ht;simp only[bP,bO,dF]at ht;rcases ht with rfl
 all_goals exact⟨by kernel_rfl,aB (by kernel_rfl)⟩
theorem QI:Tryz.prog.underlying 4=some .bool:=by kernel_rfl
theorem VL:Tryz.prog.underlying 9=some .string:=by kernel_rfl
theorem LH (H:Type) (enc:TypeId×Value→H) (W:World) (base:Nat) (args:Array Value) (ds gs:List (DataW H)) (before:List MemPlace)
  (hval: ∀(j:Nat) t v,Tryz.f9.params[j]?=some t→args[j]?=some v→Value.okWide Tryz.prog W .any base t v)
  (hW:DataW.Whole enc Tryz.prog Tryz.f9.params.toList Rows.selfSaysSpec.vars false W args.toList ds gs before) (hL:laidMetH Tryz.prog Rows.selfSaysRow.laid W):
  Calls Tryz.prog 9 args W fun e W'=> ∃v,e= .returned v∧Rows.selfSaysSpec.post enc Tryz.prog Tryz.f9 false true false false W args v W':=by
 have hst:=G1 hL;have hW2:=hW;obtain⟨p,q,hA,_⟩:=hW2;rw[Tryz.params9]at hA hval;obtain⟨v0,vs0,d0,ds0,p0,q0,e0,rfl,rfl,h0,r0⟩:=trodAll_cons hA;obtain⟨rfl,rfl,rfl⟩:=trodAll_nil r0;obtain rfl:args= #[v0]:=by cases args;simp_all
 obtain⟨s0,rfl,rfl,rfl,hs0⟩:=open_string VL (hval 0 _ v0 rfl rfl) h0;refine JP (E:=dV) (xs:=[.str s0.data.toList]) TV TL rfl QI rfl (fun ds h=>?_) hW hst ?_ (Vd s0.data.toList)
 ·rw[Tryz.params9]at h
  match ds,h with
  |[a],_=>exact⟨rfl,rfl,rfl⟩
 simp only[dJ,cK];exact⟨_,_,rfl,rfl,rfl⟩
noncomputable def Dk (os:Os):World:=
 let w:=World.holding Tryz.prog os ⟨#[], #[],[]⟩
 {w with heap:=JR w.heap}
theorem JQ (os:Os):laidMet Tryz.prog Rows.selfSaysRow.laid ((Dk os).forCall (fun _ _=>0) ⟨#[], #[.string ⟨#[]⟩],[]⟩).memory:=
 laidMet_of_run' 8 (by kernel_rfl) (by kernel_rfl)
theorem WB (os:Os) {H:Type} (enc:TypeId×Value→H): ∃places,DataW.whole enc Tryz.prog ((Dk os).forCall (fun _ _=>0) ⟨#[], #[.string ⟨#[]⟩],[]⟩).memory Tryz.f9.params.toList Rows.selfSaysSpec.vars false (#[.string ⟨#[]⟩]:Array Value).toList 8=some ([.lit (.string [])],[],places):=
 ⟨[],by kernel_rfl⟩
set_option maxRecDepth 100000 in
theorem TT (os:Os) (started:os.Started) (H:Type) (enc:TypeId×Value→H) (F:Stop.Interp):
  ReturnsInHanded {} Tryz.checked os 9 .any ((OpenSpec.ofChange Rows.selfSaysSpec).preRow enc Tryz.prog Tryz.f9 Rows.selfSaysRow.domain false Rows.selfSaysRow.laid) (((OpenSpec.ofChange Rows.selfSaysSpec).at F).post enc Tryz.prog Tryz.f9 false true false false):=by
 obtain⟨places,hx⟩:=WB os enc
 refine returnsInHanded_of_row (C:=Tryz.checked) (s:=OpenSpec.ofChange Rows.selfSaysSpec) own started (by kernel_rfl) Tryz.func9
  (witness_row_at (enc:=enc) (C:=Tryz.checked) false (Dk os) #[.string ⟨#[]⟩] rfl (by kernel_rfl) (by kernel_rfl) (by kernel_rfl)
   (OpenSpec.preRow_of_cond 8 hx (by kernel_rfl) (fun k hk=>by cases hk) (by kernel_rfl) (JQ os))) ?_
 intro W base args ds gs before hval hW _ _ _ hL _ _;exact LH H enc W base args ds gs before hval hW hL
theorem YJ:(Rows.selfSaysRow.inPlace==Tryz.pinned.checked.prog.inPlace 9)=true:=by kernel_rfl
theorem YI:(Rows.selfSaysRow.unfollowed==Tryz.pinned.checked.prog.unfollowed 9)=true:=by kernel_rfl
theorem YH:(Rows.selfSaysRow.recurses==Tryz.pinned.checked.prog.recurses 9)=true:=by kernel_rfl
theorem YG:(Rows.selfSaysRow.named==Tryz.pinned.checked.prog.varsNamed 9)=true:=by kernel_rfl
theorem UK:joinedFacts Tryz.pinned.checked.prog 9 Tryz.f9 (OpenSpec.ofChange Rows.selfSaysSpec).bare Rows.selfSaysRow=true:=by
 unfold joinedFacts;rw[YJ,YI,YH,YG]
 kernel_rfl
theorem said:Rows.SelfSaysSaid:=
 OpenClaim.holds_of_cond 9 Tryz.f9 rfl rfl rfl rfl rfl rfl rfl ⟨rfl,rfl,rfl,rfl,rfl⟩ rfl rfl rfl rfl rfl (by kernel_rfl) Tryz.func9 UK
  (aB (by kernel_rfl)) (by unfold Func.isWrapper;first|(rw[bH (by decide+kernel)];kernel_rfl)|(rw[aL (by decide+kernel)];exact⟨rfl,rfl⟩))
  (fun os started H enc _ F=>by rw[OpenClaim.pre_eq_preRow];exact TT os started H enc F)
theorem pZ (f:FuncId) (fn:Func) (hf:Tryz.pinned.checked.prog.funcNamed "seedcorn/seedcornlaw52.SelfSays" =some f) (hfn:Tryz.pinned.checked.prog.funcs[f]?=some fn):
  false=Tryz.pinned.checked.prog.looks []∧ ∀(j:Nat) t,fn.params[j]?=some t→Tryz.pinned.checked.prog.wantsStandIn t=false:=by
 obtain rfl:f=9:=Option.some.inj ((show Tryz.prog.funcNamed "seedcorn/seedcornlaw52.SelfSays" =some 9 by kernel_rfl).symm.trans hf)|>.symm
 obtain rfl:fn=Tryz.f9:=(Option.some.inj (Tryz.func9.symm.trans hfn)).symm;refine⟨by kernel_rfl,fun j t ht=>?_⟩;rw[Tryz.params9]at ht;have hm:=tV ht;simp only[xC,bP,bO,dF]at hm;rcases hm with rfl
 all_goals exact(show Tryz.prog.wantsStandIn _=false by kernel_rfl)
theorem card:Rows.SelfSaysCardSaid:=
 Claim7.holds_tied_plain_at .later [] _ _ _ _ said (fun _ h=>by cases h) (by kernel_rfl) (fun _ h=>by cases h) selfSays_row_tie rfl ⟨rfl,rfl⟩ (by kernel_rfl) rfl pZ (by kernel_rfl)
end Go.Proofs.YtaecpjgmcffliaaGreatDoor.fnSelfSays
