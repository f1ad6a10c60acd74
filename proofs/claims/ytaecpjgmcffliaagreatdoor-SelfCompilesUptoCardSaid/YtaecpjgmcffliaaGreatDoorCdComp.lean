/- SelfCompiles: for every input it returns true and never panics; no conditions. -/
import Derived.Test.YtaecpjgmcffliaaGreatDoorXj
import Derived.Test.YtaecpjgmcffliaaGreatDoorCards
import Derived.Test.YtaecpjgmcffliaaGreatDoorTie
import Derived.Deep.DeepHandedRow
set_option linter.unusedSimpArgs false
set_option linter.unusedVariables false
set_option maxRecDepth 10000
namespace Go.Proofs.YtaecpjgmcffliaaGreatDoor.fnSelfCompiles
open Go.ChangeShapes Go.WideShapes Go.ChangeAt Go.RowKit Go.Al Go.ChangeMaps
theorem own:ownKnob Tryz.prog.godebug=none:=by kernel_rfl
theorem TD:laidOutB dR.P=true:=by kernel_rfl
theorem SN: ∀t∈Tryz.f5.params.toList,dR.P.readableRec t=true∧t<dR.P.types.size:=by
 rw[Tryz.params5];intro t ht;simp only[bJ,bL,dD]at ht;rcases ht with rfl|rfl
 all_goals exact⟨by kernel_rfl,aD (by kernel_rfl)⟩
theorem uBool:Tryz.prog.underlying 4=some .bool:=by kernel_rfl
theorem XW: ∃fs,Tryz.prog.underlying 26=some (.struct fs):=by
 have h:=YV.uPg;simp only[nZ]at h;split at h
 ·rename_i fs hfs;exact⟨fs,hfs⟩
 cases h
theorem VD:Tryz.prog.underlying 9=some .string:=by kernel_rfl
theorem KH (H:Type) (enc:TypeId×Value→H) (W:World) (base:Nat) (args:Array Value) (ds gs:List (DataW H)) (before:List MemPlace)
  (hval: ∀(j:Nat) t v,Tryz.f5.params[j]?=some t→args[j]?=some v→Value.okWide Tryz.prog W .any base t v)
  (hW:DataW.Whole enc Tryz.prog Tryz.f5.params.toList Rows.selfCompilesSpec.vars false W args.toList ds gs before) (hL:laidMetH Tryz.prog Rows.selfCompilesUptoRow.laid W) (hk:Rows.uptoSmall H (ds++gs)=true):
  Calls Tryz.prog 5 args W fun e W'=> ∃v,e= .returned v∧Rows.selfCompilesSpec.post enc Tryz.prog Tryz.f5 false true false false W args v W':=by
 have hst:=D1 hL;have hW2:=hW;obtain⟨p,q,hA,_⟩:=hW2;rw[Tryz.params5]at hA hval;obtain⟨v0,vs0,d0,ds0,p0,q0,e0,rfl,rfl,h0,r0⟩:=trodAll_cons hA;obtain⟨v1,vs1,d1,ds1,p1,q1,e1,rfl,rfl,h1,r1⟩:=trodAll_cons r0;obtain⟨rfl,rfl,rfl⟩:=trodAll_nil r1;obtain rfl:args= #[v0,v1]:=by cases args;simp_all
 obtain⟨x0,hx0,hv0⟩:=MP YV XW (hval 0 _ v0 rfl rfl) h0 (by have hB:Rows.uptoBulkAll _≤1048576:=aD hk;simp only[cU,Rows.uptoBulkAll]at hB;omega);obtain⟨s1,rfl,rfl,rfl,hs1⟩:=open_string VD (hval 1 _ v1 rfl rfl) h1;refine IT (E:=dR) (xs:=[x0.av, .str s1.data.toList]) TD SN rfl uBool rfl (fun ds h=>?_) hW hst ?_ (Dw x0 hx0 s1.data.toList)
 ·rw[Tryz.params5]at h
  match ds,h with
  |[a,b],_=>exact⟨rfl,rfl,rfl⟩
 simp only[cY,cB];exact⟨_,_,rfl,by first|exact hv0|simpa only[cB,Pg.av]using hv0,⟨_,_,rfl,rfl,rfl⟩⟩
noncomputable def Cm (os:Os):World:=
 let w:=World.holding Tryz.prog os ⟨#[], #[],[]⟩
 {w with heap:=IV w.heap}
theorem IU (os:Os):laidMet Tryz.prog Rows.selfCompilesUptoRow.laid ((Cm os).forCall (fun _ _=>0) ⟨#[], #[.agg #[.slice Option.none 0 0, .slice Option.none 0 0, .slice Option.none 0 0], .string ⟨#[]⟩],[]⟩).memory:=
 laidMet_of_run' 8 (by kernel_rfl) (by kernel_rfl)
theorem VW (os:Os) {H:Type} (enc:TypeId×Value→H): ∃places,DataW.whole enc Tryz.prog ((Cm os).forCall (fun _ _=>0) ⟨#[], #[.agg #[.slice Option.none 0 0, .slice Option.none 0 0, .slice Option.none 0 0], .string ⟨#[]⟩],[]⟩).memory Tryz.f5.params.toList Rows.selfCompilesSpec.vars false (#[.agg #[.slice Option.none 0 0, .slice Option.none 0 0, .slice Option.none 0 0], .string ⟨#[]⟩]:Array Value).toList 8=some ([.agg [.nil, .nil, .nil], .lit (.string [])],[],places):=
 ⟨[],by kernel_rfl⟩
set_option maxRecDepth 100000 in
theorem TC (os:Os) (started:os.Started) (H:Type) (enc:TypeId×Value→H) (F:Stop.Interp):
  ReturnsInHanded {} Tryz.checked os 5 .any ((Rows.OpenSpec.upto Rows.selfCompilesSpec).preRow enc Tryz.prog Tryz.f5 Rows.selfCompilesUptoRow.domain false Rows.selfCompilesUptoRow.laid) (((Rows.OpenSpec.upto Rows.selfCompilesSpec).at F).post enc Tryz.prog Tryz.f5 false true false false):=by
 obtain⟨places,hx⟩:=VW os enc
 refine returnsInHanded_of_row (C:=Tryz.checked) (s:=Rows.OpenSpec.upto Rows.selfCompilesSpec) own started (by kernel_rfl) Tryz.func5
  (witness_row_at (enc:=enc) (C:=Tryz.checked) false (Cm os) #[.agg #[.slice Option.none 0 0, .slice Option.none 0 0, .slice Option.none 0 0], .string ⟨#[]⟩] rfl (by kernel_rfl) (by kernel_rfl) (by kernel_rfl)
   (OpenSpec.preRow_of_cond 8 hx (by kernel_rfl) (fun k hk=>by cases hk;kernel_rfl) (by kernel_rfl) (IU os))) ?_
 intro W base args ds gs before hval hW _ hk _ hL _ _;exact KH H enc W base args ds gs before hval hW hL (hk _ rfl)
theorem YF:(Rows.selfCompilesUptoRow.inPlace==Tryz.pinned.checked.prog.inPlace 5)=true:=by kernel_rfl
theorem YE:(Rows.selfCompilesUptoRow.unfollowed==Tryz.pinned.checked.prog.unfollowed 5)=true:=by kernel_rfl
theorem YD:(Rows.selfCompilesUptoRow.recurses==Tryz.pinned.checked.prog.recurses 5)=true:=by kernel_rfl
theorem YC:(Rows.selfCompilesUptoRow.named==Tryz.pinned.checked.prog.varsNamed 5)=true:=by kernel_rfl
theorem TZ:joinedFacts Tryz.pinned.checked.prog 5 Tryz.f5 (Rows.OpenSpec.upto Rows.selfCompilesSpec).bare Rows.selfCompilesUptoRow=true:=by
 unfold joinedFacts;rw[YF,YE,YD,YC]
 kernel_rfl
theorem said:Rows.SelfCompilesUptoSaid:=
 OpenClaim.holds_of_cond 5 Tryz.f5 rfl rfl rfl rfl rfl rfl rfl ⟨rfl,rfl,rfl,rfl,rfl⟩ rfl rfl rfl rfl rfl (by kernel_rfl) Tryz.func5 TZ
  (aD (by kernel_rfl)) (by unfold Func.isWrapper;first|(rw[bF (by decide+kernel)];kernel_rfl)|(rw[aO (by decide+kernel)];exact⟨rfl,rfl⟩))
  (fun os started H enc _ F=>by rw[OpenClaim.pre_eq_preRow];exact TC os started H enc F)
theorem qJ (f:FuncId) (fn:Func) (hf:Tryz.pinned.checked.prog.funcNamed "seedcorn/seedcornlaw52.SelfCompiles" =some f) (hfn:Tryz.pinned.checked.prog.funcs[f]?=some fn):
  false=Tryz.pinned.checked.prog.looks []∧ ∀(j:Nat) t,fn.params[j]?=some t→Tryz.pinned.checked.prog.wantsStandIn t=false:=by
 obtain rfl:f=5:=Option.some.inj ((show Tryz.prog.funcNamed "seedcorn/seedcornlaw52.SelfCompiles" =some 5 by kernel_rfl).symm.trans hf)|>.symm
 obtain rfl:fn=Tryz.f5:=(Option.some.inj (Tryz.func5.symm.trans hfn)).symm;refine⟨by kernel_rfl,fun j t ht=>?_⟩;rw[Tryz.params5]at ht;have hm:=uC ht;simp only[wZ,bJ,bL,dD]at hm;rcases hm with rfl|rfl
 all_goals exact(show Tryz.prog.wantsStandIn _=false by kernel_rfl)
theorem card:Rows.SelfCompilesUptoCardSaid:=
 Claim7.holds_tied_plain_at .later [] _ _ _ _ said (fun _ h=>by cases h) (by kernel_rfl) (fun _ h=>by cases h) selfCompilesUpto_row_tie rfl ⟨rfl,rfl⟩ (by kernel_rfl) rfl qJ (by kernel_rfl)
end Go.Proofs.YtaecpjgmcffliaaGreatDoor.fnSelfCompiles
