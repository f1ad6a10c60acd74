/- SelfFits: for every input it returns true and never panics; no conditions. -/
import Derived.Test.YtaecpjgmcffliaaGreatDoorMjl
import Derived.Test.YtaecpjgmcffliaaGreatDoorCards
import Derived.Test.YtaecpjgmcffliaaGreatDoorTie
import Derived.Deep.DeepHandedRow
set_option linter.unusedSimpArgs false
set_option linter.unusedVariables false
set_option maxRecDepth 10000
namespace Go.Proofs.YtaecpjgmcffliaaGreatDoor.fnSelfFits
open Go.ChangeShapes Go.WideShapes Go.ChangeAt Go.RowKit Go.Al Go.ChangeMaps
theorem own:ownKnob Tryz.prog.godebug=none:=by kernel_rfl
theorem QL:laidOutB dN.P=true:=by kernel_rfl
theorem QD: ∀t∈Tryz.f4.params.toList,dN.P.readableRec t=true∧t<dN.P.types.size:=by
 rw[Tryz.params4];intro t ht;simp only[bK,bM,dB]at ht;rcases ht with rfl
 all_goals exact⟨by kernel_rfl,aF (by kernel_rfl)⟩
theorem uBool:Tryz.prog.underlying 4=some .bool:=by kernel_rfl
theorem VV: ∃fs,Tryz.prog.underlying 26=some (.struct fs):=by
 have h:=WX.uPg;simp only[nK]at h;split at h
 ·rename_i fs hfs;exact⟨fs,hfs⟩
 cases h
theorem IU (H:Type) (enc:TypeId×Value→H) (W:World) (base:Nat) (args:Array Value) (ds gs:List (DataW H)) (before:List MemPlace)
  (hval: ∀(j:Nat) t v,Tryz.f4.params[j]?=some t→args[j]?=some v→Value.okWide Tryz.prog W .any base t v)
  (hW:DataW.Whole enc Tryz.prog Tryz.f4.params.toList Rows.selfFitsSpec.vars false W args.toList ds gs before) (hL:laidMetH Tryz.prog Rows.selfFitsUptoRow.laid W) (hk:Rows.uptoSmall H (ds++gs)=true):
  Calls Tryz.prog 4 args W fun e W'=> ∃v,e= .returned v∧Rows.selfFitsSpec.post enc Tryz.prog Tryz.f4 false true false false W args v W':=by
 have hst:=Zp hL;have hW2:=hW;obtain⟨p,q,hA,_⟩:=hW2;rw[Tryz.params4]at hA hval;obtain⟨v0,vs0,d0,ds0,p0,q0,e0,rfl,rfl,h0,r0⟩:=trodAll_cons hA;obtain⟨rfl,rfl,rfl⟩:=trodAll_nil r0;obtain rfl:args= #[v0]:=by cases args;simp_all
 obtain⟨x0,hx0,hv0⟩:=LC WX VV (hval 0 _ v0 rfl rfl) h0 (by have hB:Rows.uptoBulkAll _≤1048576:=aF hk;simp only[cN,Rows.uptoBulkAll]at hB;omega);refine GV (E:=dN) (xs:=[x0.av]) QL QD rfl uBool rfl (fun ds h=>?_) hW hst ?_ (Tj x0 hx0)
 ·rw[Tryz.params4]at h
  match ds,h with
  |[a],_=>exact⟨rfl,rfl,rfl⟩
 simp only[cU];exact⟨_,_,rfl,by first|exact hv0|simpa only[bZ,Pg.av]using hv0,rfl⟩
noncomputable def Bc (os:Os):World:=
 let w:=World.holding Tryz.prog os ⟨#[], #[],[]⟩
 {w with heap:=GX w.heap}
theorem GW (os:Os):laidMet Tryz.prog Rows.selfFitsUptoRow.laid ((Bc os).forCall (fun _ _=>0) ⟨#[], #[.agg #[.slice Option.none 0 0, .slice Option.none 0 0, .slice Option.none 0 0]],[]⟩).memory:=
 laidMet_of_run' 8 (by kernel_rfl) (by kernel_rfl)
theorem TT (os:Os) {H:Type} (enc:TypeId×Value→H): ∃places,DataW.whole enc Tryz.prog ((Bc os).forCall (fun _ _=>0) ⟨#[], #[.agg #[.slice Option.none 0 0, .slice Option.none 0 0, .slice Option.none 0 0]],[]⟩).memory Tryz.f4.params.toList Rows.selfFitsSpec.vars false (#[.agg #[.slice Option.none 0 0, .slice Option.none 0 0, .slice Option.none 0 0]]:Array Value).toList 8=some ([.agg [.nil, .nil, .nil]],[],places):=
 ⟨[],by kernel_rfl⟩
set_option maxRecDepth 100000 in
theorem QK (os:Os) (started:os.Started) (H:Type) (enc:TypeId×Value→H) (F:Stop.Interp):
  ReturnsInHanded {} Tryz.checked os 4 .any ((Rows.OpenSpec.upto Rows.selfFitsSpec).preRow enc Tryz.prog Tryz.f4 Rows.selfFitsUptoRow.domain false Rows.selfFitsUptoRow.laid) (((Rows.OpenSpec.upto Rows.selfFitsSpec).at F).post enc Tryz.prog Tryz.f4 false true false false):=by
 obtain⟨places,hx⟩:=TT os enc
 refine returnsInHanded_of_row (C:=Tryz.checked) (s:=Rows.OpenSpec.upto Rows.selfFitsSpec) own started (by kernel_rfl) Tryz.func4
  (witness_row_at (enc:=enc) (C:=Tryz.checked) false (Bc os) #[.agg #[.slice Option.none 0 0, .slice Option.none 0 0, .slice Option.none 0 0]] rfl (by kernel_rfl) (by kernel_rfl) (by kernel_rfl)
   (OpenSpec.preRow_of_cond 8 hx (by kernel_rfl) (fun k hk=>by cases hk;kernel_rfl) (by kernel_rfl) (GW os))) ?_
 intro W base args ds gs before hval hW _ hk _ hL _ _;exact IU H enc W base args ds gs before hval hW hL (hk _ rfl)
theorem WB:(Rows.selfFitsUptoRow.inPlace==Tryz.pinned.checked.prog.inPlace 4)=true:=by kernel_rfl
theorem WA:(Rows.selfFitsUptoRow.unfollowed==Tryz.pinned.checked.prog.unfollowed 4)=true:=by kernel_rfl
theorem VZ:(Rows.selfFitsUptoRow.recurses==Tryz.pinned.checked.prog.recurses 4)=true:=by kernel_rfl
theorem VY:(Rows.selfFitsUptoRow.named==Tryz.pinned.checked.prog.varsNamed 4)=true:=by kernel_rfl
theorem RA:joinedFacts Tryz.pinned.checked.prog 4 Tryz.f4 (Rows.OpenSpec.upto Rows.selfFitsSpec).bare Rows.selfFitsUptoRow=true:=by
 unfold joinedFacts;rw[WB,WA,VZ,VY]
 kernel_rfl
theorem said:Rows.SelfFitsUptoSaid:=
 OpenClaim.holds_of_cond 4 Tryz.f4 rfl rfl rfl rfl rfl rfl rfl ⟨rfl,rfl,rfl,rfl,rfl⟩ rfl rfl rfl rfl rfl (by kernel_rfl) Tryz.func4 RA
  (aF (by kernel_rfl)) (by unfold Func.isWrapper;first|(rw[bP (by decide+kernel)];kernel_rfl)|(rw[aM (by decide+kernel)];exact⟨rfl,rfl⟩))
  (fun os started H enc _ F=>by rw[OpenClaim.pre_eq_preRow];exact QK os started H enc F)
theorem pP (f:FuncId) (fn:Func) (hf:Tryz.pinned.checked.prog.funcNamed "seedcorn/seedcornlaw52.SelfFits" =some f) (hfn:Tryz.pinned.checked.prog.funcs[f]?=some fn):
  false=Tryz.pinned.checked.prog.looks []∧ ∀(j:Nat) t,fn.params[j]?=some t→Tryz.pinned.checked.prog.wantsStandIn t=false:=by
 obtain rfl:f=4:=Option.some.inj ((show Tryz.prog.funcNamed "seedcorn/seedcornlaw52.SelfFits" =some 4 by kernel_rfl).symm.trans hf)|>.symm
 obtain rfl:fn=Tryz.f4:=(Option.some.inj (Tryz.func4.symm.trans hfn)).symm;refine⟨by kernel_rfl,fun j t ht=>?_⟩;rw[Tryz.params4]at ht;have hm:=Ks ht;simp only[wF,bK,bM,dB]at hm;rcases hm with rfl
 all_goals exact(show Tryz.prog.wantsStandIn _=false by kernel_rfl)
theorem card:Rows.SelfFitsUptoCardSaid:=
 Claim7.holds_tied_plain_at .later [] _ _ _ _ said (fun _ h=>by cases h) (by kernel_rfl) (fun _ h=>by cases h) selfFitsUpto_row_tie rfl ⟨rfl,rfl⟩ (by kernel_rfl) rfl pP (by kernel_rfl)
end Go.Proofs.YtaecpjgmcffliaaGreatDoor.fnSelfFits
