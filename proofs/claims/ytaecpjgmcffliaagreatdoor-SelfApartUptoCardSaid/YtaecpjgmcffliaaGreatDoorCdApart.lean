/- SelfApart: for every input it returns true and never panics; no conditions. -/
import Derived.Test.YtaecpjgmcffliaaGreatDoorGSmf
import Derived.Test.YtaecpjgmcffliaaGreatDoorBk
import Derived.Test.YtaecpjgmcffliaaGreatDoorCards
import Derived.Test.YtaecpjgmcffliaaGreatDoorTie
import Derived.Deep.DeepHandedRow
set_option linter.unusedSimpArgs false
set_option linter.unusedVariables false
set_option maxRecDepth 10000
namespace Go.Proofs.YtaecpjgmcffliaaGreatDoor.fnSelfApart
open Go.ChangeShapes Go.WideShapes Go.ChangeAt Go.RowKit Go.Al Go.ChangeMaps
theorem own:ownKnob Tryz.prog.godebug=none:=by kernel_rfl
theorem Md:laidOutB cG.P=true:=by kernel_rfl
theorem Lq: ∀t∈Tryz.f8.params.toList,cG.P.readableRec t=true∧t<cG.P.types.size:=by
 rw[Tryz.params8];intro t ht;simp only[List.mem_cons,List.not_mem_nil,or_false]at ht;rcases ht with rfl|rfl
 all_goals exact⟨by kernel_rfl,aD (by kernel_rfl)⟩
theorem uBool:Tryz.prog.underlying 4=some .bool:=by kernel_rfl
theorem J6: ∃fs,Tryz.prog.underlying 26=some (.struct fs):=by
 have h:=AA.uPg;simp only[gS]at h;split at h
 ·rename_i fs hfs;exact⟨fs,hfs⟩
 cases h
theorem mU (H:Type) (enc:TypeId×Value→H) (W:World) (base:Nat) (args:Array Value) (ds gs:List (DataW H)) (before:List MemPlace)
  (hval: ∀(j:Nat) t v,Tryz.f8.params[j]?=some t→args[j]?=some v→Value.okWide Tryz.prog W .any base t v)
  (hW:DataW.Whole enc Tryz.prog Tryz.f8.params.toList Rows.selfApartSpec.vars false W args.toList ds gs before) (hL:laidMetH Tryz.prog Rows.selfApartUptoRow.laid W) (hk:Rows.uptoSmall H (ds++gs)=true):
  Calls Tryz.prog 8 args W fun e W'=> ∃v,e= .returned v∧Rows.selfApartSpec.post enc Tryz.prog Tryz.f8 false true false false W args v W':=by
 have hst:=wC hL;have hW2:=hW;obtain⟨p,q,hA,_⟩:=hW2;rw[Tryz.params8]at hA hval;obtain⟨v0,vs0,d0,ds0,p0,q0,e0,rfl,rfl,h0,r0⟩:=trodAll_cons hA;obtain⟨v1,vs1,d1,ds1,p1,q1,e1,rfl,rfl,h1,r1⟩:=trodAll_cons r0;obtain⟨rfl,rfl,rfl⟩:=trodAll_nil r1;obtain rfl:args= #[v0,v1]:=by cases args;simp_all
 obtain⟨x0,hx0,hv0⟩:=Du AA J6 (hval 0 _ v0 rfl rfl) h0 (by have hB:Rows.uptoBulkAll _≤1048576:=aD hk;simp only[List.cons_append,Rows.uptoBulkAll]at hB;omega);obtain⟨x1,hx1,hv1⟩:=Du AA J6 (hval 1 _ v1 rfl rfl) h1 (by have hB:Rows.uptoBulkAll _≤1048576:=aD hk;simp only[List.cons_append,Rows.uptoBulkAll]at hB;omega);refine Ie (E:=cG) (xs:=[x0.av,x1.av]) Md Lq rfl uBool rfl (fun ds h=>?_) hW hst ?_ (zW x0 hx0 x1 hx1)
 ·rw[Tryz.params8]at h
  match ds,h with
  |[a,b],_=>exact⟨rfl,rfl,rfl⟩
 simp only[bW];exact⟨_,_,rfl,by first|exact hv0|simpa only[bO,Pg.av]using hv0,⟨_,_,rfl,by first|exact hv1|simpa only[bO,Pg.av]using hv1,rfl⟩⟩
noncomputable def jP (os:Os):World:=
 let w:=World.holding Tryz.prog os ⟨#[], #[],[]⟩
 {w with heap:=If w.heap}
theorem wZ (os:Os):laidMet Tryz.prog Rows.selfApartUptoRow.laid ((jP os).forCall (fun _ _=>0) ⟨#[], #[.agg #[.slice Option.none 0 0, .slice Option.none 0 0, .slice Option.none 0 0], .agg #[.slice Option.none 0 0, .slice Option.none 0 0, .slice Option.none 0 0]],[]⟩).memory:=
 laidMet_of_run' 8 (by kernel_rfl) (by kernel_rfl)
theorem Po (os:Os) {H:Type} (enc:TypeId×Value→H): ∃places,DataW.whole enc Tryz.prog ((jP os).forCall (fun _ _=>0) ⟨#[], #[.agg #[.slice Option.none 0 0, .slice Option.none 0 0, .slice Option.none 0 0], .agg #[.slice Option.none 0 0, .slice Option.none 0 0, .slice Option.none 0 0]],[]⟩).memory Tryz.f8.params.toList Rows.selfApartSpec.vars false (#[.agg #[.slice Option.none 0 0, .slice Option.none 0 0, .slice Option.none 0 0], .agg #[.slice Option.none 0 0, .slice Option.none 0 0, .slice Option.none 0 0]]:Array Value).toList 8=some ([.agg [.nil, .nil, .nil], .agg [.nil, .nil, .nil]],[],places):=
 ⟨[],by kernel_rfl⟩
set_option maxRecDepth 100000 in
theorem Mc (os:Os) (started:os.Started) (H:Type) (enc:TypeId×Value→H) (F:Stop.Interp):
  ReturnsInHanded {} Tryz.checked os 8 .any ((Rows.OpenSpec.upto Rows.selfApartSpec).preRow enc Tryz.prog Tryz.f8 Rows.selfApartUptoRow.domain false Rows.selfApartUptoRow.laid) (((Rows.OpenSpec.upto Rows.selfApartSpec).at F).post enc Tryz.prog Tryz.f8 false true false false):=by
 obtain⟨places,hx⟩:=Po os enc
 refine returnsInHanded_of_row (C:=Tryz.checked) (s:=Rows.OpenSpec.upto Rows.selfApartSpec) own started (by kernel_rfl) Tryz.func8
  (witness_row_at (enc:=enc) (C:=Tryz.checked) false (jP os) #[.agg #[.slice Option.none 0 0, .slice Option.none 0 0, .slice Option.none 0 0], .agg #[.slice Option.none 0 0, .slice Option.none 0 0, .slice Option.none 0 0]] rfl (by kernel_rfl) (by kernel_rfl) (by kernel_rfl)
   (OpenSpec.preRow_of_cond 8 hx (by kernel_rfl) (fun k hk=>by cases hk;kernel_rfl) (by kernel_rfl) (wZ os))) ?_
 intro W base args ds gs before hval hW _ hk _ hL _ _;exact mU H enc W base args ds gs before hval hW hL (hk _ rfl)
theorem said:Rows.SelfApartUptoSaid:=
 OpenClaim.holds_of_cond 8 Tryz.f8 rfl rfl rfl rfl rfl rfl rfl ⟨rfl,rfl,rfl,rfl,rfl⟩ rfl rfl rfl rfl rfl (by kernel_rfl) Tryz.func8 (by kernel_rfl)
  (aD (by kernel_rfl)) (by unfold Func.isWrapper;first|(rw[if_pos (by decide+kernel)];kernel_rfl)|(rw[if_neg (by decide+kernel)];exact⟨rfl,rfl⟩))
  (fun os started H enc _ F=>by rw[OpenClaim.pre_eq_preRow];exact Mc os started H enc F)
theorem fC (f:FuncId) (fn:Func) (hf:Tryz.pinned.checked.prog.funcNamed "seedcorn/seedcornlaw52.SelfApart" =some f) (hfn:Tryz.pinned.checked.prog.funcs[f]?=some fn):
  false=Tryz.pinned.checked.prog.looks []∧ ∀(j:Nat) t,fn.params[j]?=some t→Tryz.pinned.checked.prog.wantsStandIn t=false:=by
 obtain rfl:f=8:=Option.some.inj ((show Tryz.prog.funcNamed "seedcorn/seedcornlaw52.SelfApart" =some 8 by kernel_rfl).symm.trans hf)|>.symm
 obtain rfl:fn=Tryz.f8:=(Option.some.inj (Tryz.func8.symm.trans hfn)).symm;refine⟨by kernel_rfl,fun j t ht=>?_⟩;rw[Tryz.params8]at ht;have hm:=Array.mem_of_getElem? ht;simp only[List.mem_toArray,List.mem_cons,List.not_mem_nil,or_false]at hm;rcases hm with rfl|rfl
 all_goals exact(show Tryz.prog.wantsStandIn _=false by kernel_rfl)
theorem card:Rows.SelfApartUptoCardSaid:=
 Claim7.holds_tied_plain_at .later [] _ _ _ _ said (fun _ h=>by cases h) (by kernel_rfl) (fun _ h=>by cases h) selfApartUpto_row_tie rfl ⟨rfl,rfl⟩ (by kernel_rfl) rfl fC (by kernel_rfl)
end Go.Proofs.YtaecpjgmcffliaaGreatDoor.fnSelfApart
