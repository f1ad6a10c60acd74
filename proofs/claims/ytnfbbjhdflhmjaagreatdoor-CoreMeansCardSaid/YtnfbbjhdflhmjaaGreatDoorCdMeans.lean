/- CoreMeans: for every input it returns true and never panics; no conditions. -/
import Derived.Test.YtnfbbjhdflhmjaaGreatDoorMjl
import Derived.Test.YtnfbbjhdflhmjaaGreatDoorCards
import Derived.Test.YtnfbbjhdflhmjaaGreatDoorTie
import Derived.Deep.DeepHandedRow
set_option linter.unusedSimpArgs false
set_option linter.unusedVariables false
set_option maxRecDepth 10000
namespace Go.Proofs.YtnfbbjhdflhmjaaGreatDoor.fnCoreMeans
open Go.ChangeShapes Go.WideShapes Go.ChangeAt Go.RowKit Go.Al Go.ChangeMaps
theorem own:ownKnob Tryz.prog.godebug=none:=by kernel_rfl
theorem Yv:laidOutB cN.P=true:=by kernel_rfl
theorem Ym: ∀t∈Tryz.f5.params.toList,cN.P.readableRec t=true∧t<cN.P.types.size:=by
 rw[Tryz.params5];intro t ht;simp only[List.mem_cons,List.not_mem_nil,or_false]at ht;rcases ht with rfl|rfl|rfl
 all_goals exact⟨by kernel_rfl,aC (by kernel_rfl)⟩
theorem uBool:Tryz.prog.underlying 4=some .bool:=by kernel_rfl
theorem H9: ∃fs,Tryz.prog.underlying 26=some (.struct fs):=by
 have h:=J5.uPg;simp only[jW]at h;split at h
 ·rename_i fs hfs;exact⟨fs,hfs⟩
 cases h
theorem Ye:Tryz.prog.underlying 3=some (.int .i64):=by kernel_rfl
theorem A7:Tryz.prog.underlying 9=some .string:=by kernel_rfl
theorem xL (H:Type) (enc:TypeId×Value→H) (W:World) (base:Nat) (args:Array Value) (ds gs:List (DataW H)) (before:List MemPlace)
  (hval: ∀(j:Nat) t v,Tryz.f5.params[j]?=some t→args[j]?=some v→Value.okWide Tryz.prog W .any base t v)
  (hW:DataW.Whole enc Tryz.prog Tryz.f5.params.toList Rows.coreMeansSpec.vars false W args.toList ds gs before) (hL:laidMetH Tryz.prog Rows.coreMeansRow.laid W):
  Calls Tryz.prog 5 args W fun e W'=> ∃v,e= .returned v∧Rows.coreMeansSpec.post enc Tryz.prog Tryz.f5 false true false false W args v W':=by
 have hst:=Hx hL;have hW2:=hW;obtain⟨p,q,hA,_⟩:=hW2;rw[Tryz.params5]at hA hval;obtain⟨v0,vs0,d0,ds0,p0,q0,e0,rfl,rfl,h0,r0⟩:=trodAll_cons hA;obtain⟨v1,vs1,d1,ds1,p1,q1,e1,rfl,rfl,h1,r1⟩:=trodAll_cons r0;obtain⟨v2,vs2,d2,ds2,p2,q2,e2,rfl,rfl,h2,r2⟩:=trodAll_cons r1;obtain⟨rfl,rfl,rfl⟩:=trodAll_nil r2;obtain rfl:args= #[v0,v1,v2]:=by cases args;simp_all
 obtain⟨x0,hx0,hv0⟩:=Yk J5 H9 (hval 0 _ v0 rfl rfl) h0;obtain⟨s1,rfl,rfl,rfl,hs1⟩:=open_string A7 (hval 1 _ v1 rfl rfl) h1;obtain⟨s2,rfl,rfl,rfl,hs2⟩:=open_int Ye (hval 2 _ v2 rfl rfl) h2;refine Ru (E:=cN) (xs:=[x0.av, .str s1.data.toList, .int .i64 s2]) Yv Ym rfl uBool rfl (fun ds h=>?_) hW hst ?_ (zJ x0 hx0 s1.data.toList s2 (vN hs2))
 ·rw[Tryz.params5]at h
  match ds,h with
  |[a,b,c],_=>exact⟨rfl,rfl,rfl⟩
 simp only[cB,bM];exact⟨_,_,rfl,by first|exact hv0|simpa only[bM,Pg.av]using hv0,⟨_,_,rfl,rfl,⟨_,_,rfl,rfl,rfl⟩⟩⟩
noncomputable def tM (os:Os):World:=
 let w:=World.holding Tryz.prog os ⟨#[], #[],[]⟩
 {w with heap:=w.heap.modify 0 fun
    | .cells _ t frozen=> .cells (dO.map fun s=>Value.string ⟨s.toArray⟩).toArray t frozen
    |o=>o}
theorem Rv (os:Os):laidMet Tryz.prog Rows.coreMeansRow.laid ((tM os).forCall (fun _ _=>0) ⟨#[], #[.agg #[.slice Option.none 0 0, .slice Option.none 0 0, .slice Option.none 0 0], .string ⟨#[]⟩, .int .i64 0],[]⟩).memory:=
 laidMet_of_run' 8 (by kernel_rfl) (by kernel_rfl)
theorem Xl (os:Os) {H:Type} (enc:TypeId×Value→H): ∃places,DataW.whole enc Tryz.prog ((tM os).forCall (fun _ _=>0) ⟨#[], #[.agg #[.slice Option.none 0 0, .slice Option.none 0 0, .slice Option.none 0 0], .string ⟨#[]⟩, .int .i64 0],[]⟩).memory Tryz.f5.params.toList Rows.coreMeansSpec.vars false (#[.agg #[.slice Option.none 0 0, .slice Option.none 0 0, .slice Option.none 0 0], .string ⟨#[]⟩, .int .i64 0]:Array Value).toList 8=some ([.agg [.nil, .nil, .nil], .lit (.string []), .lit (.int .i64 0)],[],places):=
 ⟨[],by kernel_rfl⟩
set_option maxRecDepth 100000 in
theorem Yu (os:Os) (started:os.Started) (H:Type) (enc:TypeId×Value→H) (F:Stop.Interp):
  ReturnsInHanded {} Tryz.checked os 5 .any ((OpenSpec.ofChange Rows.coreMeansSpec).preRow enc Tryz.prog Tryz.f5 Rows.coreMeansRow.domain false Rows.coreMeansRow.laid) (((OpenSpec.ofChange Rows.coreMeansSpec).at F).post enc Tryz.prog Tryz.f5 false true false false):=by
 obtain⟨places,hx⟩:=Xl os enc
 refine returnsInHanded_of_row (C:=Tryz.checked) (s:=OpenSpec.ofChange Rows.coreMeansSpec) own started (by kernel_rfl) Tryz.func5
  (witness_row_at (enc:=enc) (C:=Tryz.checked) false (tM os) #[.agg #[.slice Option.none 0 0, .slice Option.none 0 0, .slice Option.none 0 0], .string ⟨#[]⟩, .int .i64 0] rfl (by kernel_rfl) (by kernel_rfl) (by kernel_rfl)
   (OpenSpec.preRow_of_cond 8 hx (by kernel_rfl) (fun k hk=>by cases hk) (by kernel_rfl) (Rv os))) ?_
 intro W base args ds gs before hval hW _ _ _ hL _ _;exact xL H enc W base args ds gs before hval hW hL
theorem said:Rows.CoreMeansSaid:=
 OpenClaim.holds_of_cond 5 Tryz.f5 rfl rfl rfl rfl rfl rfl rfl ⟨rfl,rfl,rfl,rfl,rfl⟩ rfl rfl rfl rfl rfl (by kernel_rfl) Tryz.func5 (by kernel_rfl)
  (aC (by kernel_rfl)) (by unfold Func.isWrapper;first|(rw[if_pos (by decide+kernel)];kernel_rfl)|(rw[if_neg (by decide+kernel)];exact⟨rfl,rfl⟩))
  (fun os started H enc _ F=>by rw[OpenClaim.pre_eq_preRow];exact Yu os started H enc F)
theorem kH (f:FuncId) (fn:Func) (hf:Tryz.pinned.checked.prog.funcNamed "seedcorn/seedcornlaw19.CoreMeans" =some f) (hfn:Tryz.pinned.checked.prog.funcs[f]?=some fn):
  true=Tryz.pinned.checked.prog.looks []∧ ∀(j:Nat) t,fn.params[j]?=some t→Tryz.pinned.checked.prog.wantsStandIn t=false:=by
 obtain rfl:f=5:=Option.some.inj ((show Tryz.prog.funcNamed "seedcorn/seedcornlaw19.CoreMeans" =some 5 by kernel_rfl).symm.trans hf)|>.symm
 obtain rfl:fn=Tryz.f5:=(Option.some.inj (Tryz.func5.symm.trans hfn)).symm;refine⟨by kernel_rfl,fun j t ht=>?_⟩;rw[Tryz.params5]at ht;have hm:=Array.mem_of_getElem? ht;simp only[List.mem_toArray,List.mem_cons,List.not_mem_nil,or_false]at hm;rcases hm with rfl|rfl|rfl
 all_goals exact(show Tryz.prog.wantsStandIn _=false by kernel_rfl)
theorem card:Rows.CoreMeansCardSaid:=
 Claim7.holds_tied_plain_at .later [] _ _ _ _ said (fun _ h=>by cases h) (by kernel_rfl) (fun _ h=>by cases h) coreMeans_row_tie rfl ⟨rfl,rfl⟩ (by kernel_rfl) rfl kH (by kernel_rfl)
end Go.Proofs.YtnfbbjhdflhmjaaGreatDoor.fnCoreMeans
