/- Chapter 19: from a row's world to the little logic's. -/
import Derived.Test.YtnfbbjhdflhmjaaGreatDoorSy2
import Derived.Test.YtnfbbjhdflhmjaaGreatDoorAl3
set_option linter.unusedSimpArgs false
set_option linter.unusedVariables false
set_option maxRecDepth 10000
namespace Go.Proofs.YtnfbbjhdflhmjaaGreatDoor
open Go.Al
theorem Kr:Tryz.prog.globalNamed "seedcorn/token.words" =some 0:=by kernel_rfl
theorem Vx:(Tryz.prog.globals[0]?).map (·.type)=some 221:=by kernel_rfl
theorem R9:Tryz.prog.underlying 221=some (.array 10 9):=by kernel_rfl
theorem uStr:Tryz.prog.underlying 9=some .string:=by kernel_rfl
theorem Q2:Tryz.prog.cellsOf 9=1:=by kernel_rfl
theorem T0:Tryz.prog.cellsOf 221=10:=by kernel_rfl
theorem Fv {S:dW} {w:World} {b:Nat}: ∀(ws:List (List UInt8)) (off:Nat),(∀(i:Nat) s,ws[i]?=some s→w.cell? ⟨b,off+i,none⟩=some (.string ⟨s.toArray⟩))→cW S w b off (ws.map .str)
 |[],_,_=>by simp only[List.map_nil,cW]
 |s::ws,off,h=>by
  simp only[List.map_cons,cW];refine⟨⟨_,by simpa using h 0 s rfl,by simp only[bL]⟩,Fv ws (off+1) fun i s' hs=>?_⟩;rw[show off+1+i=off+(i+1)by omega];exact h (i+1) s' (by simpa using hs)
theorem wV {W:World} (hL:laidMet Tryz.prog [("seedcorn/token.words",Rows.laid_seedcorn_token_words)] W):St cK ⟨W,Qp rA,old W,[],fun _=>Go.undef⟩ (old W) rA W:=by
 obtain⟨ps,hv,_⟩:=hL;have v1:W.var? Tryz.prog "seedcorn/token.words" =some (dL.map fun s=>Value.string ⟨s.toArray⟩).toArray:=sP Kr Vx R9 uStr Q2 T0 hv (List.mem_cons_self)
 have lt: ∀{n:String} {g:Nat} {cs:Array Value},Tryz.prog.globalNamed n=some g→W.var? Tryz.prog n=some cs→g<W.heap.size:=fun {n g cs} hg h=>by
  simp only[World.var?,hg,Option.bind_some]at h;split at h
  ·rename_i e;exact(Array.getElem?_eq_some_iff.1 e).1
  cases h
 refine⟨fun k hk=>hk,fun _ h=>h,fun k hk=> .inl hk,fun b o h=>(by cases h),kN.refl _ _,fun g row h=>?_⟩
 have key: ∀{n:String} {g:Nat} {ws:List (List UInt8)},Tryz.prog.globalNamed n=some g→W.var? Tryz.prog n=some (ws.map fun s=>Value.string ⟨s.toArray⟩).toArray→cW (old W) W g 0 (ws.map .str):=fun {n g ws} hg h=>
  Fv ws 0 fun i s hs=>by
   rw[World.var?_cell hg h];simp [hs]
 simp only[Zm,Vv]at h;split at h
 ·cases h;exact⟨lt Kr v1,key Kr v1⟩
 cases h
end Go.Proofs.YtnfbbjhdflhmjaaGreatDoor
