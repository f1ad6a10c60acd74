/- Chapter 19: alive. -/
import Derived.Test.YtnfbbjhdflhmjaaGreatDoorGLe
import Derived.Test.YtnfbbjhdflhmjaaGreatDoorCx
set_option linter.unusedSimpArgs false
set_option linter.unusedVariables false
set_option maxRecDepth 10000
namespace Go.Proofs.YtnfbbjhdflhmjaaGreatDoor
open Go.Al
theorem Yc {c:Co} (h:Uw c):Ay (Hk c [] 0) c.words.toNat:=
 ⟨by simp [Hk],by simp [Hk],by have:=h.words;omega,by rw[Int.toNat_of_nonneg h.words.1];exact h.funs,fun f hf=>(h.ok.funs f hf).body⟩
theorem Nn (k o n a z:Int) (l:List CE) (hk:dC k) (ho:dC o) (hn:dI n) (ha:dC a) (hz:dC z) (hl:pH l):(CE.mk k o n a z l).ok:= .mk k o n a z l hk ho hn ha hz hl.fit hl.all
theorem Uh:pH []:=⟨by simp [cI],by simp⟩
theorem Np {e:CE} (h:e.ok):pH [e]:=⟨by simp [cI],by simpa using h⟩
theorem Ub (k a z:Int) (l:List CE) (hk:dC k) (ha:dC a) (hz:dC z) (hl:pH l):(CS.mk k a z l [] []).ok:= .mk k a z l [] [] hk ha hz hl (by simp [cI]) (by simp) (by simp [cI]) (by simp)
theorem C5:xC.ok:=by
 have e1:=Nn 2 0 0 1 0 [] (by simp [dC]) (by simp [dC]) (by simp [dI]) (by simp [dC]) (by simp [dC]) Uh;have e2:=Nn 2 0 0 0 0 [] (by simp [dC]) (by simp [dC]) (by simp [dI]) (by simp [dC]) (by simp [dC]) Uh;have e3:=Nn 1 0 65 0 0 [] (by simp [dC]) (by simp [dC]) (by simp [dI]) (by simp [dC]) (by simp [dC]) Uh;have e4:=Nn 4 0 0 0 0 _ (by simp [dC]) (by simp [dC]) (by simp [dI]) (by simp [dC]) (by simp [dC]) (Np e3);have s7:=Ub 7 0 0 _ (by simp [dC]) (by simp [dC]) (by simp [dC]) (Np e1);have s1:=Ub 1 0 0 _ (by simp [dC]) (by simp [dC]) (by simp [dC]) (Np e4);have s3:=Ub 3 0 0 _ (by simp [dC]) (by simp [dC]) (by simp [dC]) (Np e2);have f1:Uy.ok:=⟨by simp [dC,Uy],by simp [dC,Uy],by simp [dC,Uy],⟨by simp [cI,Uy],by simpa [Uy]using s7⟩⟩;have f2:Ux.ok:=⟨by simp [dC,Ux],by simp [dC,Ux],by simp [dC,Ux],⟨by simp [cI,Ux],by simpa [Ux]using⟨s1,s3⟩⟩⟩;exact⟨by simp [dC,xC],by simp [cI,xC],by simpa [xC]using⟨f1,f2⟩⟩
theorem Qq:lZ xC=true:=by
 simp only[lZ,xC,Uy,Ux,iY,dO,jP,eK,jQ]
 decide+kernel
theorem C6:Uw xC:=Yj C5 Qq
set_option maxHeartbeats 2000000 in
theorem kE:cJ cK 6 [] (.bool true):=by
 have e1:=Ow;have e2:=Lx xP I0;rw[P2]at e2;have e3:=Ob xC (by simp [xC]) (Yc C6) (by simp [xC]) (by simp [xC]) [] (by simp) 9 (by simp [dC]) E2;have e4:=Ot 1 1 [65] [65] 1 1;have e5:=Ci xC (by rw[Xz];decide) (by simp [xC]);rw[Xz]at e5;have hr:Yy (1,[65],1) (1,[65],1)=true:=by decide
 rw[hr]at e4;obtain⟨B1,B2,hB⟩: ∃B1 B2,xC.av= .agg [.int .i64 2, .isl 5 [[.int .i64 1, .int .i64 1, .int .i64 1, .bool true,B1],[.int .i64 0, .int .i64 0, .int .i64 2, .bool false,B2]]]:=⟨_,_,rfl⟩;have hv:Gc 1 [65] 1= .agg [.int .i64 1, .str [65], .int .i64 1]:=rfl
 have hob:one B1=true∧one B2=true:=by
  have h1:xC.av= .agg [.int .i64 2, .isl 5 [[.int .i64 1, .int .i64 1, .int .i64 1, .bool true, .isl 6 (Uy.body.map CS.row)],[.int .i64 0, .int .i64 0, .int .i64 2, .bool false, .isl 6 (Ux.body.map CS.row)]]]:=rfl;rw[h1]at hB;simp only[AV.agg.injEq,List.cons.injEq,AV.isl.injEq,true_and,and_true]at hB;obtain⟨h2,h3⟩:=hB;subst h2;subst h3;exact⟨rfl,rfl⟩
 rw[hv]at e3;simp only[hB]at e2 e3 e5;generalize xP.av=pv at *;refine bI 48 [.tmp 0] Tryz.func6 rfl rfl rfl rfl ?_;refine aB fun _ y=>aA rfl ?_;simp only[RR,seval];apply y;clear y;refine aB fun _ y=>aA rfl ?_;simp only[RR,seval];refine aN (e1) ?_;simp only[RR,seval];refine aN (e2) ?_;simp only[RR,seval];refine aP fun b1 hn1=>?_;simp only[RR,seval];apply y;clear y;refine aB fun _ y=>aA rfl ?_;simp only[RR,seval];refine aN (e3) ?_;simp only[RR,seval];refine aN (e4) ?_;simp only[RR,seval];refine aN (e5) ?_;simp only[RR,seval];apply y;clear y;refine aO ?_;simp only[bB,aL,bH,RR,seval];refine aZ.pure ?_;rfl
end Go.Proofs.YtnfbbjhdflhmjaaGreatDoor
