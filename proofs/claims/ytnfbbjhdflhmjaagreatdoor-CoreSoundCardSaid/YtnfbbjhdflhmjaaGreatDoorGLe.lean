/- Chapter 19: the law's example; alive. -/
import Derived.Test.YtnfbbjhdflhmjaaGreatDoorGLd
import Derived.Test.YtnfbbjhdflhmjaaGreatDoorGKh
import Derived.Test.YtnfbbjhdflhmjaaGreatDoorGOd
import Derived.Test.YtnfbbjhdflhmjaaGreatDoorAl4
set_option linter.unusedSimpArgs false
set_option linter.unusedVariables false
set_option maxRecDepth 10000
namespace Go.Proofs.YtnfbbjhdflhmjaaGreatDoor
open Go.Al
def xF:Fu:=⟨[102],[[97]],[],true,[.mk 7 [] [.mk 2 0 0 [97] []] [] []]⟩
def xM:Fu:=⟨[109,97,105,110],[],[],false,[.mk 1 [120] [.mk 4 0 0 [102] [.mk 1 0 65 [] []]] [] [], .mk 3 [] [.mk 2 0 0 [120] []] [] []]⟩
def xP:Pg:=⟨[[120]],[],[xF,xM]⟩
def Uy:CF:=⟨1,1,1,true,[.mk 7 0 0 [.mk 2 0 0 1 0 []] [] []]⟩
def Ux:CF:=⟨0,0,2,false,[.mk 1 0 0 [.mk 4 0 0 0 0 [.mk 1 0 65 0 0 []]] [] [], .mk 3 0 0 [.mk 2 0 0 0 0 []] [] []]⟩
def xC:Co:=⟨2,[Uy,Ux]⟩
theorem Vp (k o n:Int) (s:dD) (l:List Ex) (hk:dC k) (ho:dC o) (hn:dI n) (hs:cI s) (hl:xQ l):(Ex.mk k o n s l).ok:= .mk k o n s l hk ho hn hs hl.fit hl.all
theorem Ti:xQ []:=⟨by simp [cI],by simp⟩
theorem Mr {e:Ex} (h:e.ok):xQ [e]:=⟨by simp [cI],by simpa using h⟩
theorem Mh:Bq []:=⟨by simp [cI],by simp⟩
theorem Ze (k:Int) (s:dD) (l:List Ex) (hk:dC k) (hs:cI s) (hl:xQ l):(Sm.mk k s l [] []).ok:= .mk k s l [] [] hk hs hl Mh.fit Mh.all Mh.fit Mh.all
theorem I0:xP.few:=by
 have x97:=Vp 2 0 0 [97] [] (by simp [dC]) (by simp [dC]) (by simp [dI]) (by simp [cI]) Ti;have x120:=Vp 2 0 0 [120] [] (by simp [dC]) (by simp [dC]) (by simp [dI]) (by simp [cI]) Ti;have x65:=Vp 1 0 65 [] [] (by simp [dC]) (by simp [dC]) (by simp [dI]) (by simp [cI]) Ti;have xc:=Vp 4 0 0 [102] [.mk 1 0 65 [] []] (by simp [dC]) (by simp [dC]) (by simp [dI]) (by simp [cI]) (Mr x65);have s7:=Ze 7 [] _ (by simp [dC]) (by simp [cI]) (Mr x97);have s1:=Ze 1 [120] _ (by simp [dC]) (by simp [cI]) (Mr xc);have s3:=Ze 3 [] _ (by simp [dC]) (by simp [cI]) (Mr x120)
 have lE2:Bq [Sm.mk 1 [120] [.mk 4 0 0 [102] [.mk 1 0 65 [] []]] [] [], .mk 3 [] [.mk 2 0 0 [120] []] [] []]:=⟨by simp [cI],fun e he=>by
  simp only[List.mem_cons,List.not_mem_nil,or_false]at he;rcases he with rfl|rfl
  ·exact s1
  exact s3⟩
 have f1:xF.ok:=⟨by simp [cI,xF],⟨by simp [cI,xF],by simp [cI,xF]⟩,⟨by simp [cI,xF],by simp [xF]⟩,⟨by simp [cI,xF],by simpa [xF]using s7⟩⟩;have f2:xM.ok:=⟨by simp [cI,xM],⟨by simp [cI,xM],by simp [xM]⟩,⟨by simp [cI,xM],by simp [xM]⟩,lE2⟩;refine⟨⟨⟨by simp [cI,xP],by simp [cI,xP]⟩,by simp [cI,xP],by simp [xP],by simp [cI,xP],fun f hf=>?_⟩,by simp [xP],by simp [xP],by simp [xP],fun f hf=>?_⟩
 ·simp only[xP,List.mem_cons,List.not_mem_nil,or_false]at hf
  rcases hf with rfl|rfl
  ·exact f1
  exact f2
 simp only[xP,List.mem_cons,List.not_mem_nil,or_false]at hf;rcases hf with rfl|rfl
 ·refine⟨by simp [xF],by simp [xF], ?_⟩
  show fE [_]≤_;simp [fE,Sm.sz,iA,Ex.sz]
 refine⟨by simp [xM],by simp [xM], ?_⟩;show fE [_,_]≤_;simp [fE,Sm.sz,iA,Ex.sz]
theorem Vf:dT xP=0:=by
 simp only[dT,eD,eT,xP,xF,xM,List.all_cons,List.all_nil,gI,lB,iZ,gJ,iD,iP,gQ,fI,lV,eU,eR,eM,eZ,dN,eE,Ex.kids,Sm.es,Sm.thn,Sm.els]
 decide+kernel
theorem P2:oO xP=(xC,0):=by
 unfold oO;rw[if_pos Vf,if_pos (by decide+kernel)]
 have :Hl xP=xC:=by
  simp only[Hl,dH,dV,Do,xP,xF,xM,xC,Uy,Ux,mD,I9,List.map_cons,List.map_nil,pU,Lg,rT,Pq,fM,dZ];rfl
 rw[this]
theorem E2:pF (Hk xC [] 9) 20 2=some (1,[65],1):=by decide+kernel
theorem Xz:sR xC=7:=by decide+kernel
theorem Ow:cJ cK 21 [] xP.av:=by
 refine Ox (v:= .agg [.isl 1 [[.str [120]]], .nsl, .isl 5 [[.str [102], .isl 1 [[.str [97]]], .nsl, .bool true, .isl 5 [[.int .i64 7, .str [], .isl 5 [[.int .i64 2, .int .i64 0, .int .u32 0, .str [97], .nsl]], .nsl, .nsl]]],
  [.str [109,97,105,110], .nsl, .nsl, .bool false, .isl 5 [[.int .i64 1, .str [120], .isl 5 [[.int .i64 4, .int .i64 0, .int .u32 0, .str [102], .isl 5 [[.int .i64 1, .int .i64 0, .int .u32 65, .str [], .nsl]]]], .nsl, .nsl],[.int .i64 3, .str [], .isl 5 [[.int .i64 2, .int .i64 0, .int .u32 0, .str [120], .nsl]], .nsl, .nsl]]]]]) ?_ ?_
 ·skip
  refine bI 26 [.cell 0 26] Tryz.func21 rfl rfl rfl rfl ?_;refine aB fun _ y=>aA rfl ?_;simp only[RR,seval];refine aP fun b0 hn0=>?_;simp only[RR,seval];apply y;clear y;refine aB fun _ y=>aA rfl ?_;simp only[RR,seval];refine cY ?_;simp only[RR,seval];refine cY ?_;simp only[RR,seval];refine cY ?_;simp only[RR,seval];refine aP fun b1 hn1=>?_;have nb1_b0:b1≠b0:=fun e=>by rw[e]at hn1;simp only[RR,seval,reduceCtorEq]at hn1
  have nb0_b1:b0≠b1:=fun e=>nb1_b0 e.symm;simp only[RR,seval];apply y;clear y;refine aB fun _ y=>aA rfl ?_;simp only[RR,seval];refine cY ?_;simp only[RR,seval];refine aP fun b2 hn2=>?_;have nb2_b0:b2≠b0:=fun e=>by rw[e]at hn2;simp only[nb0_b1,RR,seval,reduceCtorEq]at hn2
  have nb0_b2:b0≠b2:=fun e=>nb2_b0 e.symm;have nb2_b1:b2≠b1:=fun e=>by rw[e]at hn2;simp only[RR,seval,reduceCtorEq]at hn2
  have nb1_b2:b1≠b2:=fun e=>nb2_b1 e.symm;simp only[RR,seval];apply y;clear y;refine aB fun _ y=>aA rfl ?_;simp only[RR,seval];refine cY ?_;simp only[RR,seval];refine cY ?_;simp only[RR,seval];refine cY ?_;simp only[RR,seval];refine aP fun b3 hn3=>?_;have nb3_b0:b3≠b0:=fun e=>by rw[e]at hn3;simp only[nb0_b1,nb0_b2,RR,seval,reduceCtorEq]at hn3
  have nb0_b3:b0≠b3:=fun e=>nb3_b0 e.symm;have nb3_b1:b3≠b1:=fun e=>by rw[e]at hn3;simp only[nb1_b2,RR,seval,reduceCtorEq]at hn3
  have nb1_b3:b1≠b3:=fun e=>nb3_b1 e.symm;have nb3_b2:b3≠b2:=fun e=>by rw[e]at hn3;simp only[RR,seval,reduceCtorEq]at hn3
  have nb2_b3:b2≠b3:=fun e=>nb3_b2 e.symm;simp only[RR,seval];apply y;clear y;refine aB fun _ y=>aA rfl ?_;simp only[RR,seval];refine cY ?_;simp only[nb1_b2,nb1_b3,RR,seval];refine cY ?_;simp only[nb0_b1,nb0_b2,nb0_b3,RR,seval];apply y;clear y;refine aO ?_;simp only[bB,aL,bH,RR,seval];refine aZ.pure ?_;rfl
 simp only[xP,xF,xM,Pg.av,Pg.row,Fu.row,Ex.row_eq,Sm.row_eq,List.map_cons,List.map_nil,bK,Ex.kind,Ex.op,Ex.num,Ex.name,Ex.kids,Sm.kind,Sm.name,Sm.es,Sm.thn,Sm.els];refine kG.aggR ?_
 repeat' (first|exact jJ.nil|exact sA.nil|exact kG.refl _|exact kG.nsl _|refine jJ.cons ?_ ?_|refine sA.cons ?_ ?_|refine kG.isl ?_)
end Go.Proofs.YtnfbbjhdflhmjaaGreatDoor
