/- Chapter 19, the program's: names are looked up; expressions and statements without names. -/
import Derived.Test.YtnfbbjhdflhmjaaGreatDoorGOa
import Derived.Test.YtnfbbjhdflhmjaaGreatDoorAl4
import Derived.Test.YtnfbbjhdflhmjaaGreatDoorSy2
set_option linter.unusedSimpArgs false
set_option linter.unusedVariables false
set_option maxRecDepth 10000
namespace Go.Al
theorem qS {sz:Nat} {v:AV} {rows:List (List AV)} {H H':Hp} (h:dJ sz v rows H) (hk: ∀b o,H b=some o→H' b=some o):dJ sz v rows H':=by
 rcases h with g|⟨b,g1,g2⟩
 ·exact .inl g
 exact .inr ⟨b,g1,hk _ _ g2⟩
theorem Di: ∀l:List Ex,l.length≤iA l
 |[]=>by simp [iA]
 |e::l=>by have:=Di l;have:=e.sz_eq;simp only[bU,iA];omega
theorem Dh: ∀l:List Sm,l.length≤fE l
 |[]=>by simp [fE]
 |e::l=>by have:=Dh l;have:=e.sz_eq;simp only[bU,fE];omega
end Go.Al
namespace Go.Proofs.YtnfbbjhdflhmjaaGreatDoor
open Go.Al
theorem Cg (G I:List Tq) (s:dD):cJ cK 53 [Qo G I, .str s] (.agg [.int .i64 (Jo G I s).1, .int .i64 (Jo G I s).2]):=by
 have hG:=tO s G 0;have hI:=tO s I 0;have zG:=cD (G.map nH);have zI:=cD (I.map nH);unfold Jo Qo Vu;rcases hI with⟨h1,h2⟩|⟨j,t,h1,h2⟩
 ·rcases hG with⟨h3,h4⟩|⟨j',t',h3,h4⟩
  all_goals
   rw[h1,h3];refine bI 20 [.cell 4 64] Tryz.func53 rfl rfl rfl rfl ?_;refine aB fun _ y=>aA rfl ?_;simp only[Option.getD_some,Option.getD_none,RR,seval];refine aP fun b2 hn2=>?_;simp only[RR,seval];refine aP fun b4 hn4=>?_;have nb4_b2:b4≠b2:=fun e=>by rw[e]at hn4;simp only[RR,seval,reduceCtorEq]at hn4
   have nb2_b4:b2≠b4:=fun e=>nb4_b2 e.symm;simp only[RR,seval];apply y;clear y;refine aI ?_;refine aB fun _ y=>aA rfl ?_;simp only[nb2_b4,zI,h2,Option.getD_some,Option.getD_none,Option.isSome_none,RR,seval];refine aP fun b5 hn5=>?_;have nb5_b2:b5≠b2:=fun e=>by rw[e]at hn5;simp only[nb2_b4,RR,seval,reduceCtorEq]at hn5
   have nb2_b5:b2≠b5:=fun e=>nb5_b2 e.symm;have nb5_b4:b5≠b4:=fun e=>by rw[e]at hn5;simp only[RR,seval,reduceCtorEq]at hn5
   have nb4_b5:b4≠b5:=fun e=>nb5_b4 e.symm;simp only[RR,seval];apply y;clear y;refine aB fun _ y=>aA rfl ?_;simp only[Option.getD_some,Option.getD_none,RR,seval];apply y;clear y;refine aH false rfl (fun hc=>by cases hc) (fun _=>?_);refine aK ?_;try simp only[RR]
   refine aB fun _ y=>aA rfl ?_;simp only[nb2_b4,nb2_b5,nb4_b5,zG,h4,Option.getD_some,Option.getD_none,RR,seval];apply y;clear y;refine aO ?_;simp only[bB,aL,bH,Option.getD_some,Option.getD_none,RR,seval];refine aZ.pure ?_;rfl
 rw[h1];refine bI 20 [.cell 4 64] Tryz.func53 rfl rfl rfl rfl ?_;refine aB fun _ y=>aA rfl ?_;simp only[RR,seval];refine aP fun b2 hn2=>?_;simp only[RR,seval];refine aP fun b4 hn4=>?_;have nb4_b2:b4≠b2:=fun e=>by rw[e]at hn4;simp only[RR,seval,reduceCtorEq]at hn4
 have nb2_b4:b2≠b4:=fun e=>nb4_b2 e.symm;simp only[RR,seval];apply y;clear y;refine aI ?_;refine aB fun _ y=>aA rfl ?_;simp only[nb2_b4,zI,h2,Option.getD_some,Option.isSome_some,RR,seval];refine aP fun b5 hn5=>?_;have nb5_b2:b5≠b2:=fun e=>by rw[e]at hn5;simp only[nb2_b4,RR,seval,reduceCtorEq]at hn5
 have nb2_b5:b2≠b5:=fun e=>nb5_b2 e.symm;have nb5_b4:b5≠b4:=fun e=>by rw[e]at hn5;simp only[RR,seval,reduceCtorEq]at hn5
 have nb4_b5:b4≠b5:=fun e=>nb5_b4 e.symm;simp only[RR,seval];apply y;clear y;refine aB fun _ y=>aA rfl ?_;simp only[RR,seval];apply y;clear y;refine aH true rfl (fun _=>?_) (fun hc=>by cases hc);refine aB fun _ y=>aA rfl ?_;simp only[nb4_b5,RR,seval];apply y;clear y;refine aO ?_;simp only[bB,aL,bH,RR,seval];refine aZ.pure ?_;rfl
set_option maxHeartbeats 2000000 in
theorem Lj (G I:List Tq) (n:Nat): ∀l:List Ex,iA l≤n→n≤2000000→cJ cK 54 [Qo G I, .isl 5 (l.map Ex.row)] (.isl 6 ((l.map (rT (Jo G I))).map CE.row)):=by
 induction n using Nat.strongRecOn with
 |_ n ih=>
  intro l hn hb;have hl:=Di l
  have hkid: ∀e∈l,cJ cK 54 [Qo G I, .isl 5 (e.kids.map Ex.row)] (.isl 6 ((e.kids.map (rT (Jo G I))).map CE.row)):=fun e he=>by
   have h1:=iI he;have h2:=e.sz_eq;exact ih (iA e.kids) (by omega) e.kids (aY _) (by omega)
  have hfd:=fun s=>Cg G I s;clear ih;unfold Qo at *;generalize Vu G=mG at *;generalize Vu I=mI at *;generalize Jo G I=rs at *;refine bI 39 [.tmp 4] Tryz.func54 rfl rfl rfl rfl ?_;refine aB fun _ y=>aA rfl ?_;simp only[RR,seval];refine aP fun b2 hn2=>?_;simp only[RR,seval];apply y;clear y;refine aB fun _ y=>aA rfl ?_;simp only[RR,seval];apply y;clear y;refine aI ?_;refine aB fun _ y=>aA rfl ?_;simp only[aD,RR,seval];apply y;clear y;refine bM fun F1 M1 hfr hH=>?_;have g2:=hfr 2;have g4:=hfr 4;have g5:=hfr 5;have g9:=hfr 9;have g10:=hfr 10;have g11:=hfr 11;have gb2:=hH b2
  try simp only[RR,seval]at g2 g4 g5 g9 g10 g11 gb2
  have f2:=g2;clear g2;have f4:=g4;clear g4;have f5:=g5;clear g5;have f9:=g9;clear g9;have f10:=g10;clear g10;have f11:=g11;clear g11;have hb2:=gb2;clear gb2;clear hfr hH;refine aM ?_;refine bZ [2,4,9,10] (l.length) (fun k fr M=>fr 11= .int .i64 (k:Nat)∧M b2=M1 b2∧dJ 6 (fr 5) (((l.take k).map (rT rs)).map CE.row) M) ⟨f11,rfl, .inl ⟨f5,rfl⟩⟩ ?_;rintro k F2 M2 hk0 ⟨fx,gb2,hown⟩ agx K0 hK0;have f2:=(agx 2 rfl).trans f2;have f4:=(agx 4 rfl).trans f4;have f9:=(agx 9 rfl).trans f9;have f10:=(agx 10 rfl).trans f10;have f11:=fx;clear fx;have hb2:=gb2.trans hb2;have ag0:=bC.refl [2,4,9,10] F2;have e0_b2:=gb2;clear gb2;clear agx;obtain⟨v5,f5⟩: ∃v,F2 5=v:=⟨_,rfl⟩;rw[f5]at hown;refine aB fun _ y=>aA rfl ?_;simp only[f10,f11,RR,seval];apply y;clear y;refine aI ?_;refine aH _ rfl (fun hc=>?_) (fun hc=>?_)
  ·have hlt0:k<l.length:=by have:=aC hc;omega
   clear hc;have hg0:=aG hlt0;have htk:l.take (k+1)=l.take k++[l[k]]:=bR hlt0;have hkd:=hkid _ (bA hlt0);have hkl:(l.take k).length≤2000000:=by rw[cU];omega
   generalize l[k]=e at hg0 htk hkd;have hg:=uL hg0;have hf:=hfd e.name;refine aK ?_;try simp only[RR]
   refine aI ?_;refine aM ?_;refine aB fun _ y=>aA rfl ?_;simp only[f9,f11,hg,RR,seval];refine aP fun b7 hn7=>?_;have nb7_b2:b7≠b2:=fun e=>by rw[e]at hn7;simp only[hb2,seval,reduceCtorEq]at hn7
   have nb2_b7:b2≠b7:=fun e=>nb7_b2 e.symm;simp only[RR,seval];apply y;clear y;refine aB fun _ y=>aA rfl ?_;simp only[f2,hb2,nb2_b7,RR,seval];refine aN (hf) ?_;simp only[RR,seval];refine aP fun b8 hn8=>?_;have nb8_b2:b8≠b2:=fun e=>by rw[e]at hn8;simp only[hb2,nb2_b7,RR,seval,reduceCtorEq]at hn8
   have nb2_b8:b2≠b8:=fun e=>nb8_b2 e.symm;have nb8_b7:b8≠b7:=fun e=>by rw[e]at hn8;simp only[RR,seval,reduceCtorEq]at hn8
   have nb7_b8:b7≠b8:=fun e=>nb8_b7 e.symm;simp only[RR,seval];apply y;clear y;refine bM fun F3 M3 hfr hH=>?_;have g2:=hfr 2;have g4:=hfr 4;have g5:=hfr 5;have g7:=hfr 7;have g8:=hfr 8;have g9:=hfr 9;have g10:=hfr 10;have g11:=hfr 11;have gb2:=hH b2;have gb7:=hH b7;have gb8:=hH b8
   try simp only[f2,f4,f9,f10,f11,f5,hb2,nb2_b7,nb2_b8,nb7_b8,RR,seval]at g2 g4 g5 g7 g8 g9 g10 g11 gb2 gb7 gb8
   have ag0:bC [2,4,9,10] F2 F3:=bC.same hfr (by repeat (first|exact ag0|refine bC.upd rfl ?_));have e0_b2:=(hH b2).trans (by first|exact e0_b2|(simp only[nb2_b7,nb2_b8,aJ,seval];first|done|exact e0_b2))
   have hown:dJ 6 v5 _ M3:=qS hown fun b o hb=>by
    have n7:b≠b7:=fun e=>by rw[e,hn7]at hb;cases hb
    have n8:b≠b8:=fun e=>by rw[e]at n7 hb;simp only[cH _ _ n7,hb,reduceCtorEq]at hn8
    rw[hH];simp only[cH _ _ n7,cH _ _ n8];exact hb
   have f2:=g2;clear g2;have f4:=g4;clear g4;have f5:=g5;clear g5;have f7:=g7;clear g7;have f8:=g8;clear g8;have f9:=g9;clear g9;have f10:=g10;clear g10;have f11:=g11;clear g11;have hb2:=gb2;clear gb2;have hb7:=gb7;clear gb7;have hb8:=gb8;clear gb8;clear hfr hH;have ho2:=hown.offsz hb2 (by decide);have ho7:=hown.offsz hb7 (by decide);have ho8:=hown.offsz hb8 (by decide);refine bJ (fun x=>x≠b2∧x≠b7∧x≠b8) [(0,3),(1,3),(2,0),(3,3),(4,0),(5,3),(6,0),(7,3),(8,0),(9,3),(10,0),(11,1),(12,3),(13,1),(14,1),(15,3),(16,2),(17,1),(18,3)] [] dG (by kernel_rfl) rfl rfl ?_;simp only[cF,dM,f2,f5,f7,f8,hb2,hb7,hb8,nb7_b2,nb8_b2,nb8_b7,nb7_b8,RR,seval];refine aN (hkd) ?_;simp only[RR,seval];refine kD hown (by simp only[aD,bU,List.length_nil];omega) (fun b e=>by first|trivial|(repeat' apply And.intro)<;>(intro c;subst c;first|exact ho2 _ _ e|exact ho7 _ _ e|exact ho8 _ _ e)) fun v6 M4 hown' hk' hg'=>?_;have ho2':=hg' b2 ho2 (by rw[hb2];exact cL _);have ho7':=hg' b7 ho7 (by rw[hb7];exact cL _);have ho8':=hg' b8 ho8 (by rw[hb8];exact cL _);simp only[RR,seval];have gb2:=hk' b2 _ hb2 (by first|exact(hown).nb' hb2 (by decide)|exact ho2 _ _|assumption|(intro e;simp_all));have e0_b2:=(gb2.trans hb2.symm).trans e0_b2;have hb2:=gb2;clear gb2;have gb7:=hk' b7 _ hb7 (by first|exact(hown).nb' hb7 (by decide)|exact ho7 _ _|assumption|(intro e;simp_all));have hb7:=gb7;clear gb7;have gb8:=hk' b8 _ hb8 (by first|exact(hown).nb' hb8 (by decide)|exact ho8 _ _|assumption|(intro e;simp_all));have hb8:=gb8;clear gb8;have hce:=hown'.cells;have hoe:=hown'.one1
   try simp only[cF,dM,EM,hce,hoe,Option.bind_some,List.drop,f2,f5,f7,f8,hb2,hb7,hb8,nb7_b2,nb2_b7,nb8_b2,nb2_b8,nb8_b7,nb7_b8,aD,hg,RR,seval]
   refine aA rfl ?_;simp only[f11,RR,seval]
   try rw[aQ _ (by omega)]
   refine hK0 _ _ hlt0 ⟨by first|rfl|(simp only[aJ,seval];rfl),(by first|exact e0_b2|(simp only[nb7_b2,nb2_b7,nb8_b2,nb2_b8,nb8_b7,nb7_b8,aJ,seval];first|done|exact e0_b2)),by rw[htk,List.map_append,List.map_append];simp only[List.map_cons,List.map_nil,Ni];exact hown'⟩ (by repeat (first|exact ag0|refine bC.upd rfl ?_))
  have hkn0:k=l.length:=by have:=aF hc;omega
  clear hc;rw[hkn0,List.take_length]at hown;refine bF ?_;simp only[RR,seval];refine aB fun _ y=>aA rfl ?_;simp only[f5,RR,seval];apply y;clear y;refine aO ?_;simp only[bB,aL,bH,RR,seval];exact dJ.gives1 hown rfl;skip
set_option maxHeartbeats 2000000 in
theorem Le (G I:List Tq) (n:Nat): ∀l:List Sm,fE l≤n→n≤2000000→cJ cK 28 [Qo G I, .isl 5 (l.map Sm.row)] (.isl 6 ((l.map (pU (Jo G I))).map CS.row)):=by
 induction n using Nat.strongRecOn with
 |_ n ih=>
  intro l hn hb;have hl:=Dh l
  have hT: ∀e∈l,cJ cK 28 [Qo G I, .isl 5 (e.thn.map Sm.row)] (.isl 6 ((e.thn.map (pU (Jo G I))).map CS.row)):=fun e he=>by
   have h1:=fT he;have h2:=e.sz_eq;exact ih (fE e.thn) (by omega) e.thn (aY _) (by omega)
  have hU: ∀e∈l,cJ cK 28 [Qo G I, .isl 5 (e.els.map Sm.row)] (.isl 6 ((e.els.map (pU (Jo G I))).map CS.row)):=fun e he=>by
   have h1:=fT he;have h2:=e.sz_eq;exact ih (fE e.els) (by omega) e.els (aY _) (by omega)
  have hE: ∀e∈l,cJ cK 54 [Qo G I, .isl 5 (e.es.map Ex.row)] (.isl 6 ((e.es.map (rT (Jo G I))).map CE.row)):=fun e he=>by
   have h1:=fT he;have h2:=e.sz_eq;exact Lj G I (iA e.es) e.es (aY _) (by omega)
  have hfd:=fun s=>Cg G I s;clear ih;unfold Qo at *;generalize Vu G=mG at *;generalize Vu I=mI at *;generalize Jo G I=rs at *;refine bI 43 [.tmp 4] Tryz.func28 rfl rfl rfl rfl ?_;refine aB fun _ y=>aA rfl ?_;simp only[RR,seval];refine aP fun b2 hn2=>?_;simp only[RR,seval];apply y;clear y;refine aB fun _ y=>aA rfl ?_;simp only[RR,seval];apply y;clear y;refine aI ?_;refine aB fun _ y=>aA rfl ?_;simp only[aD,RR,seval];apply y;clear y;refine bM fun F1 M1 hfr hH=>?_;have g2:=hfr 2;have g4:=hfr 4;have g5:=hfr 5;have g9:=hfr 9;have g10:=hfr 10;have g11:=hfr 11;have gb2:=hH b2
  try simp only[RR,seval]at g2 g4 g5 g9 g10 g11 gb2
  have f2:=g2;clear g2;have f4:=g4;clear g4;have f5:=g5;clear g5;have f9:=g9;clear g9;have f10:=g10;clear g10;have f11:=g11;clear g11;have hb2:=gb2;clear gb2;clear hfr hH;refine aM ?_;refine bZ [2,4,9,10] (l.length) (fun k fr M=>fr 11= .int .i64 (k:Nat)∧M b2=M1 b2∧dJ 6 (fr 5) (((l.take k).map (pU rs)).map CS.row) M) ⟨f11,rfl, .inl ⟨f5,rfl⟩⟩ ?_;rintro k F2 M2 hk0 ⟨fx,gb2,hown⟩ agx K0 hK0;have f2:=(agx 2 rfl).trans f2;have f4:=(agx 4 rfl).trans f4;have f9:=(agx 9 rfl).trans f9;have f10:=(agx 10 rfl).trans f10;have f11:=fx;clear fx;have hb2:=gb2.trans hb2;have ag0:=bC.refl [2,4,9,10] F2;have e0_b2:=gb2;clear gb2;clear agx;obtain⟨v5,f5⟩: ∃v,F2 5=v:=⟨_,rfl⟩;rw[f5]at hown;refine aB fun _ y=>aA rfl ?_;simp only[f10,f11,RR,seval];apply y;clear y;refine aI ?_;refine aH _ rfl (fun hc=>?_) (fun hc=>?_)
  ·have hlt0:k<l.length:=by have:=aC hc;omega
   clear hc;have hg0:=aG hlt0;have htk:l.take (k+1)=l.take k++[l[k]]:=bR hlt0;have hk1:=hE _ (bA hlt0);have hk2:=hT _ (bA hlt0);have hk3:=hU _ (bA hlt0);have hkl:(l.take k).length≤2000000:=by rw[cU];omega
   generalize l[k]=e at hg0 htk hk1 hk2 hk3;have hg:=An hg0;have hf:=hfd e.name;refine aK ?_;try simp only[RR]
   refine aI ?_;refine aM ?_;refine aB fun _ y=>aA rfl ?_;simp only[f9,f11,hg,RR,seval];refine aP fun b7 hn7=>?_;have nb7_b2:b7≠b2:=fun e=>by rw[e]at hn7;simp only[hb2,seval,reduceCtorEq]at hn7
   have nb2_b7:b2≠b7:=fun e=>nb7_b2 e.symm;simp only[RR,seval];apply y;clear y;refine aB fun _ y=>aA rfl ?_;simp only[f2,hb2,nb2_b7,RR,seval];refine aN (hf) ?_;simp only[RR,seval];refine aP fun b8 hn8=>?_;have nb8_b2:b8≠b2:=fun e=>by rw[e]at hn8;simp only[hb2,nb2_b7,RR,seval,reduceCtorEq]at hn8
   have nb2_b8:b2≠b8:=fun e=>nb8_b2 e.symm;have nb8_b7:b8≠b7:=fun e=>by rw[e]at hn8;simp only[RR,seval,reduceCtorEq]at hn8
   have nb7_b8:b7≠b8:=fun e=>nb8_b7 e.symm;simp only[RR,seval];apply y;clear y;refine bM fun F3 M3 hfr hH=>?_;have g2:=hfr 2;have g4:=hfr 4;have g5:=hfr 5;have g7:=hfr 7;have g8:=hfr 8;have g9:=hfr 9;have g10:=hfr 10;have g11:=hfr 11;have gb2:=hH b2;have gb7:=hH b7;have gb8:=hH b8
   try simp only[f2,f4,f9,f10,f11,f5,hb2,nb2_b7,nb2_b8,nb7_b8,RR,seval]at g2 g4 g5 g7 g8 g9 g10 g11 gb2 gb7 gb8
   have ag0:bC [2,4,9,10] F2 F3:=bC.same hfr (by repeat (first|exact ag0|refine bC.upd rfl ?_));have e0_b2:=(hH b2).trans (by first|exact e0_b2|(simp only[nb2_b7,nb2_b8,aJ,seval];first|done|exact e0_b2))
   have hown:dJ 6 v5 _ M3:=qS hown fun b o hb=>by
    have n7:b≠b7:=fun e=>by rw[e,hn7]at hb;cases hb
    have n8:b≠b8:=fun e=>by rw[e]at n7 hb;simp only[cH _ _ n7,hb,reduceCtorEq]at hn8
    rw[hH];simp only[cH _ _ n7,cH _ _ n8];exact hb
   have f2:=g2;clear g2;have f4:=g4;clear g4;have f5:=g5;clear g5;have f7:=g7;clear g7;have f8:=g8;clear g8;have f9:=g9;clear g9;have f10:=g10;clear g10;have f11:=g11;clear g11;have hb2:=gb2;clear gb2;have hb7:=gb7;clear gb7;have hb8:=gb8;clear gb8;clear hfr hH;have ho2:=hown.offsz hb2 (by decide);have ho7:=hown.offsz hb7 (by decide);have ho8:=hown.offsz hb8 (by decide);refine bJ (fun x=>x≠b2∧x≠b7∧x≠b8) [(0,3),(1,3),(2,0),(3,3),(4,0),(5,3),(6,0),(7,1),(8,3),(9,1),(11,0),(12,3),(13,0),(15,0),(16,3),(17,0),(10,1),(14,1),(18,1),(19,3),(20,2),(21,1),(22,3)] [] dG (by kernel_rfl) rfl rfl ?_;simp only[cF,dM,f2,f5,f7,f8,hb2,hb7,hb8,nb7_b2,nb2_b7,nb8_b2,nb2_b8,nb8_b7,nb7_b8,RR,seval];refine aN (hk1) ?_;simp only[RR,seval];refine aN (hk2) ?_;simp only[RR,seval];refine aN (hk3) ?_;simp only[RR,seval];refine kD hown (by simp only[aD,bU,List.length_nil];omega) (fun b e=>by first|trivial|(repeat' apply And.intro)<;>(intro c;subst c;first|exact ho2 _ _ e|exact ho7 _ _ e|exact ho8 _ _ e)) fun v6 M4 hown' hk' hg'=>?_;have ho2':=hg' b2 ho2 (by rw[hb2];exact cL _);have ho7':=hg' b7 ho7 (by rw[hb7];exact cL _);have ho8':=hg' b8 ho8 (by rw[hb8];exact cL _);simp only[RR,seval];have gb2:=hk' b2 _ hb2 (by first|exact(hown).nb' hb2 (by decide)|exact ho2 _ _|assumption|(intro e;simp_all));have e0_b2:=(gb2.trans hb2.symm).trans e0_b2;have hb2:=gb2;clear gb2;have gb7:=hk' b7 _ hb7 (by first|exact(hown).nb' hb7 (by decide)|exact ho7 _ _|assumption|(intro e;simp_all));have hb7:=gb7;clear gb7;have gb8:=hk' b8 _ hb8 (by first|exact(hown).nb' hb8 (by decide)|exact ho8 _ _|assumption|(intro e;simp_all));have hb8:=gb8;clear gb8;have hce:=hown'.cells;have hoe:=hown'.one1
   try simp only[cF,dM,EM,hce,hoe,Option.bind_some,List.drop,f2,f5,f7,f8,hb2,hb7,hb8,nb7_b2,nb2_b7,nb8_b2,nb2_b8,nb8_b7,nb7_b8,aD,hg,RR,seval]
   refine aA rfl ?_;simp only[f11,RR,seval]
   try rw[aQ _ (by omega)]
   refine hK0 _ _ hlt0 ⟨by first|rfl|(simp only[aJ,seval];rfl),(by first|exact e0_b2|(simp only[nb7_b2,nb2_b7,nb8_b2,nb2_b8,nb8_b7,nb7_b8,aJ,seval];first|done|exact e0_b2)),by rw[htk,List.map_append,List.map_append];simp only[List.map_cons,List.map_nil,Nh];exact hown'⟩ (by repeat (first|exact ag0|refine bC.upd rfl ?_))
  have hkn0:k=l.length:=by have:=aF hc;omega
  clear hc;rw[hkn0,List.take_length]at hown;refine bF ?_;simp only[RR,seval];refine aB fun _ y=>aA rfl ?_;simp only[f5,RR,seval];apply y;clear y;refine aO ?_;simp only[bB,aL,bH,RR,seval];exact dJ.gives1 hown rfl;skip
end Go.Proofs.YtnfbbjhdflhmjaaGreatDoor
