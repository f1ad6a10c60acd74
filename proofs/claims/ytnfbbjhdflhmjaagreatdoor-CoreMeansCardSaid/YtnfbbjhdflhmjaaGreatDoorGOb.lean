/- Chapter 19, the program's: names are looked up; expressions and statements without names. -/
import Derived.Test.YtnfbbjhdflhmjaaGreatDoorSc1
import Derived.Test.YtnfbbjhdflhmjaaGreatDoorAl4
import Derived.Test.YtnfbbjhdflhmjaaGreatDoorSy2
set_option linter.unusedSimpArgs false
set_option linter.unusedVariables false
set_option maxRecDepth 10000
namespace Go.Al
theorem Bm {sz:Nat} {v:AV} {rows:List (List AV)} {H H':Hp} (h:dS sz v rows H) (hk: ∀b o,H b=some o→H' b=some o):dS sz v rows H':=by
 rcases h with g|⟨b,g1,g2⟩
 ·exact .inl g
 exact .inr ⟨b,g1,hk _ _ g2⟩
theorem Kl: ∀l:List Ex,l.length≤iJ l
 |[]=>by simp [iJ]
 |e::l=>by have:=Kl l;have:=e.sz_eq;simp only[bP,iJ];omega
theorem Kk: ∀l:List Sm,l.length≤gA l
 |[]=>by simp [gA]
 |e::l=>by have:=Kk l;have:=e.sz_eq;simp only[bP,gA];omega
end Go.Al
namespace Go.Proofs.YtnfbbjhdflhmjaaGreatDoor
open Go.Al
theorem At (G I:List Tq) (s:cR):dD cN 53 [Oq G I, .str s] (.agg [.int .i64 (Ia G I s).1, .int .i64 (Ia G I s).2]):=by
 have hG:=sO s G 0;have hI:=sO s I 0;have zG:=cG (G.map nM);have zI:=cG (I.map nM);unfold Ia Oq Ve;rcases hI with⟨h1,h2⟩|⟨j,t,h1,h2⟩
 ·rcases hG with⟨h3,h4⟩|⟨j',t',h3,h4⟩
  all_goals
   rw[h1,h3];refine bD 20 [.cell 4 64] Tryz.func53 rfl rfl rfl rfl ?_;refine aB fun _ y=>aA rfl ?_;simp only[Option.getD_some,Option.getD_none,RR,seval];refine aO fun b2 hn2=>?_;simp only[RR,seval];refine aO fun b4 hn4=>?_;have nb4_b2:b4≠b2:=fun e=>by rw[e]at hn4;simp only[RR,seval,reduceCtorEq]at hn4
   have nb2_b4:b2≠b4:=fun e=>nb4_b2 e.symm;simp only[RR,seval];apply y;clear y;refine aH ?_;refine aB fun _ y=>aA rfl ?_;simp only[nb2_b4,zI,h2,Option.getD_some,Option.getD_none,Option.isSome_none,RR,seval];refine aO fun b5 hn5=>?_;have nb5_b2:b5≠b2:=fun e=>by rw[e]at hn5;simp only[nb2_b4,RR,seval,reduceCtorEq]at hn5
   have nb2_b5:b2≠b5:=fun e=>nb5_b2 e.symm;have nb5_b4:b5≠b4:=fun e=>by rw[e]at hn5;simp only[RR,seval,reduceCtorEq]at hn5
   have nb4_b5:b4≠b5:=fun e=>nb5_b4 e.symm;simp only[RR,seval];apply y;clear y;refine aB fun _ y=>aA rfl ?_;simp only[Option.getD_some,Option.getD_none,RR,seval];apply y;clear y;refine aF false rfl (fun hc=>by cases hc) (fun _=>?_);refine aM ?_;try simp only[RR]
   refine aB fun _ y=>aA rfl ?_;simp only[nb2_b4,nb2_b5,nb4_b5,zG,h4,Option.getD_some,Option.getD_none,RR,seval];apply y;clear y;refine aQ ?_;simp only[aX,aN,bI,Option.getD_some,Option.getD_none,RR,seval];refine aW.pure ?_;rfl
 rw[h1];refine bD 20 [.cell 4 64] Tryz.func53 rfl rfl rfl rfl ?_;refine aB fun _ y=>aA rfl ?_;simp only[RR,seval];refine aO fun b2 hn2=>?_;simp only[RR,seval];refine aO fun b4 hn4=>?_;have nb4_b2:b4≠b2:=fun e=>by rw[e]at hn4;simp only[RR,seval,reduceCtorEq]at hn4
 have nb2_b4:b2≠b4:=fun e=>nb4_b2 e.symm;simp only[RR,seval];apply y;clear y;refine aH ?_;refine aB fun _ y=>aA rfl ?_;simp only[nb2_b4,zI,h2,Option.getD_some,Option.isSome_some,RR,seval];refine aO fun b5 hn5=>?_;have nb5_b2:b5≠b2:=fun e=>by rw[e]at hn5;simp only[nb2_b4,RR,seval,reduceCtorEq]at hn5
 have nb2_b5:b2≠b5:=fun e=>nb5_b2 e.symm;have nb5_b4:b5≠b4:=fun e=>by rw[e]at hn5;simp only[RR,seval,reduceCtorEq]at hn5
 have nb4_b5:b4≠b5:=fun e=>nb5_b4 e.symm;simp only[RR,seval];apply y;clear y;refine aB fun _ y=>aA rfl ?_;simp only[RR,seval];apply y;clear y;refine aF true rfl (fun _=>?_) (fun hc=>by cases hc);refine aB fun _ y=>aA rfl ?_;simp only[nb4_b5,RR,seval];apply y;clear y;refine aQ ?_;simp only[aX,aN,bI,RR,seval];refine aW.pure ?_;rfl
set_option maxHeartbeats 2000000 in
theorem Jm (G I:List Tq) (n:Nat): ∀l:List Ex,iJ l≤n→n≤2000000→dD cN 54 [Oq G I, .isl 5 (l.map Ex.row)] (.isl 6 ((l.map (sT (Ia G I))).map CE.row)):=by
 induction n using Nat.strongRecOn with
 |_ n ih=>
  intro l hn hb;have hl:=Kl l
  have hkid: ∀e∈l,dD cN 54 [Oq G I, .isl 5 (e.kids.map Ex.row)] (.isl 6 ((e.kids.map (sT (Ia G I))).map CE.row)):=fun e he=>by
   have h1:=jR he;have h2:=e.sz_eq;exact ih (iJ e.kids) (by omega) e.kids (aY _) (by omega)
  have hfd:=fun s=>At G I s;clear ih;unfold Oq at *;generalize Ve G=mG at *;generalize Ve I=mI at *;generalize Ia G I=rs at *;refine bD 39 [.tmp 4] Tryz.func54 rfl rfl rfl rfl ?_;refine aB fun _ y=>aA rfl ?_;simp only[RR,seval];refine aO fun b2 hn2=>?_;simp only[RR,seval];apply y;clear y;refine aB fun _ y=>aA rfl ?_;simp only[RR,seval];apply y;clear y;refine aH ?_;refine aB fun _ y=>aA rfl ?_;simp only[aD,RR,seval];apply y;clear y;refine bL fun F1 M1 hfr hH=>?_;have g2:=hfr 2;have g4:=hfr 4;have g5:=hfr 5;have g9:=hfr 9;have g10:=hfr 10;have g11:=hfr 11;have gb2:=hH b2
  try simp only[RR,seval]at g2 g4 g5 g9 g10 g11 gb2
  have f2:=g2;clear g2;have f4:=g4;clear g4;have f5:=g5;clear g5;have f9:=g9;clear g9;have f10:=g10;clear g10;have f11:=g11;clear g11;have hb2:=gb2;clear gb2;clear hfr hH;refine aI ?_;refine cP [2,4,9,10] (l.length) (fun k fr M=>fr 11= .int .i64 (k:Nat)∧M b2=M1 b2∧dS 6 (fr 5) (((l.take k).map (sT rs)).map CE.row) M) ⟨f11,rfl, .inl ⟨f5,rfl⟩⟩ ?_;rintro k F2 M2 hk0 ⟨fx,gb2,hown⟩ agx K0 hK0;have f2:=(agx 2 rfl).trans f2;have f4:=(agx 4 rfl).trans f4;have f9:=(agx 9 rfl).trans f9;have f10:=(agx 10 rfl).trans f10;have f11:=fx;clear fx;have hb2:=gb2.trans hb2;have ag0:=bE.refl [2,4,9,10] F2;have e0_b2:=gb2;clear gb2;clear agx;obtain⟨v5,f5⟩: ∃v,F2 5=v:=⟨_,rfl⟩;rw[f5]at hown;refine aB fun _ y=>aA rfl ?_;simp only[f10,f11,RR,seval];apply y;clear y;refine aH ?_;refine aF _ rfl (fun hc=>?_) (fun hc=>?_)
  ·have hlt0:k<l.length:=by have:=aC hc;omega
   clear hc;have hg0:=aG hlt0;have htk:l.take (k+1)=l.take k++[l[k]]:=bQ hlt0;have hkd:=hkid _ (bJ hlt0);have hkl:(l.take k).length≤2000000:=by rw[cF];omega
   generalize l[k]=e at hg0 htk hkd;have hg:=nK hg0;have hf:=hfd e.name;refine aM ?_;try simp only[RR]
   refine aH ?_;refine aI ?_;refine aB fun _ y=>aA rfl ?_;simp only[f9,f11,hg,RR,seval];refine aO fun b7 hn7=>?_;have nb7_b2:b7≠b2:=fun e=>by rw[e]at hn7;simp only[hb2,seval,reduceCtorEq]at hn7
   have nb2_b7:b2≠b7:=fun e=>nb7_b2 e.symm;simp only[RR,seval];apply y;clear y;refine aB fun _ y=>aA rfl ?_;simp only[f2,hb2,nb2_b7,RR,seval];refine aU (hf) ?_;simp only[RR,seval];refine aO fun b8 hn8=>?_;have nb8_b2:b8≠b2:=fun e=>by rw[e]at hn8;simp only[hb2,nb2_b7,RR,seval,reduceCtorEq]at hn8
   have nb2_b8:b2≠b8:=fun e=>nb8_b2 e.symm;have nb8_b7:b8≠b7:=fun e=>by rw[e]at hn8;simp only[RR,seval,reduceCtorEq]at hn8
   have nb7_b8:b7≠b8:=fun e=>nb8_b7 e.symm;simp only[RR,seval];apply y;clear y;refine bL fun F3 M3 hfr hH=>?_;have g2:=hfr 2;have g4:=hfr 4;have g5:=hfr 5;have g7:=hfr 7;have g8:=hfr 8;have g9:=hfr 9;have g10:=hfr 10;have g11:=hfr 11;have gb2:=hH b2;have gb7:=hH b7;have gb8:=hH b8
   try simp only[f2,f4,f9,f10,f11,f5,hb2,nb2_b7,nb2_b8,nb7_b8,RR,seval]at g2 g4 g5 g7 g8 g9 g10 g11 gb2 gb7 gb8
   have ag0:bE [2,4,9,10] F2 F3:=bE.same hfr (by repeat (first|exact ag0|refine bE.upd rfl ?_));have e0_b2:=(hH b2).trans (by first|exact e0_b2|(simp only[nb2_b7,nb2_b8,aJ,seval];first|done|exact e0_b2))
   have hown:dS 6 v5 _ M3:=Bm hown fun b o hb=>by
    have n7:b≠b7:=fun e=>by rw[e,hn7]at hb;cases hb
    have n8:b≠b8:=fun e=>by rw[e]at n7 hb;simp only[bY _ _ n7,hb,reduceCtorEq]at hn8
    rw[hH];simp only[bY _ _ n7,bY _ _ n8];exact hb
   have f2:=g2;clear g2;have f4:=g4;clear g4;have f5:=g5;clear g5;have f7:=g7;clear g7;have f8:=g8;clear g8;have f9:=g9;clear g9;have f10:=g10;clear g10;have f11:=g11;clear g11;have hb2:=gb2;clear gb2;have hb7:=gb7;clear gb7;have hb8:=gb8;clear gb8;clear hfr hH;have ho2:=hown.offsz hb2 (by decide);have ho7:=hown.offsz hb7 (by decide);have ho8:=hown.offsz hb8 (by decide);refine bB (fun x=>x≠b2∧x≠b7∧x≠b8) [(0,3),(1,3),(2,0),(3,3),(4,0),(5,3),(6,0),(7,3),(8,0),(9,3),(10,0),(11,1),(12,3),(13,1),(14,1),(15,3),(16,2),(17,1),(18,3)] [] cX (by kernel_rfl) rfl rfl ?_;simp only[cH,dY,f2,f5,f7,f8,hb2,hb7,hb8,nb7_b2,nb8_b2,nb8_b7,nb7_b8,RR,seval];refine aU (hkd) ?_;simp only[RR,seval];refine gT hown (by simp only[aD,bP,List.length_nil];omega) (fun b e=>by first|trivial|(repeat' apply And.intro)<;>(intro c;subst c;first|exact ho2 _ _ e|exact ho7 _ _ e|exact ho8 _ _ e)) fun v6 M4 hown' hk' hg'=>?_;have ho2':=hg' b2 ho2 (by rw[hb2];exact bS _);have ho7':=hg' b7 ho7 (by rw[hb7];exact bS _);have ho8':=hg' b8 ho8 (by rw[hb8];exact bS _);simp only[RR,seval];have gb2:=hk' b2 _ hb2 (by first|exact(hown).nb' hb2 (by decide)|exact ho2 _ _|assumption|(intro e;simp_all));have e0_b2:=(gb2.trans hb2.symm).trans e0_b2;have hb2:=gb2;clear gb2;have gb7:=hk' b7 _ hb7 (by first|exact(hown).nb' hb7 (by decide)|exact ho7 _ _|assumption|(intro e;simp_all));have hb7:=gb7;clear gb7;have gb8:=hk' b8 _ hb8 (by first|exact(hown).nb' hb8 (by decide)|exact ho8 _ _|assumption|(intro e;simp_all));have hb8:=gb8;clear gb8;have hce:=hown'.cells;have hoe:=hown'.one1
   try simp only[cH,dY,EM,hce,hoe,Option.bind_some,List.drop,f2,f5,f7,f8,hb2,hb7,hb8,nb7_b2,nb2_b7,nb8_b2,nb2_b8,nb8_b7,nb7_b8,aD,hg,RR,seval]
   refine aA rfl ?_;simp only[f11,RR,seval]
   try rw[aR _ (by omega)]
   refine hK0 _ _ hlt0 ⟨by first|rfl|(simp only[aJ,seval];rfl),(by first|exact e0_b2|(simp only[nb7_b2,nb2_b7,nb8_b2,nb2_b8,nb8_b7,nb7_b8,aJ,seval];first|done|exact e0_b2)),by rw[htk,List.map_append,List.map_append];simp only[List.map_cons,List.map_nil,Vq];exact hown'⟩ (by repeat (first|exact ag0|refine bE.upd rfl ?_))
  have hkn0:k=l.length:=by have:=aE hc;omega
  clear hc;rw[hkn0,List.take_length]at hown;refine bH ?_;simp only[RR,seval];refine aB fun _ y=>aA rfl ?_;simp only[f5,RR,seval];apply y;clear y;refine aQ ?_;simp only[aX,aN,bI,RR,seval];exact dS.gives1 hown rfl;skip
set_option maxHeartbeats 2000000 in
theorem Jj (G I:List Tq) (n:Nat): ∀l:List Sm,gA l≤n→n≤2000000→dD cN 28 [Oq G I, .isl 5 (l.map Sm.row)] (.isl 6 ((l.map (rM (Ia G I))).map CS.row)):=by
 induction n using Nat.strongRecOn with
 |_ n ih=>
  intro l hn hb;have hl:=Kk l
  have hT: ∀e∈l,dD cN 28 [Oq G I, .isl 5 (e.thn.map Sm.row)] (.isl 6 ((e.thn.map (rM (Ia G I))).map CS.row)):=fun e he=>by
   have h1:=gY he;have h2:=e.sz_eq;exact ih (gA e.thn) (by omega) e.thn (aY _) (by omega)
  have hU: ∀e∈l,dD cN 28 [Oq G I, .isl 5 (e.els.map Sm.row)] (.isl 6 ((e.els.map (rM (Ia G I))).map CS.row)):=fun e he=>by
   have h1:=gY he;have h2:=e.sz_eq;exact ih (gA e.els) (by omega) e.els (aY _) (by omega)
  have hE: ∀e∈l,dD cN 54 [Oq G I, .isl 5 (e.es.map Ex.row)] (.isl 6 ((e.es.map (sT (Ia G I))).map CE.row)):=fun e he=>by
   have h1:=gY he;have h2:=e.sz_eq;exact Jm G I (iJ e.es) e.es (aY _) (by omega)
  have hfd:=fun s=>At G I s;clear ih;unfold Oq at *;generalize Ve G=mG at *;generalize Ve I=mI at *;generalize Ia G I=rs at *;refine bD 43 [.tmp 4] Tryz.func28 rfl rfl rfl rfl ?_;refine aB fun _ y=>aA rfl ?_;simp only[RR,seval];refine aO fun b2 hn2=>?_;simp only[RR,seval];apply y;clear y;refine aB fun _ y=>aA rfl ?_;simp only[RR,seval];apply y;clear y;refine aH ?_;refine aB fun _ y=>aA rfl ?_;simp only[aD,RR,seval];apply y;clear y;refine bL fun F1 M1 hfr hH=>?_;have g2:=hfr 2;have g4:=hfr 4;have g5:=hfr 5;have g9:=hfr 9;have g10:=hfr 10;have g11:=hfr 11;have gb2:=hH b2
  try simp only[RR,seval]at g2 g4 g5 g9 g10 g11 gb2
  have f2:=g2;clear g2;have f4:=g4;clear g4;have f5:=g5;clear g5;have f9:=g9;clear g9;have f10:=g10;clear g10;have f11:=g11;clear g11;have hb2:=gb2;clear gb2;clear hfr hH;refine aI ?_;refine cP [2,4,9,10] (l.length) (fun k fr M=>fr 11= .int .i64 (k:Nat)∧M b2=M1 b2∧dS 6 (fr 5) (((l.take k).map (rM rs)).map CS.row) M) ⟨f11,rfl, .inl ⟨f5,rfl⟩⟩ ?_;rintro k F2 M2 hk0 ⟨fx,gb2,hown⟩ agx K0 hK0;have f2:=(agx 2 rfl).trans f2;have f4:=(agx 4 rfl).trans f4;have f9:=(agx 9 rfl).trans f9;have f10:=(agx 10 rfl).trans f10;have f11:=fx;clear fx;have hb2:=gb2.trans hb2;have ag0:=bE.refl [2,4,9,10] F2;have e0_b2:=gb2;clear gb2;clear agx;obtain⟨v5,f5⟩: ∃v,F2 5=v:=⟨_,rfl⟩;rw[f5]at hown;refine aB fun _ y=>aA rfl ?_;simp only[f10,f11,RR,seval];apply y;clear y;refine aH ?_;refine aF _ rfl (fun hc=>?_) (fun hc=>?_)
  ·have hlt0:k<l.length:=by have:=aC hc;omega
   clear hc;have hg0:=aG hlt0;have htk:l.take (k+1)=l.take k++[l[k]]:=bQ hlt0;have hk1:=hE _ (bJ hlt0);have hk2:=hT _ (bJ hlt0);have hk3:=hU _ (bJ hlt0);have hkl:(l.take k).length≤2000000:=by rw[cF];omega
   generalize l[k]=e at hg0 htk hk1 hk2 hk3;have hg:=Fi hg0;have hf:=hfd e.name;refine aM ?_;try simp only[RR]
   refine aH ?_;refine aI ?_;refine aB fun _ y=>aA rfl ?_;simp only[f9,f11,hg,RR,seval];refine aO fun b7 hn7=>?_;have nb7_b2:b7≠b2:=fun e=>by rw[e]at hn7;simp only[hb2,seval,reduceCtorEq]at hn7
   have nb2_b7:b2≠b7:=fun e=>nb7_b2 e.symm;simp only[RR,seval];apply y;clear y;refine aB fun _ y=>aA rfl ?_;simp only[f2,hb2,nb2_b7,RR,seval];refine aU (hf) ?_;simp only[RR,seval];refine aO fun b8 hn8=>?_;have nb8_b2:b8≠b2:=fun e=>by rw[e]at hn8;simp only[hb2,nb2_b7,RR,seval,reduceCtorEq]at hn8
   have nb2_b8:b2≠b8:=fun e=>nb8_b2 e.symm;have nb8_b7:b8≠b7:=fun e=>by rw[e]at hn8;simp only[RR,seval,reduceCtorEq]at hn8
   have nb7_b8:b7≠b8:=fun e=>nb8_b7 e.symm;simp only[RR,seval];apply y;clear y;refine bL fun F3 M3 hfr hH=>?_;have g2:=hfr 2;have g4:=hfr 4;have g5:=hfr 5;have g7:=hfr 7;have g8:=hfr 8;have g9:=hfr 9;have g10:=hfr 10;have g11:=hfr 11;have gb2:=hH b2;have gb7:=hH b7;have gb8:=hH b8
   try simp only[f2,f4,f9,f10,f11,f5,hb2,nb2_b7,nb2_b8,nb7_b8,RR,seval]at g2 g4 g5 g7 g8 g9 g10 g11 gb2 gb7 gb8
   have ag0:bE [2,4,9,10] F2 F3:=bE.same hfr (by repeat (first|exact ag0|refine bE.upd rfl ?_));have e0_b2:=(hH b2).trans (by first|exact e0_b2|(simp only[nb2_b7,nb2_b8,aJ,seval];first|done|exact e0_b2))
   have hown:dS 6 v5 _ M3:=Bm hown fun b o hb=>by
    have n7:b≠b7:=fun e=>by rw[e,hn7]at hb;cases hb
    have n8:b≠b8:=fun e=>by rw[e]at n7 hb;simp only[bY _ _ n7,hb,reduceCtorEq]at hn8
    rw[hH];simp only[bY _ _ n7,bY _ _ n8];exact hb
   have f2:=g2;clear g2;have f4:=g4;clear g4;have f5:=g5;clear g5;have f7:=g7;clear g7;have f8:=g8;clear g8;have f9:=g9;clear g9;have f10:=g10;clear g10;have f11:=g11;clear g11;have hb2:=gb2;clear gb2;have hb7:=gb7;clear gb7;have hb8:=gb8;clear gb8;clear hfr hH;have ho2:=hown.offsz hb2 (by decide);have ho7:=hown.offsz hb7 (by decide);have ho8:=hown.offsz hb8 (by decide);refine bB (fun x=>x≠b2∧x≠b7∧x≠b8) [(0,3),(1,3),(2,0),(3,3),(4,0),(5,3),(6,0),(7,1),(8,3),(9,1),(11,0),(12,3),(13,0),(15,0),(16,3),(17,0),(10,1),(14,1),(18,1),(19,3),(20,2),(21,1),(22,3)] [] cX (by kernel_rfl) rfl rfl ?_;simp only[cH,dY,f2,f5,f7,f8,hb2,hb7,hb8,nb7_b2,nb2_b7,nb8_b2,nb2_b8,nb8_b7,nb7_b8,RR,seval];refine aU (hk1) ?_;simp only[RR,seval];refine aU (hk2) ?_;simp only[RR,seval];refine aU (hk3) ?_;simp only[RR,seval];refine gT hown (by simp only[aD,bP,List.length_nil];omega) (fun b e=>by first|trivial|(repeat' apply And.intro)<;>(intro c;subst c;first|exact ho2 _ _ e|exact ho7 _ _ e|exact ho8 _ _ e)) fun v6 M4 hown' hk' hg'=>?_;have ho2':=hg' b2 ho2 (by rw[hb2];exact bS _);have ho7':=hg' b7 ho7 (by rw[hb7];exact bS _);have ho8':=hg' b8 ho8 (by rw[hb8];exact bS _);simp only[RR,seval];have gb2:=hk' b2 _ hb2 (by first|exact(hown).nb' hb2 (by decide)|exact ho2 _ _|assumption|(intro e;simp_all));have e0_b2:=(gb2.trans hb2.symm).trans e0_b2;have hb2:=gb2;clear gb2;have gb7:=hk' b7 _ hb7 (by first|exact(hown).nb' hb7 (by decide)|exact ho7 _ _|assumption|(intro e;simp_all));have hb7:=gb7;clear gb7;have gb8:=hk' b8 _ hb8 (by first|exact(hown).nb' hb8 (by decide)|exact ho8 _ _|assumption|(intro e;simp_all));have hb8:=gb8;clear gb8;have hce:=hown'.cells;have hoe:=hown'.one1
   try simp only[cH,dY,EM,hce,hoe,Option.bind_some,List.drop,f2,f5,f7,f8,hb2,hb7,hb8,nb7_b2,nb2_b7,nb8_b2,nb2_b8,nb8_b7,nb7_b8,aD,hg,RR,seval]
   refine aA rfl ?_;simp only[f11,RR,seval]
   try rw[aR _ (by omega)]
   refine hK0 _ _ hlt0 ⟨by first|rfl|(simp only[aJ,seval];rfl),(by first|exact e0_b2|(simp only[nb7_b2,nb2_b7,nb8_b2,nb2_b8,nb8_b7,nb7_b8,aJ,seval];first|done|exact e0_b2)),by rw[htk,List.map_append,List.map_append];simp only[List.map_cons,List.map_nil,Vo];exact hown'⟩ (by repeat (first|exact ag0|refine bE.upd rfl ?_))
  have hkn0:k=l.length:=by have:=aE hc;omega
  clear hc;rw[hkn0,List.take_length]at hown;refine bH ?_;simp only[RR,seval];refine aB fun _ y=>aA rfl ?_;simp only[f5,RR,seval];apply y;clear y;refine aQ ?_;simp only[aX,aN,bI,RR,seval];exact dS.gives1 hown rfl;skip
end Go.Proofs.YtnfbbjhdflhmjaaGreatDoor
namespace Go.Al
theorem rP: ∀{l:List Ar},(∀a∈l,0≤a.size∧a.size≤4096)→0≤fG l∧fG l≤4096 *l.length
 |[],_=>by simp [fG]
 |a::l,h=>by
  have h1:=h a (List.mem_cons_self);have h2:=rP (l:=l) fun x hx=>h x (List.mem_cons_of_mem _ hx);simp only[fG,bP];omega
theorem vK: ∀{l:List Fu},(∀f∈l,f.params.length≤10000∧f.locs.length≤1100000)→0≤eC l∧eC l≤1110000 *l.length
 |[],_=>by simp [eC]
 |a::l,h=>by
  have h1:=h a (List.mem_cons_self);have h2:=vK (l:=l) fun x hx=>h x (List.mem_cons_of_mem _ hx);simp only[eC,bP];omega
theorem dS.smapF {v:AV} {l:List CF} {H H':Hp} {m:Nat} {es es':List (AV×AV)} (h:dS 5 v (l.map CF.row) H) (hm:H m=some (.amap es')) (hH: ∀b,H' b=if b=m then none else(H b).map (zV m es)):dS 5 v (l.map CF.row) H':=by
 rcases h with g|⟨b,g1,g2⟩
 ·exact .inl g
 refine .inr ⟨b,g1, ?_⟩;rw[hH,if_neg (fun e=>by rw[e,hm]at g2;cases g2),g2];simp only[Option.map_some,rB,List.map_map];rfl
theorem dS.new2 {sz:Nat} {v:AV} {rows:List (List AV)} {H:Hp} (h:dS sz v rows H) {b9 b:Nat} {o1 o2:Option eS} (hb:Al.upd (Al.upd H b9 o1) b9 o2 b=none) (h9:H b9=none):Al.off v b:=fun s n e=>h.there s b n e (by
 cases hq:H b with
 |none=>rfl
 |some o=>
  exfalso;have n:b≠b9:=fun e=>by rw[e,h9]at hq;cases hq
  simp only[bY _ _ n,hq,reduceCtorEq]at hb)
theorem dS.smapV {sz:Nat} {v:AV} {rows:List (List AV)} {H:Hp} (h:dS sz v rows H) (m:Nat) (es:List (AV×AV)):mT m es v=v:=by
 rcases h with⟨rfl,_⟩|⟨b,rfl,_⟩<;>rfl
end Go.Al
namespace Go.Proofs.YtnfbbjhdflhmjaaGreatDoor
open Go.Al
set_option maxHeartbeats 4000000 in
theorem Ck (p:Pg) (hn:(fD p).Nodup) (hv:p.vars.length≤10000) (ha:p.arrs.length≤10000) (hf:p.funs.length≤10000) (hsz: ∀a∈p.arrs,0≤a.size∧a.size≤4096):
  dD cN 27 [p.av] (.tup [Ve (Bs p), .int .i64 (eA p)]):=by
 obtain⟨G,hG⟩: ∃G,Bs p=G:=⟨_,rfl⟩;obtain⟨wb,hwb⟩: ∃w,eA p=w:=⟨_,rfl⟩;rw[hG,hwb];obtain⟨vs,aa,fs⟩:=p;simp only[Bs]at hG;simp only[fD]at hn;simp only[eA]at hwb;simp only[Pg.av,Pg.row];simp only at hv ha hf hsz⊢;have hNa:(vs++aa.map Ar.name).Nodup:=(List.nodup_append.1 hn).1;have hNv:vs.Nodup:=(List.nodup_append.1 hNa).1;have hNv':([]++vs).Nodup:=by rw[List.nil_append];exact hNv
 refine bD 62 [.tmp 2, .tmp 3] Tryz.func27 rfl rfl rfl rfl ?_;refine aB fun _ y=>aA rfl ?_;simp only[RR,seval];refine aO fun b1 hn1=>?_;simp only[RR,seval];apply y;clear y;refine aB fun _ y=>aA rfl ?_;simp only[RR,seval];refine aO fun b12 hn12=>?_;have nb12_b1:b12≠b1:=fun e=>by rw[e]at hn12;simp only[RR,seval,reduceCtorEq]at hn12
 have nb1_b12:b1≠b12:=fun e=>nb12_b1 e.symm;simp only[RR,seval];apply y;clear y;refine aH ?_;refine aB fun _ y=>aA rfl ?_;simp only[nb1_b12,aD,RR,seval];apply y;clear y;refine bL fun F1 M1 hfr hH=>?_;have g1:=hfr 1;have g2:=hfr 2;have g3:=hfr 3;have g4:=hfr 4;have g5:=hfr 5;have g14:=hfr 14;have g15:=hfr 15;have g16:=hfr 16;have gb1:=hH b1;have gb12:=hH b12
 try simp only[nb1_b12,RR,seval]at g1 g2 g3 g4 g5 g14 g15 g16 gb1 gb12
 have f1:=g1;clear g1;have f2:=g2;clear g2;have f3:=g3;clear g3;have f4:=g4;clear g4;have f5:=g5;clear g5;have f14:=g14;clear g14;have f15:=g15;clear g15;have f16:=g16;clear g16;have hb1:=gb1;clear gb1;have hb12:=gb12;clear gb12;clear hfr hH;refine aI ?_;refine cP [1,2,3,4,14,15] (vs.length) (fun k fr M=>fr 16= .int .i64 (k:Nat)∧M b1=M1 b1∧M b12=some (.amap ((mB 0 (vs.take k)).map nM))∧fr 5= .int .i64 (k:Nat)) ⟨f16,rfl,(by rw[hb12];rfl),f5⟩ ?_;rintro k F2 M2 hk0 ⟨fx,gb1,⟨hb12,f5⟩⟩ agx K0 hK0;have f1:=(agx 1 rfl).trans f1;have f2:=(agx 2 rfl).trans f2;have f3:=(agx 3 rfl).trans f3;have f4:=(agx 4 rfl).trans f4;have f14:=(agx 14 rfl).trans f14;have f15:=(agx 15 rfl).trans f15;have f16:=fx;clear fx;have hb1:=gb1.trans hb1;have ag0:=bE.refl [1,2,3,4,14,15] F2;have e0_b1:=gb1;clear gb1;clear agx;refine aB fun _ y=>aA rfl ?_;simp only[f15,f16,RR,seval];apply y;clear y;refine aH ?_;refine aF _ rfl (fun hc=>?_) (fun hc=>?_)
 ·have hlt0:k<vs.length:=by have:=aC hc;omega
  clear hc;have hg0:=aG hlt0;generalize vs[k]=s at hg0;have hg:=tP hg0;have hni:=nC hNv' hg0;have hput:=wH (mB 0 (vs.take k)) s (k:Int) 0 (by rw[iX];simpa using hni);have htk:=oZ vs 0 k s hg0;rw[Int.zero_add]at htk;rw[←htk]at hput;have ek:IntKind.wrap .i64 ((k:Int)+1)=((k+1:Nat):Int):=by rw[aR _ (by omega)];omega
  generalize(mB 0 (vs.take k)).map nM=es at hput hb12;refine aM ?_;try simp only[RR]
  refine aH ?_;refine aI ?_;refine aB fun _ y=>aA rfl ?_;simp only[f14,f16,hg,RR,seval];apply y;clear y;refine aB fun _ y=>aA rfl ?_;simp only[f4,f5,hb12,hput,RR,seval];apply y;clear y;refine aA rfl ?_;simp only[f5,ek,RR,seval];refine aA rfl ?_;simp only[f16,ek,RR,seval]
  try rw[aR _ (by omega)]
  refine hK0 _ _ hlt0 ⟨by first|rfl|(simp only[aJ,seval];rfl),(by first|exact e0_b1|(simp only[nb1_b12,aJ,seval];first|done|exact e0_b1)),(by first|exact bO _ _ _|(simp only[aJ,seval];rfl)),(by simp only[aJ,seval])⟩ (by repeat (first|exact ag0|refine bE.upd rfl ?_))
 have hkn0:k=vs.length:=by have:=aE hc;omega
 clear hc;rw[hkn0,List.take_length]at hb12;rw[hkn0]at f5;refine bH ?_;simp only[RR,seval];refine aH ?_;refine aB fun _ y=>aA rfl ?_;simp only[f1,hb1,aD,RR,seval];apply y;clear y;refine bL fun F3 M3 hfr hH=>?_;have g1:=hfr 1;have g2:=hfr 2;have g3:=hfr 3;have g4:=hfr 4;have g5:=hfr 5;have g28:=hfr 28;have g29:=hfr 29;have g30:=hfr 30;have gb1:=hH b1;have gb12:=hH b12
 try simp only[f1,f2,f3,f4,f5,hb1,hb12,RR,seval]at g1 g2 g3 g4 g5 g28 g29 g30 gb1 gb12
 have f1:=g1;clear g1;have f2:=g2;clear g2;have f3:=g3;clear g3;have f4:=g4;clear g4;have f5:=g5;clear g5;have f28:=g28;clear g28;have f29:=g29;clear g29;have f30:=g30;clear g30;have hb1:=gb1;clear gb1;have hb12:=gb12;clear gb12;clear hfr hH;refine aI ?_;refine cP [1,2,3,4,28,29] (aa.length) (fun k fr M=>fr 30= .int .i64 (k:Nat)∧M b1=M3 b1∧M b12=some (.amap ((mB 0 vs++Cv vs.length (aa.take k)).map nM))∧fr 5= .int .i64 ((vs.length:Int)+fG (aa.take k))) ⟨f30,rfl,(by rw[hb12];simp [Cv]),(by simp [fG,f5])⟩ ?_;rintro k F4 M4 hk2 ⟨fx,gb1,⟨hb12,f5⟩⟩ agx K2 hK2;have f1:=(agx 1 rfl).trans f1;have f2:=(agx 2 rfl).trans f2;have f3:=(agx 3 rfl).trans f3;have f4:=(agx 4 rfl).trans f4;have f28:=(agx 28 rfl).trans f28;have f29:=(agx 29 rfl).trans f29;have f30:=fx;clear fx;have hb1:=gb1.trans hb1;have ag2:=bE.refl [1,2,3,4,28,29] F4;have e2_b1:=gb1;clear gb1;clear agx;refine aB fun _ y=>aA rfl ?_;simp only[f29,f30,RR,seval];apply y;clear y;refine aH ?_;refine aF _ rfl (fun hc=>?_) (fun hc=>?_)
 ·have hlt2:k<aa.length:=by have:=aC hc;omega
  clear hc;have hg0:=aG hlt2;have hsa:=hsz _ (bJ hlt2);generalize aa[k]=a at hg0 hsa;have hg:=Bx hg0;have hg1:(aa.map Ar.name)[k]?=some a.name:=by rw[bN,hg0];rfl
  have hni:=nC hNa hg1;have hput:=wH (mB 0 vs++Cv vs.length (aa.take k)) a.name ((vs.length:Int)+fG (aa.take k)) a.size (by rw[List.map_append,iX,sY,List.map_take];exact hni);have htk:=pA aa vs.length k a hg0;rw[List.append_assoc,←htk.1]at hput;have hsum:=rP (l:=aa.take k) fun x hx=>hsz x (List.mem_of_mem_take hx);have htl:(aa.take k).length≤aa.length:=by rw[cF];omega
  have ek:IntKind.wrap .i64 ((vs.length:Int)+fG (aa.take k)+a.size)=(vs.length:Int)+fG (aa.take (k+1)):=by rw[aR _ (by omega),htk.2];omega
  generalize(mB 0 vs++Cv vs.length (aa.take k)).map nM=es at hput hb12;refine aM ?_;try simp only[RR]
  refine aH ?_;refine aI ?_;refine aB fun _ y=>aA rfl ?_;simp only[f28,f30,hg,RR,seval];refine aO fun b9 hn9=>?_;have nb9_b1:b9≠b1:=fun e=>by rw[e]at hn9;simp only[hb1,seval,reduceCtorEq]at hn9
  have nb1_b9:b1≠b9:=fun e=>nb9_b1 e.symm;have nb9_b12:b9≠b12:=fun e=>by rw[e]at hn9;simp only[hb12,seval,reduceCtorEq]at hn9
  have nb12_b9:b12≠b9:=fun e=>nb9_b12 e.symm;simp only[RR,seval];apply y;clear y;refine aB fun _ y=>aA rfl ?_;simp only[f4,f5,hb12,nb12_b9,hput,RR,seval];apply y;clear y;refine aA rfl ?_;simp only[f5,nb9_b12,ek,RR,seval];refine aA rfl ?_;simp only[f30,RR,seval]
  try rw[aR _ (by omega)]
  refine hK2 _ _ hlt2 ⟨by first|rfl|(simp only[aJ,seval];rfl),(by first|exact e2_b1|(simp only[nb1_b12,nb1_b9,aJ,seval];first|done|exact e2_b1)),(by simp only[aJ,seval];first|rfl|done),(by simp only[aJ,seval])⟩ (by repeat (first|exact ag2|refine bE.upd rfl ?_))
 have hkn2:k=aa.length:=by have:=aE hc;omega
 clear hc;rw[hkn2,List.take_length]at hb12 f5;rw[hwb]at f5;refine bH ?_;simp only[RR,seval];refine aH ?_;refine aB fun _ y=>aA rfl ?_;simp only[f1,hb1,aD,RR,seval];apply y;clear y;refine bL fun F5 M5 hfr hH=>?_;have g2:=hfr 2;have g3:=hfr 3;have g4:=hfr 4;have g5:=hfr 5;have g47:=hfr 47;have g48:=hfr 48;have g49:=hfr 49;have gb1:=hH b1;have gb12:=hH b12
 try simp only[f2,f3,f4,f5,hb1,hb12,RR,seval]at g2 g3 g4 g5 g47 g48 g49 gb1 gb12
 have f2:=g2;clear g2;have f3:=g3;clear g3;have f4:=g4;clear g4;have f5:=g5;clear g5;have f47:=g47;clear g47;have f48:=g48;clear g48;have f49:=g49;clear g49;have hb1:=gb1;clear gb1;have hb12:=gb12;clear gb12;clear hfr hH;refine aI ?_;refine cP [2,3,4,5,47,48] (fs.length) (fun k fr M=>fr 49= .int .i64 (k:Nat)∧M b1=M5 b1∧M b12=some (.amap ((mB 0 vs++Cv vs.length aa++mB 0 ((fs.map Fu.name).take k)).map nM))) ⟨f49,rfl,by rw[hb12];simp [mB]⟩ ?_;rintro k F6 M6 hk4 ⟨fx,gb1,hb12⟩ agx K4 hK4;have f2:=(agx 2 rfl).trans f2;have f3:=(agx 3 rfl).trans f3;have f4:=(agx 4 rfl).trans f4;have f5:=(agx 5 rfl).trans f5;have f47:=(agx 47 rfl).trans f47;have f48:=(agx 48 rfl).trans f48;have f49:=fx;clear fx;have hb1:=gb1.trans hb1;have ag4:=bE.refl [2,3,4,5,47,48] F6;have e4_b1:=gb1;clear gb1;clear agx;refine aB fun _ y=>aA rfl ?_;simp only[f48,f49,RR,seval];apply y;clear y;refine aH ?_;refine aF _ rfl (fun hc=>?_) (fun hc=>?_)
 ·have hlt4:k<fs.length:=by have:=aC hc;omega
  clear hc;have hg0:=aG hlt4;generalize fs[k]=f at hg0;have hg:=pG hg0;have hg1:(fs.map Fu.name)[k]?=some f.name:=by rw[bN,hg0];rfl
  have hni:=nC hn hg1;have hput:=wH (mB 0 vs++Cv vs.length aa++mB 0 ((fs.map Fu.name).take k)) f.name (k:Int) 0 (by rw[List.map_append,List.map_append,iX,sY,iX];exact hni);have htk:=oZ (fs.map Fu.name) 0 k f.name hg1;rw[Int.zero_add]at htk;rw[List.append_assoc (mB 0 vs++Cv vs.length aa),←htk]at hput;generalize(mB 0 vs++Cv vs.length aa++mB 0 ((fs.map Fu.name).take k)).map nM=es at hput hb12;refine aM ?_;try simp only[RR]
  refine aH ?_;refine aI ?_;refine aB fun _ y=>aA rfl ?_;simp only[f47,f49,hg,RR,seval];refine aO fun b11 hn11=>?_;have nb11_b1:b11≠b1:=fun e=>by rw[e]at hn11;simp only[hb1,seval,reduceCtorEq]at hn11
  have nb1_b11:b1≠b11:=fun e=>nb11_b1 e.symm;have nb11_b12:b11≠b12:=fun e=>by rw[e]at hn11;simp only[hb12,seval,reduceCtorEq]at hn11
  have nb12_b11:b12≠b11:=fun e=>nb11_b12 e.symm;simp only[RR,seval];apply y;clear y;refine aA rfl ?_;simp only[f4,hb12,nb12_b11,hput,RR,seval];refine aA rfl ?_;simp only[f49,RR,seval]
  try rw[aR _ (by omega)]
  refine hK4 _ _ hlt4 ⟨by first|rfl|(simp only[aJ,seval];rfl),(by first|exact e4_b1|(simp only[nb1_b12,nb1_b11,aJ,seval];first|done|exact e4_b1)),by simp only[aJ,seval];first|rfl|done⟩ (by repeat (first|exact ag4|refine bE.upd rfl ?_))
 have hkn4:k=fs.length:=by have:=aE hc;omega
 clear hc;rw[hkn4,←aD (f:=Fu.name),List.take_length,hG]at hb12;refine bH ?_;simp only[RR,seval];refine bL fun F7 M7 hfr hH=>?_;have g2:=hfr 2;have g3:=hfr 3;have g4:=hfr 4;have g5:=hfr 5;have gb1:=hH b1;have gb12:=hH b12
 try simp only[f2,f3,f4,f5,hb1,hb12,RR,seval]at g2 g3 g4 g5 gb1 gb12
 have f2:=g2;clear g2;have f3:=g3;clear g3;have f4:=g4;clear g4;have f5:=g5;clear g5;have hb1:=gb1;clear gb1;have hb12:=gb12;clear gb12;clear hfr hH;refine kB hb12 ?_;refine bL fun F8 M8 hfr hH=>?_;have g2:=hfr 2;have g3:=hfr 3;have g4:=hfr 4;have g5:=hfr 5;have gb1:=hH b1
 try simp only[SM,List.map_cons,List.map_nil,Option.map_some,f2,f3,f4,f5,hb1,nb1_b12,seval]at g2 g3 g4 g5 gb1
 have f2:=g2;clear g2;have f3:=g3;clear g3;have f4:=g4;clear g4;have f5:=g5;clear g5;have hb1:=gb1;clear gb1;clear hfr hH;refine aB fun _ y=>aA rfl ?_;simp only[f4,f5,RR,seval];apply y;clear y;refine aQ ?_;simp only[aX,aN,bI,RR,seval];refine aW.pure ?_;rfl
end Go.Proofs.YtnfbbjhdflhmjaaGreatDoor
namespace Go.Al
theorem wS (n:Nat): ∀(l:List Ex) (left cI:Int),iJ l≤n→0≤eX l left cI→eX l left cI+iJ l=left:=by
 induction n using Nat.strongRecOn with
 |_ n ih=>
  intro l left cI hn h
  cases l with
  |nil=>rw[eX,iJ];simp
  |cons e l=>
   have hs:=e.sz_eq;rw[iJ]at hn⊢;rw[lC]at h⊢;split at h
   ·omega
   rename_i h1;rw[if_neg h1];split at h
   ·omega
   rename_i h2;rw[if_neg h2];have i1:=ih (iJ l) (by omega) l _ cI (aY _) h;have i2:=ih (iJ e.kids) (by omega) e.kids (left- 1) (cI- 1) (aY _) (by omega);omega
theorem wR (n:Nat): ∀(l:List Sm) (left cI:Int),gA l≤n→0≤eT l left cI→eT l left cI+gA l=left:=by
 induction n using Nat.strongRecOn with
 |_ n ih=>
  intro l left cI hn h
  cases l with
  |nil=>rw[eT,gA];simp
  |cons e l=>
   have hs:=e.sz_eq;rw[gA]at hn⊢;rw[kZ]at h⊢;split at h
   ·omega
   rename_i h1;rw[if_neg h1];split at h
   ·omega
   rename_i h2;rw[if_neg h2];have i1:=ih (gA l) (by omega) l _ cI (aY _) h;have i2:=ih (gA e.els) (by omega) e.els (eT e.thn (eX e.es (left- 1) (cI- 1)) (cI- 1)) (cI- 1) (aY _) (by omega);have i3:=ih (gA e.thn) (by omega) e.thn (eX e.es (left- 1) (cI- 1)) (cI- 1) (aY _) (by omega);have i4:=wS _ e.es (left- 1) (cI- 1) (aY _) (by omega);omega
theorem rY: ∀(l:List Fu) (left:Int),0≤kJ l left→kJ l left≤left∧ ∀f∈l,(gA f.body:Int)≤left
 |[],left,h=>⟨by rw[kJ];exact Int.le_refl _,fun f hf=>by cases hf⟩
 |f::l,left,h=>by
  rw[kJ]at h⊢;obtain⟨h1,h2⟩:=rY l _ h;have h3:=wR _ f.body (left-f.params.length-f.locs.length) 60 (aY _) (by omega);refine⟨by omega,fun g hg=>?_⟩;rcases List.mem_cons.mp hg with rfl|hg
  ·omega
  have:=h2 g hg;omega
end Go.Al
namespace Go.Al
def sD:Int→List Fu→List Int
 |_,[]=>[]
 |w,f::l=>w::sD (w+((f.params.length+f.locs.length:Nat):Int)) l
theorem jH: ∀(l:List Fu) (w:Int) (j:Nat) (f:Fu),l[j]?=some f→sD w (l.take (j+1))=sD w (l.take j)++[w+eC (l.take j)]∧eC (l.take (j+1))=eC (l.take j)+((f.params.length+f.locs.length:Nat):Int)
 |[],w,j,s,h=>by simp at h
 |x::l,w,0,s,h=>by
  simp only[List.getElem?_cons_zero,Option.some.injEq]at h;subst h;simp [sD,eC]
 |x::l,w,j+1,s,h=>by
  simp only[List.getElem?_cons_succ]at h;have:=jH l (w+((x.params.length+x.locs.length:Nat):Int)) j s h;simp only[List.take_succ_cons,sD,this.1,eC,this.2,List.cons_append];refine⟨?_,by omega⟩;rw[show w+((x.params.length+x.locs.length:Nat):Int)+eC (l.take j)=w+(((x.params.length+x.locs.length:Nat):Int)+eC (l.take j))by omega]
theorem kP (l:List Fu) (j:Nat):eC (l.take j)≤eC l:=by
 induction l generalizing j with
 |nil=>simp
 |cons x l ih=>
  cases j with
  |zero=>simp only[List.take_zero];exact iA _
  |succ j=>simp only[List.take_succ_cons,eC];have:=ih j;omega
theorem pX {l:List Ar} (h: ∀a∈l,0≤a.size) (j:Nat):fG (l.take j)≤fG l:=by
 induction l generalizing j with
 |nil=>simp
 |cons x l ih=>
  cases j with
  |zero=>simp only[List.take_zero];exact iB h
  |succ j=>simp only[List.take_succ_cons,fG];have:=ih (fun a ha=>h a (List.mem_cons_of_mem _ ha)) j;omega
end Go.Al
namespace Go.Proofs.YtnfbbjhdflhmjaaGreatDoor
open Go.Al
def Aq (p:Pg):Bool:=Ca p 300&&eH p
theorem Nn (p:Pg) (hp:p.ok) (h:Aq p=true):p.few∧1≤p.funs.length∧ ∀a∈p.arrs,0≤a.size∧a.size≤4096:=by
 simp only[Aq,Ca,eH,aK,aP,List.all_eq_true]at h;obtain⟨⟨⟨⟨⟨⟨h1,h2⟩,h3⟩,h4⟩,h5⟩,h6⟩,⟨⟨⟨_,h7⟩,_⟩,h8⟩,_⟩:=h;have hs:=(rY _ _ h6).2;refine⟨⟨hp, ?_,by omega,by omega,fun f hf=>?_⟩,h7,fun a ha=>?_⟩
 ·have:=(iT h1).1;omega
 ·have hff:=h5 f hf
  simp only[rG,aK]at hff;have q1:=(iT hff.1.1).1;have q2:=(iT hff.1.2).1;have:=hs f hf;refine⟨by omega,by omega,by omega⟩
 have:=h8 a ha;simp only[fF,aK,aP]at this;omega
set_option maxHeartbeats 2000000 in
theorem Np (p:Pg) (hp:p.ok):dD cN 7 [p.av] (.bool (Aq p)):=by
 have h1:=Vx p hp 300 (by omega) (by omega)
 have h2:Ca p 300=true→dD cN 23 [p.av] (.bool (eH p)):=fun h=>Oh p hp (by
  intro f hf;simp only[Ca,aK,List.all_eq_true]at h;have hff:=h.1.2 f hf;simp only[rG,aK]at hff;have q1:=(iT hff.1.1).1
  omega)
 unfold Aq;have hav:p.av= .agg [.isl 1 (p.vars.map bK), .isl 2 (p.arrs.map Ar.row), .isl 5 (p.funs.map Fu.row)]:=rfl;rw[hav]at *;generalize eH p=b at *;generalize Ca p 300=a at *
 cases a with
 |false=>
  refine bD 9 [.tmp 2] Tryz.func7 rfl rfl rfl rfl ?_;refine aB fun _ y=>aA rfl ?_;simp only[RR,seval];refine aO fun b1 hn1=>?_;simp only[RR,seval];apply y;clear y;refine aB fun _ y=>aA rfl ?_;simp only[RR,seval];refine aU (h1) ?_;simp only[RR,seval];apply y;clear y;refine aQ ?_;simp only[aX,aN,bI,RR,seval];refine aW.pure ?_;rfl
 |true=>
  have h2:=h2 rfl;rw[Bool.true_and];refine bD 9 [.tmp 2] Tryz.func7 rfl rfl rfl rfl ?_;refine aB fun _ y=>aA rfl ?_;simp only[RR,seval];refine aO fun b1 hn1=>?_;simp only[RR,seval];apply y;clear y;refine aB fun _ y=>aA rfl ?_;simp only[RR,seval];refine aU (h1) ?_;simp only[RR,seval];refine aU (h2) ?_;simp only[RR,seval];apply y;clear y;refine aQ ?_;simp only[aX,aN,bI,RR,seval];refine aW.pure ?_;rfl
end Go.Proofs.YtnfbbjhdflhmjaaGreatDoor
