/- Chapter 19: are two cores alike? How great is one? -/
import Derived.Test.YtnfbbjhdflhmjaaGreatDoorGSe
import Derived.Test.YtnfbbjhdflhmjaaGreatDoorGLd
set_option linter.unusedSimpArgs false
set_option linter.unusedVariables false
set_option maxRecDepth 10000
namespace Go.Al
theorem Yk {a b:CF} (h1:a.params=b.params) (h2:a.slots=b.slots) (h3:a.first=b.first) (h4:a.word=b.word) (h5:a.body=b.body):a=b:=by
 cases a;cases b;simp only at *;subst h1;subst h2;subst h3;subst h4;subst h5;rfl
end Go.Al
namespace Go.Proofs.YtnfbbjhdflhmjaaGreatDoor
open Go.Al
set_option maxHeartbeats 4000000 in
theorem Pw (c d:Co) (hc:c.ok) (hd:d.ok):cJ cK 13 [c.av,d.av] (.bool (wD c d)):=by
 have h1:c.av= .agg [.int .i64 c.words, .isl 5 (c.funs.map CF.row)]:=rfl;have h2:d.av= .agg [.int .i64 d.words, .isl 5 (d.funs.map CF.row)]:=rfl;rw[h1,h2];clear h1 h2;have fc:c.funs.length≤9223372036854775807:=hc.fit;have ac:=hc.funs;have ad:=hd.funs;clear hc hd;obtain⟨w,fs⟩:=c;obtain⟨w',gs⟩:=d;simp only at *
 have hbad: ¬(w=w'∧fs.length=gs.length)→AV.bool false=AV.bool (wD (Co.mk w fs) (Co.mk w' gs)):=fun h=>by
  rw[jD];intro e;cases e;exact h ⟨rfl,rfl⟩
 have hbad2: ∀{k:Nat} {f g:CF},fs[k]?=some f→gs[k]?=some g→ ¬f=g→AV.bool false=AV.bool (wD (Co.mk w fs) (Co.mk w' gs)):=fun {k f g} h1 h2 h3=>by
  rw[jD];intro e;cases e;rw[h1]at h2;cases h2;exact h3 rfl
 have hgood:w=w'→fs=gs→AV.bool true=AV.bool (wD (Co.mk w fs) (Co.mk w' gs)):=fun h1 h2=>by rw[h1,h2,fK]
 generalize wD (Co.mk w fs) (Co.mk w' gs)=res at *;refine bI 68 [.tmp 4] Tryz.func13 rfl rfl rfl rfl ?_;refine aB fun _ y=>aA rfl ?_;simp only[RR,seval];refine aP fun b2 hn2=>?_;simp only[RR,seval];refine aP fun b3 hn3=>?_;have nb3_b2:b3≠b2:=fun e=>by rw[e]at hn3;simp only[RR,seval,reduceCtorEq]at hn3
 have nb2_b3:b2≠b3:=fun e=>nb3_b2 e.symm;simp only[RR,seval];apply y;clear y;refine aI ?_;refine bM fun F1 M1 hfr hH=>?_;have g2:=hfr 2;have g3:=hfr 3;have g4:=hfr 4;have gb2:=hH b2;have gb3:=hH b3
 try simp only[nb2_b3,RR,seval]at g2 g3 g4 gb2 gb3
 have f2:=g2;clear g2;have f3:=g3;clear g3;have f4:=g4;clear g4;have hb2:=gb2;clear gb2;have hb3:=gb3;clear gb3;clear hfr hH;refine dS (fun fr M=>bC [2,3] F1 fr∧M b2=M1 b2∧M b3=M1 b3∧w=w'∧fs.length=gs.length) (fun KS1 hKS1=>?_) ?_
 ·have agS1:=bC.refl [2,3] F1
  have eS1_b2:M1 b2=M1 b2:=rfl;have eS1_b3:M1 b3=M1 b3:=rfl;refine aB fun _ y=>aA rfl ?_;simp only[f2,f3,hb2,hb3,RR,seval]
  repeat' ((first|refine aR (fun h=>?_) (fun h=>?_)|refine aV (fun h=>?_) (fun h=>?_))<;>simp only[h,f2,f3,hb2,hb3,aD,RR,seval])
  all_goals
   apply y;clear y;refine aH _ rfl (fun hc1=>?_) (fun hc1=>?_)
   ·try (cases hc1;done)
    all_goals
     refine aB fun _ y=>aA rfl ?_;simp only[RR,seval];apply y;clear y;refine aO ?_;simp only[bB,aL,bH,RR,seval];refine aZ.pure ?_
     first|exact hbad (fun e=>by have h:= ‹(!decide (w=w'))=true›;simp at h;exact h e.1)|exact hbad (fun e=>by simp at hc1;omega)|exact hbad2 g1 g2 (fun e=>by have h:= ‹(!decide (a.params=b.params))=true›;simp at h;exact h (by rw[e]))|exact hbad2 g1 g2 (fun e=>by have h:= ‹(!decide (a.slots=b.slots))=true›;simp at h;exact h (by rw[e]))|exact hbad2 g1 g2 (fun e=>by have h:= ‹(!decide (a.first=b.first))=true›;simp at h;exact h (by rw[e]))|exact hbad2 g1 g2 (fun e=>by simp at hc7;exact hc7 (by rw[e]))|exact hbad2 g1 g2 (fun e=>by rw[e,fK]at hc9;cases hc9)|(rw[hkn0]at hk;exact hgood hq.1 (eF hq.2 hk))
   try (cases hc1;done)
   all_goals
    refine aK ?_;try simp only[RR]
    refine hKS1 _ _ ⟨(by repeat (first|exact agS1|refine bC.upd rfl ?_)),(by first|exact eS1_b2|(simp only[nb3_b2,nb2_b3,aJ,seval];first|done|exact eS1_b2)),(by first|exact eS1_b3|(simp only[nb3_b2,nb2_b3,aJ,seval];first|done|exact eS1_b3)), ?_⟩;have e1:= ‹(!decide (w=w'))=false›;simp at e1 hc1;omega
 rintro F2 M2 ⟨agx,gb2,gb3,hq⟩;have f2:=(agx 2 rfl).trans f2;have f3:=(agx 3 rfl).trans f3;have hb2:=gb2.trans hb2;have hb3:=gb3.trans hb3;clear agx;clear gb2;clear gb3;simp only[RR,seval];refine aI ?_;refine aB fun _ y=>aA rfl ?_;simp only[f2,hb2,aD,RR,seval];apply y;clear y;refine bM fun F3 M3 hfr hH=>?_;have g3:=hfr 3;have g4:=hfr 4;have g23:=hfr 23;have g24:=hfr 24;have g25:=hfr 25;have gb2:=hH b2;have gb3:=hH b3
 try simp only[f3,hb2,hb3,RR,seval]at g3 g4 g23 g24 g25 gb2 gb3
 have f3:=g3;clear g3;have f4:=g4;clear g4;have f23:=g23;clear g23;have f24:=g24;clear g24;have f25:=g25;clear g25;have hb2:=gb2;clear gb2;have hb3:=gb3;clear gb3;clear hfr hH;refine aM ?_;refine bZ [3,23,24] (fs.length) (fun k fr M=>fr 25= .int .i64 (k:Nat)∧M b2=M3 b2∧M b3=M3 b3∧fs.take k=gs.take k) ⟨f25,rfl,rfl,rfl⟩ ?_;rintro k F4 M4 hk0 ⟨fx,gb2,gb3,hk⟩ agx K0 hK0;have f3:=(agx 3 rfl).trans f3;have f23:=(agx 23 rfl).trans f23;have f24:=(agx 24 rfl).trans f24;have f25:=fx;clear fx;have hb2:=gb2.trans hb2;have hb3:=gb3.trans hb3;have ag0:=bC.refl [3,23,24] F4;have e0_b2:=gb2;clear gb2;have e0_b3:=gb3;clear gb3;clear agx;refine aB fun _ y=>aA rfl ?_;simp only[f24,f25,RR,seval];apply y;clear y;refine aI ?_;refine aH _ rfl (fun hc=>?_) (fun hc=>?_)
 ·have hlt0:k<fs.length:=by have:=aC hc;omega
  clear hc;have g1:=aG hlt0;have g2:=aG (show k<gs.length by omega);have ga:=rQ g1;have gb:=rQ g2;have hx:=Af (dB fs[k].body) fs[k].body (gs[k]'(by omega)).body (aY _) (ac _ (bA hlt0)).body (ad _ (bA (show k<gs.length by omega))).body;generalize fs[k]=a at *;generalize gs[k]=b at *;have hlt0':k<gs.length:=by omega
  refine aK ?_;try simp only[RR]
  refine aI ?_;refine aM ?_;refine aB fun _ y=>aA rfl ?_;simp only[f23,f25,ga,RR,seval];refine aP fun b6 hn6=>?_;have nb6_b2:b6≠b2:=fun e=>by rw[e]at hn6;simp only[hb2,seval,reduceCtorEq]at hn6
  have nb2_b6:b2≠b6:=fun e=>nb6_b2 e.symm;have nb6_b3:b6≠b3:=fun e=>by rw[e]at hn6;simp only[hb3,seval,reduceCtorEq]at hn6
  have nb3_b6:b3≠b6:=fun e=>nb6_b3 e.symm;simp only[RR,seval];apply y;clear y;refine aB fun _ y=>aA rfl ?_;simp only[f3,hb3,nb3_b6,gb,RR,seval];refine aP fun b7 hn7=>?_;have nb7_b2:b7≠b2:=fun e=>by rw[e]at hn7;simp only[hb2,nb2_b6,RR,seval,reduceCtorEq]at hn7
  have nb2_b7:b2≠b7:=fun e=>nb7_b2 e.symm;have nb7_b3:b7≠b3:=fun e=>by rw[e]at hn7;simp only[hb3,nb3_b6,RR,seval,reduceCtorEq]at hn7
  have nb3_b7:b3≠b7:=fun e=>nb7_b3 e.symm;have nb7_b6:b7≠b6:=fun e=>by rw[e]at hn7;simp only[RR,seval,reduceCtorEq]at hn7
  have nb6_b7:b6≠b7:=fun e=>nb7_b6 e.symm;simp only[RR,seval];apply y;clear y;refine aI ?_;refine bM fun F5 M5 hfr hH=>?_;have g3:=hfr 3;have g4:=hfr 4;have g5:=hfr 5;have g6:=hfr 6;have g7:=hfr 7;have g23:=hfr 23;have g24:=hfr 24;have g25:=hfr 25;have gb2:=hH b2;have gb3:=hH b3;have gb6:=hH b6;have gb7:=hH b7
  try simp only[f3,f23,f24,f25,hb2,hb3,nb2_b6,nb3_b6,nb2_b7,nb3_b7,nb6_b7,RR,seval]at g3 g4 g5 g6 g7 g23 g24 g25 gb2 gb3 gb6 gb7
  have ag0:bC [3,23,24] F4 F5:=bC.same hfr (by repeat (first|exact ag0|refine bC.upd rfl ?_));have e0_b2:=(hH b2).trans (by first|exact e0_b2|(simp only[nb2_b6,nb2_b7,aJ,seval];first|done|exact e0_b2));have e0_b3:=(hH b3).trans (by first|exact e0_b3|(simp only[nb3_b6,nb3_b7,aJ,seval];first|done|exact e0_b3));have f3:=g3;clear g3;have f4:=g4;clear g4;have f5:=g5;clear g5;have f6:=g6;clear g6;have f7:=g7;clear g7;have f23:=g23;clear g23;have f24:=g24;clear g24;have f25:=g25;clear g25;have hb2:=gb2;clear gb2;have hb3:=gb3;clear gb3;have hb6:=gb6;clear gb6;have hb7:=gb7;clear gb7;clear hfr hH;refine dS (fun fr M=>bC [3,5,6,7,23,24,25] F5 fr∧M b2=M5 b2∧M b3=M5 b3∧M b6=M5 b6∧M b7=M5 b7∧a.params=b.params∧a.slots=b.slots∧a.first=b.first∧a.word=b.word) (fun KS7 hKS7=>?_) ?_
  ·have agS7:=bC.refl [3,5,6,7,23,24,25] F5
   have eS7_b2:M5 b2=M5 b2:=rfl;have eS7_b3:M5 b3=M5 b3:=rfl;have eS7_b6:M5 b6=M5 b6:=rfl;have eS7_b7:M5 b7=M5 b7:=rfl;refine aB fun _ y=>aA rfl ?_;simp only[f6,f7,hb6,hb7,RR,seval]
   repeat' ((first|refine aR (fun h=>?_) (fun h=>?_)|refine aV (fun h=>?_) (fun h=>?_))<;>simp only[h,f6,f7,hb6,hb7,RR,seval])
   all_goals
    apply y;clear y;refine aH _ rfl (fun hc7=>?_) (fun hc7=>?_)
    ·try (cases hc7;done)
     all_goals
      refine aB fun _ y=>aA rfl ?_;simp only[RR,seval];apply y;clear y;refine aO ?_;simp only[bB,aL,bH,RR,seval];refine aZ.pure ?_
      first|exact hbad (fun e=>by have h:= ‹(!decide (w=w'))=true›;simp at h;exact h e.1)|exact hbad (fun e=>by simp at hc1;omega)|exact hbad2 g1 g2 (fun e=>by have h:= ‹(!decide (a.params=b.params))=true›;simp at h;exact h (by rw[e]))|exact hbad2 g1 g2 (fun e=>by have h:= ‹(!decide (a.slots=b.slots))=true›;simp at h;exact h (by rw[e]))|exact hbad2 g1 g2 (fun e=>by have h:= ‹(!decide (a.first=b.first))=true›;simp at h;exact h (by rw[e]))|exact hbad2 g1 g2 (fun e=>by simp at hc7;exact hc7 (by rw[e]))|exact hbad2 g1 g2 (fun e=>by rw[e,fK]at hc9;cases hc9)|(rw[hkn0]at hk;exact hgood hq.1 (eF hq.2 hk))
    try (cases hc7;done)
    all_goals
     refine aK ?_;try simp only[RR]
     refine hKS7 _ _ ⟨(by repeat (first|exact agS7|refine bC.upd rfl ?_)),(by first|exact eS7_b2|(simp only[nb3_b2,nb2_b3,nb6_b2,nb2_b6,nb6_b3,nb3_b6,nb7_b2,nb2_b7,nb7_b3,nb3_b7,nb7_b6,nb6_b7,aJ,seval];first|done|exact eS7_b2)),(by first|exact eS7_b3|(simp only[nb3_b2,nb2_b3,nb6_b2,nb2_b6,nb6_b3,nb3_b6,nb7_b2,nb2_b7,nb7_b3,nb3_b7,nb7_b6,nb6_b7,aJ,seval];first|done|exact eS7_b3)),(by first|exact eS7_b6|(simp only[nb3_b2,nb2_b3,nb6_b2,nb2_b6,nb6_b3,nb3_b6,nb7_b2,nb2_b7,nb7_b3,nb3_b7,nb7_b6,nb6_b7,aJ,seval];first|done|exact eS7_b6)),(by first|exact eS7_b7|(simp only[nb3_b2,nb2_b3,nb6_b2,nb2_b6,nb6_b3,nb3_b6,nb7_b2,nb2_b7,nb7_b3,nb3_b7,nb7_b6,nb6_b7,aJ,seval];first|done|exact eS7_b7)), ?_⟩;have e1:= ‹(!decide (a.params=b.params))=false›;have e2:= ‹(!decide (a.slots=b.slots))=false›;have e3:= ‹(!decide (a.first=b.first))=false›;simp at e1 e2 e3 hc7;exact⟨e1,e2,e3,hc7⟩
  rintro F6 M6 ⟨agx,gb2,gb3,gb6,gb7,hq2⟩;have f3:=(agx 3 rfl).trans f3;have f5:=(agx 5 rfl).trans f5;have f6:=(agx 6 rfl).trans f6;have f7:=(agx 7 rfl).trans f7;have f23:=(agx 23 rfl).trans f23;have f24:=(agx 24 rfl).trans f24;have f25:=(agx 25 rfl).trans f25;have hb2:=gb2.trans hb2;have hb3:=gb3.trans hb3;have hb6:=gb6.trans hb6;have hb7:=gb7.trans hb7;have ag0:bC [3,23,24] F4 F6:=bC.sub agx rfl ag0;have e0_b2:=gb2.trans e0_b2;have e0_b3:=gb3.trans e0_b3;clear agx;clear gb2;clear gb3;clear gb6;clear gb7;simp only[RR,seval];refine aB fun _ y=>aA rfl ?_;simp only[f6,f7,hb6,hb7,RR,seval];refine aN (hx) ?_;simp only[RR,seval];apply y;clear y;refine aH _ rfl (fun hc9=>?_) (fun hc9=>?_)
  ·try (cases hc9;done)
   all_goals
    refine aB fun _ y=>aA rfl ?_;simp only[RR,seval];apply y;clear y;refine aO ?_;simp only[bB,aL,bH,RR,seval];refine aZ.pure ?_
    first|exact hbad (fun e=>by have h:= ‹(!decide (w=w'))=true›;simp at h;exact h e.1)|exact hbad (fun e=>by simp at hc1;omega)|exact hbad2 g1 g2 (fun e=>by have h:= ‹(!decide (a.params=b.params))=true›;simp at h;exact h (by rw[e]))|exact hbad2 g1 g2 (fun e=>by have h:= ‹(!decide (a.slots=b.slots))=true›;simp at h;exact h (by rw[e]))|exact hbad2 g1 g2 (fun e=>by have h:= ‹(!decide (a.first=b.first))=true›;simp at h;exact h (by rw[e]))|exact hbad2 g1 g2 (fun e=>by simp at hc7;exact hc7 (by rw[e]))|exact hbad2 g1 g2 (fun e=>by rw[e,fK]at hc9;cases hc9)|(rw[hkn0]at hk;exact hgood hq.1 (eF hq.2 hk))
  try (cases hc9;done)
  all_goals
   refine aK ?_;try simp only[RR]
   refine aA rfl ?_;simp only[f25,RR,seval]
   try rw[aQ _ (by omega)]
   refine hK0 _ _ hlt0 ⟨by first|rfl|(simp only[aJ,seval];rfl),(by first|exact e0_b2|(simp only[nb3_b2,nb2_b3,nb6_b2,nb2_b6,nb6_b3,nb3_b6,nb7_b2,nb2_b7,nb7_b3,nb3_b7,nb7_b6,nb6_b7,aJ,seval];first|done|exact e0_b2)),(by first|exact e0_b3|(simp only[nb3_b2,nb2_b3,nb6_b2,nb2_b6,nb6_b3,nb3_b6,nb7_b2,nb2_b7,nb7_b3,nb3_b7,nb7_b6,nb6_b7,aJ,seval];first|done|exact e0_b3)),kV hk g1 g2 (Yk hq2.1 hq2.2.1 hq2.2.2.1 hq2.2.2.2 (qZ.1 (by simpa using hc9)))⟩ (by repeat (first|exact ag0|refine bC.upd rfl ?_))
 have hkn0:k=fs.length:=by have:=aF hc;omega
 clear hc;refine bF ?_;simp only[RR,seval];refine aB fun _ y=>aA rfl ?_;simp only[RR,seval];apply y;clear y;refine aO ?_;simp only[bB,aL,bH,RR,seval];refine aZ.pure ?_
 first|exact hbad (fun e=>by have h:= ‹(!decide (w=w'))=true›;simp at h;exact h e.1)|exact hbad (fun e=>by simp at hc1;omega)|exact hbad2 g1 g2 (fun e=>by have h:= ‹(!decide (a.params=b.params))=true›;simp at h;exact h (by rw[e]))|exact hbad2 g1 g2 (fun e=>by have h:= ‹(!decide (a.slots=b.slots))=true›;simp at h;exact h (by rw[e]))|exact hbad2 g1 g2 (fun e=>by have h:= ‹(!decide (a.first=b.first))=true›;simp at h;exact h (by rw[e]))|exact hbad2 g1 g2 (fun e=>by simp at hc7;exact hc7 (by rw[e]))|exact hbad2 g1 g2 (fun e=>by rw[e,fK]at hc9;cases hc9)|(rw[hkn0]at hk;exact hgood hq.1 (eF hq.2 hk))
set_option maxHeartbeats 4000000 in
theorem Ql (c d:Co) (hc:c.ok) (hd:d.ok):cJ cK 12 [c.av,d.av] (.bool (wD c d)):=by
 have h1:c.av= .agg [.int .i64 c.words, .isl 5 (c.funs.map CF.row)]:=rfl;have h2:d.av= .agg [.int .i64 d.words, .isl 5 (d.funs.map CF.row)]:=rfl;rw[h1,h2];clear h1 h2;have fc:c.funs.length≤9223372036854775807:=hc.fit;have ac:=hc.funs;have ad:=hd.funs;clear hc hd;obtain⟨w,fs⟩:=c;obtain⟨w',gs⟩:=d;simp only at *
 have hbad: ¬(w=w'∧fs.length=gs.length)→AV.bool false=AV.bool (wD (Co.mk w fs) (Co.mk w' gs)):=fun h=>by
  rw[jD];intro e;cases e;exact h ⟨rfl,rfl⟩
 have hbad2: ∀{k:Nat} {f g:CF},fs[k]?=some f→gs[k]?=some g→ ¬f=g→AV.bool false=AV.bool (wD (Co.mk w fs) (Co.mk w' gs)):=fun {k f g} h1 h2 h3=>by
  rw[jD];intro e;cases e;rw[h1]at h2;cases h2;exact h3 rfl
 have hgood:w=w'→fs=gs→AV.bool true=AV.bool (wD (Co.mk w fs) (Co.mk w' gs)):=fun h1 h2=>by rw[h1,h2,fK]
 generalize wD (Co.mk w fs) (Co.mk w' gs)=res at *;refine bI 73 [.tmp 4] Tryz.func12 rfl rfl rfl rfl ?_;refine aB fun _ y=>aA rfl ?_;simp only[RR,seval];refine aP fun b2 hn2=>?_;simp only[RR,seval];refine aP fun b3 hn3=>?_;have nb3_b2:b3≠b2:=fun e=>by rw[e]at hn3;simp only[RR,seval,reduceCtorEq]at hn3
 have nb2_b3:b2≠b3:=fun e=>nb3_b2 e.symm;simp only[RR,seval];apply y;clear y;refine aI ?_;refine bM fun F1 M1 hfr hH=>?_;have g2:=hfr 2;have g3:=hfr 3;have g4:=hfr 4;have gb2:=hH b2;have gb3:=hH b3
 try simp only[nb2_b3,RR,seval]at g2 g3 g4 gb2 gb3
 have f2:=g2;clear g2;have f3:=g3;clear g3;have f4:=g4;clear g4;have hb2:=gb2;clear gb2;have hb3:=gb3;clear gb3;clear hfr hH;refine dS (fun fr M=>bC [2,3] F1 fr∧M b2=M1 b2∧M b3=M1 b3∧w=w'∧fs.length=gs.length) (fun KS1 hKS1=>?_) ?_
 ·have agS1:=bC.refl [2,3] F1
  have eS1_b2:M1 b2=M1 b2:=rfl;have eS1_b3:M1 b3=M1 b3:=rfl;refine aB fun _ y=>aA rfl ?_;simp only[f2,f3,hb2,hb3,RR,seval]
  repeat' ((first|refine aR (fun h=>?_) (fun h=>?_)|refine aV (fun h=>?_) (fun h=>?_))<;>simp only[h,f2,f3,hb2,hb3,aD,RR,seval])
  all_goals
   apply y;clear y;refine aH _ rfl (fun hc1=>?_) (fun hc1=>?_)
   ·try (cases hc1;done)
    all_goals
     refine aB fun _ y=>aA rfl ?_;simp only[RR,seval];apply y;clear y;refine aO ?_;simp only[bB,aL,bH,RR,seval];refine aZ.pure ?_
     first|exact hbad (fun e=>by have h:= ‹(!decide (w=w'))=true›;simp at h;exact h e.1)|exact hbad (fun e=>by simp at hc1;omega)|exact hbad2 g1 g2 (fun e=>by have h:= ‹(!decide (a.params=b.params))=true›;simp at h;exact h (by rw[e]))|exact hbad2 g1 g2 (fun e=>by have h:= ‹(!decide (a.slots=b.slots))=true›;simp at h;exact h (by rw[e]))|exact hbad2 g1 g2 (fun e=>by have h:= ‹(!decide (a.first=b.first))=true›;simp at h;exact h (by rw[e]))|exact hbad2 g1 g2 (fun e=>by have h:= ‹(!decide (a.word=b.word))=true›;simp at h;exact h (by rw[e]))|exact hbad2 g1 g2 (fun e=>by rw[e,fK]at hc7;cases hc7)|(rw[hkn0]at hk;exact hgood hq.1 (eF hq.2 hk))
   try (cases hc1;done)
   all_goals
    refine aK ?_;try simp only[RR]
    refine hKS1 _ _ ⟨(by repeat (first|exact agS1|refine bC.upd rfl ?_)),(by first|exact eS1_b2|(simp only[nb3_b2,nb2_b3,aJ,seval];first|done|exact eS1_b2)),(by first|exact eS1_b3|(simp only[nb3_b2,nb2_b3,aJ,seval];first|done|exact eS1_b3)), ?_⟩;have e1:= ‹(!decide (w=w'))=false›;simp at e1 hc1;omega
 rintro F2 M2 ⟨agx,gb2,gb3,hq⟩;have f2:=(agx 2 rfl).trans f2;have f3:=(agx 3 rfl).trans f3;have hb2:=gb2.trans hb2;have hb3:=gb3.trans hb3;clear agx;clear gb2;clear gb3;simp only[RR,seval];refine aI ?_;refine aB fun _ y=>aA rfl ?_;simp only[RR,seval];apply y;clear y;refine bM fun F3 M3 hfr hH=>?_;have g2:=hfr 2;have g3:=hfr 3;have g4:=hfr 4;have g5:=hfr 5;have gb2:=hH b2;have gb3:=hH b3
 try simp only[f2,f3,hb2,hb3,RR,seval]at g2 g3 g4 g5 gb2 gb3
 have f2:=g2;clear g2;have f3:=g3;clear g3;have f4:=g4;clear g4;have f5:=g5;clear g5;have hb2:=gb2;clear gb2;have hb3:=gb3;clear gb3;clear hfr hH;refine aM ?_;refine bZ [2,3] (fs.length) (fun k fr M=>fr 5= .int .i64 (k:Nat)∧M b2=M3 b2∧M b3=M3 b3∧fs.take k=gs.take k) ⟨f5,rfl,rfl,rfl⟩ ?_;rintro k F4 M4 hk0 ⟨fx,gb2,gb3,hk⟩ agx K0 hK0;have f2:=(agx 2 rfl).trans f2;have f3:=(agx 3 rfl).trans f3;have f5:=fx;clear fx;have hb2:=gb2.trans hb2;have hb3:=gb3.trans hb3;have ag0:=bC.refl [2,3] F4;have e0_b2:=gb2;clear gb2;have e0_b3:=gb3;clear gb3;clear agx;refine aI ?_;refine aB fun _ y=>aA rfl ?_;simp only[f2,f5,hb2,aD,RR,seval];apply y;clear y;refine aH _ rfl (fun hc=>?_) (fun hc=>?_)
 ·have hlt0:k<fs.length:=by have:=aC hc;omega
  clear hc;have g1:=aG hlt0;have g2:=aG (show k<gs.length by omega);have ga:=rQ g1;have gb:=rQ g2;have hx:=Au (dB fs[k].body) fs[k].body (gs[k]'(by omega)).body (aY _) (ac _ (bA hlt0)).body (ad _ (bA (show k<gs.length by omega))).body;generalize fs[k]=a at *;generalize gs[k]=b at *;have hlt0':k<gs.length:=by omega
  refine aK ?_;try simp only[RR]
  refine aI ?_;refine aM ?_;refine bM fun F5 M5 hfr hH=>?_;have g2:=hfr 2;have g3:=hfr 3;have g4:=hfr 4;have g5:=hfr 5;have gb2:=hH b2;have gb3:=hH b3
  try simp only[f2,f3,f5,hb2,hb3,RR,seval]at g2 g3 g4 g5 gb2 gb3
  have ag0:bC [2,3] F4 F5:=bC.same hfr (by repeat (first|exact ag0|refine bC.upd rfl ?_));have e0_b2:=(hH b2).trans (by first|exact e0_b2|(simp only[nb3_b2,nb2_b3,aJ,seval];first|done|exact e0_b2));have e0_b3:=(hH b3).trans (by first|exact e0_b3|(simp only[nb3_b2,nb2_b3,aJ,seval];first|done|exact e0_b3));have f2:=g2;clear g2;have f3:=g3;clear g3;have f4:=g4;clear g4;have f5:=g5;clear g5;have hb2:=gb2;clear gb2;have hb3:=gb3;clear gb3;clear hfr hH;refine aB fun K y=>?_;refine dS (fun fr M=>bC [2,3,4,5] F5 fr∧M b2=M5 b2∧M b3=M5 b3∧ ∃b6 b7,fr 6= .ptr 5 b6 0 0∧fr 7= .ptr 5 b7 0 0∧M b6=some (.rows 5 [[.int .i64 a.params, .int .i64 a.slots, .int .i64 a.first, .bool a.word, .isl 6 (a.body.map CS.row)]])∧M b7=some (.rows 5 [[.int .i64 b.params, .int .i64 b.slots, .int .i64 b.first, .bool b.word, .isl 6 (b.body.map CS.row)]])) (fun KR6 hKR6=>?_) ?_
  ·refine iE (fun x=>x≠b2∧x≠b3) dG (by kernel_rfl) fun hd=>?_
   refine eO [(0,3),(1,0),(2,3),(3,3),(4,0),(5,3),(6,0),(7,3),(8,3),(9,0)] hd (m:=4) rfl (by kernel_rfl) rfl rfl ?_;simp only[cF,dM,f2,f3,f5,hb2,hb3,nb3_b2,nb2_b3,ga,gb,RR,seval];refine iH hd (by kernel_rfl:Region.ready .any _ _=[10,11]) (by simp) ⟨?_, ?_,trivial⟩
   ·simp only[RR,seval]
    refine aP fun b6 hn6=>?_;have nb6_b2:b6≠b2:=fun e=>by rw[e]at hn6;simp only[hb2,seval,reduceCtorEq]at hn6
    have nb2_b6:b2≠b6:=fun e=>nb6_b2 e.symm;have nb6_b3:b6≠b3:=fun e=>by rw[e]at hn6;simp only[hb3,seval,reduceCtorEq]at hn6
    have nb3_b6:b3≠b6:=fun e=>nb6_b3 e.symm;simp only[RR,seval];refine eO [(11,1),(12,1),(13,1)] hd (m:=0) rfl (by kernel_rfl) rfl rfl ?_;simp only[cF,RR,seval];refine aP fun b7 hn7=>?_;have nb7_b2:b7≠b2:=fun e=>by rw[e]at hn7;simp only[hb2,nb2_b6,RR,seval,reduceCtorEq]at hn7
    have nb2_b7:b2≠b7:=fun e=>nb7_b2 e.symm;have nb7_b3:b7≠b3:=fun e=>by rw[e]at hn7;simp only[hb3,nb3_b6,RR,seval,reduceCtorEq]at hn7
    have nb3_b7:b3≠b7:=fun e=>nb7_b3 e.symm;have nb7_b6:b7≠b6:=fun e=>by rw[e]at hn7;simp only[RR,seval,reduceCtorEq]at hn7
    have nb6_b7:b6≠b7:=fun e=>nb7_b6 e.symm;simp only[nb6_b2,nb6_b3,nb7_b2,nb7_b3,nb7_b6,nb6_b7,RR,seval];refine gF (by kernel_rfl) ?_;simp only[RR,seval];exact hKR6 _ _ ⟨(by repeat (first|exact bC.refl _ _|refine bC.upd rfl ?_)),(by first|rfl|(simp only[hb2,nb2_b6,nb2_b7,aJ,seval];done)|(simp only[f2,f3,f4,f5,hb2,hb3,nb3_b2,nb2_b3,nb6_b2,nb2_b6,nb6_b3,nb3_b6,nb7_b2,nb2_b7,nb7_b3,nb3_b7,nb7_b6,nb6_b7,aD,ga,gb,aJ,RR,seval];rfl)),(by first|rfl|(simp only[hb3,nb3_b6,nb3_b7,aJ,seval];done)|(simp only[f2,f3,f4,f5,hb2,hb3,nb3_b2,nb2_b3,nb6_b2,nb2_b6,nb6_b3,nb3_b6,nb7_b2,nb2_b7,nb7_b3,nb3_b7,nb7_b6,nb6_b7,aD,ga,gb,aJ,RR,seval];rfl)),b6,b7,(by first|rfl|(simp only[f2,f3,f4,f5,hb2,hb3,nb3_b2,nb2_b3,nb6_b2,nb2_b6,nb6_b3,nb3_b6,nb7_b2,nb2_b7,nb7_b3,nb3_b7,nb7_b6,nb6_b7,aD,ga,gb,aJ,RR,seval];done)|(simp only[f2,f3,f4,f5,hb2,hb3,nb3_b2,nb2_b3,nb6_b2,nb2_b6,nb6_b3,nb3_b6,nb7_b2,nb2_b7,nb7_b3,nb3_b7,nb7_b6,nb6_b7,aD,ga,gb,aJ,RR,seval];rfl)),(by first|rfl|(simp only[f2,f3,f4,f5,hb2,hb3,nb3_b2,nb2_b3,nb6_b2,nb2_b6,nb6_b3,nb3_b6,nb7_b2,nb2_b7,nb7_b3,nb3_b7,nb7_b6,nb6_b7,aD,ga,gb,aJ,RR,seval];done)|(simp only[f2,f3,f4,f5,hb2,hb3,nb3_b2,nb2_b3,nb6_b2,nb2_b6,nb6_b3,nb3_b6,nb7_b2,nb2_b7,nb7_b3,nb3_b7,nb7_b6,nb6_b7,aD,ga,gb,aJ,RR,seval];rfl)),(by first|rfl|(simp only[nb6_b7,aJ,seval];done)|(simp only[f2,f3,f4,f5,hb2,hb3,nb3_b2,nb2_b3,nb6_b2,nb2_b6,nb6_b3,nb3_b6,nb7_b2,nb2_b7,nb7_b3,nb3_b7,nb7_b6,nb6_b7,aD,ga,gb,aJ,RR,seval];rfl)),(by first|rfl|(simp only[aJ,seval];done)|(simp only[f2,f3,f4,f5,hb2,hb3,nb3_b2,nb2_b3,nb6_b2,nb2_b6,nb6_b3,nb3_b6,nb7_b2,nb2_b7,nb7_b3,nb3_b7,nb7_b6,nb6_b7,aD,ga,gb,aJ,RR,seval];rfl))⟩
   simp only[RR,seval];refine aP fun b7 hn7=>?_;have nb7_b2:b7≠b2:=fun e=>by rw[e]at hn7;simp only[hb2,seval,reduceCtorEq]at hn7
   have nb2_b7:b2≠b7:=fun e=>nb7_b2 e.symm;have nb7_b3:b7≠b3:=fun e=>by rw[e]at hn7;simp only[hb3,seval,reduceCtorEq]at hn7
   have nb3_b7:b3≠b7:=fun e=>nb7_b3 e.symm;simp only[RR,seval];refine eO [(10,1),(12,1),(13,1)] hd (m:=0) rfl (by kernel_rfl) rfl rfl ?_;simp only[cF,RR,seval];refine aP fun b6 hn6=>?_;have nb6_b2:b6≠b2:=fun e=>by rw[e]at hn6;simp only[hb2,nb2_b7,RR,seval,reduceCtorEq]at hn6
   have nb2_b6:b2≠b6:=fun e=>nb6_b2 e.symm;have nb6_b3:b6≠b3:=fun e=>by rw[e]at hn6;simp only[hb3,nb3_b7,RR,seval,reduceCtorEq]at hn6
   have nb3_b6:b3≠b6:=fun e=>nb6_b3 e.symm;have nb6_b7:b6≠b7:=fun e=>by rw[e]at hn6;simp only[RR,seval,reduceCtorEq]at hn6
   have nb7_b6:b7≠b6:=fun e=>nb6_b7 e.symm;simp only[nb7_b2,nb7_b3,nb6_b2,nb6_b3,nb7_b6,RR,seval];refine gF (by kernel_rfl) ?_;simp only[RR,seval];exact hKR6 _ _ ⟨(by repeat (first|exact bC.refl _ _|refine bC.upd rfl ?_)),(by first|rfl|(simp only[hb2,nb2_b7,nb2_b6,aJ,seval];done)|(simp only[f2,f3,f4,f5,hb2,hb3,nb3_b2,nb2_b3,nb7_b2,nb2_b7,nb7_b3,nb3_b7,nb6_b2,nb2_b6,nb6_b3,nb3_b6,nb6_b7,nb7_b6,aD,ga,gb,aJ,RR,seval];rfl)),(by first|rfl|(simp only[hb3,nb3_b7,nb3_b6,aJ,seval];done)|(simp only[f2,f3,f4,f5,hb2,hb3,nb3_b2,nb2_b3,nb7_b2,nb2_b7,nb7_b3,nb3_b7,nb6_b2,nb2_b6,nb6_b3,nb3_b6,nb6_b7,nb7_b6,aD,ga,gb,aJ,RR,seval];rfl)),b6,b7,(by first|rfl|(simp only[f2,f3,f4,f5,hb2,hb3,nb3_b2,nb2_b3,nb7_b2,nb2_b7,nb7_b3,nb3_b7,nb6_b2,nb2_b6,nb6_b3,nb3_b6,nb6_b7,nb7_b6,aD,ga,gb,aJ,RR,seval];done)|(simp only[f2,f3,f4,f5,hb2,hb3,nb3_b2,nb2_b3,nb7_b2,nb2_b7,nb7_b3,nb3_b7,nb6_b2,nb2_b6,nb6_b3,nb3_b6,nb6_b7,nb7_b6,aD,ga,gb,aJ,RR,seval];rfl)),(by first|rfl|(simp only[f2,f3,f4,f5,hb2,hb3,nb3_b2,nb2_b3,nb7_b2,nb2_b7,nb7_b3,nb3_b7,nb6_b2,nb2_b6,nb6_b3,nb3_b6,nb6_b7,nb7_b6,aD,ga,gb,aJ,RR,seval];done)|(simp only[f2,f3,f4,f5,hb2,hb3,nb3_b2,nb2_b3,nb7_b2,nb2_b7,nb7_b3,nb3_b7,nb6_b2,nb2_b6,nb6_b3,nb3_b6,nb6_b7,nb7_b6,aD,ga,gb,aJ,RR,seval];rfl)),(by first|rfl|(simp only[nb6_b7,aJ,seval];done)|(simp only[f2,f3,f4,f5,hb2,hb3,nb3_b2,nb2_b3,nb7_b2,nb2_b7,nb7_b3,nb3_b7,nb6_b2,nb2_b6,nb6_b3,nb3_b6,nb6_b7,nb7_b6,aD,ga,gb,aJ,RR,seval];rfl)),(by first|rfl|(simp only[aJ,seval];done)|(simp only[f2,f3,f4,f5,hb2,hb3,nb3_b2,nb2_b3,nb7_b2,nb2_b7,nb7_b3,nb3_b7,nb6_b2,nb2_b6,nb6_b3,nb3_b6,nb6_b7,nb7_b6,aD,ga,gb,aJ,RR,seval];rfl))⟩
  rintro F6 M6 ⟨agx,gb2,gb3,b6,b7,f6,f7,hb6,hb7⟩;simp only[fR];apply y;clear y;have f2:=(agx 2 rfl).trans f2;have f3:=(agx 3 rfl).trans f3;have f4:=(agx 4 rfl).trans f4;have f5:=(agx 5 rfl).trans f5;have hb2:=gb2.trans hb2;have hb3:=gb3.trans hb3;have ag0:bC [2,3] F4 F6:=bC.sub agx rfl ag0;have e0_b2:=gb2.trans e0_b2;have e0_b3:=gb3.trans e0_b3;clear agx gb2 gb3;refine aB fun _ y=>aA rfl ?_;simp only[f6,f7,hb6,hb7,RR,seval]
  all_goals try ((first|refine aR (fun h=>?_) (fun h=>?_)|refine aV (fun h=>?_) (fun h=>?_))<;>simp only[h,f6,f7,hb6,hb7,RR,seval])
  all_goals try ((first|refine aR (fun h=>?_) (fun h=>?_)|refine aV (fun h=>?_) (fun h=>?_))<;>simp only[h,f6,f7,hb6,hb7,RR,seval])
  all_goals try ((first|refine aR (fun h=>?_) (fun h=>?_)|refine aV (fun h=>?_) (fun h=>?_))<;>simp only[h,f6,f7,hb6,hb7,RR,seval])
  all_goals try ((first|refine aR (fun h=>?_) (fun h=>?_)|refine aV (fun h=>?_) (fun h=>?_))<;>simp only[h,f6,f7,hb6,hb7,RR,seval])
  all_goals try (refine aN (hx) ?_;simp only[RR,seval])
  all_goals
   apply y;clear y;refine aH _ rfl (fun hc7=>?_) (fun hc7=>?_)
   ·try (cases hc7;done)
    all_goals
     refine aB fun _ y=>aA rfl ?_;simp only[RR,seval];apply y;clear y;refine aO ?_;simp only[bB,aL,bH,RR,seval];refine aZ.pure ?_
     first|exact hbad (fun e=>by have h:= ‹(!decide (w=w'))=true›;simp at h;exact h e.1)|exact hbad (fun e=>by simp at hc1;omega)|exact hbad2 g1 g2 (fun e=>by have h:= ‹(!decide (a.params=b.params))=true›;simp at h;exact h (by rw[e]))|exact hbad2 g1 g2 (fun e=>by have h:= ‹(!decide (a.slots=b.slots))=true›;simp at h;exact h (by rw[e]))|exact hbad2 g1 g2 (fun e=>by have h:= ‹(!decide (a.first=b.first))=true›;simp at h;exact h (by rw[e]))|exact hbad2 g1 g2 (fun e=>by have h:= ‹(!decide (a.word=b.word))=true›;simp at h;exact h (by rw[e]))|exact hbad2 g1 g2 (fun e=>by rw[e,fK]at hc7;cases hc7)|(rw[hkn0]at hk;exact hgood hq.1 (eF hq.2 hk))
   try (cases hc7;done)
   all_goals
    refine aK ?_;try simp only[RR]
    refine aA rfl ?_;simp only[f5,RR,seval]
    try rw[aQ _ (by omega)]
    refine hK0 _ _ hlt0 ⟨by first|rfl|(simp only[aJ,seval];rfl),(by first|exact e0_b2|(simp only[nb3_b2,nb2_b3,aJ,seval];first|done|exact e0_b2)),(by first|exact e0_b3|(simp only[nb3_b2,nb2_b3,aJ,seval];first|done|exact e0_b3)),kV hk g1 g2 (Yk (by simpa using ‹(!decide (a.params=b.params))=false›) (by simpa using ‹(!decide (a.slots=b.slots))=false›) (by simpa using ‹(!decide (a.first=b.first))=false›) (by simpa using ‹(!decide (a.word=b.word))=false›) (qZ.1 (by simpa using hc7)))⟩ (by repeat (first|exact ag0|refine bC.upd rfl ?_))
 have hkn0:k=fs.length:=by have:=aF hc;omega
 clear hc;refine bF ?_;simp only[RR,seval];refine aB fun _ y=>aA rfl ?_;simp only[RR,seval];apply y;clear y;refine aO ?_;simp only[bB,aL,bH,RR,seval];refine aZ.pure ?_
 first|exact hbad (fun e=>by have h:= ‹(!decide (w=w'))=true›;simp at h;exact h e.1)|exact hbad (fun e=>by simp at hc1;omega)|exact hbad2 g1 g2 (fun e=>by have h:= ‹(!decide (a.params=b.params))=true›;simp at h;exact h (by rw[e]))|exact hbad2 g1 g2 (fun e=>by have h:= ‹(!decide (a.slots=b.slots))=true›;simp at h;exact h (by rw[e]))|exact hbad2 g1 g2 (fun e=>by have h:= ‹(!decide (a.first=b.first))=true›;simp at h;exact h (by rw[e]))|exact hbad2 g1 g2 (fun e=>by have h:= ‹(!decide (a.word=b.word))=true›;simp at h;exact h (by rw[e]))|exact hbad2 g1 g2 (fun e=>by rw[e,fK]at hc7;cases hc7)|(rw[hkn0]at hk;exact hgood hq.1 (eF hq.2 hk))
end Go.Proofs.YtnfbbjhdflhmjaaGreatDoor
