/- Chapter 19, the program's: may a core be? -/
import Derived.Test.YtnfbbjhdflhmjaaGreatDoorGRb
set_option linter.unusedSimpArgs false
set_option linter.unusedVariables false
set_option maxRecDepth 10000
namespace Go.Proofs.YtnfbbjhdflhmjaaGreatDoor
open Go.Al
set_option maxHeartbeats 4000000 in
theorem Ln (c:Co) (hc:c.ok):cJ cK 14 [c.av] (.bool (lZ c)):=by
 have hav:c.av= .agg [.int .i64 c.words, .isl 5 (c.funs.map CF.row)]:=rfl
 have hR:lZ c=(decide (0≤c.words)&&decide (c.words≤32768)&&decide (1≤c.funs.length)&&decide (c.funs.length≤64)&&c.funs.all (jS c.words)&&iY c.words [] c.funs&&
  match c.funs.getLast? with
  |some f=>decide (f.params=0)&& !f.word
  |none=>false):=rfl
 rw[hav];have hfit:c.funs.length≤9223372036854775807:=hc.fit;have hfu:=hc.funs;generalize lZ c=res at *;generalize c.words=w at *;generalize c.funs=fs at *
 have hbad1: ¬(0≤w∧w≤32768∧1≤fs.length∧fs.length≤64)→AV.bool false=AV.bool res:=fun h=>by
  rw[hR]
  have e:(decide (0≤w)&&decide (w≤32768)&&decide (1≤fs.length)&&decide (fs.length≤64))=false:=by
   rw[Bool.eq_false_iff];intro c;simp only[aS,aW]at c;exact h ⟨c.1.1.1,c.1.1.2,c.1.2,c.2⟩
  rw[e];simp only[Bool.false_and]
 have hbad2:fs.all (jS w)=false→AV.bool false=AV.bool res:=fun h=>by rw[hR,h];simp only[Bool.and_false,Bool.false_and]
 have hbad3:iY w [] fs=false→AV.bool false=AV.bool res:=fun h=>by rw[hR,h];simp only[Bool.and_false,Bool.false_and]
 refine bI 101 [.tmp 2] Tryz.func14 rfl rfl rfl rfl ?_;refine aB fun _ y=>aA rfl ?_;simp only[RR,seval];refine aP fun b1 hn1=>?_;simp only[RR,seval];apply y;clear y;refine aI ?_;refine bM fun F1 M1 hfr hH=>?_;have g1:=hfr 1;have g2:=hfr 2;have gb1:=hH b1
 try simp only[RR,seval]at g1 g2 gb1
 have f1:=g1;clear g1;have f2:=g2;clear g2;have hb1:=gb1;clear gb1;clear hfr hH;refine dS (fun fr M=>bC [1] F1 fr∧M b1=M1 b1∧0≤w∧w≤32768∧1≤fs.length∧fs.length≤64) (fun KS1 hKS1=>?_) ?_
 ·have agS1:=bC.refl [1] F1
  have eS1_b1:M1 b1=M1 b1:=rfl;refine aB fun _ y=>aA rfl ?_;simp only[f1,hb1,RR,seval]
  repeat' ((first|refine aR (fun h=>?_) (fun h=>?_)|refine aV (fun h=>?_) (fun h=>?_))<;>simp only[h,f1,hb1,aD,RR,seval])
  all_goals
   apply y;clear y;refine aH _ rfl (fun hc1=>?_) (fun hc1=>?_)
   ·try (cases hc1;done)
    all_goals
     refine aB fun _ y=>aA rfl ?_;simp only[RR,seval];apply y;clear y;refine aO ?_;simp only[bB,aL,bH,RR,seval];refine aZ.pure ?_
     first|exact hbad1 (fun hq=>by have:=aC ‹decide (w<0)=true›;omega)|exact hbad1 (fun hq=>by have:=aC ‹decide ((32768:Int)<w)=true›;omega)|exact hbad1 (fun hq=>by have:=aC ‹decide ((fs.length:Int)<1)=true›;omega)|exact hbad1 (fun hq=>by have:=aC ‹decide ((64:Int)<(fs.length:Int))=true›;omega)|exact hbd3 (by simpa using hc11)|exact hbd2 (by rw[hF,aU (by have:=aC ‹decide (g.params<0)=true›;omega)];rfl)|exact hbd2 (by rw[hF,aU (p:=g.params≤6) (by have:=aC ‹decide ((6:Int)<g.params)=true›;omega)];simp only[Bool.and_false,Bool.false_and])|exact hbd2 (by rw[hF,aU (p:=g.params≤g.slots) (by have:=aC hc6;omega)];simp only[Bool.and_false,Bool.false_and])|exact hbd2 (by rw[hF,Bool.eq_false_iff.2 (fun c=>by have:=cT.1 c;have:=aC ‹decide (g.first<0)=true›;omega: ¬cN w g.first g.slots=true)];simp only[Bool.and_false])|exact hbd2 (by rw[hF,Bool.eq_false_iff.2 (fun c=>by have:=cT.1 c;have:=aC ‹decide (w<g.first)=true›;omega: ¬cN w g.first g.slots=true)];simp only[Bool.and_false])|exact hbd2 (by rw[hF,Bool.eq_false_iff.2 (fun c=>by have h1:=cT.1 c;have h2:=aC hc8;rw[aQ _ (by omega)]at h2;omega: ¬cN w g.first g.slots=true)];simp only[Bool.and_false])|(rw[hR];rfl)
   try (cases hc1;done)
   all_goals
    refine aK ?_;try simp only[RR]
    refine hKS1 _ _ ⟨(by repeat (first|exact agS1|refine bC.upd rfl ?_)),(by first|exact eS1_b1|(simp only[aJ,seval];first|done|exact eS1_b1)), ?_⟩;have e1:=aF ‹decide (w<0)=false›;have e2:=aF ‹decide ((32768:Int)<w)=false›;have e3:=aF ‹decide ((fs.length:Int)<1)=false›;have e4:=aF ‹decide ((64:Int)<(fs.length:Int))=false›;omega
 rintro F2 M2 ⟨agx,gb1,hq⟩;have f1:=(agx 1 rfl).trans f1;have hb1:=gb1.trans hb1;clear agx;clear gb1;simp only[RR,seval];refine aI ?_;refine aB fun _ y=>aA rfl ?_;simp only[f1,hb1,aD,RR,seval];apply y;clear y;refine bM fun F3 M3 hfr hH=>?_;have g1:=hfr 1;have g2:=hfr 2;have g28:=hfr 28;have g29:=hfr 29;have g30:=hfr 30;have gb1:=hH b1
 try simp only[f1,hb1,RR,seval]at g1 g2 g28 g29 g30 gb1
 have f1:=g1;clear g1;have f2:=g2;clear g2;have f28:=g28;clear g28;have f29:=g29;clear g29;have f30:=g30;clear g30;have hb1:=gb1;clear gb1;clear hfr hH;refine aM ?_;refine bZ [1,28,29] (fs.length) (fun k fr M=>fr 30= .int .i64 (k:Nat)∧M b1=M3 b1∧ ∀(j:Nat) (hj:j<fs.length),j<k→jS w fs[j]=true∧dO w (fs.take j) fs[j].word fs[j].body 1=true) ⟨f30,rfl,fun j _ h=>absurd h (Nat.not_lt_zero _)⟩ ?_;rintro k F4 M4 hk0 ⟨fx,gb1,hm⟩ agx K0 hK0;have f1:=(agx 1 rfl).trans f1;have f28:=(agx 28 rfl).trans f28;have f29:=(agx 29 rfl).trans f29;have f30:=fx;clear fx;have hb1:=gb1.trans hb1;have ag0:=bC.refl [1,28,29] F4;have e0_b1:=gb1;clear gb1;clear agx;refine aB fun _ y=>aA rfl ?_;simp only[f29,f30,RR,seval];apply y;clear y;refine aI ?_;refine aH _ rfl (fun hc=>?_) (fun hc=>?_)
 ·have hlt0:k<fs.length:=by have:=aC hc;omega
  clear hc;have hg0:=aG hlt0;have hg:=rQ hg0;have hkl:(k:Int)≤(fs.length:Int):=by omega
  have hcon:=Ho w ⟨hq.1,hq.2.1⟩ (fs.take k) fs[k].word (dB fs[k].body) fs[k].body 1 (aY _) (hfu _ (bA hlt0)).body (by omega) (by omega);rw[List.map_take]at hcon
  have hst: ∀(j:Nat) (hj:j<fs.length),j<k+1→jS w fs[k]=true→dO w (fs.take k) fs[k].word fs[k].body 1=true→jS w fs[j]=true∧dO w (fs.take j) fs[j].word fs[j].body 1=true:=fun j hj h1 h2 h3=>by
   rcases Nat.lt_or_ge j k with h|h
   ·exact hm j hj h
   obtain rfl:j=k:=by omega
   exact⟨h2,h3⟩
  have hbd3:dO w (fs.take k) fs[k].word fs[k].body 1=false→AV.bool false=AV.bool res:=fun h1=>hbad3 (by
   rw[Bool.eq_false_iff];intro c;have:=sH (words:=w) (fs:=fs) fs 0 (by simp) (by simpa using c) k _ (aG hlt0)
   rw[Nat.zero_add,h1]at this;cases this)
  have hbd2:jS w fs[k]=false→AV.bool false=AV.bool res:=fun h1=>hbad2 (Ef hg0 h1);have hF:jS w fs[k]=(decide (0≤fs[k].params)&&decide (fs[k].params≤6)&&decide (fs[k].params≤fs[k].slots)&&cN w fs[k].first fs[k].slots):=rfl;generalize dO w (fs.take k) fs[k].word fs[k].body 1=rr at hcon hst hbd3;generalize jS w fs[k]=hd at *;generalize fs[k]=g at hg hcon hF;refine aK ?_;try simp only[RR]
  refine aI ?_;refine aM ?_;refine aB fun _ y=>aA rfl ?_;simp only[f28,f30,hg,List.drop_zero,RR,seval];refine aP fun b4 hn4=>?_;have nb4_b1:b4≠b1:=fun e=>by rw[e]at hn4;simp only[hb1,seval,reduceCtorEq]at hn4
  have nb1_b4:b1≠b4:=fun e=>nb4_b1 e.symm;simp only[RR,seval];apply y;clear y;refine aI ?_;refine bM fun F5 M5 hfr hH=>?_;have g1:=hfr 1;have g2:=hfr 2;have g3:=hfr 3;have g4:=hfr 4;have g28:=hfr 28;have g29:=hfr 29;have g30:=hfr 30;have gb1:=hH b1;have gb4:=hH b4
  try simp only[f1,f28,f29,f30,hb1,nb1_b4,RR,seval]at g1 g2 g3 g4 g28 g29 g30 gb1 gb4
  have ag0:bC [1,28,29] F4 F5:=bC.same hfr (by repeat (first|exact ag0|refine bC.upd rfl ?_));have e0_b1:=(hH b1).trans (by first|exact e0_b1|(simp only[nb1_b4,aJ,seval];first|done|exact e0_b1));have f1:=g1;clear g1;have f2:=g2;clear g2;have f3:=g3;clear g3;have f4:=g4;clear g4;have f28:=g28;clear g28;have f29:=g29;clear g29;have f30:=g30;clear g30;have hb1:=gb1;clear gb1;have hb4:=gb4;clear gb4;clear hfr hH;refine dS (fun fr M=>bC [1,3,4,28,29,30] F5 fr∧M b1=M5 b1∧M b4=M5 b4∧0≤g.params∧g.params≤6∧g.params≤g.slots) (fun KS6 hKS6=>?_) ?_
  ·have agS6:=bC.refl [1,3,4,28,29,30] F5
   have eS6_b1:M5 b1=M5 b1:=rfl;have eS6_b4:M5 b4=M5 b4:=rfl;refine aB fun _ y=>aA rfl ?_;simp only[f4,hb4,List.drop_zero,RR,seval]
   repeat' ((first|refine aR (fun h=>?_) (fun h=>?_)|refine aV (fun h=>?_) (fun h=>?_))<;>simp only[h,f4,hb4,List.drop_zero,RR,seval])
   all_goals
    apply y;clear y;refine aH _ rfl (fun hc6=>?_) (fun hc6=>?_)
    ·try (cases hc6;done)
     all_goals
      refine aB fun _ y=>aA rfl ?_;simp only[RR,seval];apply y;clear y;refine aO ?_;simp only[bB,aL,bH,RR,seval];refine aZ.pure ?_
      first|exact hbad1 (fun hq=>by have:=aC ‹decide (w<0)=true›;omega)|exact hbad1 (fun hq=>by have:=aC ‹decide ((32768:Int)<w)=true›;omega)|exact hbad1 (fun hq=>by have:=aC ‹decide ((fs.length:Int)<1)=true›;omega)|exact hbad1 (fun hq=>by have:=aC ‹decide ((64:Int)<(fs.length:Int))=true›;omega)|exact hbd3 (by simpa using hc11)|exact hbd2 (by rw[hF,aU (by have:=aC ‹decide (g.params<0)=true›;omega)];rfl)|exact hbd2 (by rw[hF,aU (p:=g.params≤6) (by have:=aC ‹decide ((6:Int)<g.params)=true›;omega)];simp only[Bool.and_false,Bool.false_and])|exact hbd2 (by rw[hF,aU (p:=g.params≤g.slots) (by have:=aC hc6;omega)];simp only[Bool.and_false,Bool.false_and])|exact hbd2 (by rw[hF,Bool.eq_false_iff.2 (fun c=>by have:=cT.1 c;have:=aC ‹decide (g.first<0)=true›;omega: ¬cN w g.first g.slots=true)];simp only[Bool.and_false])|exact hbd2 (by rw[hF,Bool.eq_false_iff.2 (fun c=>by have:=cT.1 c;have:=aC ‹decide (w<g.first)=true›;omega: ¬cN w g.first g.slots=true)];simp only[Bool.and_false])|exact hbd2 (by rw[hF,Bool.eq_false_iff.2 (fun c=>by have h1:=cT.1 c;have h2:=aC hc8;rw[aQ _ (by omega)]at h2;omega: ¬cN w g.first g.slots=true)];simp only[Bool.and_false])|(rw[hR];rfl)
    try (cases hc6;done)
    all_goals
     refine aK ?_;try simp only[RR]
     refine hKS6 _ _ ⟨(by repeat (first|exact agS6|refine bC.upd rfl ?_)),(by first|exact eS6_b1|(simp only[nb4_b1,nb1_b4,aJ,seval];first|done|exact eS6_b1)),(by first|exact eS6_b4|(simp only[nb4_b1,nb1_b4,aJ,seval];first|done|exact eS6_b4)), ?_⟩;have e1:=aF ‹decide (g.params<0)=false›;have e2:=aF ‹decide ((6:Int)<g.params)=false›;have e3:=aF hc6;omega
  rintro F6 M6 ⟨agx,gb1,gb4,hq2⟩;have f1:=(agx 1 rfl).trans f1;have f3:=(agx 3 rfl).trans f3;have f4:=(agx 4 rfl).trans f4;have f28:=(agx 28 rfl).trans f28;have f29:=(agx 29 rfl).trans f29;have f30:=(agx 30 rfl).trans f30;have hb1:=gb1.trans hb1;have hb4:=gb4.trans hb4;have ag0:bC [1,28,29] F4 F6:=bC.sub agx rfl ag0;have e0_b1:=gb1.trans e0_b1;clear agx;clear gb1;clear gb4;simp only[RR,seval];refine aI ?_;refine bM fun F7 M7 hfr hH=>?_;have g1:=hfr 1;have g2:=hfr 2;have g3:=hfr 3;have g4:=hfr 4;have g28:=hfr 28;have g29:=hfr 29;have g30:=hfr 30;have gb1:=hH b1;have gb4:=hH b4
  try simp only[f1,f3,f4,f28,f29,f30,hb1,hb4,seval]at g1 g2 g3 g4 g28 g29 g30 gb1 gb4
  have ag0:bC [1,28,29] F4 F7:=bC.same hfr (by repeat (first|exact ag0|refine bC.upd rfl ?_));have e0_b1:=(hH b1).trans (by first|exact e0_b1|(simp only[nb4_b1,nb1_b4,aJ,seval];first|done|exact e0_b1));have f1:=g1;clear g1;have f2:=g2;clear g2;have f3:=g3;clear g3;have f4:=g4;clear g4;have f28:=g28;clear g28;have f29:=g29;clear g29;have f30:=g30;clear g30;have hb1:=gb1;clear gb1;have hb4:=gb4;clear gb4;clear hfr hH;refine dS (fun fr M=>bC [1,3,4,28,29,30] F7 fr∧M b1=M7 b1∧M b4=M7 b4∧0≤g.first∧g.first≤w∧g.slots≤w-g.first) (fun KS8 hKS8=>?_) ?_
  ·have agS8:=bC.refl [1,3,4,28,29,30] F7
   have eS8_b1:M7 b1=M7 b1:=rfl;have eS8_b4:M7 b4=M7 b4:=rfl;refine aB fun _ y=>aA rfl ?_;simp only[f4,hb4,List.drop_zero,RR,seval]
   repeat' ((first|refine aR (fun h=>?_) (fun h=>?_)|refine aV (fun h=>?_) (fun h=>?_))<;>simp only[h,f1,f4,hb1,hb4,List.drop_zero,RR,seval])
   all_goals
    apply y;clear y;refine aH _ rfl (fun hc8=>?_) (fun hc8=>?_)
    ·try (cases hc8;done)
     all_goals
      refine aB fun _ y=>aA rfl ?_;simp only[RR,seval];apply y;clear y;refine aO ?_;simp only[bB,aL,bH,RR,seval];refine aZ.pure ?_
      first|exact hbad1 (fun hq=>by have:=aC ‹decide (w<0)=true›;omega)|exact hbad1 (fun hq=>by have:=aC ‹decide ((32768:Int)<w)=true›;omega)|exact hbad1 (fun hq=>by have:=aC ‹decide ((fs.length:Int)<1)=true›;omega)|exact hbad1 (fun hq=>by have:=aC ‹decide ((64:Int)<(fs.length:Int))=true›;omega)|exact hbd3 (by simpa using hc11)|exact hbd2 (by rw[hF,aU (by have:=aC ‹decide (g.params<0)=true›;omega)];rfl)|exact hbd2 (by rw[hF,aU (p:=g.params≤6) (by have:=aC ‹decide ((6:Int)<g.params)=true›;omega)];simp only[Bool.and_false,Bool.false_and])|exact hbd2 (by rw[hF,aU (p:=g.params≤g.slots) (by have:=aC hc6;omega)];simp only[Bool.and_false,Bool.false_and])|exact hbd2 (by rw[hF,Bool.eq_false_iff.2 (fun c=>by have:=cT.1 c;have:=aC ‹decide (g.first<0)=true›;omega: ¬cN w g.first g.slots=true)];simp only[Bool.and_false])|exact hbd2 (by rw[hF,Bool.eq_false_iff.2 (fun c=>by have:=cT.1 c;have:=aC ‹decide (w<g.first)=true›;omega: ¬cN w g.first g.slots=true)];simp only[Bool.and_false])|exact hbd2 (by rw[hF,Bool.eq_false_iff.2 (fun c=>by have h1:=cT.1 c;have h2:=aC hc8;rw[aQ _ (by omega)]at h2;omega: ¬cN w g.first g.slots=true)];simp only[Bool.and_false])|(rw[hR];rfl)
    try (cases hc8;done)
    all_goals
     refine aK ?_;try simp only[RR]
     refine hKS8 _ _ ⟨(by repeat (first|exact agS8|refine bC.upd rfl ?_)),(by first|exact eS8_b1|(simp only[nb4_b1,nb1_b4,aJ,seval];first|done|exact eS8_b1)),(by first|exact eS8_b4|(simp only[nb4_b1,nb1_b4,aJ,seval];first|done|exact eS8_b4)), ?_⟩;have e1:=aF ‹decide (g.first<0)=false›;have e2:=aF ‹decide (w<g.first)=false›;have e3:=aF hc8;rw[aQ _ (by omega)]at e3;omega
  rintro F8 M8 ⟨agx,gb1,gb4,hq3⟩;have f1:=(agx 1 rfl).trans f1;have f3:=(agx 3 rfl).trans f3;have f4:=(agx 4 rfl).trans f4;have f28:=(agx 28 rfl).trans f28;have f29:=(agx 29 rfl).trans f29;have f30:=(agx 30 rfl).trans f30;have hb1:=gb1.trans hb1;have hb4:=gb4.trans hb4;have ag0:bC [1,28,29] F4 F8:=bC.sub agx rfl ag0;have e0_b1:=gb1.trans e0_b1;clear agx;clear gb1;clear gb4;simp only[RR,seval];refine aB fun K y=>?_;refine bJ (fun x=>x≠b1∧x≠b4) [(0,3),(1,0),(2,3),(3,0),(4,3),(5,3),(6,3),(7,0),(8,3),(9,1)] [(10,1)] dG (by kernel_rfl) rfl rfl ?_;simp only[cF,dM,f1,f3,f4,hb1,hb4,nb4_b1,nb1_b4,aD,hkl,Nat.sub_zero,List.drop_zero,RR,seval];refine aP fun b5 hn5=>?_;have nb5_b1:b5≠b1:=fun e=>by rw[e]at hn5;simp only[hb1,seval,reduceCtorEq]at hn5
  have nb1_b5:b1≠b5:=fun e=>nb5_b1 e.symm;have nb5_b4:b5≠b4:=fun e=>by rw[e]at hn5;simp only[hb4,seval,reduceCtorEq]at hn5
  have nb4_b5:b4≠b5:=fun e=>nb5_b4 e.symm;simp only[RR,seval];apply y;clear y;refine aB fun _ y=>aA rfl ?_;simp only[f4,hb4,nb4_b5,List.drop_zero,RR,seval];refine aN (hcon) ?_;simp only[RR,seval];apply y;clear y;refine aH _ rfl (fun hc11=>?_) (fun hc11=>?_)
  ·try (cases hc11;done)
   all_goals
    refine aB fun _ y=>aA rfl ?_;simp only[RR,seval];apply y;clear y;refine aO ?_;simp only[bB,aL,bH,RR,seval];refine aZ.pure ?_
    first|exact hbad1 (fun hq=>by have:=aC ‹decide (w<0)=true›;omega)|exact hbad1 (fun hq=>by have:=aC ‹decide ((32768:Int)<w)=true›;omega)|exact hbad1 (fun hq=>by have:=aC ‹decide ((fs.length:Int)<1)=true›;omega)|exact hbad1 (fun hq=>by have:=aC ‹decide ((64:Int)<(fs.length:Int))=true›;omega)|exact hbd3 (by simpa using hc11)|exact hbd2 (by rw[hF,aU (by have:=aC ‹decide (g.params<0)=true›;omega)];rfl)|exact hbd2 (by rw[hF,aU (p:=g.params≤6) (by have:=aC ‹decide ((6:Int)<g.params)=true›;omega)];simp only[Bool.and_false,Bool.false_and])|exact hbd2 (by rw[hF,aU (p:=g.params≤g.slots) (by have:=aC hc6;omega)];simp only[Bool.and_false,Bool.false_and])|exact hbd2 (by rw[hF,Bool.eq_false_iff.2 (fun c=>by have:=cT.1 c;have:=aC ‹decide (g.first<0)=true›;omega: ¬cN w g.first g.slots=true)];simp only[Bool.and_false])|exact hbd2 (by rw[hF,Bool.eq_false_iff.2 (fun c=>by have:=cT.1 c;have:=aC ‹decide (w<g.first)=true›;omega: ¬cN w g.first g.slots=true)];simp only[Bool.and_false])|exact hbd2 (by rw[hF,Bool.eq_false_iff.2 (fun c=>by have h1:=cT.1 c;have h2:=aC hc8;rw[aQ _ (by omega)]at h2;omega: ¬cN w g.first g.slots=true)];simp only[Bool.and_false])|(rw[hR];rfl)
  try (cases hc11;done)
  all_goals
   refine aK ?_;try simp only[RR]
   refine aA rfl ?_;simp only[f30,RR,seval]
   try rw[aQ _ (by omega)]
   refine hK0 _ _ hlt0 ⟨by first|rfl|(simp only[aJ,seval];rfl),(by first|exact e0_b1|(simp only[nb1_b5,aJ,seval];first|done|exact e0_b1)),fun j hj h1=>hst j hj h1 (by rw[hF,bG hq2.1,bG hq2.2.1,bG hq2.2.2,cT.2 ⟨hq3.1,by omega,hq3.2.1,hq3.2.2⟩];rfl) (by simpa using hc11)⟩ (by repeat (first|exact ag0|refine bC.upd rfl ?_))
 have hkn0:k=fs.length:=by have:=aF hc;omega
 clear hc;have hbo:=uQ (words:=w) (fs:=fs) (fun j hj=>(hm j hj (by omega)).2) fs 0 (by simp)
 have hho:fs.all (jS w)=true:=List.all_eq_true.2 fun x hx=>by
  obtain⟨i,hi,rfl⟩:=List.getElem_of_mem hx;exact(hm i hi (by omega)).1
 rw[List.take_zero]at hbo;have hlast:fs.length- 1<fs.length:=by omega
 have hgl:fs.getLast?=some fs[fs.length- 1]:=by rw[List.getLast?_eq_getElem?,aG hlast]
 have hrowg:=rQ (aG hlast);have e3:IntKind.wrap .i64 ((fs.length:Int)- 1)=((fs.length- 1:Nat):Int):=by rw[aQ _ (by omega)];omega
 have hzl:((fs.length- 1:Nat):Int)<(fs.length:Int):=by omega
 rw[hho,hbo,hgl,bG hq.1,bG hq.2.1,bG hq.2.2.1,bG hq.2.2.2]at hR;generalize fs[fs.length- 1]=g at hR hrowg;simp only[Bool.true_and]at hR;generalize hz:decide (g.params=0)=z at hR;generalize hz2:g.word=z2 at *;refine bF ?_;simp only[RR,seval];refine aB fun _ y=>aA rfl ?_;simp only[f1,hb1,aD,e3,hrowg,RR,seval];refine aP fun b6 hn6=>?_;have nb6_b1:b6≠b1:=fun e=>by rw[e]at hn6;simp only[hb1,seval,reduceCtorEq]at hn6
 have nb1_b6:b1≠b6:=fun e=>nb6_b1 e.symm;simp only[RR,seval];apply y;clear y;cases z<;>cases z2
 all_goals
  refine aB fun _ y=>aA rfl ?_;simp only[hz,RR,seval];apply y;clear y;refine aO ?_;simp only[bB,aL,bH,RR,seval];refine aZ.pure ?_
  first|exact hbad1 (fun hq=>by have:=aC ‹decide (w<0)=true›;omega)|exact hbad1 (fun hq=>by have:=aC ‹decide ((32768:Int)<w)=true›;omega)|exact hbad1 (fun hq=>by have:=aC ‹decide ((fs.length:Int)<1)=true›;omega)|exact hbad1 (fun hq=>by have:=aC ‹decide ((64:Int)<(fs.length:Int))=true›;omega)|exact hbd3 (by simpa using hc11)|exact hbd2 (by rw[hF,aU (by have:=aC ‹decide (g.params<0)=true›;omega)];rfl)|exact hbd2 (by rw[hF,aU (p:=g.params≤6) (by have:=aC ‹decide ((6:Int)<g.params)=true›;omega)];simp only[Bool.and_false,Bool.false_and])|exact hbd2 (by rw[hF,aU (p:=g.params≤g.slots) (by have:=aC hc6;omega)];simp only[Bool.and_false,Bool.false_and])|exact hbd2 (by rw[hF,Bool.eq_false_iff.2 (fun c=>by have:=cT.1 c;have:=aC ‹decide (g.first<0)=true›;omega: ¬cN w g.first g.slots=true)];simp only[Bool.and_false])|exact hbd2 (by rw[hF,Bool.eq_false_iff.2 (fun c=>by have:=cT.1 c;have:=aC ‹decide (w<g.first)=true›;omega: ¬cN w g.first g.slots=true)];simp only[Bool.and_false])|exact hbd2 (by rw[hF,Bool.eq_false_iff.2 (fun c=>by have h1:=cT.1 c;have h2:=aC hc8;rw[aQ _ (by omega)]at h2;omega: ¬cN w g.first g.slots=true)];simp only[Bool.and_false])|(rw[hR];rfl)
end Go.Proofs.YtnfbbjhdflhmjaaGreatDoor
