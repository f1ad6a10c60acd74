/- Chapter 19, the program's: a program's core. -/
import Derived.Test.YtnfbbjhdflhmjaaGreatDoorGOb
import Derived.Test.YtnfbbjhdflhmjaaGreatDoorT2
import Derived.Test.YtnfbbjhdflhmjaaGreatDoorCx
import Derived.Test.YtnfbbjhdflhmjaaGreatDoorAl4
import Derived.Test.YtnfbbjhdflhmjaaGreatDoorSy2
set_option linter.unusedSimpArgs false
set_option linter.unusedVariables false
set_option maxRecDepth 10000
namespace Go.Proofs.YtnfbbjhdflhmjaaGreatDoor
open Go.Al
theorem rR {p:Pg} (h:eM p=0):eH p=true∧(fD p).Nodup∧fW p=true∧nA p=true:=by
 unfold eM at h;by_cases h1:eH p=true
 ·rw[if_pos h1]at h
  by_cases h2:jO p=0
  ·refine⟨h1, ?_⟩
   unfold jO at h2;split at h2
   ·rename_i a1
    split at h2
    ·rename_i a2
     have a3:=a1;simp only[fW,aK,aP]at a3;exact⟨a3.1,a1,a2⟩
    cases h2
   cases h2
  rw[if_neg h2]at h;exact absurd h h2
 rw[if_neg h1]at h;cases h
theorem Ds {p:Pg} (h:eM p=0): ∀f∈p.funs,(dT f).Nodup:=fun f hf=>by
 obtain⟨_,_,hn,_⟩:=rR h;simp only[fW,aK]at hn;obtain⟨i,hi⟩:=List.getElem?_of_mem hf;exact(eP p p.funs 0 hn.2 i f hi).1
theorem Dr {p:Pg} (h:eM p=0): ∀a∈p.arrs,0≤a.size∧a.size≤4096:=fun a ha=>by
 obtain⟨hr,_⟩:=rR h;simp only[eH,aK,aP,List.all_eq_true]at hr;have:=hr.1.2 a ha;simp only[fF,aK,aP]at this;omega
set_option maxHeartbeats 8000000 in
theorem Tt (p:Pg) (hp:p.few):dD cN 10 [p.av] (.tup [(uJ p).1.av, .int .i64 (uJ p).2]):=by
 have hS:=Id p hp;by_cases hs:eM p=0
 rotate_left
 ·have e:uJ p=(⟨0,[]⟩,eM p):=by unfold uJ;rw[if_neg hs]
  rw[e];have zs: ¬eM p=0:=hs;generalize eM p=so at *;obtain⟨vs,aa,fs⟩:=p;simp only[Pg.av,Pg.row]at hS⊢;refine bD 107 [.cell 2 36, .tmp 3] Tryz.func10 rfl rfl rfl rfl ?_;refine aB fun _ y=>aA rfl ?_;simp only[RR,seval];refine aO fun b1 hn1=>?_;simp only[RR,seval];refine aO fun b2 hn2=>?_;have nb2_b1:b2≠b1:=fun e=>by rw[e]at hn2;simp only[RR,seval,reduceCtorEq]at hn2
  have nb1_b2:b1≠b2:=fun e=>nb2_b1 e.symm;simp only[RR,seval];apply y;clear y;refine aH ?_;refine aB fun _ y=>aA rfl ?_;simp only[nb1_b2,RR,seval];refine aU (hS) ?_;simp only[RR,seval];apply y;clear y;refine aB fun _ y=>aA rfl ?_;simp only[zs,RR,seval];apply y;clear y;refine aF true rfl (fun _=>?_) (fun hc=>by cases hc);refine aB fun _ y=>aA rfl ?_;simp only[RR,seval];apply y;clear y;refine aQ ?_;simp only[aX,aN,bI,RR,seval];exact aW.turn (jM.sub (oT.tup (fB.cons (oT.agg (fB.cons (oT.refl _) (fB.cons (oT.nsl 5) (fB.refl _)))) (fB.refl _)))) (aW.pure rfl);skip
 obtain⟨_,hng,_,_⟩:=rR hs;have hnl:=Ds hs;have hsz:=Dr hs;have hgl:=Ck p hng hp.v hp.a hp.f hsz;have hsum0:=rP hsz;have hpv:=hp.v;have hpa:=hp.a;have hpf:=hp.f;have hfs:=hp.fs;obtain⟨G,hG⟩: ∃G,Bs p=G:=⟨_,rfl⟩;obtain⟨wb,hwb⟩: ∃w,eA p=w:=⟨_,rfl⟩;have hwb0:0≤wb∧wb≤50000000:=by rw[←hwb];unfold eA;omega
 have hfin:uJ p=if wb+eC p.funs≤32768 then(⟨wb+eC p.funs,pK G wb p.funs⟩,0)else(⟨0,[]⟩,2):=by
  unfold uJ Fv dX;rw[if_pos hs,hwb,hG]
 rw[hfin];rw[hG,hwb]at hgl;rw[hs]at hS;have hsc: ∀w, ∀f∈p.funs,dD cN 28 [Oq G (Xo w f), .isl 5 (f.body.map Sm.row)] (.isl 6 ((f.body.map (rM (Ia G (Xo w f)))).map CS.row)):=fun w f hf=>Jj G (Xo w f) _ f.body (aY _) (by have:=hfs f hf;omega);clear hsum0 hp hs hfin hng hsz hG hwb;obtain⟨vs,aa,fs⟩:=p;simp only[Pg.av,Pg.row]at hS hgl⊢;simp only at hpv hpa hpf hfs hnl hsc⊢;unfold Oq at hsc;obtain⟨gk,gv,hmG⟩: ∃gk gv,Ve G= .imp gk gv:=⟨_,_,rfl⟩;rw[hmG]at hgl hsc;refine bD 107 [.cell 2 36, .tmp 3] Tryz.func10 rfl rfl rfl rfl ?_;refine aB fun _ y=>aA rfl ?_;simp only[RR,seval];refine aO fun b1 hn1=>?_;simp only[RR,seval];refine aO fun b2 hn2=>?_;have nb2_b1:b2≠b1:=fun e=>by rw[e]at hn2;simp only[RR,seval,reduceCtorEq]at hn2
 have nb1_b2:b1≠b2:=fun e=>nb2_b1 e.symm;simp only[RR,seval];apply y;clear y;refine aH ?_;refine aB fun _ y=>aA rfl ?_;simp only[nb1_b2,RR,seval];refine aU (hS) ?_;simp only[RR,seval];apply y;clear y;refine aB fun _ y=>aA rfl ?_;simp only[RR,seval];apply y;clear y;refine aF false rfl (fun hc=>by cases hc) (fun _=>?_);refine aM ?_;try simp only[RR]
 refine aB fun _ y=>aA rfl ?_;simp only[nb1_b2,RR,seval];refine aU (hgl) ?_;simp only[RR,seval];apply y;clear y;refine aB fun _ y=>aA rfl ?_;simp only[RR,seval];refine aO fun b7 hn7=>?_;have nb7_b1:b7≠b1:=fun e=>by rw[e]at hn7;simp only[nb1_b2,RR,seval,reduceCtorEq]at hn7
 have nb1_b7:b1≠b7:=fun e=>nb7_b1 e.symm;have nb7_b2:b7≠b2:=fun e=>by rw[e]at hn7;simp only[RR,seval,reduceCtorEq]at hn7
 have nb2_b7:b2≠b7:=fun e=>nb7_b2 e.symm;simp only[RR,seval];apply y;clear y;refine aH ?_;refine aB fun _ y=>aA rfl ?_;simp only[nb1_b2,nb1_b7,aD,RR,seval];apply y;clear y;refine bL fun F1 M1 hfr hH=>?_;have g2:=hfr 2;have g3:=hfr 3;have g5:=hfr 5;have g6:=hfr 6;have g7:=hfr 7;have g28:=hfr 28;have g29:=hfr 29;have g30:=hfr 30;have gb1:=hH b1;have gb2:=hH b2;have gb7:=hH b7
 try simp only[nb1_b2,nb1_b7,nb2_b7,RR,seval]at g2 g3 g5 g6 g7 g28 g29 g30 gb1 gb2 gb7
 have f2:=g2;clear g2;have f3:=g3;clear g3;have f5:=g5;clear g5;have f6:=g6;clear g6;have f7:=g7;clear g7;have f28:=g28;clear g28;have f29:=g29;clear g29;have f30:=g30;clear g30;have hb1:=gb1;clear gb1;have hb2:=gb2;clear gb2;have hb7:=gb7;clear gb7;clear hfr hH;refine aI ?_;refine cP [2,3,5,7,28,29] (fs.length) (fun k fr M=>fr 30= .int .i64 (k:Nat)∧M b1=M1 b1∧M b2=M1 b2∧ ∃v,M b7=some (.rows 2 [[.int .i64 0,v]])∧dS 5 v ((pK G wb (fs.take k)).map CF.row) M∧fr 6= .int .i64 (wb+eC (fs.take k))) ⟨f30,rfl,rfl, .nsl,hb7, .inl ⟨rfl,rfl⟩,(by simp [eC,f6])⟩ ?_;rintro k F2 M2 hk0 ⟨fx,gb1,gb2,⟨v7,hb7,hown,f6⟩⟩ agx K0 hK0;have f2:=(agx 2 rfl).trans f2;have f3:=(agx 3 rfl).trans f3;have f5:=(agx 5 rfl).trans f5;have f7:=(agx 7 rfl).trans f7;have f28:=(agx 28 rfl).trans f28;have f29:=(agx 29 rfl).trans f29;have f30:=fx;clear fx;have hb1:=gb1.trans hb1;have hb2:=gb2.trans hb2;have ag0:=bE.refl [2,3,5,7,28,29] F2;have e0_b1:=gb1;clear gb1;have e0_b2:=gb2;clear gb2;clear agx;refine aB fun _ y=>aA rfl ?_;simp only[f29,f30,RR,seval];apply y;clear y;refine aH ?_;refine aF _ rfl (fun hc=>?_) (fun hc=>?_)
 ·have hlt0:k<fs.length:=by have:=aC hc;omega
  clear hc;have hg0:=aG hlt0;have hnn:=hnl _ (bJ hlt0);have hbb:=hfs _ (bJ hlt0);have hsc':=fun w=>hsc w _ (bJ hlt0);generalize fs[k]=f at hg0 hnn hbb hsc';have hg6:=pG hg0;have htk:=As G fs wb k f hg0;have hsum:=vK (l:=fs.take k) fun x hx=>by have:=hfs x (List.mem_of_mem_take hx);omega
  have htl:(fs.take k).length≤fs.length:=by rw[cF];omega
  have hcl:=Fy G (fs.take k) wb;obtain⟨w,hw⟩: ∃w,wb+eC (fs.take k)=w:=⟨_,rfl⟩;have hwb2:0≤w∧w≤20000000000:=by omega
  rw[hw]at f6;have esl:IntKind.wrap .i64 ((f.params.length:Int)+(f.locs.length:Int))=((f.params.length+f.locs.length:Nat):Int):=by rw[aR _ (by omega)];omega
  have ewl:IntKind.wrap .i64 (w+(f.params.length:Int))=w+(f.params.length:Int):=by rw[aR _ (by omega)]
  have ews:IntKind.wrap .i64 (w+((f.params.length+f.locs.length:Nat):Int))=wb+eC (fs.take (k+1)):=by rw[aR _ (by omega),htk.2];omega
  have hsv:=fun m es=>hown.smapV m es;have hNp:f.params.Nodup:=by simp only[dT]at hnn;exact(List.nodup_append.1 hnn).1
  simp only[dT]at hnn;have hnn0:([]++f.params).Nodup:=by rw[List.nil_append];exact hNp
  refine aM ?_;try simp only[RR]
  refine aH ?_;refine aI ?_;refine aB fun _ y=>aA rfl ?_;simp only[f28,f30,hg6,RR,seval];refine aO fun b9 hn9=>?_;have nb9_b1:b9≠b1:=fun e=>by rw[e]at hn9;simp only[hb1,seval,reduceCtorEq]at hn9
  have nb1_b9:b1≠b9:=fun e=>nb9_b1 e.symm;have nb9_b2:b9≠b2:=fun e=>by rw[e]at hn9;simp only[hb2,seval,reduceCtorEq]at hn9
  have nb2_b9:b2≠b9:=fun e=>nb9_b2 e.symm;have nb9_b7:b9≠b7:=fun e=>by rw[e]at hn9;simp only[hb7,seval,reduceCtorEq]at hn9
  have nb7_b9:b7≠b9:=fun e=>nb9_b7 e.symm;simp only[RR,seval];apply y;clear y;refine aB fun _ y=>aA rfl ?_;simp only[f5,RR,seval];refine aO fun b35 hn35=>?_;have nb35_b1:b35≠b1:=fun e=>by rw[e]at hn35;simp only[hb1,nb1_b9,RR,seval,reduceCtorEq]at hn35
  have nb1_b35:b1≠b35:=fun e=>nb35_b1 e.symm;have nb35_b2:b35≠b2:=fun e=>by rw[e]at hn35;simp only[hb2,nb2_b9,RR,seval,reduceCtorEq]at hn35
  have nb2_b35:b2≠b35:=fun e=>nb35_b2 e.symm;have nb35_b7:b35≠b7:=fun e=>by rw[e]at hn35;simp only[hb7,nb7_b9,RR,seval,reduceCtorEq]at hn35
  have nb7_b35:b7≠b35:=fun e=>nb35_b7 e.symm;have nb35_b9:b35≠b9:=fun e=>by rw[e]at hn35;simp only[RR,seval,reduceCtorEq]at hn35
  have nb9_b35:b9≠b35:=fun e=>nb35_b9 e.symm;simp only[RR,seval];refine aO fun b10 hn10=>?_;have nb10_b1:b10≠b1:=fun e=>by rw[e]at hn10;simp only[hb1,nb1_b9,nb1_b35,RR,seval,reduceCtorEq]at hn10
  have nb1_b10:b1≠b10:=fun e=>nb10_b1 e.symm;have nb10_b2:b10≠b2:=fun e=>by rw[e]at hn10;simp only[hb2,nb2_b9,nb2_b35,RR,seval,reduceCtorEq]at hn10
  have nb2_b10:b2≠b10:=fun e=>nb10_b2 e.symm;have nb10_b7:b10≠b7:=fun e=>by rw[e]at hn10;simp only[hb7,nb7_b9,nb7_b35,RR,seval,reduceCtorEq]at hn10
  have nb7_b10:b7≠b10:=fun e=>nb10_b7 e.symm;have nb10_b9:b10≠b9:=fun e=>by rw[e]at hn10;simp only[nb9_b35,RR,seval,reduceCtorEq]at hn10
  have nb9_b10:b9≠b10:=fun e=>nb10_b9 e.symm;have nb10_b35:b10≠b35:=fun e=>by rw[e]at hn10;simp only[RR,seval,reduceCtorEq]at hn10
  have nb35_b10:b35≠b10:=fun e=>nb10_b35 e.symm;simp only[RR,seval];apply y;clear y;refine aB fun _ y=>aA rfl ?_;simp only[nb9_b35,nb9_b10,aD,esl,RR,seval];apply y;clear y;refine aH ?_;refine aB fun _ y=>aA rfl ?_;simp only[nb9_b35,nb9_b10,aD,RR,seval];apply y;clear y;refine bL fun F3 M3 hfr hH=>?_;have g2:=hfr 2;have g3:=hfr 3;have g5:=hfr 5;have g6:=hfr 6;have g7:=hfr 7;have g9:=hfr 9;have g10:=hfr 10;have g11:=hfr 11;have g28:=hfr 28;have g29:=hfr 29;have g30:=hfr 30;have g45:=hfr 45;have g46:=hfr 46;have g47:=hfr 47;have gb1:=hH b1;have gb2:=hH b2;have gb7:=hH b7;have gb9:=hH b9;have gb35:=hH b35;have gb10:=hH b10
  try simp only[f2,f3,f5,f7,f28,f29,f30,f6,hb1,hb2,hb7,nb1_b9,nb2_b9,nb7_b9,nb1_b35,nb2_b35,nb7_b35,nb9_b35,nb1_b10,nb2_b10,nb7_b10,nb9_b10,nb35_b10,RR,seval]at g2 g3 g5 g6 g7 g9 g10 g11 g28 g29 g30 g45 g46 g47 gb1 gb2 gb7 gb9 gb35 gb10
  have ag0:bE [2,3,5,7,28,29] F2 F3:=bE.same hfr (by repeat (first|exact ag0|refine bE.upd rfl ?_));have e0_b1:=(hH b1).trans (by first|exact e0_b1|(simp only[nb1_b9,nb1_b35,nb1_b10,aJ,seval];first|done|exact e0_b1));have e0_b2:=(hH b2).trans (by first|exact e0_b2|(simp only[nb2_b9,nb2_b35,nb2_b10,aJ,seval];first|done|exact e0_b2));have ho9:off v7 b9:=hown.new hn9;have ho35:=hown.new2 hn35 hn9
  have hown:dS 5 v7 ((pK G wb (fs.take k)).map CF.row) M3:=Bm hown fun b o hb=>by
   have n9:b≠b9:=fun e=>by rw[e,hn9]at hb;cases hb
   have n35:b≠b35:=fun e=>by rw[e]at n9 hb;simp only[bY _ _ n9,hb,reduceCtorEq]at hn35
   have n10:b≠b10:=fun e=>by rw[e]at n9 n35 hb;simp only[bY _ _ n9,bY _ _ n35,hb,reduceCtorEq]at hn10
   rw[hH];simp only[bY _ _ n9,bY _ _ n35,bY _ _ n10];exact hb
  have f2:=g2;clear g2;have f3:=g3;clear g3;have f5:=g5;clear g5;have f6:=g6;clear g6;have f7:=g7;clear g7;have f9:=g9;clear g9;have f10:=g10;clear g10;have f11:=g11;clear g11;have f28:=g28;clear g28;have f29:=g29;clear g29;have f30:=g30;clear g30;have f45:=g45;clear g45;have f46:=g46;clear g46;have f47:=g47;clear g47;have hb1:=gb1;clear gb1;have hb2:=gb2;clear gb2;have hb7:=gb7;clear gb7;have hb9:=gb9;clear gb9;have hb35:=gb35;clear gb35;have hb10:=gb10;clear gb10;clear hfr hH;refine aI ?_;refine cP [2,3,5,6,7,9,10,11,28,29,30,45,46] (f.params.length) (fun j fr M=>fr 47= .int .i64 (j:Nat)∧M b1=M3 b1∧M b2=M3 b2∧M b7=M3 b7∧M b9=M3 b9∧M b10=M3 b10∧M b35=some (.amap ((mB w (f.params.take j)).map nM))∧dS 5 v7 ((pK G wb (fs.take k)).map CF.row) M) ⟨f47,rfl,rfl,rfl,rfl,rfl,(by rw[hb35];rfl),hown⟩ ?_;rintro j F4 M4 hk2 ⟨fx,gb1,gb2,gb7,gb9,gb10,⟨hb35,hown⟩⟩ agx K2 hK2;have f2:=(agx 2 rfl).trans f2;have f3:=(agx 3 rfl).trans f3;have f5:=(agx 5 rfl).trans f5;have f6:=(agx 6 rfl).trans f6;have f7:=(agx 7 rfl).trans f7;have f9:=(agx 9 rfl).trans f9;have f10:=(agx 10 rfl).trans f10;have f11:=(agx 11 rfl).trans f11;have f28:=(agx 28 rfl).trans f28;have f29:=(agx 29 rfl).trans f29;have f30:=(agx 30 rfl).trans f30;have f45:=(agx 45 rfl).trans f45;have f46:=(agx 46 rfl).trans f46;have f47:=fx;clear fx;have hb1:=gb1.trans hb1;have hb2:=gb2.trans hb2;have hb7:=gb7.trans hb7;have hb9:=gb9.trans hb9;have hb10:=gb10.trans hb10;have ag0:bE [2,3,5,7,28,29] F2 F4:=bE.sub agx rfl ag0;have e0_b1:=gb1.trans e0_b1;have e0_b2:=gb2.trans e0_b2;have ag2:=bE.refl [2,3,5,6,7,9,10,11,28,29,30,45,46] F4;have e2_b1:=gb1;clear gb1;have e2_b2:=gb2;clear gb2;have e2_b7:=gb7;clear gb7;have e2_b9:=gb9;clear gb9;have e2_b10:=gb10;clear gb10;clear agx;refine aB fun _ y=>aA rfl ?_;simp only[f46,f47,RR,seval];apply y;clear y;refine aH ?_;refine aF _ rfl (fun hc=>?_) (fun hc=>?_)
  ·have hlt2:j<f.params.length:=by have:=aC hc;omega
   clear hc;have hg0:=aG hlt2;generalize f.params[j]=s at hg0;have hg:=tP hg0;have hni:=nC hnn0 hg0;have hput:=wH (mB w (f.params.take j)) s (w+(j:Int)) 0 (by rw[iX];simpa using hni);have htk:=oZ f.params w j s hg0;rw[←htk]at hput;have ej:IntKind.wrap .i64 (w+(j:Int))=w+(j:Int):=by rw[aR _ (by omega)]
   generalize(mB w (f.params.take j)).map nM=es at hput hb35;refine aM ?_;try simp only[RR]
   refine aH ?_;refine aI ?_;refine aB fun _ y=>aA rfl ?_;simp only[f45,f47,hg,RR,seval];apply y;clear y;refine aA rfl ?_;simp only[f6,f10,hb10,hb35,hput,ej,RR,seval];refine aA rfl ?_;simp only[f47,RR,seval]
   try rw[aR _ (by omega)]
   refine hK2 _ _ hlt2 ⟨by first|rfl|(simp only[aJ,seval];rfl),(by first|exact e2_b1|(simp only[nb1_b35,aJ,seval];first|done|exact e2_b1)),(by first|exact e2_b2|(simp only[nb2_b35,aJ,seval];first|done|exact e2_b2)),(by first|exact e2_b7|(simp only[nb7_b35,aJ,seval];first|done|exact e2_b7)),(by first|exact e2_b9|(simp only[nb9_b35,aJ,seval];first|done|exact e2_b9)),(by first|exact e2_b10|(simp only[nb10_b35,aJ,seval];first|done|exact e2_b10)),(by first|exact bO _ _ _|(simp only[aJ,seval];first|rfl|done)),hown.off ho35 _⟩ (by repeat (first|exact ag2|refine bE.upd rfl ?_))
  have hkn2:j=f.params.length:=by have:=aE hc;omega
  clear hc;rw[hkn2,List.take_length]at hb35;refine bH ?_;simp only[RR,seval];refine aH ?_;refine aB fun _ y=>aA rfl ?_;simp only[f9,hb9,aD,RR,seval];apply y;clear y;refine bL fun F5 M5 hfr hH=>?_;have g2:=hfr 2;have g3:=hfr 3;have g5:=hfr 5;have g6:=hfr 6;have g7:=hfr 7;have g9:=hfr 9;have g10:=hfr 10;have g11:=hfr 11;have g28:=hfr 28;have g29:=hfr 29;have g30:=hfr 30;have g45:=hfr 45;have g46:=hfr 46;have g47:=hfr 47;have g61:=hfr 61;have g62:=hfr 62;have g63:=hfr 63;have gb1:=hH b1;have gb2:=hH b2;have gb7:=hH b7;have gb9:=hH b9;have gb10:=hH b10;have gb35:=hH b35
  try simp only[f2,f3,f5,f6,f7,f9,f10,f11,f28,f29,f30,f45,f46,f47,hb1,hb2,hb7,hb9,hb10,hb35,RR,seval]at g2 g3 g5 g6 g7 g9 g10 g11 g28 g29 g30 g45 g46 g47 g61 g62 g63 gb1 gb2 gb7 gb9 gb10 gb35
  have ag0:bE [2,3,5,7,28,29] F2 F5:=bE.same hfr (by repeat (first|exact ag0|refine bE.upd rfl ?_));have e0_b1:=(hH b1).trans (by first|exact e0_b1|(simp only[nb2_b1,nb1_b2,nb7_b1,nb1_b7,nb7_b2,nb2_b7,nb9_b1,nb1_b9,nb9_b2,nb2_b9,nb9_b7,nb7_b9,nb35_b1,nb1_b35,nb35_b2,nb2_b35,nb35_b7,nb7_b35,nb35_b9,nb9_b35,nb10_b1,nb1_b10,nb10_b2,nb2_b10,nb10_b7,nb7_b10,nb10_b9,nb9_b10,nb10_b35,nb35_b10,aJ,seval];first|done|exact e0_b1));have e0_b2:=(hH b2).trans (by first|exact e0_b2|(simp only[nb2_b1,nb1_b2,nb7_b1,nb1_b7,nb7_b2,nb2_b7,nb9_b1,nb1_b9,nb9_b2,nb2_b9,nb9_b7,nb7_b9,nb35_b1,nb1_b35,nb35_b2,nb2_b35,nb35_b7,nb7_b35,nb35_b9,nb9_b35,nb10_b1,nb1_b10,nb10_b2,nb2_b10,nb10_b7,nb7_b10,nb10_b9,nb9_b10,nb10_b35,nb35_b10,aJ,seval];first|done|exact e0_b2));have hown:=hown.same hH;have f2:=g2;clear g2;have f3:=g3;clear g3;have f5:=g5;clear g5;have f6:=g6;clear g6;have f7:=g7;clear g7;have f9:=g9;clear g9;have f10:=g10;clear g10;have f11:=g11;clear g11;have f28:=g28;clear g28;have f29:=g29;clear g29;have f30:=g30;clear g30;have f45:=g45;clear g45;have f46:=g46;clear g46;have f47:=g47;clear g47;have f61:=g61;clear g61;have f62:=g62;clear g62;have f63:=g63;clear g63;have hb1:=gb1;clear gb1;have hb2:=gb2;clear gb2;have hb7:=gb7;clear gb7;have hb9:=gb9;clear gb9;have hb10:=gb10;clear gb10;have hb35:=gb35;clear gb35;clear hfr hH;refine aI ?_;refine cP [2,3,5,6,7,9,10,11,28,29,30,45,46,47,61,62] (f.locs.length) (fun j fr M=>fr 63= .int .i64 (j:Nat)∧M b1=M5 b1∧M b2=M5 b2∧M b7=M5 b7∧M b9=M5 b9∧M b10=M5 b10∧M b35=some (.amap ((mB w f.params++mB (w+(f.params.length:Int)) (f.locs.take j)).map nM))∧dS 5 v7 ((pK G wb (fs.take k)).map CF.row) M) ⟨f63,rfl,rfl,rfl,rfl,rfl,(by rw[hb35];simp [mB]),hown⟩ ?_;rintro j F6 M6 hk4 ⟨fx,gb1,gb2,gb7,gb9,gb10,⟨hb35,hown⟩⟩ agx K4 hK4;have f2:=(agx 2 rfl).trans f2;have f3:=(agx 3 rfl).trans f3;have f5:=(agx 5 rfl).trans f5;have f6:=(agx 6 rfl).trans f6;have f7:=(agx 7 rfl).trans f7;have f9:=(agx 9 rfl).trans f9;have f10:=(agx 10 rfl).trans f10;have f11:=(agx 11 rfl).trans f11;have f28:=(agx 28 rfl).trans f28;have f29:=(agx 29 rfl).trans f29;have f30:=(agx 30 rfl).trans f30;have f45:=(agx 45 rfl).trans f45;have f46:=(agx 46 rfl).trans f46;have f47:=(agx 47 rfl).trans f47;have f61:=(agx 61 rfl).trans f61;have f62:=(agx 62 rfl).trans f62;have f63:=fx;clear fx;have hb1:=gb1.trans hb1;have hb2:=gb2.trans hb2;have hb7:=gb7.trans hb7;have hb9:=gb9.trans hb9;have hb10:=gb10.trans hb10;have ag0:bE [2,3,5,7,28,29] F2 F6:=bE.sub agx rfl ag0;have e0_b1:=gb1.trans e0_b1;have e0_b2:=gb2.trans e0_b2;have ag4:=bE.refl [2,3,5,6,7,9,10,11,28,29,30,45,46,47,61,62] F6;have e4_b1:=gb1;clear gb1;have e4_b2:=gb2;clear gb2;have e4_b7:=gb7;clear gb7;have e4_b9:=gb9;clear gb9;have e4_b10:=gb10;clear gb10;clear agx;refine aB fun _ y=>aA rfl ?_;simp only[f62,f63,RR,seval];apply y;clear y;refine aH ?_;refine aF _ rfl (fun hc=>?_) (fun hc=>?_)
  ·have hlt4:j<f.locs.length:=by have:=aC hc;omega
   clear hc;have hg0:=aG hlt4;generalize f.locs[j]=s at hg0;have hg:=tP hg0;have hni:=nC hnn hg0;have ej:IntKind.wrap .i64 (w+(f.params.length:Int)+(j:Int))=w+(f.params.length:Int)+(j:Int):=by rw[aR _ (by omega)]
   have hput:=wH (mB w f.params++mB (w+(f.params.length:Int)) (f.locs.take j)) s (w+(f.params.length:Int)+(j:Int)) 0 (by rw[List.map_append,iX,iX];exact hni);have htk:=oZ f.locs (w+(f.params.length:Int)) j s hg0;rw[List.append_assoc,←htk]at hput;generalize(mB w f.params++mB (w+(f.params.length:Int)) (f.locs.take j)).map nM=es at hput hb35;refine aM ?_;try simp only[RR]
   refine aH ?_;refine aI ?_;refine aB fun _ y=>aA rfl ?_;simp only[f61,f63,hg,RR,seval];apply y;clear y;refine aA rfl ?_;simp only[f6,f9,f10,hb9,hb10,hb35,aD,ewl,hput,ej,RR,seval];refine aA rfl ?_;simp only[f63,RR,seval]
   try rw[aR _ (by omega)]
   refine hK4 _ _ hlt4 ⟨by first|rfl|(simp only[aJ,seval];rfl),(by first|exact e4_b1|(simp only[nb1_b35,aJ,seval];first|done|exact e4_b1)),(by first|exact e4_b2|(simp only[nb2_b35,aJ,seval];first|done|exact e4_b2)),(by first|exact e4_b7|(simp only[nb7_b35,aJ,seval];first|done|exact e4_b7)),(by first|exact e4_b9|(simp only[nb9_b35,aJ,seval];first|done|exact e4_b9)),(by first|exact e4_b10|(simp only[nb10_b35,aJ,seval];first|done|exact e4_b10)),(by first|exact bO _ _ _|(simp only[aJ,seval];first|rfl|done)),hown.off ho35 _⟩ (by repeat (first|exact ag4|refine bE.upd rfl ?_))
  have hkn4:j=f.locs.length:=by have:=aE hc;omega
  clear hc;rw[hkn4,List.take_length]at hb35;have hin:mB w f.params++mB (w+(f.params.length:Int)) f.locs=Xo w f:=by unfold Xo;rw[Kh]
  rw[hin]at hb35;refine bH ?_;simp only[RR,seval];refine bL fun F7 M7 hfr hH=>?_;have g2:=hfr 2;have g3:=hfr 3;have g5:=hfr 5;have g6:=hfr 6;have g7:=hfr 7;have g9:=hfr 9;have g10:=hfr 10;have g11:=hfr 11;have g28:=hfr 28;have g29:=hfr 29;have g30:=hfr 30;have g45:=hfr 45;have g46:=hfr 46;have g47:=hfr 47;have g61:=hfr 61;have g62:=hfr 62;have g63:=hfr 63;have gb1:=hH b1;have gb2:=hH b2;have gb7:=hH b7;have gb9:=hH b9;have gb10:=hH b10;have gb35:=hH b35
  try simp only[f2,f3,f5,f6,f7,f9,f10,f11,f28,f29,f30,f45,f46,f47,f61,f62,f63,hb1,hb2,hb7,hb9,hb10,hb35,RR,seval]at g2 g3 g5 g6 g7 g9 g10 g11 g28 g29 g30 g45 g46 g47 g61 g62 g63 gb1 gb2 gb7 gb9 gb10 gb35
  have ag0:bE [2,3,5,7,28,29] F2 F7:=bE.same hfr (by repeat (first|exact ag0|refine bE.upd rfl ?_));have e0_b1:=(hH b1).trans (by first|exact e0_b1|(simp only[nb2_b1,nb1_b2,nb7_b1,nb1_b7,nb7_b2,nb2_b7,nb9_b1,nb1_b9,nb9_b2,nb2_b9,nb9_b7,nb7_b9,nb35_b1,nb1_b35,nb35_b2,nb2_b35,nb35_b7,nb7_b35,nb35_b9,nb9_b35,nb10_b1,nb1_b10,nb10_b2,nb2_b10,nb10_b7,nb7_b10,nb10_b9,nb9_b10,nb10_b35,nb35_b10,aJ,seval];first|done|exact e0_b1));have e0_b2:=(hH b2).trans (by first|exact e0_b2|(simp only[nb2_b1,nb1_b2,nb7_b1,nb1_b7,nb7_b2,nb2_b7,nb9_b1,nb1_b9,nb9_b2,nb2_b9,nb9_b7,nb7_b9,nb35_b1,nb1_b35,nb35_b2,nb2_b35,nb35_b7,nb7_b35,nb35_b9,nb9_b35,nb10_b1,nb1_b10,nb10_b2,nb2_b10,nb10_b7,nb7_b10,nb10_b9,nb9_b10,nb10_b35,nb35_b10,aJ,seval];first|done|exact e0_b2));have hown:=hown.same hH;have f2:=g2;clear g2;have f3:=g3;clear g3;have f5:=g5;clear g5;have f6:=g6;clear g6;have f7:=g7;clear g7;have f9:=g9;clear g9;have f10:=g10;clear g10;have f11:=g11;clear g11;have f28:=g28;clear g28;have f29:=g29;clear g29;have f30:=g30;clear g30;have f45:=g45;clear g45;have f46:=g46;clear g46;have f47:=g47;clear g47;have f61:=g61;clear g61;have f62:=g62;clear g62;have f63:=g63;clear g63;have hb1:=gb1;clear gb1;have hb2:=gb2;clear gb2;have hb7:=gb7;clear gb7;have hb9:=gb9;clear gb9;have hb10:=gb10;clear gb10;have hb35:=gb35;clear gb35;clear hfr hH;refine kB hb35 ?_;refine bL fun F8 M8 hfr hH=>?_;have g2:=hfr 2;have g3:=hfr 3;have g5:=hfr 5;have g6:=hfr 6;have g7:=hfr 7;have g9:=hfr 9;have g10:=hfr 10;have g11:=hfr 11;have g28:=hfr 28;have g29:=hfr 29;have g30:=hfr 30;have g45:=hfr 45;have g46:=hfr 46;have g47:=hfr 47;have g61:=hfr 61;have g62:=hfr 62;have g63:=hfr 63;have gb1:=hH b1;have gb2:=hH b2;have gb7:=hH b7;have gb9:=hH b9;have gb10:=hH b10
  try simp only[SM,List.map_cons,List.map_nil,Option.map_some,f2,f3,f5,f6,f7,f9,f10,f11,f28,f29,f30,f45,f46,f47,f61,f62,f63,hb1,hb2,hb7,hb9,hb10,nb1_b35,nb2_b35,nb7_b35,nb9_b35,nb10_b35,hsv,seval]at g2 g3 g5 g6 g7 g9 g10 g11 g28 g29 g30 g45 g46 g47 g61 g62 g63 gb1 gb2 gb7 gb9 gb10
  have ag0:bE [2,3,5,7,28,29] F2 F8:=bE.cons (g2.trans (f2.symm.trans (ag0 2 rfl)))<|bE.cons (g3.trans (f3.symm.trans (ag0 3 rfl)))<|bE.cons (g5.trans (f5.symm.trans (ag0 5 rfl)))<|bE.cons (g7.trans (f7.symm.trans (ag0 7 rfl)))<|bE.cons (g28.trans (f28.symm.trans (ag0 28 rfl)))<|bE.cons (g29.trans (f29.symm.trans (ag0 29 rfl)))<|bE.nil _ _
  have e0_b1:=by first|exact(hH b1).trans (by first|exact e0_b1|(simp only[nb1_b35,seval];first|done|exact e0_b1))|exact gb1.trans (hb1.symm.trans e0_b1)
  have e0_b2:=by first|exact(hH b2).trans (by first|exact e0_b2|(simp only[nb2_b35,seval];first|done|exact e0_b2))|exact gb2.trans (hb2.symm.trans e0_b2)
  have hown:=hown.smapF hb35 hH;have f2:=g2;clear g2;have f3:=g3;clear g3;have f5:=g5;clear g5;have f6:=g6;clear g6;have f7:=g7;clear g7;have f9:=g9;clear g9;have f10:=g10;clear g10;have f11:=g11;clear g11;have f28:=g28;clear g28;have f29:=g29;clear g29;have f30:=g30;clear g30;have f45:=g45;clear g45;have f46:=g46;clear g46;have f47:=g47;clear g47;have f61:=g61;clear g61;have f62:=g62;clear g62;have f63:=g63;clear g63;have hb1:=gb1;clear gb1;have hb2:=gb2;clear gb2;have hb7:=gb7;clear gb7;have hb9:=gb9;clear gb9;have hb10:=gb10;clear gb10;clear hfr hH;have ho7:=hown.offsz hb7 (by decide);have ho10:=hown.offsz hb10 (by decide);refine aB fun K y=>?_;refine bB (fun x=>x≠b7∧x≠b9∧x≠b10) [(0,3),(1,0),(2,3),(3,0),(4,3),(5,3),(6,3),(7,3),(8,0),(9,1),(10,3),(11,1),(12,1),(13,3),(14,2),(15,1),(16,3)] [(17,1)] cX (by kernel_rfl) rfl rfl ?_;simp only[cH,dY,f6,f7,f9,f10,f11,hb7,hb9,hb10,nb9_b7,nb7_b9,nb7_b10,nb9_b10,aD,RR,seval];refine aU (hsc' w) ?_;simp only[RR,seval];refine gT hown (by simp only[aD,bP,List.length_nil];omega) (fun b e=>by first|trivial|(repeat' apply And.intro)<;>(intro c;subst c;first|exact ho7 _ _ e|exact ho9 _ _ e|exact ho10 _ _ e|exact hown.nb' hb1 (by decide) e|exact hown.nb' hb2 (by decide) e)) fun v21 M9 hown' hk' hg'=>?_;have ho7':=hg' b7 ho7 (by rw[hb7];exact bS _);have ho9':=hg' b9 ho9 (by rw[hb9];exact bS _);have ho10':=hg' b10 ho10 (by rw[hb10];exact bS _);simp only[f7,RR,seval];have gb1:=hk' b1 _ hb1 (by first|exact(hown).nb' hb1 (by decide)|exact ho1 _ _|assumption|(intro e;simp_all));have e0_b1:=(gb1.trans hb1.symm).trans e0_b1;have hb1:=gb1;clear gb1;have gb2:=hk' b2 _ hb2 (by first|exact(hown).nb' hb2 (by decide)|exact ho2 _ _|assumption|(intro e;simp_all));have e0_b2:=(gb2.trans hb2.symm).trans e0_b2;have hb2:=gb2;clear gb2;have gb7:=hk' b7 _ hb7 (by first|exact(hown).nb' hb7 (by decide)|exact ho7 _ _|assumption|(intro e;simp_all));have hb7:=gb7;clear gb7;have gb9:=hk' b9 _ hb9 (by first|exact(hown).nb' hb9 (by decide)|exact ho9 _ _|assumption|(intro e;simp_all));have hb9:=gb9;clear gb9;have gb10:=hk' b10 _ hb10 (by first|exact(hown).nb' hb10 (by decide)|exact ho10 _ _|assumption|(intro e;simp_all));have hb10:=gb10;clear gb10;have hce:=hown'.cells;have hoe:=hown'.one1
  try simp only[hce,hoe,Option.bind_some,List.drop,hb7,RR,seval]
  apply y;clear y;refine aA rfl ?_;simp only[f6,f11,ews,RR,seval];refine aA rfl ?_;simp only[f30,RR,seval]
  try rw[aR _ (by omega)]
  refine hK0 _ _ hlt0 ⟨by first|rfl|(simp only[aJ,seval];rfl),(by first|exact e0_b1|(simp only[nb1_b7,aJ,seval];first|done|exact e0_b1)),(by first|exact e0_b2|(simp only[nb2_b7,aJ,seval];first|done|exact e0_b2)),v21,(by first|exact bO _ _ _|(simp only[aJ,seval];first|rfl|done)),(by rw[htk.1,List.map_append,hw];exact hown'.off ho7' _),(by simp only[aJ,seval])⟩ (by repeat (first|exact ag0|refine bE.upd rfl ?_))
 have hkn0:k=fs.length:=by have:=aE hc;omega
 clear hc;rw[hkn0,List.take_length]at hown f6;refine bH ?_;simp only[RR,seval];refine aH ?_;have h0:M2 b7=some (.rows 2 [[AV.int .i64 0]++v7::[]]):=hb7;refine kS hown h0 (fun x hx=>by simp only[List.mem_singleton]at hx;subst hx;exact cJ rfl) (fun x hx=>by cases hx) (hown.offsz hb7 (by decide)) fun FS HS hfr hb7 hkp=>?_;have f2:FS 2= .ptr 2 b2 0 0:=(hfr 2 (by simp only[aJ,f2,seval];exact cJ rfl)).trans (by simp only[aJ,f2,seval]);have f6:FS 6= .int .i64 (wb+eC fs):=(hfr 6 (by simp only[aJ,f6,seval];exact cJ rfl)).trans (by simp only[aJ,f6,seval]);have f7:FS 7= .ptr 2 b7 0 0:=(hfr 7 (by simp only[aJ,f7,seval];exact cJ rfl)).trans (by simp only[aJ,f7,seval]);have hb2:=hkp b2 _ _ nb2_b7 (hown.offsz hb2 (by decide)) (fun r hr x hx=>by simp only[List.mem_singleton]at hr;subst hr;simp only[List.mem_cons,List.not_mem_nil,or_false]at hx;rcases hx with rfl|rfl<;>exact cJ rfl) hb2;have hb7:HS b7=some (.rows 2 [[.int .i64 0, .isl 5 ((pK G wb fs).map CF.row)]]):=hb7;clear hkp hfr h0;refine aB fun _ y=>aA rfl ?_;simp only[f6,RR,seval];apply y;clear y;refine aF _ rfl (fun hc24=>?_) (fun hc24=>?_)
 ·rw[if_neg (show ¬wb+eC fs≤32768 by have:=aC hc24;omega)]
  refine aB fun _ y=>aA rfl ?_;simp only[f2,hb2,RR,seval];apply y;clear y;refine aQ ?_;simp only[aX,aN,bI,f2,RR,seval];exact aW.turn (jM.sub (oT.tup (fB.cons (oT.agg (fB.cons (oT.refl _) (fB.cons (oT.nsl 5) (fB.refl _)))) (fB.refl _)))) (aW.pure rfl)
 rw[if_pos (show wb+eC fs≤32768 by have:=aE hc24;omega)];refine aM ?_;try simp only[RR]
 refine aB fun _ y=>aA rfl ?_;simp only[f7,f6,hb7,RR,seval];apply y;clear y;refine aB fun _ y=>aA rfl ?_;simp only[f2,f7,hb2,nb2_b7,RR,seval];apply y;clear y;refine aQ ?_;simp only[aX,aN,bI,f2,RR,seval];refine aW.pure ?_;rfl
end Go.Proofs.YtnfbbjhdflhmjaaGreatDoor
namespace Go.Al
def mD (p:Pg) (i:Nat) (s:cR):Int×Int:=
 if(cK p i s).1=1 then(eA p+eC (p.funs.take i)+(cK p i s).2,0)
 else if(cK p i s).1=3 then((p.vars.length:Int)+fG (p.arrs.take (cK p i s).2.toNat),((p.arrs[(cK p i s).2.toNat]?).map Ar.size).getD 0)
 else((cK p i s).2,0)
def gM (p:Pg) (i:Nat) (s:cR):Int×Int:=if s=[]then(0,0)else mD p i s
theorem nL (p:Pg) (i:Nat) (s:cR):((cK p i s).1=1→ ∃(f:Fu) (k:Nat),p.funs[i]?=some f∧(cK p i s).2=(k:Int)∧k<f.params.length+f.locs.length)∧
  ((cK p i s).1=3→ ∃(k:Nat) (a:Ar),(cK p i s).2=(k:Int)∧p.arrs[k]?=some a):=by
 unfold cK
 cases hf:p.funs[i]? with
 |none=>
  simp only[Option.bind_none];unfold jI
  cases hg:cL (fD p) s with
  |none=>simp
  |some k=>
   simp only;split
   ·simp
   split
   ·rename_i h1 h2
    exact⟨by simp,fun _=>⟨_,_,rfl,aG h2⟩⟩
   simp
 |some f=>
  simp only[Option.bind_some]
  cases hp:cL (dT f) s with
  |some k=>
   have:=(eG _ _ _ hp).1;have hl:(dT f).length=f.params.length+f.locs.length:=bU;exact⟨fun _=>⟨f,k,rfl,rfl,by omega⟩,fun h=>absurd h (by simp)⟩
  |none=>
   simp only;unfold jI
   cases hg:cL (fD p) s with
   |none=>simp
   |some k=>
    simp only;split
    ·simp
    split
    ·rename_i h1 h2
     exact⟨by simp,fun _=>⟨_,_,rfl,aG h2⟩⟩
    simp
def nO (p:Pg) (i:Nat) (w:Int) (f:Fu):CF:=⟨f.params.length,((f.params.length+f.locs.length:Nat):Int),w,f.word,f.body.map (rM (gM p i))⟩
def oW (p:Pg):Nat→Int→List Fu→List CF
 |_,_,[]=>[]
 |i,w,f::l=>nO p i w f::oW p (i+1) (w+((f.params.length+f.locs.length:Nat):Int)) l
theorem pJ (p:Pg): ∀(l:List Fu) (i:Nat) (w:Int),(oW p i w l).length=l.length
 |[],_,_=>rfl
 |f::l,i,w=>by simp only[oW,bP,pJ p l]
end Go.Al
namespace Go.Proofs.YtnfbbjhdflhmjaaGreatDoor
open Go.Al
def Zx (p:Pg):Co×Int:=if eM p=0 then(if dX p≤32768 then(⟨dX p,oW p 0 (eA p) p.funs⟩,0)else(⟨0,[]⟩,2))else(⟨0,[]⟩,eM p)
end Go.Proofs.YtnfbbjhdflhmjaaGreatDoor
namespace Go.Al
theorem vM (s:cR): ∀(l:List cR) (w:Int),jZ (mB w l) s=(cL l s).map fun k:Nat=>(w+(k:Int),(0:Int))
 |[],_=>rfl
 |x::l,w=>by
  simp only[mB,jZ,cL];by_cases h:x=s
  ·rw[if_pos h.symm,if_pos h];simp
  rw[if_neg (fun e=>h e.symm),if_neg h,vM s l (w+1),Option.map_map];congr 1;funext k;simp only[Function.comp,Prod.mk.injEq,and_true];omega
theorem Lb (s:cR): ∀(l:List Ar) (w:Int),jZ (Cv w l) s=(cL (l.map Ar.name) s).map fun k:Nat=>(w+fG (l.take k),((l[k]?).map Ar.size).getD 0)
 |[],_=>rfl
 |x::l,w=>by
  simp only[Cv,jZ,List.map_cons,cL];by_cases h:x.name=s
  ·rw[if_pos h.symm,if_pos h];simp [fG]
  rw[if_neg (fun e=>h e.symm),if_neg h,Lb s l (w+x.size),Option.map_map];congr 1;funext k;simp only[Function.comp,List.take_succ_cons,List.getElem?_cons_succ,fG,Prod.mk.injEq,and_true];omega
theorem zY {p:Pg} {i:Nat} {f:Fu} (hf:p.funs[i]?=some f) (s:cR):Ia (Bs p) (Xo (eA p+eC (p.funs.take i)) f) s=if(cK p i s).1=0 then(0,0)else mD p i s:=by
 unfold Ia mD cK Xo Bs;rw[vM,hf];simp only[Option.bind_some];rw[show f.params++f.locs=dT f from rfl]
 cases h1:cL (dT f) s with
 |some k=>simp
 |none=>
  simp only[Option.map_none];unfold jI fD;rw[tI,tI,vM,Lb,vM,fV,fV]
  cases h2:cL p.vars s with
  |some k=>
   have:=(eG _ _ _ h2).1;simp [this]
  |none=>
   cases h3:cL (p.arrs.map Ar.name) s with
   |some k=>
    have hk:=(eG _ _ _ h3).1;rw[aD]at hk;simp only[Option.map_none,Option.map_some,Option.none_or,Option.some_or,Option.getD_some];rw[if_neg (show ¬k+p.vars.length<p.vars.length by omega),if_pos (show k+p.vars.length-p.vars.length<p.arrs.length by omega)];simp
   |none=>
    cases h4:cL (p.funs.map Fu.name) s with
    |some k=>
     simp only[Option.map_none,Option.map_some,Option.none_or,Option.getD_some,bU,aD];rw[if_neg (show ¬k+(p.vars.length+p.arrs.length)<p.vars.length by omega),if_neg (show ¬k+(p.vars.length+p.arrs.length)-p.vars.length<p.arrs.length by omega)];simp;omega
    |none=>simp
theorem rV (p:Pg): ∀(l:List Fu) (i:Nat),gD p i l=true→ ∀(j:Nat) f,l[j]?=some f→(cT f.body).all (fH p (i+j))=true
 |[],i,_,j,f,hf=>by simp at hf
 |g::l,i,h,j,f,hf=>by
  simp only[gD,aK]at h
  cases j with
  |zero=>simp at hf;subst hf;exact h.1
  |succ j=>
   have:=rV p l (i+1) h.2 j f (by simpa using hf);rwa [show i+1+j=i+(j+1)by omega]at this
theorem nY {p:Pg} {i:Nat} {s:cR} {k n:Int} (h:dN p i ⟨s,k,n⟩=true):(k=1→(cK p i s).1=1∨(cK p i s).1=2)∧(k=3→(cK p i s).1=3)∧(k=4→(cK p i s).1=4∧(cK p i s).2<(i:Int)):=by
 simp only[dN,Bool.not_eq_true',Bool.or_eq_false_iff,Bool.and_eq_false_iff,decide_eq_false_iff_not,Bool.not_eq_false',aP]at h;refine⟨fun hk=>?_,fun hk=>?_,fun hk=>?_⟩
 ·rcases h.1.1 with(h1|h1)|h1
  ·exact absurd hk h1
  ·exact .inl h1
  exact .inr h1
 ·rcases h.1.2 with h1|h1
  ·exact absurd hk h1
  exact h1
 rcases h.2 with h1|⟨h1,h2⟩
 ·exact absurd hk h1
 exact⟨h1,by omega⟩
theorem Xr {p:Pg} {i:Nat} {s:cR} (h:(cK p i s).1=4): ∃m:Nat,(cK p i s).2=(m:Int)∧m<p.funs.length∧Vl p s=p.funs[m]?:=by
 unfold cK at *;split at h
 ·exact absurd h (by simp)
 rename_i hn;unfold jI at *;split at h
 ·exact absurd h (by simp)
 rename_i k hk;split at h
 ·exact absurd h (by simp)
 split at h
 ·exact absurd h (by simp)
 rename_i h1 h2;have hg:=hk;unfold fD at hg;rw[fV,fV]at hg;have hl:=(eG _ _ _ hk).1;rw[nJ]at hl
 cases q1:cL p.vars s with
 |some a=>rw[q1]at hg;simp only[Option.some.injEq]at hg;have:=(eG _ _ _ q1).1;omega
 |none=>
  rw[q1]at hg
  cases q2:cL (p.arrs.map Ar.name) s with
  |some a=>rw[q2]at hg;simp only[Option.map_some,Option.some.injEq]at hg;have:=(eG _ _ _ q2).1;rw[aD]at this;omega
  |none=>
   rw[q2]at hg;simp only[Option.map_none]at hg
   cases q3:cL (p.funs.map Fu.name) s with
   |none=>rw[q3]at hg;simp at hg
   |some a=>
    rw[q3]at hg;simp only[Option.map_some,Option.some.injEq,bU,aD]at hg;refine⟨a, ?_,by omega, ?_⟩
    ·simp only[if_neg h1,if_neg h2];omega
    rw[Ix,q3];rfl
end Go.Al
namespace Go.Proofs.YtnfbbjhdflhmjaaGreatDoor
open Go.Al
structure H8 (p:Pg):Prop where
 r:eH p=true
 n:fW p=true
 u:nA p=true
 f: ∀f∈p.funs,lE (kL p) f.word f.body=true
theorem Bp {p:Pg} (h:eM p=0):H8 p:=by
 obtain⟨h1,_,h3,h4⟩:=rR h;refine⟨h1,h3,h4, ?_⟩;unfold eM at h;rw[if_pos h1]at h;split at h
 ·unfold rI at h
  split at h
  ·split at h
   ·rename_i hh;exact fun f hf=>List.all_eq_true.1 hh f hf
   cases h
  cases h
 rename_i hc;exact absurd h hc
theorem Rg {s:cR} (h:dC s=true):s≠[]:=fun e=>by rw[e]at h;cases h
theorem Ad {l:List cR} (h: ∀s∈l,dC s=true):cL l []=none:=by
 cases hp:cL l []with
 |none=>rfl
 |some k=>exact absurd rfl (Rg (h _ (aL (eG _ _ _ hp).2)))
theorem xE {p:Pg} (hr:eH p=true) {i:Nat} {f:Fu} (hf:p.funs[i]?=some f):(cK p i []).1=0:=by
 simp only[eH,aK,aP,List.all_eq_true]at hr;obtain⟨⟨⟨⟨h1,_⟩,_⟩,h2⟩,h3⟩:=hr;have hff:=h3 f (aL hf);simp only[eV,aK,List.all_eq_true]at hff;unfold cK;rw[hf];simp only[Option.bind_some]
 rw[Ad (l:=dT f) (fun s hs=>by
  rcases List.mem_append.1 hs with h|h
  ·exact hff.1.1.2 s h
  exact hff.1.2 s h)]
 simp only;unfold jI
 rw[Ad (l:=fD p) (fun s hs=>by
  simp only[fD,List.mem_append,List.mem_map]at hs;rcases hs with(h|⟨a,ha,rfl⟩)|⟨g,hg,rfl⟩
  ·exact h1 s h
  ·have:=h2 a ha;simp only[fF,aK]at this;exact this.1.1
  have:=h3 g hg;simp only[eV,aK]at this;exact this.1.1.1.1)]
section
variable {rs rs' : cR → Int × Int}
theorem Tb (h0:rs []=rs' []) (n:Nat): ∀(l:List Ex) (lv:Int),iJ l≤n→eI l lv=true→(∀u∈dG l,rs u.name=rs' u.name)→l.map (sT rs)=l.map (sT rs'):=by
 induction n with
 |zero=>
  intro l lv hl _ _
  cases l with
  |nil=>rfl
  |cons e l=>have:=e.sz_eq;simp only[iJ]at hl;omega
 |succ n ih=>
  intro l
  induction l with
  |nil=>intro _ _ _ _;rfl
  |cons e l ihl=>
   intro lv hl hr hu;rw[gH,aK]at hr;rw[eB]at hu;have hs:=e.sz_eq;simp only[iJ]at hl;rw[List.map_cons,List.map_cons,ihl lv (by omega) hr.2 (fun u hm=>hu u (by simp [hm]))];congr 1;have hx:=hr.1;simp only[iL,aK]at hx;have hk:=ih e.kids (lv+1) (by omega) hx.2 (fun u hm=>hu u (by simp [hm]))
   have hn:rs e.name=rs' e.name:=by
    have hh:=hx.1.1;simp only[oO,aK]at hh;have hh:=hh.2;split at hh
    ·rename_i hkk
     rcases hkk with h|h|h
     ·exact hu ⟨e.name,1,0⟩ (by
       simp only[List.mem_append];left;left;unfold jL
       rw[if_pos h];exact List.mem_singleton.2 rfl)
     ·exact hu ⟨e.name,3,0⟩ (by
       simp only[List.mem_append];left;left;unfold jL
       rw[if_neg (by omega),if_pos h];exact List.mem_singleton.2 rfl)
     exact hu ⟨e.name,4,e.kids.length⟩ (by
      simp only[List.mem_append];left;left;unfold jL
      rw[if_neg (by omega),if_neg (by omega),if_pos h];exact List.mem_singleton.2 rfl)
    rw[aC hh,h0]
   obtain⟨k,o,m,s,kids⟩:=e;simp only[Ex.name,Ex.kids]at hn hk;simp only[sT,lH,hn,hk]
theorem Ta (h0:rs []=rs' []) (n:Nat): ∀(l:List Sm) (lv:Int),gA l≤n→eE l lv=true→(∀u∈cT l,rs u.name=rs' u.name)→l.map (rM rs)=l.map (rM rs'):=by
 induction n with
 |zero=>
  intro l lv hl _ _
  cases l with
  |nil=>rfl
  |cons e l=>have:=e.sz_eq;simp only[gA]at hl;omega
 |succ n ih=>
  intro l
  induction l with
  |nil=>intro _ _ _ _;rfl
  |cons e l ihl=>
   intro lv hl hr hu;rw[gG,aK]at hr;rw[dB]at hu;have hs:=e.sz_eq;simp only[gA]at hl;rw[List.map_cons,List.map_cons,ihl lv (by omega) hr.2 (fun u hm=>hu u (by simp [hm]))];congr 1;have hx:=hr.1;simp only[iM,aK]at hx;have hE:=Tb h0 _ e.es (lv+1) (aY _) hx.1.1.2 (fun u hm=>hu u (by simp [hm]));have hT:=ih e.thn (lv+1) (by omega) hx.1.2 (fun u hm=>hu u (by simp [hm]));have hU:=ih e.els (lv+1) (by omega) hx.2 (fun u hm=>hu u (by simp [hm]))
   have hn:rs e.name=rs' e.name:=by
    have hh:=hx.1.1.1.1;simp only[qN,aK]at hh;have hh:=hh.2;split at hh
    ·rename_i hkk
     rcases hkk with h|h|h
     ·exact hu ⟨e.name,1,0⟩ (by
       simp only[List.mem_append];left;left;left;left;unfold hJ
       rw[if_pos h];exact List.mem_singleton.2 rfl)
     ·exact hu ⟨e.name,3,0⟩ (by
       simp only[List.mem_append];left;left;left;left;unfold hJ
       rw[if_neg (by omega),if_pos h];exact List.mem_singleton.2 rfl)
     exact hu ⟨e.name,4,e.es.length⟩ (by
      simp only[List.mem_append];left;left;left;left;unfold hJ
      rw[if_neg (by omega),if_neg (by omega),if_pos h];exact List.mem_singleton.2 rfl)
    rw[aC hh,h0]
   obtain⟨k,s,es,t,u⟩:=e;simp only[Sm.name,Sm.es,Sm.thn,Sm.els]at hn hE hT hU;simp only[rM,lF,hn,hE,hT,hU]
end
theorem Ug {p:Pg} {i:Nat} {u:Us} (hk:u.kind=1∨u.kind=3∨u.kind=4) (h:dN p i u=true):(cK p i u.name).1≠0:=by
 obtain⟨s,k,n⟩:=u;obtain⟨h1,h3,h4⟩:=nY h;simp only at hk⊢;rcases hk with h|h|h
 ·rcases h1 h with q|q<;>omega
 ·have:=h3 h;omega
 have:=(h4 h).1;omega
theorem Hr (n:Nat): ∀l:List Ex,iJ l≤n→ ∀u∈dG l,u.kind=1∨u.kind=3∨u.kind=4:=by
 induction n with
 |zero=>
  intro l hl
  cases l with
  |nil=>intro u hu;simp [dG]at hu
  |cons e l=>have:=e.sz_eq;simp only[iJ]at hl;omega
 |succ n ih=>
  intro l
  induction l with
  |nil=>intro _ u hu;simp [dG]at hu
  |cons e l ihl=>
   intro hl u hu;have hs:=e.sz_eq;simp only[iJ]at hl;rw[eB]at hu;simp only[List.mem_append]at hu;rcases hu with(hu|hu)|hu
   ·unfold jL at hu
    split at hu
    ·rw[List.mem_singleton.1 hu];exact .inl rfl
    split at hu
    ·rw[List.mem_singleton.1 hu];exact .inr (.inl rfl)
    split at hu
    ·rw[List.mem_singleton.1 hu];exact .inr (.inr rfl)
    cases hu
   ·exact ih e.kids (by omega) u hu
   exact ihl (by omega) u hu
theorem Ho (n:Nat): ∀l:List Sm,gA l≤n→ ∀u∈cT l,u.kind=1∨u.kind=3∨u.kind=4:=by
 induction n with
 |zero=>
  intro l hl
  cases l with
  |nil=>intro u hu;simp [cT]at hu
  |cons e l=>have:=e.sz_eq;simp only[gA]at hl;omega
 |succ n ih=>
  intro l
  induction l with
  |nil=>intro _ u hu;simp [cT]at hu
  |cons e l ihl=>
   intro hl u hu;have hs:=e.sz_eq;simp only[gA]at hl;rw[dB]at hu;simp only[List.mem_append]at hu;rcases hu with(((hu|hu)|hu)|hu)|hu
   ·unfold hJ at hu
    split at hu
    ·rw[List.mem_singleton.1 hu];exact .inl rfl
    split at hu
    ·rw[List.mem_singleton.1 hu];exact .inr (.inl rfl)
    split at hu
    ·rw[List.mem_singleton.1 hu];exact .inr (.inr rfl)
    cases hu
   ·exact Hr _ e.es (aY _) u hu
   ·exact ih e.thn (by omega) u hu
   ·exact ih e.els (by omega) u hu
   exact ihl (by omega) u hu
theorem Bu (p:Pg):Zx p=uJ p:=by
 unfold Zx uJ;by_cases hs:eM p=0
 rotate_left
 ·rw[if_neg hs,if_neg hs]
 rw[if_pos hs,if_pos hs];have h:=Bp hs;have hu:=h.n;simp only[fW,aK]at hu
 have key: ∀(l:List Fu) (i:Nat),p.funs.drop i=l→oW p i (eA p+eC (p.funs.take i)) l=pK (Bs p) (eA p+eC (p.funs.take i)) l:=by
  intro l
  induction l with
  |nil=>intro _ _;rfl
  |cons f l ih=>
   intro i hd
   have hi:i<p.funs.length:=by
    rcases Nat.lt_or_ge i p.funs.length with h|h
    ·exact h
    rw[List.drop_eq_nil_of_le h]at hd;cases hd
   rw[bC hi]at hd;injection hd with h1 h2
   have hf:p.funs[i]?=some f:=by rw[aG hi,h1]
   have hst:=(pA [] 0 0 ⟨[],0⟩);have hsum:eC (p.funs.take (i+1))=eC (p.funs.take i)+((f.params.length+f.locs.length:Nat):Int):=(jH p.funs 0 i f hf).2;have hrest:=ih (i+1) h2;rw[hsum,←Int.add_assoc]at hrest;simp only[oW,pK];rw[hrest];congr 1;unfold nO H5;have hok:=(eP p p.funs 0 hu.2 i f hf).2;rw[Nat.zero_add,List.all_eq_true]at hok;have hr:=h.r;simp only[eH,aK,aP,List.all_eq_true]at hr;have hff:=hr.2 f (aL hf);simp only[eV,aK]at hff;have hn:=xE h.r hf;congr 1;refine Ta (by unfold gM;rw[if_pos rfl,zY hf,if_pos hn]) _ f.body 1 (aY _) hff.2 fun u hm=>?_;have h0:=Ug (Ho _ f.body (aY _) u hm) (hok u hm);have hne: ¬u.name=[]:=fun e=>by rw[e]at h0;exact h0 hn
   unfold gM;rw[if_neg hne,zY hf,if_neg h0]
 have:=key p.funs 0 rfl;simp only[List.take_zero,eC,Int.add_zero]at this;unfold Fv;rw[this]
end Go.Proofs.YtnfbbjhdflhmjaaGreatDoor
namespace Go.Proofs.YtnfbbjhdflhmjaaGreatDoor
open Go.Al
end Go.Proofs.YtnfbbjhdflhmjaaGreatDoor
namespace Go.Al
end Go.Al
namespace Go.Proofs.YtnfbbjhdflhmjaaGreatDoor
open Go.Al
end Go.Proofs.YtnfbbjhdflhmjaaGreatDoor
