/- Chapter 19, the program's: what names stand for outside of functions. -/
import Derived.Test.YtnfbbjhdflhmjaaGreatDoorGOb
set_option linter.unusedSimpArgs false
set_option linter.unusedVariables false
set_option maxRecDepth 10000
namespace Go.Al
theorem nV: ∀{l:List Ar},(∀a∈l,0≤a.size∧a.size≤4096)→0≤fM l∧fM l≤4096 *l.length
 |[],_=>by simp [fM]
 |a::l,h=>by
  have h1:=h a (List.mem_cons_self);have h2:=nV (l:=l) fun x hx=>h x (List.mem_cons_of_mem _ hx);simp only[fM,bU];omega
theorem qQ: ∀{l:List Fu},(∀f∈l,f.params.length≤10000∧f.locs.length≤1100000)→0≤dZ l∧dZ l≤1110000 *l.length
 |[],_=>by simp [dZ]
 |a::l,h=>by
  have h1:=h a (List.mem_cons_self);have h2:=qQ (l:=l) fun x hx=>h x (List.mem_cons_of_mem _ hx);simp only[dZ,bU];omega
theorem dJ.smapF {v:AV} {l:List CF} {H H':Hp} {m:Nat} {es es':List (AV×AV)} (h:dJ 5 v (l.map CF.row) H) (hm:H m=some (.amap es')) (hH: ∀b,H' b=if b=m then none else(H b).map (Bj m es)):dJ 5 v (l.map CF.row) H':=by
 rcases h with g|⟨b,g1,g2⟩
 ·exact .inl g
 refine .inr ⟨b,g1, ?_⟩;rw[hH,if_neg (fun e=>by rw[e,hm]at g2;cases g2),g2];simp only[Option.map_some,sC,List.map_map];rfl
theorem dJ.new2 {sz:Nat} {v:AV} {rows:List (List AV)} {H:Hp} (h:dJ sz v rows H) {b9 b:Nat} {o1 o2:Option fC} (hb:Al.upd (Al.upd H b9 o1) b9 o2 b=none) (h9:H b9=none):Al.off v b:=fun s n e=>h.there s b n e (by
 cases hq:H b with
 |none=>rfl
 |some o=>
  exfalso;have n:b≠b9:=fun e=>by rw[e,h9]at hq;cases hq
  simp only[cH _ _ n,hq,reduceCtorEq]at hb)
theorem dJ.smapV {sz:Nat} {v:AV} {rows:List (List AV)} {H:Hp} (h:dJ sz v rows H) (m:Nat) (es:List (AV×AV)):nY m es v=v:=by
 rcases h with⟨rfl,_⟩|⟨b,rfl,_⟩<;>rfl
end Go.Al
namespace Go.Proofs.YtnfbbjhdflhmjaaGreatDoor
open Go.Al
set_option maxHeartbeats 4000000 in
theorem Ec (p:Pg) (hn:(fA p).Nodup) (hv:p.vars.length≤10000) (ha:p.arrs.length≤10000) (hf:p.funs.length≤10000) (hsz: ∀a∈p.arrs,0≤a.size∧a.size≤4096):
  cJ cK 27 [p.av] (.tup [Vu (Do p), .int .i64 (dV p)]):=by
 obtain⟨G,hG⟩: ∃G,Do p=G:=⟨_,rfl⟩;obtain⟨wb,hwb⟩: ∃w,dV p=w:=⟨_,rfl⟩;rw[hG,hwb];obtain⟨vs,aa,fs⟩:=p;simp only[Do]at hG;simp only[fA]at hn;simp only[dV]at hwb;simp only[Pg.av,Pg.row];simp only at hv ha hf hsz⊢;have hNa:(vs++aa.map Ar.name).Nodup:=(List.nodup_append.1 hn).1;have hNv:vs.Nodup:=(List.nodup_append.1 hNa).1;have hNv':([]++vs).Nodup:=by rw[List.nil_append];exact hNv
 refine bI 62 [.tmp 2, .tmp 3] Tryz.func27 rfl rfl rfl rfl ?_;refine aB fun _ y=>aA rfl ?_;simp only[RR,seval];refine aP fun b1 hn1=>?_;simp only[RR,seval];apply y;clear y;refine aB fun _ y=>aA rfl ?_;simp only[RR,seval];refine aP fun b12 hn12=>?_;have nb12_b1:b12≠b1:=fun e=>by rw[e]at hn12;simp only[RR,seval,reduceCtorEq]at hn12
 have nb1_b12:b1≠b12:=fun e=>nb12_b1 e.symm;simp only[RR,seval];apply y;clear y;refine aI ?_;refine aB fun _ y=>aA rfl ?_;simp only[nb1_b12,aD,RR,seval];apply y;clear y;refine bM fun F1 M1 hfr hH=>?_;have g1:=hfr 1;have g2:=hfr 2;have g3:=hfr 3;have g4:=hfr 4;have g5:=hfr 5;have g14:=hfr 14;have g15:=hfr 15;have g16:=hfr 16;have gb1:=hH b1;have gb12:=hH b12
 try simp only[nb1_b12,RR,seval]at g1 g2 g3 g4 g5 g14 g15 g16 gb1 gb12
 have f1:=g1;clear g1;have f2:=g2;clear g2;have f3:=g3;clear g3;have f4:=g4;clear g4;have f5:=g5;clear g5;have f14:=g14;clear g14;have f15:=g15;clear g15;have f16:=g16;clear g16;have hb1:=gb1;clear gb1;have hb12:=gb12;clear gb12;clear hfr hH;refine aM ?_;refine bZ [1,2,3,4,14,15] (vs.length) (fun k fr M=>fr 16= .int .i64 (k:Nat)∧M b1=M1 b1∧M b12=some (.amap ((lU 0 (vs.take k)).map nH))∧fr 5= .int .i64 (k:Nat)) ⟨f16,rfl,(by rw[hb12];rfl),f5⟩ ?_;rintro k F2 M2 hk0 ⟨fx,gb1,⟨hb12,f5⟩⟩ agx K0 hK0;have f1:=(agx 1 rfl).trans f1;have f2:=(agx 2 rfl).trans f2;have f3:=(agx 3 rfl).trans f3;have f4:=(agx 4 rfl).trans f4;have f14:=(agx 14 rfl).trans f14;have f15:=(agx 15 rfl).trans f15;have f16:=fx;clear fx;have hb1:=gb1.trans hb1;have ag0:=bC.refl [1,2,3,4,14,15] F2;have e0_b1:=gb1;clear gb1;clear agx;refine aB fun _ y=>aA rfl ?_;simp only[f15,f16,RR,seval];apply y;clear y;refine aI ?_;refine aH _ rfl (fun hc=>?_) (fun hc=>?_)
 ·have hlt0:k<vs.length:=by have:=aC hc;omega
  clear hc;have hg0:=aG hlt0;generalize vs[k]=s at hg0;have hg:=yE hg0;have hni:=mZ hNv' hg0;have hput:=xL (lU 0 (vs.take k)) s (k:Int) 0 (by rw[jC];simpa using hni);have htk:=pB vs 0 k s hg0;rw[Int.zero_add]at htk;rw[←htk]at hput;have ek:IntKind.wrap .i64 ((k:Int)+1)=((k+1:Nat):Int):=by rw[aQ _ (by omega)];omega
  generalize(lU 0 (vs.take k)).map nH=es at hput hb12;refine aK ?_;try simp only[RR]
  refine aI ?_;refine aM ?_;refine aB fun _ y=>aA rfl ?_;simp only[f14,f16,hg,RR,seval];apply y;clear y;refine aB fun _ y=>aA rfl ?_;simp only[f4,f5,hb12,hput,RR,seval];apply y;clear y;refine aA rfl ?_;simp only[f5,ek,RR,seval];refine aA rfl ?_;simp only[f16,ek,RR,seval]
  try rw[aQ _ (by omega)]
  refine hK0 _ _ hlt0 ⟨by first|rfl|(simp only[aJ,seval];rfl),(by first|exact e0_b1|(simp only[nb1_b12,aJ,seval];first|done|exact e0_b1)),(by first|exact bO _ _ _|(simp only[aJ,seval];rfl)),(by simp only[aJ,seval])⟩ (by repeat (first|exact ag0|refine bC.upd rfl ?_))
 have hkn0:k=vs.length:=by have:=aF hc;omega
 clear hc;rw[hkn0,List.take_length]at hb12;rw[hkn0]at f5;refine bF ?_;simp only[RR,seval];refine aI ?_;refine aB fun _ y=>aA rfl ?_;simp only[f1,hb1,aD,RR,seval];apply y;clear y;refine bM fun F3 M3 hfr hH=>?_;have g1:=hfr 1;have g2:=hfr 2;have g3:=hfr 3;have g4:=hfr 4;have g5:=hfr 5;have g28:=hfr 28;have g29:=hfr 29;have g30:=hfr 30;have gb1:=hH b1;have gb12:=hH b12
 try simp only[f1,f2,f3,f4,f5,hb1,hb12,RR,seval]at g1 g2 g3 g4 g5 g28 g29 g30 gb1 gb12
 have f1:=g1;clear g1;have f2:=g2;clear g2;have f3:=g3;clear g3;have f4:=g4;clear g4;have f5:=g5;clear g5;have f28:=g28;clear g28;have f29:=g29;clear g29;have f30:=g30;clear g30;have hb1:=gb1;clear gb1;have hb12:=gb12;clear gb12;clear hfr hH;refine aM ?_;refine bZ [1,2,3,4,28,29] (aa.length) (fun k fr M=>fr 30= .int .i64 (k:Nat)∧M b1=M3 b1∧M b12=some (.amap ((lU 0 vs++Ek vs.length (aa.take k)).map nH))∧fr 5= .int .i64 ((vs.length:Int)+fM (aa.take k))) ⟨f30,rfl,(by rw[hb12];simp [Ek]),(by simp [fM,f5])⟩ ?_;rintro k F4 M4 hk2 ⟨fx,gb1,⟨hb12,f5⟩⟩ agx K2 hK2;have f1:=(agx 1 rfl).trans f1;have f2:=(agx 2 rfl).trans f2;have f3:=(agx 3 rfl).trans f3;have f4:=(agx 4 rfl).trans f4;have f28:=(agx 28 rfl).trans f28;have f29:=(agx 29 rfl).trans f29;have f30:=fx;clear fx;have hb1:=gb1.trans hb1;have ag2:=bC.refl [1,2,3,4,28,29] F4;have e2_b1:=gb1;clear gb1;clear agx;refine aB fun _ y=>aA rfl ?_;simp only[f29,f30,RR,seval];apply y;clear y;refine aI ?_;refine aH _ rfl (fun hc=>?_) (fun hc=>?_)
 ·have hlt2:k<aa.length:=by have:=aC hc;omega
  clear hc;have hg0:=aG hlt2;have hsa:=hsz _ (bA hlt2);generalize aa[k]=a at hg0 hsa;have hg:=Dt hg0;have hg1:(aa.map Ar.name)[k]?=some a.name:=by rw[cC,hg0];rfl
  have hni:=mZ hNa hg1;have hput:=xL (lU 0 vs++Ek vs.length (aa.take k)) a.name ((vs.length:Int)+fM (aa.take k)) a.size (by rw[List.map_append,jC,tV,List.map_take];exact hni);have htk:=mR aa vs.length k a hg0;rw[List.append_assoc,←htk.1]at hput;have hsum:=nV (l:=aa.take k) fun x hx=>hsz x (List.mem_of_mem_take hx);have htl:(aa.take k).length≤aa.length:=by rw[cU];omega
  have ek:IntKind.wrap .i64 ((vs.length:Int)+fM (aa.take k)+a.size)=(vs.length:Int)+fM (aa.take (k+1)):=by rw[aQ _ (by omega),htk.2];omega
  generalize(lU 0 vs++Ek vs.length (aa.take k)).map nH=es at hput hb12;refine aK ?_;try simp only[RR]
  refine aI ?_;refine aM ?_;refine aB fun _ y=>aA rfl ?_;simp only[f28,f30,hg,RR,seval];refine aP fun b9 hn9=>?_;have nb9_b1:b9≠b1:=fun e=>by rw[e]at hn9;simp only[hb1,seval,reduceCtorEq]at hn9
  have nb1_b9:b1≠b9:=fun e=>nb9_b1 e.symm;have nb9_b12:b9≠b12:=fun e=>by rw[e]at hn9;simp only[hb12,seval,reduceCtorEq]at hn9
  have nb12_b9:b12≠b9:=fun e=>nb9_b12 e.symm;simp only[RR,seval];apply y;clear y;refine aB fun _ y=>aA rfl ?_;simp only[f4,f5,hb12,nb12_b9,hput,RR,seval];apply y;clear y;refine aA rfl ?_;simp only[f5,nb9_b12,ek,RR,seval];refine aA rfl ?_;simp only[f30,RR,seval]
  try rw[aQ _ (by omega)]
  refine hK2 _ _ hlt2 ⟨by first|rfl|(simp only[aJ,seval];rfl),(by first|exact e2_b1|(simp only[nb1_b12,nb1_b9,aJ,seval];first|done|exact e2_b1)),(by simp only[aJ,seval];first|rfl|done),(by simp only[aJ,seval])⟩ (by repeat (first|exact ag2|refine bC.upd rfl ?_))
 have hkn2:k=aa.length:=by have:=aF hc;omega
 clear hc;rw[hkn2,List.take_length]at hb12 f5;rw[hwb]at f5;refine bF ?_;simp only[RR,seval];refine aI ?_;refine aB fun _ y=>aA rfl ?_;simp only[f1,hb1,aD,RR,seval];apply y;clear y;refine bM fun F5 M5 hfr hH=>?_;have g2:=hfr 2;have g3:=hfr 3;have g4:=hfr 4;have g5:=hfr 5;have g47:=hfr 47;have g48:=hfr 48;have g49:=hfr 49;have gb1:=hH b1;have gb12:=hH b12
 try simp only[f2,f3,f4,f5,hb1,hb12,RR,seval]at g2 g3 g4 g5 g47 g48 g49 gb1 gb12
 have f2:=g2;clear g2;have f3:=g3;clear g3;have f4:=g4;clear g4;have f5:=g5;clear g5;have f47:=g47;clear g47;have f48:=g48;clear g48;have f49:=g49;clear g49;have hb1:=gb1;clear gb1;have hb12:=gb12;clear gb12;clear hfr hH;refine aM ?_;refine bZ [2,3,4,5,47,48] (fs.length) (fun k fr M=>fr 49= .int .i64 (k:Nat)∧M b1=M5 b1∧M b12=some (.amap ((lU 0 vs++Ek vs.length aa++lU 0 ((fs.map Fu.name).take k)).map nH))) ⟨f49,rfl,by rw[hb12];simp [lU]⟩ ?_;rintro k F6 M6 hk4 ⟨fx,gb1,hb12⟩ agx K4 hK4;have f2:=(agx 2 rfl).trans f2;have f3:=(agx 3 rfl).trans f3;have f4:=(agx 4 rfl).trans f4;have f5:=(agx 5 rfl).trans f5;have f47:=(agx 47 rfl).trans f47;have f48:=(agx 48 rfl).trans f48;have f49:=fx;clear fx;have hb1:=gb1.trans hb1;have ag4:=bC.refl [2,3,4,5,47,48] F6;have e4_b1:=gb1;clear gb1;clear agx;refine aB fun _ y=>aA rfl ?_;simp only[f48,f49,RR,seval];apply y;clear y;refine aI ?_;refine aH _ rfl (fun hc=>?_) (fun hc=>?_)
 ·have hlt4:k<fs.length:=by have:=aC hc;omega
  clear hc;have hg0:=aG hlt4;generalize fs[k]=f at hg0;have hg:=kK hg0;have hg1:(fs.map Fu.name)[k]?=some f.name:=by rw[cC,hg0];rfl
  have hni:=mZ hn hg1;have hput:=xL (lU 0 vs++Ek vs.length aa++lU 0 ((fs.map Fu.name).take k)) f.name (k:Int) 0 (by rw[List.map_append,List.map_append,jC,tV,jC];exact hni);have htk:=pB (fs.map Fu.name) 0 k f.name hg1;rw[Int.zero_add]at htk;rw[List.append_assoc (lU 0 vs++Ek vs.length aa),←htk]at hput;generalize(lU 0 vs++Ek vs.length aa++lU 0 ((fs.map Fu.name).take k)).map nH=es at hput hb12;refine aK ?_;try simp only[RR]
  refine aI ?_;refine aM ?_;refine aB fun _ y=>aA rfl ?_;simp only[f47,f49,hg,RR,seval];refine aP fun b11 hn11=>?_;have nb11_b1:b11≠b1:=fun e=>by rw[e]at hn11;simp only[hb1,seval,reduceCtorEq]at hn11
  have nb1_b11:b1≠b11:=fun e=>nb11_b1 e.symm;have nb11_b12:b11≠b12:=fun e=>by rw[e]at hn11;simp only[hb12,seval,reduceCtorEq]at hn11
  have nb12_b11:b12≠b11:=fun e=>nb11_b12 e.symm;simp only[RR,seval];apply y;clear y;refine aA rfl ?_;simp only[f4,hb12,nb12_b11,hput,RR,seval];refine aA rfl ?_;simp only[f49,RR,seval]
  try rw[aQ _ (by omega)]
  refine hK4 _ _ hlt4 ⟨by first|rfl|(simp only[aJ,seval];rfl),(by first|exact e4_b1|(simp only[nb1_b12,nb1_b11,aJ,seval];first|done|exact e4_b1)),by simp only[aJ,seval];first|rfl|done⟩ (by repeat (first|exact ag4|refine bC.upd rfl ?_))
 have hkn4:k=fs.length:=by have:=aF hc;omega
 clear hc;rw[hkn4,←aD (f:=Fu.name),List.take_length,hG]at hb12;refine bF ?_;simp only[RR,seval];refine bM fun F7 M7 hfr hH=>?_;have g2:=hfr 2;have g3:=hfr 3;have g4:=hfr 4;have g5:=hfr 5;have gb1:=hH b1;have gb12:=hH b12
 try simp only[f2,f3,f4,f5,hb1,hb12,RR,seval]at g2 g3 g4 g5 gb1 gb12
 have f2:=g2;clear g2;have f3:=g3;clear g3;have f4:=g4;clear g4;have f5:=g5;clear g5;have hb1:=gb1;clear gb1;have hb12:=gb12;clear gb12;clear hfr hH;refine pY hb12 ?_;refine bM fun F8 M8 hfr hH=>?_;have g2:=hfr 2;have g3:=hfr 3;have g4:=hfr 4;have g5:=hfr 5;have gb1:=hH b1
 try simp only[SM,List.map_cons,List.map_nil,Option.map_some,f2,f3,f4,f5,hb1,nb1_b12,seval]at g2 g3 g4 g5 gb1
 have f2:=g2;clear g2;have f3:=g3;clear g3;have f4:=g4;clear g4;have f5:=g5;clear g5;have hb1:=gb1;clear gb1;clear hfr hH;refine aB fun _ y=>aA rfl ?_;simp only[f4,f5,RR,seval];apply y;clear y;refine aO ?_;simp only[bB,aL,bH,RR,seval];refine aZ.pure ?_;rfl
end Go.Proofs.YtnfbbjhdflhmjaaGreatDoor
