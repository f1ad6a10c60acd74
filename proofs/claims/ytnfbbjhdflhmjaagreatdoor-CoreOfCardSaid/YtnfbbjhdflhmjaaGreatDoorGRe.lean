/- Chapter 19, the judge's: how great is a core? CoreRights. -/
import Derived.Test.YtnfbbjhdflhmjaaGreatDoorGRc
import Derived.Test.YtnfbbjhdflhmjaaGreatDoorGRd
set_option linter.unusedSimpArgs false
set_option linter.unusedVariables false
set_option maxRecDepth 10000
namespace Go.Al
theorem sO: ∀l:List CE,dR l=(l.map CE.sz).sum
 |[]=>rfl
 |e::l=>by simp only[dR,List.map_cons,List.sum_cons,sO l]
theorem sM: ∀l:List CS,dB l=(l.map CS.sz).sum
 |[]=>rfl
 |e::l=>by simp only[dB,List.map_cons,List.sum_cons,sM l]
end Go.Al
namespace Go.Proofs.YtnfbbjhdflhmjaaGreatDoor
open Go.Al
theorem Gs (n:Nat): ∀l:List CE,dR l≤n→n≤1000000000→cJ cK 62 [.isl 6 (l.map CE.row)] (.int .i64 (dR l:Nat)):=by
 induction n using Nat.strongRecOn with
 |_ n ih=>
  intro l hn hb;have hlen:=pC l;rw[sO]at *;have hz: ∀k,((l.take k).map CE.sz).sum≤(l.map CE.sz).sum:=Dj CE.sz l
  have hl0: ∀k (h:k<l.length),((l.take (k+1)).map CE.sz).sum=((l.take k).map CE.sz).sum+1+dR l[k].kids:=fun k h=>by
   rw[pD CE.sz (aG h),(l[k]).sz_eq];omega
  have hge: ∀k,k≤l.length→k≤((l.take k).map CE.sz).sum:=fun k=>by
   induction k with
   |zero=>intro _;exact Nat.zero_le _
   |succ k ihk=>intro h;rw[hl0 k (by omega)];have:=ihk (by omega);omega
  have hrest: ∀k,k≤l.length→((l.take k).map CE.sz).sum+(l.length-k)≤(l.map CE.sz).sum:=fun k=>by
   intro hk;have h1:l.map CE.sz=(l.take k).map CE.sz++(l.drop k).map CE.sz:=by rw[←List.map_append,List.take_append_drop]
   have h2:=pC (l.drop k);rw[sO,List.length_drop]at h2;rw[h1,List.sum_append];omega
  refine bI 22 [.tmp 2] Tryz.func62 rfl rfl rfl rfl ?_;refine aB fun _ y=>aA rfl ?_;simp only[RR,seval];apply y;clear y;refine aB fun _ y=>aA rfl ?_;simp only[aD,RR,seval];apply y;clear y;refine aI ?_;refine aB fun _ y=>aA rfl ?_;simp only[RR,seval];apply y;clear y;refine bM fun F1 M1 hfr hH=>?_;have g0:=hfr 0;have g2:=hfr 2;have g3:=hfr 3;have g4:=hfr 4
  try simp only[RR,seval]at g0 g2 g3 g4
  have f0:=g0;clear g0;have f2:=g2;clear g2;have f3:=g3;clear g3;have f4:=g4;clear g4;clear hfr hH;refine aM ?_;refine bZ [0,2] (l.length) (fun k fr M=>fr 4= .int .i64 (k:Nat)∧fr 3= .int .i64 ((((l.take k).map CE.sz).sum+(l.length-k):Nat):Int)) ⟨f4,by rw[f3];simp⟩ ?_;rintro k F2 M2 hk0 ⟨fx,f3⟩ agx K0 hK0;have f0:=(agx 0 rfl).trans f0;have f2:=(agx 2 rfl).trans f2;have f4:=fx;clear fx;have ag0:=bC.refl [0,2] F2;clear agx;refine aI ?_;refine aB fun _ y=>aA rfl ?_;simp only[f0,f4,aD,RR,seval];apply y;clear y;refine aH _ rfl (fun hc=>?_) (fun hc=>?_)
  ·have hlt0:k<l.length:=by have:=aC hc;omega
   clear hc;have hg:=yG (aG hlt0);have ht:=hl0 k hlt0;have hr:=hrest (k+1) hlt0;have hm:=mU (bA hlt0);rw[sO]at hm;have hs:=(l[k]).sz_eq;have hkd:=ih (dR (l[k]).kids) (by omega) (l[k]).kids (aY _) (by omega);generalize l[k]=e at hg ht hkd hs hm;have z1:IntKind.wrap .i64 ((((l.take k).map CE.sz).sum+(l.length-k):Nat)+(dR e.kids:Nat):Int)=((((l.take (k+1)).map CE.sz).sum+(l.length-(k+1)):Nat):Int):=by rw[aQ _ (by omega)];omega
   refine aK ?_;try simp only[RR]
   refine aI ?_;refine aM ?_;refine aA rfl ?_;simp only[f0,f4,f3,hg,RR,seval];refine aN (hkd) ?_;simp only[z1,RR,seval];refine aA rfl ?_;simp only[f4,RR,seval]
   try rw[aQ _ (by omega)]
   refine hK0 _ _ hlt0 ⟨by first|rfl|(simp only[aJ,seval];rfl),rfl⟩ (by repeat (first|exact ag0|refine bC.upd rfl ?_))
  have hkn0:k=l.length:=by have:=aF hc;omega
  clear hc;rw[hkn0,List.take_length,Nat.sub_self,Nat.add_zero]at f3;refine bF ?_;simp only[RR,seval];refine aB fun _ y=>aA rfl ?_;simp only[f3,RR,seval];apply y;clear y;refine aO ?_;simp only[bB,aL,bH,RR,seval];refine aZ.pure ?_;rfl
theorem Gr (n:Nat): ∀l:List CS,dB l≤n→n≤1000000000→cJ cK 34 [.isl 6 (l.map CS.row)] (.int .i64 (dB l:Nat)):=by
 induction n using Nat.strongRecOn with
 |_ n ih=>
  intro l hn hb;have hlen:=sN l;rw[sM]at *
  have hl0: ∀k (h:k<l.length),((l.take (k+1)).map CS.sz).sum=((l.take k).map CS.sz).sum+1+dR l[k].es+dB l[k].thn+dB l[k].els:=fun k h=>by
   rw[pD CS.sz (aG h),(l[k]).sz_eq];omega
  have hrest: ∀k,k≤l.length→((l.take k).map CS.sz).sum+(l.length-k)≤(l.map CS.sz).sum:=fun k=>by
   intro hk;have h1:l.map CS.sz=(l.take k).map CS.sz++(l.drop k).map CS.sz:=by rw[←List.map_append,List.take_append_drop]
   have h2:=sN (l.drop k);rw[sM,List.length_drop]at h2;rw[h1,List.sum_append];omega
  refine bI 36 [.tmp 2] Tryz.func34 rfl rfl rfl rfl ?_;refine aB fun _ y=>aA rfl ?_;simp only[RR,seval];apply y;clear y;refine aB fun _ y=>aA rfl ?_;simp only[aD,RR,seval];apply y;clear y;refine aI ?_;refine aB fun _ y=>aA rfl ?_;simp only[RR,seval];apply y;clear y;refine bM fun F1 M1 hfr hH=>?_;have g0:=hfr 0;have g2:=hfr 2;have g3:=hfr 3;have g4:=hfr 4
  try simp only[RR,seval]at g0 g2 g3 g4
  have f0:=g0;clear g0;have f2:=g2;clear g2;have f3:=g3;clear g3;have f4:=g4;clear g4;clear hfr hH;refine aM ?_;refine bZ [0,2] (l.length) (fun k fr M=>fr 4= .int .i64 (k:Nat)∧fr 3= .int .i64 ((((l.take k).map CS.sz).sum+(l.length-k):Nat):Int)) ⟨f4,by rw[f3];simp⟩ ?_;rintro k F2 M2 hk0 ⟨fx,f3⟩ agx K0 hK0;have f0:=(agx 0 rfl).trans f0;have f2:=(agx 2 rfl).trans f2;have f4:=fx;clear fx;have ag0:=bC.refl [0,2] F2;clear agx;refine aI ?_;refine aB fun _ y=>aA rfl ?_;simp only[f0,f4,aD,RR,seval];apply y;clear y;refine aH _ rfl (fun hc=>?_) (fun hc=>?_)
  ·have hlt0:k<l.length:=by have:=aC hc;omega
   clear hc;have hg:=yF (aG hlt0);have ht:=hl0 k hlt0;have hr:=hrest (k+1) hlt0;have hm:=mT (bA hlt0);rw[sM]at hm;have hs:=(l[k]).sz_eq;have hke:=Gs (dR (l[k]).es) (l[k]).es (aY _) (by omega);have hkt:=ih (dB (l[k]).thn) (by omega) (l[k]).thn (aY _) (by omega);have hku:=ih (dB (l[k]).els) (by omega) (l[k]).els (aY _) (by omega);generalize l[k]=e at hg ht hke hkt hku hs hm;obtain⟨s,hse⟩: ∃s:Nat,s=((l.take k).map CS.sz).sum+(l.length-k):=⟨_,rfl⟩;rw[←hse]at f3;have z1:IntKind.wrap .i64 ((s:Nat)+(dR e.es:Nat):Int)=((s+dR e.es:Nat):Int):=by rw[aQ _ (by omega)];omega
   have z2:IntKind.wrap .i64 (((s+dR e.es:Nat):Int)+(dB e.thn:Nat):Int)=((s+dR e.es+dB e.thn:Nat):Int):=by rw[aQ _ (by omega)];omega
   have z3:IntKind.wrap .i64 (((s+dR e.es+dB e.thn:Nat):Int)+(dB e.els:Nat):Int)=((((l.take (k+1)).map CS.sz).sum+(l.length-(k+1)):Nat):Int):=by rw[aQ _ (by omega)];omega
   refine aK ?_;try simp only[RR]
   refine aI ?_;refine aM ?_;refine bJ (fun x=>True) [(0,3),(1,3),(2,3),(3,3),(4,3),(5,1),(8,3),(9,3),(10,3),(11,3),(12,0),(15,3),(16,3),(17,3),(18,3),(19,0),(6,1),(7,3),(13,1),(14,3),(20,1),(21,3),(22,3)] [] dG (by kernel_rfl) rfl rfl ?_;simp only[cF,dM,f0,f4,f3,Yt,hg,RR,seval];refine aN (hke) ?_;simp only[z1,RR,seval];refine aN (hkt) ?_;simp only[z2,RR,seval];refine aN (hku) ?_;simp only[z3,RR,seval];refine aA rfl ?_;simp only[f4,RR,seval]
   try rw[aQ _ (by omega)]
   refine hK0 _ _ hlt0 ⟨by first|rfl|(simp only[aJ,seval];rfl),rfl⟩ (by repeat (first|exact ag0|refine bC.upd rfl ?_))
  have hkn0:k=l.length:=by have:=aF hc;omega
  clear hc;rw[hkn0,List.take_length,Nat.sub_self,Nat.add_zero]at f3;refine bF ?_;simp only[RR,seval];refine aB fun _ y=>aA rfl ?_;simp only[f3,RR,seval];apply y;clear y;refine aO ?_;simp only[bB,aL,bH,RR,seval];refine aZ.pure ?_;rfl
theorem Pc (c:Co) (hb:sR c≤1000000000) (hf:c.funs.length≤1000000):cJ cK 16 [c.av] (.int .i64 (sR c:Nat)):=by
 have hav:c.av= .agg [.int .i64 c.words, .isl 5 (c.funs.map CF.row)]:=rfl;rw[hav];unfold sR at *;generalize c.funs=fs at *;refine bI 22 [.tmp 2] Tryz.func16 rfl rfl rfl rfl ?_;refine aB fun _ y=>aA rfl ?_;simp only[RR,seval];refine aP fun b1 hn1=>?_;simp only[RR,seval];apply y;clear y;refine aB fun _ y=>aA rfl ?_;simp only[RR,seval];apply y;clear y;refine aI ?_;refine aB fun _ y=>aA rfl ?_;simp only[RR,seval];apply y;clear y;refine bM fun F1 M1 hfr hH=>?_;have g1:=hfr 1;have g2:=hfr 2;have g3:=hfr 3;have g4:=hfr 4;have gb1:=hH b1
 try simp only[RR,seval]at g1 g2 g3 g4 gb1
 have f1:=g1;clear g1;have f2:=g2;clear g2;have f3:=g3;clear g3;have f4:=g4;clear g4;have hb1:=gb1;clear gb1;clear hfr hH;refine aM ?_;refine bZ [1,2] (fs.length) (fun k fr M=>fr 4= .int .i64 (k:Nat)∧M b1=M1 b1∧fr 3= .int .i64 (((fs.take k).map fun f=>dB f.body).sum:Nat)) ⟨f4,rfl,by simp [f3]⟩ ?_;rintro k F2 M2 hk0 ⟨fx,gb1,f3⟩ agx K0 hK0;have f1:=(agx 1 rfl).trans f1;have f2:=(agx 2 rfl).trans f2;have f4:=fx;clear fx;have hb1:=gb1.trans hb1;have ag0:=bC.refl [1,2] F2;have e0_b1:=gb1;clear gb1;clear agx;refine aI ?_;refine aB fun _ y=>aA rfl ?_;simp only[f1,f4,hb1,aD,RR,seval];apply y;clear y;refine aH _ rfl (fun hc=>?_) (fun hc=>?_)
 ·have hlt0:k<fs.length:=by have:=aC hc;omega
  clear hc;have hg0:=aG hlt0;have hle:=Dj (fun f:CF=>dB f.body) fs (k+1);have ht:=pD (fun f:CF=>dB f.body) hg0;have hkd:=Gr (dB (fs[k]).body) (fs[k]).body (aY _) (by have:=Dq (fun f:CF=>dB f.body) (bA hlt0);omega);have hg:=rQ hg0;generalize fs[k]=f at hg0 ht hkd hg;have z1:IntKind.wrap .i64 ((((fs.take k).map fun f=>dB f.body).sum:Nat)+(dB f.body:Nat):Int)=(((fs.take (k+1)).map fun f=>dB f.body).sum:Nat):=by rw[aQ _ (by omega)];omega
  refine aK ?_;try simp only[RR]
  refine aI ?_;refine aM ?_;refine aA rfl ?_;simp only[f1,f4,f3,hb1,hg,RR,seval];refine aN (hkd) ?_;simp only[z1,RR,seval];refine aA rfl ?_;simp only[f4,RR,seval]
  try rw[aQ _ (by omega)]
  refine hK0 _ _ hlt0 ⟨by first|rfl|(simp only[aJ,seval];rfl),(by first|exact e0_b1|(simp only[aJ,seval];first|done|exact e0_b1)),rfl⟩ (by repeat (first|exact ag0|refine bC.upd rfl ?_))
 have hkn0:k=fs.length:=by have:=aF hc;omega
 clear hc;rw[hkn0,List.take_length]at f3;refine bF ?_;simp only[RR,seval];refine aB fun _ y=>aA rfl ?_;simp only[f3,RR,seval];apply y;clear y;refine aO ?_;simp only[bB,aL,bH,RR,seval];refine aZ.pure ?_;rfl
end Go.Proofs.YtnfbbjhdflhmjaaGreatDoor
