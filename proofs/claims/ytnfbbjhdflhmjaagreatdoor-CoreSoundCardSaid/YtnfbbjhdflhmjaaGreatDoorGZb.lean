/- Chapter 19: CoreSound. -/
import Derived.Test.YtnfbbjhdflhmjaaGreatDoorGZa
import Derived.Test.YtnfbbjhdflhmjaaGreatDoorGLf
set_option linter.unusedSimpArgs false
set_option linter.unusedVariables false
set_option maxRecDepth 10000
namespace Go.Proofs.YtnfbbjhdflhmjaaGreatDoor
open Go.Al
set_option maxHeartbeats 2000000 in
theorem Az (p:Pg) (hp:p.ok):cJ cK 3 [p.av] (.bool true):=by
 have hf:=Ca p hp;have hav:p.av= .agg [.isl 1 (p.vars.map bK), .isl 2 (p.arrs.map Ar.row), .isl 5 (p.funs.map Fu.row)]:=rfl
 cases hq:Cb p with
 |false=>
  rw[hq]at hf;rw[hav]at *;refine bI 43 [.tmp 2] Tryz.func3 rfl rfl rfl rfl ?_;refine aB fun _ y=>aA rfl ?_;simp only[RR,seval];refine aP fun b1 hn1=>?_;simp only[RR,seval];apply y;clear y;refine aI ?_;refine aB fun _ y=>aA rfl ?_;simp only[RR,seval];refine aN (kE) ?_;simp only[RR,seval];apply y;clear y;refine aH false rfl (fun hc=>by cases hc) (fun _=>?_);refine aK ?_;try simp only[RR]
  refine aI ?_;refine aB fun _ y=>aA rfl ?_;simp only[RR,seval];refine aN (hf) ?_;simp only[RR,seval];apply y;clear y;refine aH true rfl (fun _=>?_) (fun hc=>by cases hc);refine aB fun _ y=>aA rfl ?_;simp only[RR,seval];apply y;clear y;refine aO ?_;simp only[bB,aL,bH,RR,seval];refine aZ.pure ?_;rfl
 |true=>
  rw[hq]at hf;obtain⟨hfew,h1,hsz⟩:=Bz p hp hq;have hS:=xK p hfew;have hW:=sF p hfew hsz;have hO:=Lx p hfew;have hco:(oO p).1.av= .agg [.int .i64 (oO p).1.words, .isl 5 ((oO p).1.funs.map CF.row)]:=rfl;rw[hco]at hO
  have hof:(oO p).2=if dT p=0 then(if dH p≤32768 then 0 else 2)else dT p:=by
   unfold oO;split
   ·split<;>rfl
   rfl
  generalize(oO p).2=e at *;generalize(oO p).1.words=w1 at *;generalize(oO p).1.funs.map CF.row=fs1 at *;generalize dH p=n at *;generalize(eW (dV p) p.funs).map Ak=fl at *;generalize dT p=so at *;clear hq hfew hsz hco;rw[hav]at *;by_cases h0:so=0
  rotate_left
  ·rw[if_neg h0]at hof
   subst hof;refine bI 43 [.tmp 2] Tryz.func3 rfl rfl rfl rfl ?_;refine aB fun _ y=>aA rfl ?_;simp only[RR,seval];refine aP fun b1 hn1=>?_;simp only[RR,seval];apply y;clear y;refine aI ?_;refine aB fun _ y=>aA rfl ?_;simp only[RR,seval];refine aN (kE) ?_;simp only[RR,seval];apply y;clear y;refine aH false rfl (fun hc=>by cases hc) (fun _=>?_);refine aK ?_;try simp only[RR]
   refine aI ?_;refine aB fun _ y=>aA rfl ?_;simp only[RR,seval];refine aN (hf) ?_;simp only[RR,seval];apply y;clear y;refine aH false rfl (fun hc=>by cases hc) (fun _=>?_);refine aK ?_;try simp only[RR]
   refine aB fun _ y=>aA rfl ?_;simp only[RR,seval];refine aN (hS) ?_;simp only[RR,seval];apply y;clear y;refine aB fun _ y=>aA rfl ?_;simp only[RR,seval];refine aN (hW) ?_;simp only[RR,seval];apply y;clear y;refine aB fun _ y=>aA rfl ?_;simp only[RR,seval];refine aN (hO) ?_;simp only[RR,seval];refine aP fun b6 hn6=>?_;have nb6_b1:b6≠b1:=fun e=>by rw[e]at hn6;simp only[RR,seval,reduceCtorEq]at hn6
   have nb1_b6:b1≠b6:=fun e=>nb6_b1 e.symm;simp only[RR,seval];apply y;clear y;refine aI ?_;refine aB fun _ y=>aA rfl ?_;simp only[h0,RR,seval];apply y;clear y;refine aH true rfl (fun _=>?_) (fun hc=>by cases hc);refine aB fun _ y=>aA rfl ?_;simp only[RR,seval];apply y;clear y;refine aO ?_;simp only[bB,aL,bH,RR,seval];refine aZ.pure ?_;rfl
  subst h0;rw[if_pos rfl]at hof;by_cases hn:n≤32768
  ·rw[if_pos hn]at hof
   subst hof;have hd:decide (n≤32768)=true:=bG hn;refine bI 43 [.tmp 2] Tryz.func3 rfl rfl rfl rfl ?_;refine aB fun _ y=>aA rfl ?_;simp only[RR,seval];refine aP fun b1 hn1=>?_;simp only[RR,seval];apply y;clear y;refine aI ?_;refine aB fun _ y=>aA rfl ?_;simp only[RR,seval];refine aN (kE) ?_;simp only[RR,seval];apply y;clear y;refine aH false rfl (fun hc=>by cases hc) (fun _=>?_);refine aK ?_;try simp only[RR]
   refine aI ?_;refine aB fun _ y=>aA rfl ?_;simp only[RR,seval];refine aN (hf) ?_;simp only[RR,seval];apply y;clear y;refine aH false rfl (fun hc=>by cases hc) (fun _=>?_);refine aK ?_;try simp only[RR]
   refine aB fun _ y=>aA rfl ?_;simp only[RR,seval];refine aN (hS) ?_;simp only[RR,seval];apply y;clear y;refine aB fun _ y=>aA rfl ?_;simp only[RR,seval];refine aN (hW) ?_;simp only[RR,seval];apply y;clear y;refine aB fun _ y=>aA rfl ?_;simp only[RR,seval];refine aN (hO) ?_;simp only[RR,seval];refine aP fun b6 hn6=>?_;have nb6_b1:b6≠b1:=fun e=>by rw[e]at hn6;simp only[RR,seval,reduceCtorEq]at hn6
   have nb1_b6:b1≠b6:=fun e=>nb6_b1 e.symm;simp only[RR,seval];apply y;clear y;refine aI ?_;refine aB fun _ y=>aA rfl ?_;simp only[RR,seval];apply y;clear y;refine aH false rfl (fun hc=>by cases hc) (fun _=>?_);refine aK ?_;try simp only[RR]
   refine aB fun _ y=>aA rfl ?_;simp only[hd,RR,seval];apply y;clear y;refine aO ?_;simp only[bB,aL,bH,RR,seval];refine aZ.pure ?_;rfl
  rw[if_neg hn]at hof;subst hof;have hd:decide (n≤32768)=false:=aU hn;refine bI 43 [.tmp 2] Tryz.func3 rfl rfl rfl rfl ?_;refine aB fun _ y=>aA rfl ?_;simp only[RR,seval];refine aP fun b1 hn1=>?_;simp only[RR,seval];apply y;clear y;refine aI ?_;refine aB fun _ y=>aA rfl ?_;simp only[RR,seval];refine aN (kE) ?_;simp only[RR,seval];apply y;clear y;refine aH false rfl (fun hc=>by cases hc) (fun _=>?_);refine aK ?_;try simp only[RR]
  refine aI ?_;refine aB fun _ y=>aA rfl ?_;simp only[RR,seval];refine aN (hf) ?_;simp only[RR,seval];apply y;clear y;refine aH false rfl (fun hc=>by cases hc) (fun _=>?_);refine aK ?_;try simp only[RR]
  refine aB fun _ y=>aA rfl ?_;simp only[RR,seval];refine aN (hS) ?_;simp only[RR,seval];apply y;clear y;refine aB fun _ y=>aA rfl ?_;simp only[RR,seval];refine aN (hW) ?_;simp only[RR,seval];apply y;clear y;refine aB fun _ y=>aA rfl ?_;simp only[RR,seval];refine aN (hO) ?_;simp only[RR,seval];refine aP fun b6 hn6=>?_;have nb6_b1:b6≠b1:=fun e=>by rw[e]at hn6;simp only[RR,seval,reduceCtorEq]at hn6
  have nb1_b6:b1≠b6:=fun e=>nb6_b1 e.symm;simp only[RR,seval];apply y;clear y;refine aI ?_;refine aB fun _ y=>aA rfl ?_;simp only[RR,seval];apply y;clear y;refine aH false rfl (fun hc=>by cases hc) (fun _=>?_);refine aK ?_;try simp only[RR]
  refine aB fun _ y=>aA rfl ?_;simp only[hd,RR,seval];apply y;clear y;refine aO ?_;simp only[bB,aL,bH,RR,seval];refine aZ.pure ?_;rfl
end Go.Proofs.YtnfbbjhdflhmjaaGreatDoor
