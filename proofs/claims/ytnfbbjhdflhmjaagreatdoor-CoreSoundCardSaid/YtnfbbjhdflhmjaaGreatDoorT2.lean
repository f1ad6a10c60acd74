/- Chapter 17, the program's: the rules for a program. Chapter 17, the program's: what is known; types. Chapter 17, the program's: types of expressions. Chapter 17, the program's: statements. Chapter 17, the program's: which statements are right. Chapter 17, the program's: Expr, Check, Sound. Chapter 17: the law's own examples; its guards. -/
import Derived.Test.YtnfbbjhdflhmjaaGreatDoorT1
import Derived.Test.YtnfbbjhdflhmjaaGreatDoorSy3
import Derived.Test.YtnfbbjhdflhmjaaGreatDoorSc2
import Derived.Test.YtnfbbjhdflhmjaaGreatDoorSy2
import Derived.Test.YtnfbbjhdflhmjaaGreatDoorSy1
set_option linter.unusedSimpArgs false
set_option linter.unusedVariables false
set_option maxRecDepth 10000
namespace Go.Al
def Cw (m:List Fu) (f:Fu):List Fu:=if(m.find? fun g=>decide (g.name=f.name)).isSome then m else m++[f]
def gV (l:List Fu):List Fu:=l.foldl Cw []
theorem Kt (l:List Fu) (f:Fu):gV (l++[f])=Cw (gV l) f:=by simp [gV]
theorem By (s:dD): ∀(l m:List Fu),(l.foldl Cw m).find? (fun g=>decide (g.name=s))=(m++l).find? (fun g=>decide (g.name=s))
 |[],m=>by simp
 |f::l,m=>by
  rw[List.foldl_cons,By s l];unfold Cw;split
  ·rename_i h
   rw[List.find?_append,List.find?_append,List.find?_cons]
   cases hm:m.find? fun g=>decide (g.name=s)with
   |some x=>rfl
   |none=>
    have hne:decide (f.name=s)=false:=by
     refine aU fun e=>?_;rw[e,hm]at h;cases h
    rw[hne]
  rw[List.append_assoc,List.singleton_append]
theorem vL (s:dD) (l:List Fu):(gV l).find? (fun g=>decide (g.name=s))=l.find? (fun g=>decide (g.name=s)):=by
 rw[gV,By,List.nil_append]
def Po (f:Fu):AV×AV:=(.str f.name, .agg [.str f.name, .isl 1 (f.params.map bK), .isl 1 (f.locs.map bK), .bool f.word, .isl 5 (f.body.map Sm.row)])
theorem nP (s:dD): ∀(m:List Fu) (i:Nat),(m.find? (fun g=>decide (g.name=s))=none∧lY (.str s) (m.map Po) i=some none)∨
  (∃j g,m.find? (fun g=>decide (g.name=s))=some g∧lY (.str s) (m.map Po) i=some (some (j, .agg [.str g.name, .isl 1 (g.params.map bK), .isl 1 (g.locs.map bK), .bool g.word, .isl 5 (g.body.map Sm.row)])))
 |[],i=> .inl ⟨rfl,rfl⟩
 |t::m,i=>by
  simp only[List.map_cons,lY,Qf,Po,List.find?_cons];by_cases h:t.name=s
  ·right
   refine⟨i,t,by rw[bG h], ?_⟩;rw[bG h.symm]
  rw[aU h,aU (fun e=>h e.symm)];exact nP s m (i+1)
def Pf (p:Pg):AV:= .imp (((gV p.funs).map Po).map (·.1)) (((gV p.funs).map Po).map (·.2))
end Go.Al
namespace Go.Proofs.YtnfbbjhdflhmjaaGreatDoor
open Go.Al
def eQ (p:Pg) (b:Nat):List AV:=[Pf p, .nfn, .fn (.func 123) [] [], .fn (.func 123) [] [], .fn (.func 125) [.ptr 11 b 0 0] [], .fn (.func 126) [.ptr 11 b 0 0] [],
 .fn (.func 123) [] [], .fn (.func 127) [.ptr 11 b 0 0] [], .fn (.func 124) [.ptr 11 b 0 0] [], .fn (.func 124) [.ptr 11 b 0 0] [], .fn (.func 124) [.ptr 11 b 0 0] []]
set_option maxHeartbeats 2000000 in
theorem Fq (p:Pg) (hp:cI p.funs):mM cK 88 [p.av] rA (fun ae H'=> ∃v,ae= .ret v∧ ∃b,v= .ptr 11 b 0 0∧H'=H1 b (.rows 11 [eQ p b])):=by
 have hR:=eQ;unfold eQ Pf;obtain⟨vs,aa,fs⟩:=p;simp only[Pg.av,Pg.row,cI]at *;clear hR;refine bI 91 [.tmp 2] Tryz.func88 rfl rfl rfl rfl ?_;refine aB fun _ y=>aA rfl ?_;simp only[RR,seval];refine aP fun b1 hn1=>?_;simp only[RR,seval];apply y;clear y;refine aB fun _ y=>aA rfl ?_;simp only[RR,seval];refine aP fun b10 hn10=>?_;have nb10_b1:b10≠b1:=fun e=>by rw[e]at hn10;simp only[RR,seval,reduceCtorEq]at hn10
 have nb1_b10:b1≠b10:=fun e=>nb10_b1 e.symm;simp only[RR,seval];refine aP fun b12 hn12=>?_;have nb12_b1:b12≠b1:=fun e=>by rw[e]at hn12;simp only[nb1_b10,RR,seval,reduceCtorEq]at hn12
 have nb1_b12:b1≠b12:=fun e=>nb12_b1 e.symm;have nb12_b10:b12≠b10:=fun e=>by rw[e]at hn12;simp only[RR,seval,reduceCtorEq]at hn12
 have nb10_b12:b10≠b12:=fun e=>nb12_b10 e.symm;simp only[RR,seval];apply y;clear y;refine aI ?_;refine aB fun _ y=>aA rfl ?_;simp only[nb1_b10,nb1_b12,aD,RR,seval];apply y;clear y;refine bM fun F1 M1 hfr hH=>?_;have g2:=hfr 2;have g3:=hfr 3;have g14:=hfr 14;have g15:=hfr 15;have g16:=hfr 16;have gb1:=hH b1;have gb10:=hH b10;have gb12:=hH b12
 try simp only[nb1_b10,nb1_b12,nb10_b12,RR,seval]at g2 g3 g14 g15 g16 gb1 gb10 gb12
 have f2:=g2;clear g2;have f3:=g3;clear g3;have f14:=g14;clear g14;have f15:=g15;clear g15;have f16:=g16;clear g16;have hb1:=gb1;clear gb1;have hb10:=gb10;clear gb10;have hb12:=gb12;clear gb12;clear hfr hH;refine aM ?_;refine bZ [2,3,14,15] (fs.length) (fun k fr M=>fr 16= .int .i64 (k:Nat)∧M b1=M1 b1∧M b12=M1 b12∧M b10=some (.amap ((gV (fs.take k)).map Po))) ⟨f16,rfl,rfl,by rw[hb10];rfl⟩ ?_;rintro k F2 M2 hk0 ⟨fx,gb1,gb12,hb10⟩ agx K0 hK0;have f2:=(agx 2 rfl).trans f2;have f3:=(agx 3 rfl).trans f3;have f14:=(agx 14 rfl).trans f14;have f15:=(agx 15 rfl).trans f15;have f16:=fx;clear fx;have hb1:=gb1.trans hb1;have hb12:=gb12.trans hb12;have ag0:=bC.refl [2,3,14,15] F2;have e0_b1:=gb1;clear gb1;have e0_b12:=gb12;clear gb12;clear agx;refine aB fun _ y=>aA rfl ?_;simp only[f15,f16,RR,seval];apply y;clear y;refine aI ?_;refine aH _ rfl (fun hc=>?_) (fun hc=>?_)
 ·have hlt0:k<fs.length:=by have:=aC hc;omega
  clear hc;have hg:=kK (aG hlt0);have htk:fs.take (k+1)=fs.take k++[fs[k]]:=bR hlt0;generalize fs[k]=f at hg htk;have hst:gV (fs.take (k+1))=Cw (gV (fs.take k)) f:=by rw[htk,Kt]
  have hfi:=nP f.name (gV (fs.take k)) 0;unfold Cw at hst;generalize gV (fs.take k)=m at *;rcases hfi with⟨hl,hr⟩|⟨j,g,hl,hr⟩
  all_goals
   refine aK ?_;try simp only[RR]
   refine aI ?_;refine aM ?_;refine aB fun _ y=>aA rfl ?_;simp only[f14,f16,hg,RR,seval];refine aP fun b5 hn5=>?_;have nb5_b1:b5≠b1:=fun e=>by rw[e]at hn5;simp only[hb1,seval,reduceCtorEq]at hn5
   have nb1_b5:b1≠b5:=fun e=>nb5_b1 e.symm;have nb5_b12:b5≠b12:=fun e=>by rw[e]at hn5;simp only[hb12,seval,reduceCtorEq]at hn5
   have nb12_b5:b12≠b5:=fun e=>nb5_b12 e.symm;have nb5_b10:b5≠b10:=fun e=>by rw[e]at hn5;simp only[hb10,seval,reduceCtorEq]at hn5
   have nb10_b5:b10≠b5:=fun e=>nb5_b10 e.symm;simp only[RR,seval];apply y;clear y;refine aB fun K y=>?_;refine bJ (fun x=>x≠b1∧x≠b12∧x≠b10∧x≠b5) [(0,3),(1,3),(2,3),(3,0),(4,3),(5,0),(6,0),(7,3),(8,3),(9,3),(10,1)] [(11,1),(12,3)] dG (by kernel_rfl) rfl rfl ?_;simp only[cF,dM,EM,f3,hb12,hb10,nb10_b1,nb12_b1,nb12_b10,nb10_b12,nb5_b1,nb5_b12,nb12_b5,nb5_b10,nb10_b5,hr,Option.getD_some,Option.getD_none,Option.isSome_none,Option.isSome_some,RR,seval];refine aP fun b6 hn6=>?_;have nb6_b1:b6≠b1:=fun e=>by rw[e]at hn6;simp only[hb1,nb1_b5,RR,seval,reduceCtorEq]at hn6
   have nb1_b6:b1≠b6:=fun e=>nb6_b1 e.symm;have nb6_b12:b6≠b12:=fun e=>by rw[e]at hn6;simp only[hb12,nb12_b5,RR,seval,reduceCtorEq]at hn6
   have nb12_b6:b12≠b6:=fun e=>nb6_b12 e.symm;have nb6_b10:b6≠b10:=fun e=>by rw[e]at hn6;simp only[hb10,nb10_b5,RR,seval,reduceCtorEq]at hn6
   have nb10_b6:b10≠b6:=fun e=>nb6_b10 e.symm;have nb6_b5:b6≠b5:=fun e=>by rw[e]at hn6;simp only[RR,seval,reduceCtorEq]at hn6
   have nb5_b6:b5≠b6:=fun e=>nb6_b5 e.symm;simp only[RR,seval];apply y;clear y;refine aB fun _ y=>aA rfl ?_;simp only[RR,seval];apply y;clear y;refine aH _ rfl (fun hc6=>?_) (fun hc6=>?_)
   ·try (cases hc6;done)
    all_goals
     refine bJ (fun x=>x≠b1∧x≠b12∧x≠b10∧x≠b5∧x≠b6) [(0,3),(1,3),(2,3),(3,1),(4,3),(5,1),(6,1)] [(7,1)] dG (by kernel_rfl) rfl rfl ?_;simp only[cF,f3,hb12,hb10,nb12_b5,nb10_b5,nb12_b6,nb10_b6,nb5_b6,hr,zQ,RR,seval];refine aA rfl ?_;simp only[f16,RR,seval]
     try rw[aQ _ (by omega)]
     refine hK0 _ _ hlt0 ⟨by first|rfl|(simp only[aJ,seval];rfl),(by first|exact e0_b1|(simp only[nb1_b10,nb1_b5,nb1_b6,aJ,seval];first|done|exact e0_b1)),(by first|exact e0_b12|(simp only[nb12_b10,nb12_b5,nb12_b6,aJ,seval];first|done|exact e0_b12)), ?_⟩ (by repeat (first|exact ag0|refine bC.upd rfl ?_));rw[hst,hl]
     first|(simp only[Option.isSome_none,aJ,List.map_append,List.map_cons,List.map_nil,Option.isSome_none,Bool.false_eq_true,seval];rfl)|(simp only[f2,f3,f14,f15,f16,hb1,hb12,hb10,nb10_b1,nb1_b10,nb12_b1,nb1_b12,nb12_b10,nb10_b12,nb5_b1,nb1_b5,nb5_b12,nb12_b5,nb5_b10,nb10_b5,nb6_b1,nb1_b6,nb6_b12,nb12_b6,nb6_b10,nb10_b6,nb6_b5,nb5_b6,aD,hg,hr,zQ,Option.getD_some,Option.getD_none,Option.isSome_none,Option.isSome_some,aJ,Option.isSome_none,Option.isSome_some,if_true,Bool.false_eq_true,if_false,RR,seval];done)
   try (cases hc6;done)
   all_goals
    refine aK ?_;try simp only[RR]
    refine aA rfl ?_;simp only[f16,RR,seval]
    try rw[aQ _ (by omega)]
    refine hK0 _ _ hlt0 ⟨by first|rfl|(simp only[aJ,seval];rfl),(by first|exact e0_b1|(simp only[nb1_b5,nb1_b6,aJ,seval];first|done|exact e0_b1)),(by first|exact e0_b12|(simp only[nb12_b5,nb12_b6,aJ,seval];first|done|exact e0_b12)), ?_⟩ (by repeat (first|exact ag0|refine bC.upd rfl ?_));rw[hst,hl]
    first|(simp only[hb10,nb10_b5,nb10_b6,Option.isSome_some,aJ,Option.isSome_some,seval];rfl)|(simp only[hb10,nb10_b5,nb10_b6,Option.isSome_some,aJ,Option.isSome_some,seval];done)
 have hkn0:k=fs.length:=by have:=aF hc;omega
 clear hc;rw[hkn0,List.take_length]at hb10;refine bF ?_;simp only[RR,seval];refine bM fun F3 M3 hfr hH=>?_;have g2:=hfr 2;have g3:=hfr 3;have gb1:=hH b1;have gb12:=hH b12;have gb10:=hH b10
 try simp only[f2,f3,hb1,hb12,hb10,RR,seval]at g2 g3 gb1 gb12 gb10
 have f2:=g2;clear g2;have f3:=g3;clear g3;have hb1:=gb1;clear gb1;have hb12:=gb12;clear gb12;have hb10:=gb10;clear gb10;clear hfr hH;refine pY hb10 ?_;refine bM fun F4 M4 hfr hH=>?_;have g2:=hfr 2;have g3:=hfr 3;have gb1:=hH b1;have gb12:=hH b12
 try simp only[SM,List.map_cons,List.map_nil,Option.map_some,f2,f3,hb1,hb12,nb1_b10,nb12_b10,seval]at g2 g3 gb1 gb12
 have f2:=g2;clear g2;have f3:=g3;clear g3;have hb1:=gb1;clear gb1;have hb12:=gb12;clear gb12;clear hfr hH;refine aB fun _ y=>aA rfl ?_;simp only[RR,seval];apply y;clear y;refine aB fun _ y=>aA rfl ?_;simp only[f3,RR,seval];apply y;clear y;refine aB fun K y=>?_;refine bJ (fun x=>x≠b1∧x≠b12) [(0,3),(1,3),(2,3),(3,3),(4,3),(5,3),(6,3),(7,3),(8,3),(10,3),(11,3),(14,3),(15,3)] [(9,1),(12,3),(13,1),(16,3),(17,1)] dG (by kernel_rfl) rfl rfl ?_;simp only[cF,f3,hb12,RR,seval];apply y;clear y;refine aB fun _ y=>aA rfl ?_;simp only[f3,RR,seval];apply y;clear y;refine aB fun _ y=>aA rfl ?_;simp only[f3,RR,seval];apply y;clear y;refine aB fun _ y=>aA rfl ?_;simp only[f3,RR,seval];apply y;clear y;refine aB fun K y=>?_;refine bJ (fun x=>x≠b1∧x≠b12) [(0,3),(1,3),(2,3),(3,3),(4,3),(5,3),(6,3),(7,3),(8,3),(10,3),(11,3),(14,3),(15,3)] [(9,1),(12,3),(13,1),(16,3),(17,1)] dG (by kernel_rfl) rfl rfl ?_;simp only[cF,f3,RR,seval];apply y;clear y;refine aB fun _ y=>aA rfl ?_;simp only[f3,RR,seval];apply y;clear y;refine aO ?_;simp only[bB,aL,bH,RR,seval];exact⟨_,_,jW.drop (dY (b:=b12) (by first|exact hb12|(simp only[aJ,seval];done)|(simp only[f2,f3,hb1,hb12,nb10_b1,nb1_b10,nb12_b1,nb1_b12,nb12_b10,nb10_b12,aD,aJ,RR,seval];rfl))),_,rfl,b12,rfl,rfl⟩
end Go.Proofs.YtnfbbjhdflhmjaaGreatDoor
namespace Go.Proofs.YtnfbbjhdflhmjaaGreatDoor
open Go.Al
def yC (p:Pg) (b:Nat):Hp:=H1 b (.rows 11 [eQ p b])
theorem yB (p:Pg) (s:dD):sE p s=((gV p.funs).find? fun g=>decide (g.name=s)).isSome:=by rw[vL];rfl
theorem wN (p:Pg) (s:dD):jX p s=match(gV p.funs).find? (fun g=>decide (g.name=s))with |some f=>f.word|none=>false:=by rw[vL];rfl
theorem Pb (p:Pg) (b0:Nat) (n:Nat): ∀e:Ex,e.sz≤n→e.ok→vC cK 128 [.ptr 11 b0 0 0, .agg e.row] (yC p b0) (.bool (Tl (sE p) e)):=by
 induction n using Nat.strongRecOn with
 |_ n ih=>
  intro e hn he;have hz:=e.sz_eq;have hfit:=he.kids.fit;have hkids:=he.kids.all;have hX:=Tk (sE p) e;have hkn:=yB p e.name;have hfi:=nP e.name (gV p.funs) 0;have hall: ∀x∈e.kids,vC cK 128 [.ptr 11 b0 0 0, .agg x.row] (yC p b0) (.bool (Tl (sE p) x)):=fun x hx=>ih x.sz (by have:=iI hx;omega) x (aY _) (hkids x hx);generalize Tl (sE p) e=res at *;clear ih he hkids;rw[e.row_eq];simp only[cI]at hfit;generalize sE p e.name=K1 at hX hkn;obtain⟨K4,z4⟩: ∃c,decide (e.kind=4)=c:=⟨_,rfl⟩;rw[z4]at hX
  cases K4<;>rcases hfi with⟨hl,hr⟩|⟨j,g,hl,hr⟩<;>rw[hl]at hkn<;>subst hkn<;>simp only[Option.isSome_none,Option.isSome_some,Bool.not_true,Bool.not_false,Bool.or_false,Bool.or_true,Bool.true_and,Bool.false_and]at hX
  all_goals
   refine bI 36 [.tmp 4] Tryz.func128 rfl rfl rfl rfl ?_;have hb0:(yC p b0) b0=some (.rows 11 [eQ p b0]):=iL _ _;simp only[eQ,Pf]at hb0;refine aB fun _ y=>aA rfl ?_;simp only[RR,seval];refine aP fun b3 hn3=>?_;have nb3_b0:b3≠b0:=fun e=>by rw[e]at hn3;simp only[hb0,seval,reduceCtorEq]at hn3
   have nb0_b3:b0≠b3:=fun e=>nb3_b0 e.symm;simp only[RR,seval];apply y;clear y;refine aI ?_;refine aB fun _ y=>aA rfl ?_;simp only[z4,RR,seval];apply y;clear y;refine aH _ rfl (fun hc1=>?_) (fun hc1=>?_)
   ·try (cases hc1;done)
    all_goals
     refine aB fun K y=>?_;refine bJ (fun x=>x≠b0∧x≠b3) [(0,3),(1,3),(2,3),(3,0),(4,3),(5,0),(6,0),(7,3),(8,3),(9,3),(10,1)] [(11,1),(12,3)] dG (by kernel_rfl) rfl rfl ?_;simp only[cF,dM,EM,hb0,nb3_b0,nb0_b3,cD,hr,Option.getD_some,Option.getD_none,Option.isSome_none,Option.isSome_some,RR,seval];refine aP fun b5 hn5=>?_;have nb5_b0:b5≠b0:=fun e=>by rw[e]at hn5;simp only[hb0,nb0_b3,RR,seval,reduceCtorEq]at hn5
     have nb0_b5:b0≠b5:=fun e=>nb5_b0 e.symm;have nb5_b3:b5≠b3:=fun e=>by rw[e]at hn5;simp only[RR,seval,reduceCtorEq]at hn5
     have nb3_b5:b3≠b5:=fun e=>nb5_b3 e.symm;simp only[RR,seval];apply y;clear y;refine aB fun _ y=>aA rfl ?_;simp only[RR,seval];apply y;clear y;refine aH _ rfl (fun hc3=>?_) (fun hc3=>?_)
     ·try (cases hc3;done)
      all_goals
       refine aB fun _ y=>aA rfl ?_;simp only[RR,seval];apply y;clear y;refine aO ?_;simp only[bB,aL,bH,RR,seval];refine aZ.q ?_ (dY (b:=b0) (by first|exact hb0|(simp only[hb0,nb0_b3,nb0_b5,aJ,seval];done)|(simp only[hb0,nb0_b3,nb0_b5,aJ,seval];rfl)));rw[hX]
     try (cases hc3;done)
     all_goals
      refine aK ?_;try simp only[RR]
      refine aI ?_;refine aB fun _ y=>aA rfl ?_;simp only[nb3_b5,aD,RR,seval];apply y;clear y;refine bM fun F1 M1 hfr hH=>?_;have g0:=hfr 0;have g4:=hfr 4;have g25:=hfr 25;have g26:=hfr 26;have g27:=hfr 27;have gb0:=hH b0;have gb3:=hH b3;have gb5:=hH b5
      try simp only[hb0,nb0_b3,nb0_b5,nb3_b5,RR,seval]at g0 g4 g25 g26 g27 gb0 gb3 gb5
      have f0:=g0;clear g0;have f4:=g4;clear g4;have f25:=g25;clear g25;have f26:=g26;clear g26;have f27:=g27;clear g27;have hb0:=gb0;clear gb0;have hb3:=gb3;clear gb3;have hb5:=gb5;clear gb5;clear hfr hH;refine aM ?_;refine bZ [0,25,26] (e.kids.length) (fun k fr M=>fr 27= .int .i64 (k:Nat)∧M b0=M1 b0∧M b3=M1 b3∧M b5=M1 b5∧res=Dr (sE p) (e.kids.drop k)) ⟨f27,rfl,rfl,rfl,by rw[List.drop_zero];exact hX⟩ ?_;rintro k F2 M2 hk0 ⟨fx,gb0,gb3,gb5,hres⟩ agx K0 hK0;have f0:=(agx 0 rfl).trans f0;have f25:=(agx 25 rfl).trans f25;have f26:=(agx 26 rfl).trans f26;have f27:=fx;clear fx;have hb0:=gb0.trans hb0;have hb3:=gb3.trans hb3;have hb5:=gb5.trans hb5;have ag0:=bC.refl [0,25,26] F2;have e0_b0:=gb0;clear gb0;have e0_b3:=gb3;clear gb3;have e0_b5:=gb5;clear gb5;clear agx;refine aB fun _ y=>aA rfl ?_;simp only[f26,f27,RR,seval];apply y;clear y;refine aI ?_;refine aH _ rfl (fun hc=>?_) (fun hc=>?_)
      ·have hlt0:k<e.kids.length:=by have:=aC hc;omega
       clear hc;have hg:=uL (aG hlt0);have hm:=hall _ (bA hlt0);rw[bD hlt0,sZ]at hres;generalize e.kids[k]=x at hg hres hm;rw[x.row_eq]at hm;generalize Tl (sE p) x=KK at hres hm;refine aK ?_;try simp only[RR]
       refine aI ?_;refine aM ?_;refine aB fun _ y=>aA rfl ?_;simp only[f25,f27,hg,RR,seval];refine aP fun b8 hn8=>?_;have nb8_b0:b8≠b0:=fun e=>by rw[e]at hn8;simp only[hb0,seval,reduceCtorEq]at hn8
       have nb0_b8:b0≠b8:=fun e=>nb8_b0 e.symm;have nb8_b3:b8≠b3:=fun e=>by rw[e]at hn8;simp only[hb3,seval,reduceCtorEq]at hn8
       have nb3_b8:b3≠b8:=fun e=>nb8_b3 e.symm;have nb8_b5:b8≠b5:=fun e=>by rw[e]at hn8;simp only[hb5,seval,reduceCtorEq]at hn8
       have nb5_b8:b5≠b8:=fun e=>nb8_b5 e.symm;simp only[RR,seval];apply y;clear y;refine aB fun _ y=>aA rfl ?_;simp only[f0,RR,seval];refine eY (b:=b0) hm (by first|exact hb0|(simp only[hb0,nb0_b8,aJ,seval];done)|(simp only[hb0,nb0_b8,aJ,seval];rfl)) (fun _=>trivial) ?_;simp only[RR,seval];apply y;clear y;refine aH _ rfl (fun hc8=>?_) (fun hc8=>?_)
       ·try (cases hc8;done)
        all_goals
         refine aB fun _ y=>aA rfl ?_;simp only[RR,seval];apply y;clear y;refine aO ?_;simp only[bB,aL,bH,RR,seval];refine aZ.q ?_ (dY (b:=b0) (by first|exact hb0|(simp only[hb0,nb0_b8,aJ,seval];done)|(simp only[hb0,nb0_b8,aJ,seval];rfl)));rw[hres,show KK=false by simpa using hc8];rfl
       try (cases hc8;done)
       all_goals
        refine aK ?_;try simp only[RR]
        refine aA rfl ?_;simp only[f27,RR,seval]
        try rw[aQ _ (by omega)]
        refine hK0 _ _ hlt0 ⟨by first|rfl|(simp only[aJ,seval];rfl),(by first|exact e0_b0|(simp only[nb0_b8,aJ,seval];first|done|exact e0_b0)),(by first|exact e0_b3|(simp only[nb3_b8,aJ,seval];first|done|exact e0_b3)),(by first|exact e0_b5|(simp only[nb5_b8,aJ,seval];first|done|exact e0_b5)),by rw[hres,show KK=true by simpa using hc8,Bool.true_and]⟩ (by repeat (first|exact ag0|refine bC.upd rfl ?_))
      have hkn0:k=e.kids.length:=by have:=aF hc;omega
      clear hc;refine bF ?_;simp only[RR,seval];refine aB fun _ y=>aA rfl ?_;simp only[RR,seval];apply y;clear y;refine aO ?_;simp only[bB,aL,bH,RR,seval];refine aZ.q ?_ (dY (b:=b0) (by first|exact hb0|(simp only[f0,f25,f26,f27,hb0,hb3,hb5,nb3_b0,nb0_b3,nb5_b0,nb0_b5,nb5_b3,nb3_b5,aD,z4,cD,hr,Option.getD_some,Option.getD_none,Option.isSome_none,Option.isSome_some,aJ,seval];done)|(simp only[f0,f25,f26,f27,hb0,hb3,hb5,nb3_b0,nb0_b3,nb5_b0,nb0_b5,nb5_b3,nb3_b5,aD,z4,cD,hr,Option.getD_some,Option.getD_none,Option.isSome_none,Option.isSome_some,aJ,seval];rfl)));rw[hres,hkn0,List.drop_length,wK]
   try (cases hc1;done)
   all_goals
    refine aK ?_;try simp only[RR]
    refine aI ?_;refine aB fun _ y=>aA rfl ?_;simp only[aD,RR,seval];apply y;clear y;refine bM fun F3 M3 hfr hH=>?_;have g0:=hfr 0;have g4:=hfr 4;have g25:=hfr 25;have g26:=hfr 26;have g27:=hfr 27;have gb0:=hH b0;have gb3:=hH b3
    try simp only[hb0,nb0_b3,RR,seval]at g0 g4 g25 g26 g27 gb0 gb3
    have f0:=g0;clear g0;have f4:=g4;clear g4;have f25:=g25;clear g25;have f26:=g26;clear g26;have f27:=g27;clear g27;have hb0:=gb0;clear gb0;have hb3:=gb3;clear gb3;clear hfr hH;refine aM ?_;refine bZ [0,25,26] (e.kids.length) (fun k fr M=>fr 27= .int .i64 (k:Nat)∧M b0=M3 b0∧M b3=M3 b3∧res=Dr (sE p) (e.kids.drop k)) ⟨f27,rfl,rfl,by rw[List.drop_zero];exact hX⟩ ?_;rintro k F4 M4 hk0 ⟨fx,gb0,gb3,hres⟩ agx K0 hK0;have f0:=(agx 0 rfl).trans f0;have f25:=(agx 25 rfl).trans f25;have f26:=(agx 26 rfl).trans f26;have f27:=fx;clear fx;have hb0:=gb0.trans hb0;have hb3:=gb3.trans hb3;have ag0:=bC.refl [0,25,26] F4;have e0_b0:=gb0;clear gb0;have e0_b3:=gb3;clear gb3;clear agx;refine aB fun _ y=>aA rfl ?_;simp only[f26,f27,RR,seval];apply y;clear y;refine aI ?_;refine aH _ rfl (fun hc=>?_) (fun hc=>?_)
    ·have hlt0:k<e.kids.length:=by have:=aC hc;omega
     clear hc;have hg:=uL (aG hlt0);have hm:=hall _ (bA hlt0);rw[bD hlt0,sZ]at hres;generalize e.kids[k]=x at hg hres hm;rw[x.row_eq]at hm;generalize Tl (sE p) x=KK at hres hm;refine aK ?_;try simp only[RR]
     refine aI ?_;refine aM ?_;refine aB fun _ y=>aA rfl ?_;simp only[f25,f27,hg,RR,seval];refine aP fun b8 hn8=>?_;have nb8_b0:b8≠b0:=fun e=>by rw[e]at hn8;simp only[hb0,seval,reduceCtorEq]at hn8
     have nb0_b8:b0≠b8:=fun e=>nb8_b0 e.symm;have nb8_b3:b8≠b3:=fun e=>by rw[e]at hn8;simp only[hb3,seval,reduceCtorEq]at hn8
     have nb3_b8:b3≠b8:=fun e=>nb8_b3 e.symm;simp only[RR,seval];apply y;clear y;refine aB fun _ y=>aA rfl ?_;simp only[f0,RR,seval];refine eY (b:=b0) hm (by first|exact hb0|(simp only[hb0,nb0_b8,aJ,seval];done)|(simp only[hb0,nb0_b8,aJ,seval];rfl)) (fun _=>trivial) ?_;simp only[RR,seval];apply y;clear y;refine aH _ rfl (fun hc8=>?_) (fun hc8=>?_)
     ·try (cases hc8;done)
      all_goals
       refine aB fun _ y=>aA rfl ?_;simp only[RR,seval];apply y;clear y;refine aO ?_;simp only[bB,aL,bH,RR,seval];refine aZ.q ?_ (dY (b:=b0) (by first|exact hb0|(simp only[hb0,nb0_b8,aJ,seval];done)|(simp only[hb0,nb0_b8,aJ,seval];rfl)));rw[hres,show KK=false by simpa using hc8];rfl
     try (cases hc8;done)
     all_goals
      refine aK ?_;try simp only[RR]
      refine aA rfl ?_;simp only[f27,RR,seval]
      try rw[aQ _ (by omega)]
      refine hK0 _ _ hlt0 ⟨by first|rfl|(simp only[aJ,seval];rfl),(by first|exact e0_b0|(simp only[nb0_b8,aJ,seval];first|done|exact e0_b0)),(by first|exact e0_b3|(simp only[nb3_b8,aJ,seval];first|done|exact e0_b3)),by rw[hres,show KK=true by simpa using hc8,Bool.true_and]⟩ (by repeat (first|exact ag0|refine bC.upd rfl ?_))
    have hkn0:k=e.kids.length:=by have:=aF hc;omega
    clear hc;refine bF ?_;simp only[RR,seval];refine aB fun _ y=>aA rfl ?_;simp only[RR,seval];apply y;clear y;refine aO ?_;simp only[bB,aL,bH,RR,seval];refine aZ.q ?_ (dY (b:=b0) (by first|exact hb0|(simp only[f0,f25,f26,f27,hb0,hb3,nb3_b0,nb0_b3,aD,z4,cD,hr,Option.getD_some,Option.getD_none,Option.isSome_none,Option.isSome_some,aJ,seval];done)|(simp only[f0,f25,f26,f27,hb0,hb3,nb3_b0,nb0_b3,aD,z4,cD,hr,Option.getD_some,Option.getD_none,Option.isSome_none,Option.isSome_some,aJ,seval];rfl)));rw[hres,hkn0,List.drop_length,wK]
end Go.Proofs.YtnfbbjhdflhmjaaGreatDoor
namespace Go.Proofs.YtnfbbjhdflhmjaaGreatDoor
open Go.Al
theorem Qr (e:Ex):cJ cK 123 [.agg e.row] (.int .i64 1):=by
 rw[e.row_eq];refine bI 3 [.tmp 2] Tryz.func123 rfl rfl rfl rfl ?_;refine aB fun _ y=>aA rfl ?_;simp only[RR,seval];refine aP fun b1 hn1=>?_;simp only[RR,seval];apply y;clear y;refine aB fun _ y=>aA rfl ?_;simp only[RR,seval];apply y;clear y;refine aO ?_;simp only[bB,aL,bH,RR,seval];refine aZ.pure ?_;rfl
def Lv (p:Pg) (b0:Nat) (l:List Ex):Prop:= ∀e∈l,vC cK 146 [.ptr 11 b0 0 0, .agg e.row] (yC p b0) (.int .i64 (Jk (jX p) e))
theorem tM (p:Pg) (b0:Nat) (l:List Ex) (hl:cI l) (t:Int) (h:Lv p b0 l):vC cK 129 [.ptr 11 b0 0 0, .isl 5 (l.map Ex.row), .int .i64 t] (yC p b0) (.bool (fV (jX p) l t)):=by
 simp only[cI]at hl;unfold Lv at h;generalize jX p=W at *;refine bI 21 [.tmp 6] Tryz.func129 rfl rfl rfl rfl ?_;have hb0:(yC p b0) b0=some (.rows 11 [eQ p b0]):=iL _ _;simp only[eQ,Pf]at hb0;refine aB fun _ y=>aA rfl ?_;simp only[RR,seval];apply y;clear y;refine aI ?_;refine aB fun _ y=>aA rfl ?_;simp only[aD,RR,seval];apply y;clear y;refine bM fun F1 M1 hfr hH=>?_;have g0:=hfr 0;have g2:=hfr 2;have g6:=hfr 6;have g9:=hfr 9;have g10:=hfr 10;have g11:=hfr 11;have gb0:=hH b0
 try simp only[hb0,RR,seval]at g0 g2 g6 g9 g10 g11 gb0
 have f0:=g0;clear g0;have f2:=g2;clear g2;have f6:=g6;clear g6;have f9:=g9;clear g9;have f10:=g10;clear g10;have f11:=g11;clear g11;have hb0:=gb0;clear gb0;clear hfr hH;refine aM ?_;refine bZ [0,2,9,10] (l.length) (fun k fr M=>fr 11= .int .i64 (k:Nat)∧M b0=M1 b0∧fV W l t=fV W (l.drop k) t) ⟨f11,rfl,by rw[List.drop_zero]⟩ ?_;rintro k F2 M2 hk0 ⟨fx,gb0,hall⟩ agx K0 hK0;have f0:=(agx 0 rfl).trans f0;have f2:=(agx 2 rfl).trans f2;have f9:=(agx 9 rfl).trans f9;have f10:=(agx 10 rfl).trans f10;have f11:=fx;clear fx;have hb0:=gb0.trans hb0;have ag0:=bC.refl [0,2,9,10] F2;have e0_b0:=gb0;clear gb0;clear agx;refine aB fun _ y=>aA rfl ?_;simp only[f10,f11,RR,seval];apply y;clear y;refine aI ?_;refine aH _ rfl (fun hc=>?_) (fun hc=>?_)
 ·have hlt0:k<l.length:=by have:=aC hc;omega
  clear hc;have hg:=uL (aG hlt0);have hm:=h _ (bA hlt0);rw[bD hlt0,rC]at hall;generalize l[k]=e at hg hall hm;rw[e.row_eq]at hm;generalize Jk W e=u at hall hm;refine aK ?_;try simp only[RR]
  refine aI ?_;refine aM ?_;refine aB fun _ y=>aA rfl ?_;simp only[f9,f11,hg,RR,seval];refine aP fun b8 hn8=>?_;have nb8_b0:b8≠b0:=fun e=>by rw[e]at hn8;simp only[hb0,seval,reduceCtorEq]at hn8
  have nb0_b8:b0≠b8:=fun e=>nb8_b0 e.symm;simp only[RR,seval];apply y;clear y;refine aB fun _ y=>aA rfl ?_;simp only[f0,RR,seval];refine eY (b:=b0) hm (by first|exact hb0|(simp only[hb0,nb0_b8,aJ,seval];done)|(simp only[hb0,nb0_b8,aJ,seval];rfl)) (fun _=>trivial) ?_;simp only[f2,RR,seval];apply y;clear y;refine aH _ rfl (fun hc4=>?_) (fun hc4=>?_)
  ·refine aB fun _ y=>aA rfl ?_
   simp only[RR,seval];apply y;clear y;refine aO ?_;simp only[bB,aL,bH,RR,seval];refine aZ.q ?_ (dY (b:=b0) (by first|exact hb0|(simp only[hb0,nb0_b8,aJ,seval];done)|(simp only[hb0,nb0_b8,aJ,seval];rfl)));rw[hall,show decide (u=t)=false by simpa using hc4,Bool.false_and]
  refine aK ?_;try simp only[RR]
  refine aA rfl ?_;simp only[f11,RR,seval]
  try rw[aQ _ (by omega)]
  refine hK0 _ _ hlt0 ⟨by first|rfl|(simp only[aJ,seval];rfl),(by first|exact e0_b0|(simp only[nb0_b8,aJ,seval];first|done|exact e0_b0)),by rw[hall,show decide (u=t)=true by simpa using hc4,Bool.true_and]⟩ (by repeat (first|exact ag0|refine bC.upd rfl ?_))
 have hkn0:k=l.length:=by have:=aF hc;omega
 clear hc;refine bF ?_;simp only[RR,seval];refine aB fun _ y=>aA rfl ?_;simp only[RR,seval];apply y;clear y;refine aO ?_;simp only[bB,aL,bH,RR,seval];refine aZ.q ?_ (dY (b:=b0) (by first|exact hb0|(simp only[f0,f2,f9,f10,f11,hb0,aD,aJ,seval];done)|(simp only[f0,f2,f9,f10,f11,hb0,aD,aJ,seval];rfl)));rw[hall,hkn0,List.drop_length,tN]
theorem Ui (p:Pg) (b0:Nat) (e:Ex) (he:cI e.kids) (h:Lv p b0 e.kids):vC cK 124 [.ptr 11 b0 0 0, .agg e.row] (yC p b0) (.int .i64 (if fV (jX p) e.kids 2=true then 2 else 0)):=by
 have ha:=tM p b0 e.kids he 2 h;generalize fV (jX p) e.kids 2=A at *;rw[e.row_eq];refine bI 9 [.tmp 4] Tryz.func124 rfl rfl rfl rfl ?_;have hb0:(yC p b0) b0=some (.rows 11 [eQ p b0]):=iL _ _;simp only[eQ,Pf]at hb0;refine aB fun _ y=>aA rfl ?_;simp only[RR,seval];refine aP fun b3 hn3=>?_;have nb3_b0:b3≠b0:=fun e=>by rw[e]at hn3;simp only[hb0,seval,reduceCtorEq]at hn3
 have nb0_b3:b0≠b3:=fun e=>nb3_b0 e.symm;simp only[RR,seval];apply y;clear y;refine aI ?_;refine aB fun _ y=>aA rfl ?_;simp only[RR,seval];refine eY (b:=b0) ha (by first|exact hb0|(simp only[hb0,nb0_b3,aJ,seval];done)|(simp only[hb0,nb0_b3,aJ,seval];rfl)) (fun _=>trivial) ?_;simp only[RR,seval];apply y;clear y;refine aH _ rfl (fun hc1=>?_) (fun hc1=>?_)
 ·refine aB fun _ y=>aA rfl ?_
  simp only[RR,seval];apply y;clear y;refine aO ?_;simp only[bB,aL,bH,RR,seval];refine aZ.q ?_ (dY (b:=b0) (by first|exact hb0|(simp only[hb0,nb0_b3,aJ,seval];done)|(simp only[hb0,nb0_b3,aJ,seval];rfl)));rw[hc1];rfl
 refine aK ?_;try simp only[RR]
 refine aB fun _ y=>aA rfl ?_;simp only[RR,seval];apply y;clear y;refine aO ?_;simp only[bB,aL,bH,RR,seval];refine aZ.q ?_ (dY (b:=b0) (by first|exact hb0|(simp only[hb0,nb0_b3,aJ,seval];done)|(simp only[hb0,nb0_b3,aJ,seval];rfl)));rw[hc1];rfl
theorem Pe (p:Pg) (b0:Nat) (e:Ex) (he:cI e.kids) (h:Lv p b0 e.kids):vC cK 125 [.ptr 11 b0 0 0, .agg e.row] (yC p b0) (.int .i64 (if fV (jX p) e.kids 1=true then 1 else 0)):=by
 have ha:=tM p b0 e.kids he 1 h;generalize fV (jX p) e.kids 1=A at *;rw[e.row_eq];refine bI 9 [.tmp 4] Tryz.func125 rfl rfl rfl rfl ?_;have hb0:(yC p b0) b0=some (.rows 11 [eQ p b0]):=iL _ _;simp only[eQ,Pf]at hb0;refine aB fun _ y=>aA rfl ?_;simp only[RR,seval];refine aP fun b3 hn3=>?_;have nb3_b0:b3≠b0:=fun e=>by rw[e]at hn3;simp only[hb0,seval,reduceCtorEq]at hn3
 have nb0_b3:b0≠b3:=fun e=>nb3_b0 e.symm;simp only[RR,seval];apply y;clear y;refine aI ?_;refine aB fun _ y=>aA rfl ?_;simp only[RR,seval];refine eY (b:=b0) ha (by first|exact hb0|(simp only[hb0,nb0_b3,aJ,seval];done)|(simp only[hb0,nb0_b3,aJ,seval];rfl)) (fun _=>trivial) ?_;simp only[RR,seval];apply y;clear y;refine aH _ rfl (fun hc1=>?_) (fun hc1=>?_)
 ·refine aB fun _ y=>aA rfl ?_
  simp only[RR,seval];apply y;clear y;refine aO ?_;simp only[bB,aL,bH,RR,seval];refine aZ.q ?_ (dY (b:=b0) (by first|exact hb0|(simp only[hb0,nb0_b3,aJ,seval];done)|(simp only[hb0,nb0_b3,aJ,seval];rfl)));rw[hc1];rfl
 refine aK ?_;try simp only[RR]
 refine aB fun _ y=>aA rfl ?_;simp only[RR,seval];apply y;clear y;refine aO ?_;simp only[bB,aL,bH,RR,seval];refine aZ.q ?_ (dY (b:=b0) (by first|exact hb0|(simp only[hb0,nb0_b3,aJ,seval];done)|(simp only[hb0,nb0_b3,aJ,seval];rfl)));rw[hc1];rfl
theorem Za (p:Pg) (b0:Nat) (e:Ex) (he:cI e.kids) (h:Lv p b0 e.kids):vC cK 127 [.ptr 11 b0 0 0, .agg e.row] (yC p b0) (.int .i64 (if fV (jX p) e.kids 1=true then(if e.op=14∨e.op=15 then 2 else 1)else 0)):=by
 have ha:=tM p b0 e.kids he 1 h;generalize fV (jX p) e.kids 1=A at *;rw[e.row_eq];refine bI 18 [.tmp 4] Tryz.func127 rfl rfl rfl rfl ?_;have hb0:(yC p b0) b0=some (.rows 11 [eQ p b0]):=iL _ _;simp only[eQ,Pf]at hb0;refine aB fun _ y=>aA rfl ?_;simp only[RR,seval];refine aP fun b3 hn3=>?_;have nb3_b0:b3≠b0:=fun e=>by rw[e]at hn3;simp only[hb0,seval,reduceCtorEq]at hn3
 have nb0_b3:b0≠b3:=fun e=>nb3_b0 e.symm;simp only[RR,seval];apply y;clear y;refine aI ?_;refine aB fun _ y=>aA rfl ?_;simp only[RR,seval];refine eY (b:=b0) ha (by first|exact hb0|(simp only[hb0,nb0_b3,aJ,seval];done)|(simp only[hb0,nb0_b3,aJ,seval];rfl)) (fun _=>trivial) ?_;simp only[RR,seval];apply y;clear y;refine aH _ rfl (fun hc1=>?_) (fun hc1=>?_)
 ·refine aB fun _ y=>aA rfl ?_
  simp only[RR,seval];apply y;clear y;refine aO ?_;simp only[bB,aL,bH,RR,seval];refine aZ.q ?_ (dY (b:=b0) (by first|exact hb0|(simp only[hb0,nb0_b3,aJ,seval];done)|(simp only[hb0,nb0_b3,aJ,seval];rfl)));rw[show A=false by simpa using hc1];rfl
 refine aK ?_;try simp only[RR]
 refine aI ?_;refine aB fun _ y=>aA rfl ?_;simp only[RR,seval]
 repeat' ((first|refine aR (fun h=>?_) (fun h=>?_)|refine aV (fun h=>?_) (fun h=>?_))<;>simp only[h,RR,seval])
 all_goals
  apply y;clear y;refine aH _ rfl (fun hc3=>?_) (fun hc3=>?_)
  ·try (cases hc3;done)
   all_goals
    refine aB fun _ y=>aA rfl ?_;simp only[RR,seval];apply y;clear y;refine aO ?_;simp only[bB,aL,bH,RR,seval];refine aZ.q ?_ (dY (b:=b0) (by first|exact hb0|(simp only[hb0,nb0_b3,aJ,seval];done)|(simp only[hb0,nb0_b3,aJ,seval];rfl)));rw[show A=true by simpa using hc1];simp_all
  try (cases hc3;done)
  all_goals
   refine aK ?_;try simp only[RR]
   refine aB fun _ y=>aA rfl ?_;simp only[RR,seval];apply y;clear y;refine aO ?_;simp only[bB,aL,bH,RR,seval];refine aZ.q ?_ (dY (b:=b0) (by first|exact hb0|(simp only[hb0,nb0_b3,aJ,seval];done)|(simp only[hb0,nb0_b3,aJ,seval];rfl)));rw[show A=true by simpa using hc1];simp_all
theorem Ug (p:Pg) (b0:Nat) (e:Ex) (he:cI e.kids) (h:Lv p b0 e.kids):vC cK 126 [.ptr 11 b0 0 0, .agg e.row] (yC p b0) (.int .i64 (if(jX p e.name&&fV (jX p) e.kids 1)=true then 1 else 0)):=by
 have ha:=tM p b0 e.kids he 1 h;have hwd:=wN p e.name;have hfi:=nP e.name (gV p.funs) 0;generalize fV (jX p) e.kids 1=A at *;generalize jX p e.name=WD at *;rw[e.row_eq];rcases hfi with⟨hl,hr⟩|⟨j,g,hl,hr⟩<;>rw[hl]at hwd<;>subst hwd
 ·skip
  refine bI 19 [.tmp 4] Tryz.func126 rfl rfl rfl rfl ?_;have hb0:(yC p b0) b0=some (.rows 11 [eQ p b0]):=iL _ _;simp only[eQ,Pf]at hb0;refine aB fun _ y=>aA rfl ?_;simp only[RR,seval];refine aP fun b3 hn3=>?_;have nb3_b0:b3≠b0:=fun e=>by rw[e]at hn3;simp only[hb0,seval,reduceCtorEq]at hn3
  have nb0_b3:b0≠b3:=fun e=>nb3_b0 e.symm;simp only[RR,seval];apply y;clear y;refine aI ?_;refine aB fun K y=>?_;refine bJ (fun _=>True) [(0,3),(1,3),(2,3),(3,1),(4,3),(5,1),(6,1),(7,3),(8,3),(9,3),(10,3),(11,1),(12,1),(13,3)] [] dG (by kernel_rfl) rfl rfl ?_;simp only[cF,hb0,nb0_b3,cD,hr,Option.getD_none,RR,seval]
  all_goals try ((first|refine aR (fun h=>?_) (fun h=>?_)|refine aV (fun h=>?_) (fun h=>?_))<;>simp only[h,cF,dM,EM,hb0,nb3_b0,nb0_b3,cD,hr,Option.getD_none,Option.isSome_none,RR,seval])
  all_goals try (refine eY (b:=b0) ha (by first|exact hb0|(simp only[hb0,nb3_b0,nb0_b3,cD,hr,Option.getD_none,Option.isSome_none,aJ,seval];done)|(simp only[hb0,nb3_b0,nb0_b3,cD,hr,Option.getD_none,Option.isSome_none,aJ,seval];rfl)) (fun _=>trivial) ?_;simp only[cF,dM,EM,hb0,nb3_b0,nb0_b3,cD,hr,Option.getD_none,Option.isSome_none,RR,seval])
  all_goals
   apply y;clear y;refine aH _ rfl (fun hc1=>?_) (fun hc1=>?_)
   ·try (cases hc1;done)
    all_goals
     refine aB fun _ y=>aA rfl ?_;simp only[cD,hr,Option.getD_none,Option.isSome_none,RR,seval];apply y;clear y;refine aO ?_;simp only[bB,aL,bH,cD,hr,Option.getD_none,Option.isSome_none,RR,seval];refine aZ.q ?_ (dY (b:=b0) (by first|exact hb0|(simp only[hb0,nb3_b0,nb0_b3,cD,hr,Option.getD_none,Option.isSome_none,aJ,seval];done)|(simp only[hb0,nb3_b0,nb0_b3,cD,hr,Option.getD_none,Option.isSome_none,aJ,seval];rfl)));simp_all
   try (cases hc1;done)
   all_goals
    refine aK ?_;try simp only[RR]
    refine aB fun _ y=>aA rfl ?_;simp only[RR,seval];apply y;clear y;refine aO ?_;simp only[bB,aL,bH,RR,seval];refine aZ.q ?_ (dY (b:=b0) (by first|exact hb0|(simp only[hb0,nb0_b3,aJ,seval];done)|(simp only[hb0,nb0_b3,aJ,seval];rfl)));simp_all
 obtain⟨gn,gp,gl,gw,gb⟩:=g;simp only at hr⊢;cases gw<;>cases A
 all_goals
  refine bI 19 [.tmp 4] Tryz.func126 rfl rfl rfl rfl ?_;have hb0:(yC p b0) b0=some (.rows 11 [eQ p b0]):=iL _ _;simp only[eQ,Pf]at hb0;refine aB fun _ y=>aA rfl ?_;simp only[RR,seval];refine aP fun b3 hn3=>?_;have nb3_b0:b3≠b0:=fun e=>by rw[e]at hn3;simp only[hb0,seval,reduceCtorEq]at hn3
  have nb0_b3:b0≠b3:=fun e=>nb3_b0 e.symm;simp only[RR,seval];apply y;clear y;refine aI ?_;refine aB fun K y=>?_;refine bJ (fun _=>True) [(0,3),(1,3),(2,3),(3,1),(4,3),(5,1),(6,1),(7,3),(8,3),(9,3),(10,3),(11,1),(12,1),(13,3)] [] dG (by kernel_rfl) rfl rfl ?_;simp only[cF,hb0,nb0_b3,cD,hr,Option.getD_some,RR,seval]
  all_goals try ((first|refine aR (fun h=>?_) (fun h=>?_)|refine aV (fun h=>?_) (fun h=>?_))<;>simp only[h,cF,dM,EM,hb0,nb3_b0,nb0_b3,cD,hr,Option.getD_some,Option.isSome_some,RR,seval])
  all_goals try (refine eY (b:=b0) ha (by first|exact hb0|(simp only[hb0,nb0_b3,aJ,seval];done)|(simp only[hb0,nb0_b3,aJ,seval];rfl)) (fun _=>trivial) ?_;simp only[RR,seval])
  all_goals
   apply y;clear y;refine aH _ rfl (fun hc1=>?_) (fun hc1=>?_)
   ·try (cases hc1;done)
    all_goals
     refine aB fun _ y=>aA rfl ?_;simp only[RR,seval];apply y;clear y;refine aO ?_;simp only[bB,aL,bH,RR,seval];refine aZ.q ?_ (dY (b:=b0) (by first|exact hb0|(simp only[hb0,nb0_b3,aJ,seval];done)|(simp only[hb0,nb0_b3,aJ,seval];rfl)));rfl
   try (cases hc1;done)
   all_goals
    refine aK ?_;try simp only[RR]
    refine aB fun _ y=>aA rfl ?_;simp only[RR,seval];apply y;clear y;refine aO ?_;simp only[bB,aL,bH,RR,seval];refine aZ.q ?_ (dY (b:=b0) (by first|exact hb0|(simp only[hb0,nb0_b3,aJ,seval];done)|(simp only[hb0,nb0_b3,aJ,seval];rfl)));rfl
theorem Ji (p:Pg) (b0:Nat) (n:Nat): ∀e:Ex,e.sz≤n→e.ok→vC cK 146 [.ptr 11 b0 0 0, .agg e.row] (yC p b0) (.int .i64 (Jk (jX p) e)):=by
 induction n using Nat.strongRecOn with
 |_ n ih=>
  intro e hn he;have hz:=e.sz_eq;have hfit:=he.kids.fit;have hkids:=he.kids.all;have hall:Lv p b0 e.kids:=fun x hx=>ih x.sz (by have:=iI hx;omega) x (aY _) (hkids x hx);have hX:=Jj (jX p) e;have q1:=Qr e;have q2:=Ui p b0 e hfit hall;have q3:=Pe p b0 e hfit hall;have q4:=Za p b0 e hfit hall;have q5:=Ug p b0 e hfit hall;generalize Jk (jX p) e=res at *;generalize jX p e.name=WD at *;generalize fV (jX p) e.kids 1=A1 at *;generalize fV (jX p) e.kids 2=A2 at *;clear ih he hkids hall;rw[e.row_eq]at *;by_cases hk:1≤e.kind∧e.kind≤9
  ·have z1:decide (e.kind<1)=false:=aU (by omega)
   have z2:decide (9<e.kind)=false:=aU (by omega);have hcase:e.kind=1∨e.kind=2∨e.kind=3∨e.kind=4∨e.kind=5∨e.kind=6∨e.kind=7∨e.kind=8∨e.kind=9:=by omega
   obtain⟨k,o,m,s,l⟩:=e;simp only[Ex.kind,Ex.op,Ex.num,Ex.name,Ex.kids]at *;rcases hcase with rfl|rfl|rfl|rfl|rfl|rfl|rfl|rfl|rfl
   all_goals
    simp only[Int.reduceEq,or_self,or_true,or_false,if_true,if_false]at hX;subst hX;refine bI 22 [.tmp 4] Tryz.func146 rfl rfl rfl rfl ?_;have hb0:(yC p b0) b0=some (.rows 11 [eQ p b0]):=iL _ _;simp only[eQ,Pf]at hb0;refine aB fun _ y=>aA rfl ?_;simp only[RR,seval];refine aP fun b3 hn3=>?_;have nb3_b0:b3≠b0:=fun e=>by rw[e]at hn3;simp only[hb0,seval,reduceCtorEq]at hn3
    have nb0_b3:b0≠b3:=fun e=>nb3_b0 e.symm;simp only[RR,seval];apply y;clear y;refine aI ?_;refine aB fun _ y=>aA rfl ?_;simp only[RR,seval];apply y;clear y;refine aH false rfl (fun hc=>by cases hc) (fun _=>?_);refine aK ?_;try simp only[RR]
    refine aB fun K y=>?_;refine bJ (fun _=>True) [(0,3),(1,3),(2,1),(3,3),(4,3),(5,3),(6,1),(7,1),(8,1),(9,3)] [] dG (by kernel_rfl) rfl rfl ?_;simp only[cF,hb0,nb0_b3,RR,seval]
    first|(refine aN q1 ?_)|(refine eY (b:=b0) q2 (by first|exact hb0|(simp only[hb0,nb0_b3,aJ,seval];done)|(simp only[hb0,nb0_b3,aJ,seval];rfl)) (fun _=>trivial) ?_)|(refine eY (b:=b0) q3 (by first|exact hb0|(simp only[hb0,nb0_b3,aJ,seval];done)|(simp only[hb0,nb0_b3,aJ,seval];rfl)) (fun _=>trivial) ?_)|(refine eY (b:=b0) q4 (by first|exact hb0|(simp only[hb0,nb0_b3,aJ,seval];done)|(simp only[hb0,nb0_b3,aJ,seval];rfl)) (fun _=>trivial) ?_)|(refine eY (b:=b0) q5 (by first|exact hb0|(simp only[hb0,nb0_b3,aJ,seval];done)|(simp only[hb0,nb0_b3,aJ,seval];rfl)) (fun _=>trivial) ?_)
    simp only[RR,seval];apply y;clear y;refine aO ?_;simp only[bB,aL,bH,RR,seval];refine aZ.q ?_ (dY (b:=b0) (by first|exact hb0|(simp only[hb0,nb0_b3,aJ,seval];done)|(simp only[hb0,nb0_b3,aJ,seval];rfl)));rfl
  rw[if_neg (by omega),if_neg (by omega),if_neg (by omega),if_neg (by omega),if_neg (by omega)]at hX;subst hX;refine bI 22 [.tmp 4] Tryz.func146 rfl rfl rfl rfl ?_;have hb0:(yC p b0) b0=some (.rows 11 [eQ p b0]):=iL _ _;simp only[eQ,Pf]at hb0;refine aB fun _ y=>aA rfl ?_;simp only[RR,seval];refine aP fun b3 hn3=>?_;have nb3_b0:b3≠b0:=fun e=>by rw[e]at hn3;simp only[hb0,seval,reduceCtorEq]at hn3
  have nb0_b3:b0≠b3:=fun e=>nb3_b0 e.symm;simp only[RR,seval];apply y;clear y;refine aI ?_;refine aB fun _ y=>aA rfl ?_;simp only[RR,seval]
  repeat' ((first|refine aR (fun h=>?_) (fun h=>?_)|refine aV (fun h=>?_) (fun h=>?_))<;>simp only[h,RR,seval])
  all_goals
   apply y;clear y;refine aH _ rfl (fun hc1=>?_) (fun hc1=>?_)
   ·try (cases hc1;done)
    all_goals
     refine aB fun _ y=>aA rfl ?_;simp only[RR,seval];apply y;clear y;refine aO ?_;simp only[bB,aL,bH,RR,seval];refine aZ.q ?_ (dY (b:=b0) (by first|exact hb0|(simp only[hb0,nb0_b3,aJ,seval];done)|(simp only[hb0,nb0_b3,aJ,seval];rfl)));rfl
   try (cases hc1;done)
   all_goals
    exfalso
    first|(have:=aF h;have:=aF hc1;omega)|(have:=aC h;omega)
end Go.Proofs.YtnfbbjhdflhmjaaGreatDoor
namespace Go.Proofs.YtnfbbjhdflhmjaaGreatDoor
open Go.Al
set_option maxHeartbeats 4000000 in
theorem Eh (p:Pg) (b0:Nat) (n:Nat): ∀l:List Sm,fE l≤n→Bq l→vC cK 89 [.ptr 11 b0 0 0, .isl 5 (l.map Sm.row)] (yC p b0) (.bool (rO (sE p) l)):=by
 induction n using Nat.strongRecOn with
 |_ n ih=>
  intro l hn hok;have hfit:=hok.fit;have hE:=fun(x:Ex) (h:x.ok)=>Pb p b0 _ x (aY _) h;have hkf:=fun s=>yB p s;have hfi:=fun s=>nP s (gV p.funs) 0;generalize sE p=K at *;simp only[cI]at hfit;refine bI 57 [.tmp 4] Tryz.func89 rfl rfl rfl rfl ?_;have hb0:(yC p b0) b0=some (.rows 11 [eQ p b0]):=iL _ _;simp only[eQ,Pf]at hb0;refine aB fun _ y=>aA rfl ?_;simp only[RR,seval];apply y;clear y;refine aI ?_;refine aB fun _ y=>aA rfl ?_;simp only[aD,RR,seval];apply y;clear y;refine bM fun F1 M1 hfr hH=>?_;have g0:=hfr 0;have g4:=hfr 4;have g11:=hfr 11;have g12:=hfr 12;have g13:=hfr 13;have gb0:=hH b0
  try simp only[hb0,RR,seval]at g0 g4 g11 g12 g13 gb0
  have f0:=g0;clear g0;have f4:=g4;clear g4;have f11:=g11;clear g11;have f12:=g12;clear g12;have f13:=g13;clear g13;have hb0:=gb0;clear gb0;clear hfr hH;refine aM ?_;refine bZ [0,11,12] (l.length) (fun k fr M=>fr 13= .int .i64 (k:Nat)∧M b0=M1 b0∧rO K l=rO K (l.drop k)) ⟨f13,rfl,by rw[List.drop_zero]⟩ ?_;rintro k F2 M2 hk0 ⟨fx,gb0,hall⟩ agx K0 hK0;have f0:=(agx 0 rfl).trans f0;have f11:=(agx 11 rfl).trans f11;have f12:=(agx 12 rfl).trans f12;have f13:=fx;clear fx;have hb0:=gb0.trans hb0;have ag0:=bC.refl [0,11,12] F2;have e0_b0:=gb0;clear gb0;clear agx;refine aB fun _ y=>aA rfl ?_;simp only[f12,f13,RR,seval];apply y;clear y;refine aI ?_;refine aH _ rfl (fun hc=>?_) (fun hc=>?_)
  ·have hlt0:k<l.length:=by have:=aC hc;omega
   clear hc;have hg:=An (aG hlt0);have hm:=bA hlt0;have hoe:=hok.all _ hm;have hsz:=fT hm;rw[bD hlt0,yA,Kd]at hall;generalize l[k]=e at hg hall hoe hsz;have hz:=e.sz_eq;have hT:=ih (fE e.thn) (by omega) e.thn (aY _) hoe.thn;have hU:=ih (fE e.els) (by omega) e.els (aY _) hoe.els;have hlok:=hoe.es.all;have hlfit:=hoe.es.fit;have hkn:=hkf e.name;have hfe:=hfi e.name;simp only[cI]at hlfit;generalize K e.name=K1 at hall hkn;generalize rO K e.thn=K4 at hall hT;generalize rO K e.els=K5 at hall hU;obtain⟨K6,z6⟩: ∃c,decide (e.kind=6)=c:=⟨_,rfl⟩;rw[z6]at hall;refine aK ?_;try simp only[RR]
   refine aI ?_;refine aM ?_;refine aB fun _ y=>aA rfl ?_;simp only[f11,f13,hg,RR,seval];refine aP fun b6 hn6=>?_;have nb6_b0:b6≠b0:=fun e=>by rw[e]at hn6;simp only[hb0,seval,reduceCtorEq]at hn6
   have nb0_b6:b0≠b6:=fun e=>nb6_b0 e.symm;simp only[RR,seval];apply y;clear y;refine aI ?_;refine aB fun _ y=>aA rfl ?_;simp only[z6,RR,seval];apply y;clear y;refine bM fun F3 M3 hfr hH=>?_;have g0:=hfr 0;have g4:=hfr 4;have g6:=hfr 6;have g11:=hfr 11;have g12:=hfr 12;have g13:=hfr 13;have g19:=hfr 19;have gb0:=hH b0;have gb6:=hH b6
   try simp only[f0,f11,f12,f13,hb0,nb0_b6,RR,seval]at g0 g4 g6 g11 g12 g13 g19 gb0 gb6
   have ag0:bC [0,11,12] F2 F3:=bC.same hfr (by repeat (first|exact ag0|refine bC.upd rfl ?_));have e0_b0:=(hH b0).trans (by first|exact e0_b0|(simp only[nb0_b6,aJ,seval];first|done|exact e0_b0));have f0:=g0;clear g0;have f4:=g4;clear g4;have f6:=g6;clear g6;have f11:=g11;clear g11;have f12:=g12;clear g12;have f13:=g13;clear g13;have f19:=g19;clear g19;have hb0:=gb0;clear gb0;have hb6:=gb6;clear gb6;clear hfr hH;refine dS (fun fr M=>bC [0,6,11,12,13] F3 fr∧M b0=M3 b0∧M b6=M3 b6∧(!K6||K1)=true) (fun KC4 hKC4=>?_) ?_
   ·have agC4:=bC.refl [0,6,11,12,13] F3
    have eC4_b0:M3 b0=M3 b0:=rfl;have eC4_b6:M3 b6=M3 b6:=rfl;refine aH _ (by first|rfl|exact f19) (fun hc4=>?_) (fun hc4=>?_)
    ·try (cases hc4;done)
     all_goals
      rcases hfe with⟨hl,hr⟩|⟨j,g,hl,hr⟩<;>rw[hl]at hkn<;>subst hkn
      all_goals
       refine aB fun K y=>?_;refine bJ (fun x=>x≠b0∧x≠b6) [(0,3),(1,3),(2,3),(3,0),(4,3),(5,0),(6,0),(7,3),(8,3),(9,3),(10,1)] [(11,1),(12,3)] dG (by kernel_rfl) rfl rfl ?_;simp only[cF,dM,EM,f0,f6,hb0,hb6,nb6_b0,nb0_b6,cD,Option.getD_some,Option.getD_none,Option.isSome_none,Option.isSome_some,hr,RR,seval];refine aP fun b7 hn7=>?_;have nb7_b0:b7≠b0:=fun e=>by rw[e]at hn7;simp only[hb0,seval,reduceCtorEq]at hn7
       have nb0_b7:b0≠b7:=fun e=>nb7_b0 e.symm;have nb7_b6:b7≠b6:=fun e=>by rw[e]at hn7;simp only[hb6,seval,reduceCtorEq]at hn7
       have nb6_b7:b6≠b7:=fun e=>nb7_b6 e.symm;simp only[RR,seval];apply y;clear y;refine aB fun _ y=>aA rfl ?_;simp only[RR,seval];apply y;clear y;refine aH _ rfl (fun hc6=>?_) (fun hc6=>?_)
       ·try (cases hc6;done)
        all_goals
         refine aB fun _ y=>aA rfl ?_;simp only[RR,seval];apply y;clear y;refine aO ?_;simp only[bB,aL,bH,RR,seval];refine aZ.q ?_ (dY (b:=b0) (by first|exact hb0|(simp only[hb0,nb0_b7,aJ,seval];done)|(simp only[hb0,nb0_b7,aJ,seval];rfl)));rw[hall,hc4];simp
       try (cases hc6;done)
       all_goals
        refine aK ?_;try simp only[RR]
        refine hKC4 _ _ ⟨(by repeat (first|exact agC4|refine bC.upd rfl ?_)),(by first|exact eC4_b0|(simp only[nb0_b7,aJ,seval];first|done|exact eC4_b0)),(by first|exact eC4_b6|(simp only[nb6_b7,aJ,seval];first|done|exact eC4_b6)),by simp_all⟩
    try (cases hc4;done)
    all_goals
     refine aK ?_;try simp only[RR]
     refine hKC4 _ _ ⟨(by repeat (first|exact agC4|refine bC.upd rfl ?_)),(by first|exact eC4_b0|(simp only[nb6_b0,nb0_b6,aJ,seval];first|done|exact eC4_b0)),(by first|exact eC4_b6|(simp only[nb6_b0,nb0_b6,aJ,seval];first|done|exact eC4_b6)),by simp_all⟩
   rintro F4 M4 ⟨agx,gb0,gb6,hA⟩;have f0:=(agx 0 rfl).trans f0;have f6:=(agx 6 rfl).trans f6;have f11:=(agx 11 rfl).trans f11;have f12:=(agx 12 rfl).trans f12;have f13:=(agx 13 rfl).trans f13;have hb0:=gb0.trans hb0;have hb6:=gb6.trans hb6;have ag0:bC [0,11,12] F2 F4:=bC.sub agx rfl ag0;have e0_b0:=gb0.trans e0_b0;clear agx;clear gb0;clear gb6;simp only[RR,seval];rw[hA,Bool.true_and]at hall;refine aI ?_;refine aB fun _ y=>aA rfl ?_;simp only[f6,hb6,aD,RR,seval];apply y;clear y;refine bM fun F5 M5 hfr hH=>?_;have g0:=hfr 0;have g4:=hfr 4;have g6:=hfr 6;have g8:=hfr 8;have g11:=hfr 11;have g12:=hfr 12;have g13:=hfr 13;have g33:=hfr 33;have g34:=hfr 34;have g35:=hfr 35;have gb0:=hH b0;have gb6:=hH b6
   try simp only[f0,f6,f11,f12,f13,hb0,hb6,RR,seval]at g0 g4 g6 g8 g11 g12 g13 g33 g34 g35 gb0 gb6
   have ag0:bC [0,11,12] F2 F5:=bC.same hfr (by repeat (first|exact ag0|refine bC.upd rfl ?_));have e0_b0:=(hH b0).trans (by first|exact e0_b0|(simp only[nb6_b0,nb0_b6,aJ,seval];first|done|exact e0_b0));have f0:=g0;clear g0;have f4:=g4;clear g4;have f6:=g6;clear g6;have f8:=g8;clear g8;have f11:=g11;clear g11;have f12:=g12;clear g12;have f13:=g13;clear g13;have f33:=g33;clear g33;have f34:=g34;clear g34;have f35:=g35;clear g35;have hb0:=gb0;clear gb0;have hb6:=gb6;clear gb6;clear hfr hH;refine aM ?_;refine bZ [0,6,8,11,12,13,33,34] (e.es.length) (fun j fr M=>fr 35= .int .i64 (j:Nat)∧M b0=M5 b0∧M b6=M5 b6∧Dr K e.es=Dr K (e.es.drop j)) ⟨f35,rfl,rfl,by rw[List.drop_zero]⟩ ?_;rintro j F6 M6 hk2 ⟨fx,gb0,gb6,hal2⟩ agx K2 hK2;have f0:=(agx 0 rfl).trans f0;have f6:=(agx 6 rfl).trans f6;have f8:=(agx 8 rfl).trans f8;have f11:=(agx 11 rfl).trans f11;have f12:=(agx 12 rfl).trans f12;have f13:=(agx 13 rfl).trans f13;have f33:=(agx 33 rfl).trans f33;have f34:=(agx 34 rfl).trans f34;have f35:=fx;clear fx;have hb0:=gb0.trans hb0;have hb6:=gb6.trans hb6;have ag0:bC [0,11,12] F2 F6:=bC.sub agx rfl ag0;have e0_b0:=gb0.trans e0_b0;have ag2:=bC.refl [0,6,8,11,12,13,33,34] F6;have e2_b0:=gb0;clear gb0;have e2_b6:=gb6;clear gb6;clear agx;refine aB fun _ y=>aA rfl ?_;simp only[f34,f35,RR,seval];apply y;clear y;refine aI ?_;refine aH _ rfl (fun hc=>?_) (fun hc=>?_)
   ·have hlt2:j<e.es.length:=by have:=aC hc;omega
    clear hc;have hgx:=uL (aG hlt2);have hmx:=hE _ (hlok _ (bA hlt2));rw[bD hlt2,sZ]at hal2;generalize e.es[j]=x at hgx hal2 hmx;rw[x.row_eq]at hmx;generalize Tl K x=KK at hal2 hmx;refine aK ?_;try simp only[RR]
    refine aI ?_;refine aM ?_;refine aB fun _ y=>aA rfl ?_;simp only[f33,f35,hgx,RR,seval];refine aP fun b10 hn10=>?_;have nb10_b0:b10≠b0:=fun e=>by rw[e]at hn10;simp only[hb0,seval,reduceCtorEq]at hn10
    have nb0_b10:b0≠b10:=fun e=>nb10_b0 e.symm;have nb10_b6:b10≠b6:=fun e=>by rw[e]at hn10;simp only[hb6,seval,reduceCtorEq]at hn10
    have nb6_b10:b6≠b10:=fun e=>nb10_b6 e.symm;simp only[RR,seval];apply y;clear y;refine aB fun _ y=>aA rfl ?_;simp only[f0,RR,seval];refine eY (b:=b0) hmx (by first|exact hb0|(simp only[hb0,nb0_b10,aJ,seval];done)|(simp only[hb0,nb0_b10,aJ,seval];rfl)) (fun _=>trivial) ?_;simp only[RR,seval];apply y;clear y;refine aH _ rfl (fun hc11=>?_) (fun hc11=>?_)
    ·try (cases hc11;done)
     all_goals
      refine aB fun _ y=>aA rfl ?_;simp only[RR,seval];apply y;clear y;refine aO ?_;simp only[bB,aL,bH,RR,seval];refine aZ.q ?_ (dY (b:=b0) (by first|exact hb0|(simp only[hb0,nb0_b10,aJ,seval];done)|(simp only[hb0,nb0_b10,aJ,seval];rfl)));rw[hall,hal2,show KK=false by simpa using hc11];simp
    try (cases hc11;done)
    all_goals
     refine aK ?_;try simp only[RR]
     refine aA rfl ?_;simp only[f35,RR,seval]
     try rw[aQ _ (by omega)]
     refine hK2 _ _ hlt2 ⟨by first|rfl|(simp only[aJ,seval];rfl),(by first|exact e2_b0|(simp only[nb0_b10,aJ,seval];first|done|exact e2_b0)),(by first|exact e2_b6|(simp only[nb6_b10,aJ,seval];first|done|exact e2_b6)),by rw[hal2,show KK=true by simpa using hc11,Bool.true_and]⟩ (by repeat (first|exact ag2|refine bC.upd rfl ?_))
   have hkn2:j=e.es.length:=by have:=aF hc;omega
   clear hc;rw[hkn2,List.drop_length,wK]at hal2;rw[hal2,Bool.true_and]at hall;refine bF ?_;simp only[RR,seval];refine aB fun _ y=>aA rfl ?_;simp only[f0,f6,hb6,RR,seval]
   all_goals try (refine eY (b:=b0) hT (by first|exact hb0|(simp only[f0,f6,f8,f11,f12,f13,f33,f34,f35,hb0,hb6,nb6_b0,nb0_b6,aD,cD,Option.getD_some,Option.getD_none,Option.isSome_none,Option.isSome_some,hg,z6,aJ,seval];done)|(simp only[f0,f6,f8,f11,f12,f13,f33,f34,f35,hb0,hb6,nb6_b0,nb0_b6,aD,cD,Option.getD_some,Option.getD_none,Option.isSome_none,Option.isSome_some,hg,z6,aJ,seval];rfl)) (fun _=>trivial) ?_;simp only[RR,seval])
   all_goals try ((first|refine aR (fun h=>?_) (fun h=>?_)|refine aV (fun h=>?_) (fun h=>?_))<;>simp only[h,f0,f6,hb6,RR,seval])
   all_goals try (refine eY (b:=b0) hU (by first|exact hb0|(simp only[f0,f6,f8,f11,f12,f13,f33,f34,f35,hb0,hb6,nb6_b0,nb0_b6,aD,cD,Option.getD_some,Option.getD_none,Option.isSome_none,Option.isSome_some,hg,z6,aJ,seval];done)|(simp only[f0,f6,f8,f11,f12,f13,f33,f34,f35,hb0,hb6,nb6_b0,nb0_b6,aD,cD,Option.getD_some,Option.getD_none,Option.isSome_none,Option.isSome_some,hg,z6,aJ,seval];rfl)) (fun _=>trivial) ?_;simp only[RR,seval])
   all_goals
    apply y;clear y;refine aH _ rfl (fun hc14=>?_) (fun hc14=>?_)
    ·try (cases hc14;done)
     all_goals
      refine aB fun _ y=>aA rfl ?_;simp only[RR,seval];apply y;clear y;refine aO ?_;simp only[bB,aL,bH,RR,seval];refine aZ.q ?_ (dY (b:=b0) (by first|exact hb0|(simp only[f0,f6,f8,f11,f12,f13,f33,f34,f35,hb0,hb6,nb6_b0,nb0_b6,aD,cD,Option.getD_some,Option.getD_none,Option.isSome_none,Option.isSome_some,hg,z6,aJ,seval];done)|(simp only[f0,f6,f8,f11,f12,f13,f33,f34,f35,hb0,hb6,nb6_b0,nb0_b6,aD,cD,Option.getD_some,Option.getD_none,Option.isSome_none,Option.isSome_some,hg,z6,aJ,seval];rfl)));rw[hall];clear hT hU hE hkf hfi hfe ih;simp_all
    try (cases hc14;done)
    all_goals
     refine aK ?_;try simp only[RR]
     refine aA rfl ?_;simp only[f13,RR,seval]
     try rw[aQ _ (by omega)]
     refine hK0 _ _ hlt0 ⟨by first|rfl|(simp only[aJ,seval];rfl),(by first|exact e0_b0|(simp only[nb6_b0,nb0_b6,aJ,seval];first|done|exact e0_b0)),by rw[hall];clear hT hU hE hkf hfi hfe ih;simp_all⟩ (by repeat (first|exact ag0|refine bC.upd rfl ?_))
  have hkn0:k=l.length:=by have:=aF hc;omega
  clear hc;refine bF ?_;simp only[RR,seval];refine aB fun _ y=>aA rfl ?_;simp only[RR,seval];apply y;clear y;refine aO ?_;simp only[bB,aL,bH,RR,seval];refine aZ.q ?_ (dY (b:=b0) (by first|exact hb0|(simp only[f0,f11,f12,f13,hb0,aD,cD,Option.getD_some,Option.getD_none,Option.isSome_none,Option.isSome_some,aJ,seval];done)|(simp only[f0,f11,f12,f13,hb0,aD,cD,Option.getD_some,Option.getD_none,Option.isSome_none,Option.isSome_some,aJ,seval];rfl)));rw[hall,hkn0,List.drop_length,Ms]
end Go.Proofs.YtnfbbjhdflhmjaaGreatDoor
namespace Go.Proofs.YtnfbbjhdflhmjaaGreatDoor
open Go.Al
set_option maxHeartbeats 4000000 in
theorem Eg (p:Pg) (b0:Nat) (f:Fu) (n:Nat): ∀l:List Sm,fE l≤n→Bq l→vC cK 90 [.ptr 11 b0 0 0, .agg f.row, .isl 5 (l.map Sm.row)] (yC p b0) (.bool (jA (jX p) f.word l)):=by
 induction n using Nat.strongRecOn with
 |_ n ih=>
  intro l hn hok;have hfit:=hok.fit;have hAl:=fun(x:List Ex) (h:xQ x) (t:Int)=>tM p b0 x h.fit t fun e he=>Ji p b0 _ e (aY _) (h.all e he);have hwf:=fun s=>wN p s;have hfi:=fun s=>nP s (gV p.funs) 0;generalize jX p=W at *;obtain⟨fn,fp,fl,w,fb⟩:=f;simp only[cI,Fu.row]at *;refine bI 65 [.tmp 6] Tryz.func90 rfl rfl rfl rfl ?_;have hb0:(yC p b0) b0=some (.rows 11 [eQ p b0]):=iL _ _;simp only[eQ,Pf]at hb0;refine aB fun _ y=>aA rfl ?_;simp only[RR,seval];refine aP fun b4 hn4=>?_;have nb4_b0:b4≠b0:=fun e=>by rw[e]at hn4;simp only[hb0,seval,reduceCtorEq]at hn4
  have nb0_b4:b0≠b4:=fun e=>nb4_b0 e.symm;simp only[RR,seval];apply y;clear y;refine aI ?_;refine aB fun _ y=>aA rfl ?_;simp only[aD,RR,seval];apply y;clear y;refine bM fun F1 M1 hfr hH=>?_;have g0:=hfr 0;have g4:=hfr 4;have g6:=hfr 6;have g10:=hfr 10;have g11:=hfr 11;have g12:=hfr 12;have gb0:=hH b0;have gb4:=hH b4
  try simp only[hb0,nb0_b4,RR,seval]at g0 g4 g6 g10 g11 g12 gb0 gb4
  have f0:=g0;clear g0;have f4:=g4;clear g4;have f6:=g6;clear g6;have f10:=g10;clear g10;have f11:=g11;clear g11;have f12:=g12;clear g12;have hb0:=gb0;clear gb0;have hb4:=gb4;clear gb4;clear hfr hH;refine aM ?_;refine bZ [0,4,10,11] (l.length) (fun k fr M=>fr 12= .int .i64 (k:Nat)∧M b0=M1 b0∧M b4=M1 b4∧jA W w l=jA W w (l.drop k)) ⟨f12,rfl,rfl,by rw[List.drop_zero]⟩ ?_;rintro k F2 M2 hk0 ⟨fx,gb0,gb4,hall⟩ agx K0 hK0;have f0:=(agx 0 rfl).trans f0;have f4:=(agx 4 rfl).trans f4;have f10:=(agx 10 rfl).trans f10;have f11:=(agx 11 rfl).trans f11;have f12:=fx;clear fx;have hb0:=gb0.trans hb0;have hb4:=gb4.trans hb4;have ag0:=bC.refl [0,4,10,11] F2;have e0_b0:=gb0;clear gb0;have e0_b4:=gb4;clear gb4;clear agx;refine aB fun _ y=>aA rfl ?_;simp only[f11,f12,RR,seval];apply y;clear y;refine aI ?_;refine aH _ rfl (fun hc=>?_) (fun hc=>?_)
  ·have hlt0:k<l.length:=by have:=aC hc;omega
   clear hc;have hg:=An (aG hlt0);have hm:=bA hlt0;have hoe:=hok.all _ hm;have hsz:=fT hm;rw[bD hlt0,uN,Du]at hall;generalize l[k]=e at hg hall hoe hsz;have hz:=e.sz_eq;have hE:=hAl e.es hoe.es (mO e.kind);have hT:=ih (fE e.thn) (by omega) e.thn (aY _) hoe.thn;have hU:=ih (fE e.els) (by omega) e.els (aY _) hoe.els;have hwd:=hwf e.name;have hfe:=hfi e.name;have hw1:(e.kind=4∨e.kind=5)→mO e.kind=2:=fun h=>by simp only[mO,if_pos h]
   have hw2: ¬(e.kind=4∨e.kind=5)→mO e.kind=1:=fun h=>by simp only[mO,if_neg h]
   generalize W e.name=WD at hall hwd;generalize fV W e.es (mO e.kind)=A at hall hE;generalize jA W w e.thn=K4 at hall hT;generalize jA W w e.els=K5 at hall hU;generalize mO e.kind=ws at *;have hlen:decide ((0:Int)<(e.es.length:Int))=decide (0<e.es.length):=by rw[Bool.eq_iff_iff];simp only[aW];omega
   obtain⟨K8,z8⟩: ∃b,decide (0<e.es.length)=b:=⟨_,rfl⟩;rw[z8]at hall;clear ih hAl hok hm hfi hwf hoe;refine aK ?_;try simp only[RR]
   refine aI ?_;refine aM ?_;refine aB fun _ y=>aA rfl ?_;simp only[f10,f12,hg,RR,seval];refine aP fun b8 hn8=>?_;have nb8_b0:b8≠b0:=fun e=>by rw[e]at hn8;simp only[hb0,seval,reduceCtorEq]at hn8
   have nb0_b8:b0≠b8:=fun e=>nb8_b0 e.symm;have nb8_b4:b8≠b4:=fun e=>by rw[e]at hn8;simp only[hb4,seval,reduceCtorEq]at hn8
   have nb4_b8:b4≠b8:=fun e=>nb8_b4 e.symm;simp only[RR,seval];apply y;clear y;refine aB fun _ y=>aA rfl ?_;simp only[RR,seval];apply y;clear y;refine aI ?_;refine aB fun _ y=>aA rfl ?_;simp only[RR,seval];apply y;clear y;refine bM fun F3 M3 hfr hH=>?_;have g0:=hfr 0;have g4:=hfr 4;have g6:=hfr 6;have g8:=hfr 8;have g9:=hfr 9;have g10:=hfr 10;have g11:=hfr 11;have g12:=hfr 12;have g17:=hfr 17;have gb0:=hH b0;have gb4:=hH b4;have gb8:=hH b8
   try simp only[f0,f4,f10,f11,f12,hb0,hb4,nb0_b8,nb4_b8,RR,seval]at g0 g4 g6 g8 g9 g10 g11 g12 g17 gb0 gb4 gb8
   have ag0:bC [0,4,10,11] F2 F3:=bC.same hfr (by repeat (first|exact ag0|refine bC.upd rfl ?_));have e0_b0:=(hH b0).trans (by first|exact e0_b0|(simp only[nb0_b8,aJ,seval];first|done|exact e0_b0));have e0_b4:=(hH b4).trans (by first|exact e0_b4|(simp only[nb4_b8,aJ,seval];first|done|exact e0_b4));have f0:=g0;clear g0;have f4:=g4;clear g4;have f6:=g6;clear g6;have f8:=g8;clear g8;have f9:=g9;clear g9;have f10:=g10;clear g10;have f11:=g11;clear g11;have f12:=g12;clear g12;have f17:=g17;clear g17;have hb0:=gb0;clear gb0;have hb4:=gb4;clear gb4;have hb8:=gb8;clear gb8;clear hfr hH;refine dS (fun fr M=>bC [0,4,8,10,11,12,17] F3 fr∧M b0=M3 b0∧M b4=M3 b4∧M b8=M3 b8∧fr 9= .int .i64 ws∧(!(decide (e.kind=6)&&WD))=true∧(!(decide (e.kind=7)&&K8&& !w))=true) (fun KB2 hKB2=>?_) ?_
   ·have agB2:=bC.refl [0,4,8,10,11,12,17] F3
    have eB2_b0:M3 b0=M3 b0:=rfl;have eB2_b4:M3 b4=M3 b4:=rfl;have eB2_b8:M3 b8=M3 b8:=rfl;refine aM ?_;refine aI ?_;refine aB fun _ y=>aA rfl ?_;simp only[f17,RR,seval];apply y;clear y;refine bM fun F4 M4 hfr hH=>?_;have g0:=hfr 0;have g4:=hfr 4;have g6:=hfr 6;have g8:=hfr 8;have g9:=hfr 9;have g10:=hfr 10;have g11:=hfr 11;have g12:=hfr 12;have g17:=hfr 17;have g18:=hfr 18;have gb0:=hH b0;have gb4:=hH b4;have gb8:=hH b8
    try simp only[f0,f4,f6,f8,f9,f10,f11,f12,f17,hb0,hb4,hb8,RR,seval]at g0 g4 g6 g8 g9 g10 g11 g12 g17 g18 gb0 gb4 gb8
    have ag0:bC [0,4,10,11] F2 F4:=bC.same hfr (by repeat (first|exact ag0|refine bC.upd rfl ?_));have e0_b0:=(hH b0).trans (by first|exact e0_b0|(simp only[nb4_b0,nb0_b4,nb8_b0,nb0_b8,nb8_b4,nb4_b8,aJ,seval];first|done|exact e0_b0));have e0_b4:=(hH b4).trans (by first|exact e0_b4|(simp only[nb4_b0,nb0_b4,nb8_b0,nb0_b8,nb8_b4,nb4_b8,aJ,seval];first|done|exact e0_b4));have agB2:bC [0,4,8,10,11,12,17] F3 F4:=bC.same hfr (by repeat (first|exact agB2|refine bC.upd rfl ?_));have eB2_b0:=(hH b0).trans (by first|exact eB2_b0|(simp only[nb4_b0,nb0_b4,nb8_b0,nb0_b8,nb8_b4,nb4_b8,aJ,seval];first|done|exact eB2_b0));have eB2_b4:=(hH b4).trans (by first|exact eB2_b4|(simp only[nb4_b0,nb0_b4,nb8_b0,nb0_b8,nb8_b4,nb4_b8,aJ,seval];first|done|exact eB2_b4));have eB2_b8:=(hH b8).trans (by first|exact eB2_b8|(simp only[nb4_b0,nb0_b4,nb8_b0,nb0_b8,nb8_b4,nb4_b8,aJ,seval];first|done|exact eB2_b8));have f0:=g0;clear g0;have f4:=g4;clear g4;have f6:=g6;clear g6;have f8:=g8;clear g8;have f9:=g9;clear g9;have f10:=g10;clear g10;have f11:=g11;clear g11;have f12:=g12;clear g12;have f17:=g17;clear g17;have f18:=g18;clear g18;have hb0:=gb0;clear gb0;have hb4:=gb4;clear gb4;have hb8:=gb8;clear gb8;clear hfr hH;refine dS (fun fr M=>bC [0,4,6,8,9,10,11,12,17] F4 fr∧M b0=M4 b0∧M b4=M4 b4∧M b8=M4 b8∧fr 18= .bool (decide (e.kind=4∨e.kind=5))) (fun KC6 hKC6=>?_) ?_
    ·have agC6:=bC.refl [0,4,6,8,9,10,11,12,17] F4
     have eC6_b0:M4 b0=M4 b0:=rfl;have eC6_b4:M4 b4=M4 b4:=rfl;have eC6_b8:M4 b8=M4 b8:=rfl;refine aH _ (by first|rfl|exact f18) (fun hc6=>?_) (fun hc6=>?_)
     ·try (cases hc6;done)
      all_goals
       refine aK ?_;try simp only[RR]
       refine hKC6 _ _ ⟨(by repeat (first|exact agC6|refine bC.upd rfl ?_)),(by first|exact eC6_b0|(simp only[nb4_b0,nb0_b4,nb8_b0,nb0_b8,nb8_b4,nb4_b8,aJ,seval];first|done|exact eC6_b0)),(by first|exact eC6_b4|(simp only[nb4_b0,nb0_b4,nb8_b0,nb0_b8,nb8_b4,nb4_b8,aJ,seval];first|done|exact eC6_b4)),(by first|exact eC6_b8|(simp only[nb4_b0,nb0_b4,nb8_b0,nb0_b8,nb8_b4,nb4_b8,aJ,seval];first|done|exact eC6_b8)), ?_⟩
       first|(rw[f18,hc6];simp [aC hc6])|(simp only[aJ,seval];simp [aF hc6])
     try (cases hc6;done)
     all_goals
      refine aA rfl ?_;simp only[f17,RR,seval];refine hKC6 _ _ ⟨(by repeat (first|exact agC6|refine bC.upd rfl ?_)),(by first|exact eC6_b0|(simp only[nb4_b0,nb0_b4,nb8_b0,nb0_b8,nb8_b4,nb4_b8,aJ,seval];first|done|exact eC6_b0)),(by first|exact eC6_b4|(simp only[nb4_b0,nb0_b4,nb8_b0,nb0_b8,nb8_b4,nb4_b8,aJ,seval];first|done|exact eC6_b4)),(by first|exact eC6_b8|(simp only[nb4_b0,nb0_b4,nb8_b0,nb0_b8,nb8_b4,nb4_b8,aJ,seval];first|done|exact eC6_b8)), ?_⟩
      first|(rw[f18,hc6];simp [aC hc6])|(simp only[aJ,seval];simp [aF hc6])
    rintro F5 M5 ⟨agx,gb0,gb4,gb8,f18⟩;have f0:=(agx 0 rfl).trans f0;have f4:=(agx 4 rfl).trans f4;have f6:=(agx 6 rfl).trans f6;have f8:=(agx 8 rfl).trans f8;have f9:=(agx 9 rfl).trans f9;have f10:=(agx 10 rfl).trans f10;have f11:=(agx 11 rfl).trans f11;have f12:=(agx 12 rfl).trans f12;have f17:=(agx 17 rfl).trans f17;have hb0:=gb0.trans hb0;have hb4:=gb4.trans hb4;have hb8:=gb8.trans hb8;have ag0:bC [0,4,10,11] F2 F5:=bC.sub agx rfl ag0;have e0_b0:=gb0.trans e0_b0;have e0_b4:=gb4.trans e0_b4;have agB2:bC [0,4,8,10,11,12,17] F3 F5:=bC.sub agx rfl agB2;have eB2_b0:=gb0.trans eB2_b0;have eB2_b4:=gb4.trans eB2_b4;have eB2_b8:=gb8.trans eB2_b8;clear agx;clear gb0;clear gb4;clear gb8;simp only[RR,seval];refine aH _ (by first|rfl|exact f18) (fun hc7=>?_) (fun hc7=>?_)
    ·try (cases hc7;done)
     all_goals
      refine aA rfl ?_;simp only[RR,seval];refine hKB2 _ _ ⟨(by repeat (first|exact agB2|refine bC.upd rfl ?_)),(by first|exact eB2_b0|(simp only[nb4_b0,nb0_b4,nb8_b0,nb0_b8,nb8_b4,nb4_b8,aJ,seval];first|done|exact eB2_b0)),(by first|exact eB2_b4|(simp only[nb4_b0,nb0_b4,nb8_b0,nb0_b8,nb8_b4,nb4_b8,aJ,seval];first|done|exact eB2_b4)),(by first|exact eB2_b8|(simp only[nb4_b0,nb0_b4,nb8_b0,nb0_b8,nb8_b4,nb4_b8,aJ,seval];first|done|exact eB2_b8)), ?_⟩;clear hT hU hE hall
      try clear hfe
      refine⟨?_, ?_, ?_⟩
      ·first|(simp only[aJ,seval];rw[hw1 (aC hc7)];done)|(simp only[aJ,seval,f9];rw[hw2 (aF hc7)])
      ·first|(have hq:=aC hc7;rw[aU (show ¬e.kind=6 by omega)];rfl)|simp_all
      first|(have hq:=aC hc7;rw[aU (show ¬e.kind=7 by omega)];rfl)|(have hq:=aC hc9;rw[aU (show ¬e.kind=7 by omega)];rfl)|simp_all
    try (cases hc7;done)
    all_goals
     refine aB fun _ y=>aA rfl ?_;simp only[f17,RR,seval];apply y;clear y;refine aH _ rfl (fun hc9=>?_) (fun hc9=>?_)
     ·try (cases hc9;done)
      all_goals
       rcases hfe with⟨hl,hr⟩|⟨j,g,hl,hr⟩<;>rw[hl]at hwd<;>simp only at hwd<;>subst hwd
       all_goals
        refine aB fun K y=>?_;refine bJ (fun x=>x≠b0∧x≠b4∧x≠b8) [(0,3),(1,3),(2,3),(3,1),(4,3),(5,1),(6,1),(7,3)] [] dG (by kernel_rfl) rfl rfl ?_;simp only[cF,f0,f8,hb0,hb8,cD,Option.getD_some,Option.getD_none,hr,RR,seval];apply y;clear y;refine aH _ rfl (fun hc10=>?_) (fun hc10=>?_)
        ·try (cases hc10;done)
         all_goals
          refine aB fun _ y=>aA rfl ?_;simp only[RR,seval];apply y;clear y;refine aO ?_;simp only[bB,aL,bH,RR,seval];refine aZ.q ?_ (dY (b:=b0) (by first|exact hb0|(simp only[f0,f4,f6,f8,f9,f10,f11,f12,f17,f18,hb0,hb4,hb8,nb4_b0,nb0_b4,nb8_b0,nb0_b8,nb8_b4,nb4_b8,aD,cD,Option.getD_some,Option.getD_none,Option.isSome_none,Option.isSome_some,hg,hlen,z8,hr,aJ,seval];done)|(simp only[f0,f4,f6,f8,f9,f10,f11,f12,f17,f18,hb0,hb4,hb8,nb4_b0,nb0_b4,nb8_b0,nb0_b8,nb8_b4,nb4_b8,aD,cD,Option.getD_some,Option.getD_none,Option.isSome_none,Option.isSome_some,hg,hlen,z8,hr,aJ,seval];rfl)));rw[hall];clear hT hU hE hw1 hw2 hr;simp_all
        try (cases hc10;done)
        all_goals
         refine aK ?_;try simp only[RR]
         refine hKB2 _ _ ⟨(by repeat (first|exact agB2|refine bC.upd rfl ?_)),(by first|exact eB2_b0|(simp only[nb4_b0,nb0_b4,nb8_b0,nb0_b8,nb8_b4,nb4_b8,aJ,seval];first|done|exact eB2_b0)),(by first|exact eB2_b4|(simp only[nb4_b0,nb0_b4,nb8_b0,nb0_b8,nb8_b4,nb4_b8,aJ,seval];first|done|exact eB2_b4)),(by first|exact eB2_b8|(simp only[nb4_b0,nb0_b4,nb8_b0,nb0_b8,nb8_b4,nb4_b8,aJ,seval];first|done|exact eB2_b8)), ?_⟩;clear hT hU hE hall
         try clear hfe
         refine⟨?_, ?_, ?_⟩
         ·first|(simp only[aJ,seval];rw[hw1 (aC hc7)];done)|(simp only[aJ,seval,f9];rw[hw2 (aF hc7)])
         ·first|(have hq:=aC hc7;rw[aU (show ¬e.kind=6 by omega)];rfl)|simp_all
         first|(have hq:=aC hc7;rw[aU (show ¬e.kind=7 by omega)];rfl)|(have hq:=aC hc9;rw[aU (show ¬e.kind=7 by omega)];rfl)|simp_all
     try (cases hc9;done)
     all_goals
      refine aB fun _ y=>aA rfl ?_;simp only[f17,RR,seval];apply y;clear y;refine aH _ rfl (fun hc12=>?_) (fun hc12=>?_)
      ·try (cases hc12;done)
       all_goals
        refine aB fun _ y=>aA rfl ?_;simp only[f8,hb8,aD,hlen,z8,RR,seval]
        repeat' ((first|refine aR (fun h=>?_) (fun h=>?_)|refine aV (fun h=>?_) (fun h=>?_))<;>simp only[h,f4,hb4,RR,seval])
        all_goals
         apply y;clear y;refine aH _ rfl (fun hc13=>?_) (fun hc13=>?_)
         ·try (cases hc13;done)
          all_goals
           refine aB fun _ y=>aA rfl ?_;simp only[RR,seval];apply y;clear y;refine aO ?_;simp only[bB,aL,bH,RR,seval];refine aZ.q ?_ (dY (b:=b0) (by first|exact hb0|(simp only[f0,f4,f6,f8,f9,f10,f11,f12,f17,f18,hb0,hb4,hb8,nb4_b0,nb0_b4,nb8_b0,nb0_b8,nb8_b4,nb4_b8,aD,cD,Option.getD_some,Option.getD_none,Option.isSome_none,Option.isSome_some,hg,hlen,z8,aJ,seval];done)|(simp only[f0,f4,f6,f8,f9,f10,f11,f12,f17,f18,hb0,hb4,hb8,nb4_b0,nb0_b4,nb8_b0,nb0_b8,nb8_b4,nb4_b8,aD,cD,Option.getD_some,Option.getD_none,Option.isSome_none,Option.isSome_some,hg,hlen,z8,aJ,seval];rfl)));rw[hall];clear hT hU hE hfe hw1 hw2;simp_all
         try (cases hc13;done)
         all_goals
          refine aK ?_;try simp only[RR]
          refine hKB2 _ _ ⟨(by repeat (first|exact agB2|refine bC.upd rfl ?_)),(by first|exact eB2_b0|(simp only[nb4_b0,nb0_b4,nb8_b0,nb0_b8,nb8_b4,nb4_b8,aJ,seval];first|done|exact eB2_b0)),(by first|exact eB2_b4|(simp only[nb4_b0,nb0_b4,nb8_b0,nb0_b8,nb8_b4,nb4_b8,aJ,seval];first|done|exact eB2_b4)),(by first|exact eB2_b8|(simp only[nb4_b0,nb0_b4,nb8_b0,nb0_b8,nb8_b4,nb4_b8,aJ,seval];first|done|exact eB2_b8)), ?_⟩;clear hT hU hE hall
          try clear hfe
          refine⟨?_, ?_, ?_⟩
          ·first|(simp only[aJ,seval];rw[hw1 (aC hc7)];done)|(simp only[aJ,seval,f9];rw[hw2 (aF hc7)])
          ·first|(have hq:=aC hc7;rw[aU (show ¬e.kind=6 by omega)];rfl)|simp_all
          first|(have hq:=aC hc7;rw[aU (show ¬e.kind=7 by omega)];rfl)|(have hq:=aC hc9;rw[aU (show ¬e.kind=7 by omega)];rfl)|simp_all
      try (cases hc12;done)
      all_goals
       refine aK ?_;try simp only[RR]
       refine hKB2 _ _ ⟨(by repeat (first|exact agB2|refine bC.upd rfl ?_)),(by first|exact eB2_b0|(simp only[nb4_b0,nb0_b4,nb8_b0,nb0_b8,nb8_b4,nb4_b8,aJ,seval];first|done|exact eB2_b0)),(by first|exact eB2_b4|(simp only[nb4_b0,nb0_b4,nb8_b0,nb0_b8,nb8_b4,nb4_b8,aJ,seval];first|done|exact eB2_b4)),(by first|exact eB2_b8|(simp only[nb4_b0,nb0_b4,nb8_b0,nb0_b8,nb8_b4,nb4_b8,aJ,seval];first|done|exact eB2_b8)), ?_⟩;clear hT hU hE hall
       try clear hfe
       refine⟨?_, ?_, ?_⟩
       ·first|(simp only[aJ,seval];rw[hw1 (aC hc7)];done)|(simp only[aJ,seval,f9];rw[hw2 (aF hc7)])
       ·first|(have hq:=aC hc7;rw[aU (show ¬e.kind=6 by omega)];rfl)|simp_all
       first|(have hq:=aC hc7;rw[aU (show ¬e.kind=7 by omega)];rfl)|(have hq:=aC hc9;rw[aU (show ¬e.kind=7 by omega)];rfl)|simp_all
   rintro F6 M6 ⟨agx,gb0,gb4,gb8,f9,hA,hB⟩;have f0:=(agx 0 rfl).trans f0;have f4:=(agx 4 rfl).trans f4;have f8:=(agx 8 rfl).trans f8;have f10:=(agx 10 rfl).trans f10;have f11:=(agx 11 rfl).trans f11;have f12:=(agx 12 rfl).trans f12;have f17:=(agx 17 rfl).trans f17;have hb0:=gb0.trans hb0;have hb4:=gb4.trans hb4;have hb8:=gb8.trans hb8;have ag0:bC [0,4,10,11] F2 F6:=bC.sub agx rfl ag0;have e0_b0:=gb0.trans e0_b0;have e0_b4:=gb4.trans e0_b4;clear agx;clear gb0;clear gb4;clear gb8;simp only[RR,seval];rw[hA,hB,Bool.and_true,Bool.and_true]at hall;refine aB fun _ y=>aA rfl ?_;simp only[f0,f8,f9,hb8,RR,seval]
   all_goals try (refine eY (b:=b0) hE (by first|exact hb0|(simp only[f0,f4,f8,f10,f11,f12,f17,f9,hb0,hb4,hb8,nb4_b0,nb0_b4,nb8_b0,nb0_b8,nb8_b4,nb4_b8,aD,cD,Option.getD_some,Option.getD_none,Option.isSome_none,Option.isSome_some,hg,hlen,z8,aJ,seval];done)|(simp only[f0,f4,f8,f10,f11,f12,f17,f9,hb0,hb4,hb8,nb4_b0,nb0_b4,nb8_b0,nb0_b8,nb8_b4,nb4_b8,aD,cD,Option.getD_some,Option.getD_none,Option.isSome_none,Option.isSome_some,hg,hlen,z8,aJ,seval];rfl)) (fun _=>trivial) ?_;simp only[RR,seval])
   all_goals try ((first|refine aR (fun h=>?_) (fun h=>?_)|refine aV (fun h=>?_) (fun h=>?_))<;>simp only[h,f0,f4,f8,hb4,hb8,RR,seval])
   all_goals try (refine eY (b:=b0) hT (by first|exact hb0|(simp only[f0,f4,f8,f10,f11,f12,f17,f9,hb0,hb4,hb8,nb4_b0,nb0_b4,nb8_b0,nb0_b8,nb8_b4,nb4_b8,aD,cD,Option.getD_some,Option.getD_none,Option.isSome_none,Option.isSome_some,hg,hlen,z8,aJ,seval];done)|(simp only[f0,f4,f8,f10,f11,f12,f17,f9,hb0,hb4,hb8,nb4_b0,nb0_b4,nb8_b0,nb0_b8,nb8_b4,nb4_b8,aD,cD,Option.getD_some,Option.getD_none,Option.isSome_none,Option.isSome_some,hg,hlen,z8,aJ,seval];rfl)) (fun _=>trivial) ?_;simp only[RR,seval])
   all_goals try ((first|refine aR (fun h=>?_) (fun h=>?_)|refine aV (fun h=>?_) (fun h=>?_))<;>simp only[h,f0,f4,f8,hb4,hb8,RR,seval])
   all_goals try (refine eY (b:=b0) hU (by first|exact hb0|(simp only[f0,f4,f8,f10,f11,f12,f17,f9,hb0,hb4,hb8,nb4_b0,nb0_b4,nb8_b0,nb0_b8,nb8_b4,nb4_b8,aD,cD,Option.getD_some,Option.getD_none,Option.isSome_none,Option.isSome_some,hg,hlen,z8,aJ,seval];done)|(simp only[f0,f4,f8,f10,f11,f12,f17,f9,hb0,hb4,hb8,nb4_b0,nb0_b4,nb8_b0,nb0_b8,nb8_b4,nb4_b8,aD,cD,Option.getD_some,Option.getD_none,Option.isSome_none,Option.isSome_some,hg,hlen,z8,aJ,seval];rfl)) (fun _=>trivial) ?_;simp only[RR,seval])
   all_goals
    apply y;clear y;refine aH _ rfl (fun hc15=>?_) (fun hc15=>?_)
    ·try (cases hc15;done)
     all_goals
      refine aB fun _ y=>aA rfl ?_;simp only[RR,seval];apply y;clear y;refine aO ?_;simp only[bB,aL,bH,RR,seval];refine aZ.q ?_ (dY (b:=b0) (by first|exact hb0|(simp only[f0,f4,f8,f10,f11,f12,f17,f9,hb0,hb4,hb8,nb4_b0,nb0_b4,nb8_b0,nb0_b8,nb8_b4,nb4_b8,aD,cD,Option.getD_some,Option.getD_none,Option.isSome_none,Option.isSome_some,hg,hlen,z8,aJ,seval];done)|(simp only[f0,f4,f8,f10,f11,f12,f17,f9,hb0,hb4,hb8,nb4_b0,nb0_b4,nb8_b0,nb0_b8,nb8_b4,nb4_b8,aD,cD,Option.getD_some,Option.getD_none,Option.isSome_none,Option.isSome_some,hg,hlen,z8,aJ,seval];rfl)));rw[hall];clear hT hU hE hfe hw1 hw2;simp_all
    try (cases hc15;done)
    all_goals
     refine aK ?_;try simp only[RR]
     refine aA rfl ?_;simp only[f12,RR,seval]
     try rw[aQ _ (by omega)]
     refine hK0 _ _ hlt0 ⟨by first|rfl|(simp only[aJ,seval];rfl),(by first|exact e0_b0|(simp only[nb4_b0,nb0_b4,nb8_b0,nb0_b8,nb8_b4,nb4_b8,aJ,seval];first|done|exact e0_b0)),(by first|exact e0_b4|(simp only[nb4_b0,nb0_b4,nb8_b0,nb0_b8,nb8_b4,nb4_b8,aJ,seval];first|done|exact e0_b4)),by rw[hall];clear hT hU hE hfe hw1 hw2;simp_all⟩ (by repeat (first|exact ag0|refine bC.upd rfl ?_))
  have hkn0:k=l.length:=by have:=aF hc;omega
  clear hc;refine bF ?_;simp only[RR,seval];refine aB fun _ y=>aA rfl ?_;simp only[RR,seval];apply y;clear y;refine aO ?_;simp only[bB,aL,bH,RR,seval];refine aZ.q ?_ (dY (b:=b0) (by first|exact hb0|(simp only[f0,f4,f10,f11,f12,hb0,hb4,nb4_b0,nb0_b4,aD,cD,Option.getD_some,Option.getD_none,Option.isSome_none,Option.isSome_some,aJ,seval];done)|(simp only[f0,f4,f10,f11,f12,hb0,hb4,nb4_b0,nb0_b4,aD,cD,Option.getD_some,Option.getD_none,Option.isSome_none,Option.isSome_some,aJ,seval];rfl)));rw[hall,hkn0,List.drop_length,Hb]
end Go.Proofs.YtnfbbjhdflhmjaaGreatDoor
namespace Go.Proofs.YtnfbbjhdflhmjaaGreatDoor
open Go.Al
theorem Gg (p:Pg) (hp:p.ok):cJ cK 52 [p.av] (.int .i64 (kL p)):=by
 have hX:kL p=if(p.funs.all fun f=>rO (sE p) f.body)=true then(if(p.funs.all fun f=>jA (jX p) f.word f.body)=true then 0 else 5)else 4:=rfl
 have hof:=hp.funs;have hff:=hp.ffit;have hRu:=Fq p hp.ffit;have hKn:=fun b (x:List Sm) (h:Bq x)=>Eh p b _ x (aY _) h;have hFi:=fun b (f:Fu) (x:List Sm) (h:Bq x)=>Eg p b f _ x (aY _) h;generalize kL p=res at *;generalize jX p=W at *;generalize sE p=Kf at *;clear hp;obtain⟨vs,aa,fs⟩:=p;simp only[Pg.av,Pg.row,cI]at hRu hff hof hX⊢;refine bI 37 [.tmp 2] Tryz.func52 rfl rfl rfl rfl ?_;refine aB fun _ y=>aA rfl ?_;simp only[RR,seval];refine aP fun b1 hn1=>?_;simp only[RR,seval];apply y;clear y;refine bM fun F1 M1 hfr hH=>?_;have g1:=hfr 1;have g2:=hfr 2;have gb1:=hH b1
 try simp only[RR,seval]at g1 g2 gb1
 have f1:=g1;clear g1;have f2:=g2;clear g2;have hb1:=gb1;clear gb1;clear hfr hH;refine aB fun _ y=>aA rfl ?_;simp only[f1,hb1,RR,seval];refine oH hRu (eJ.refl _) fun v H' M9 ⟨b9,hv,hH'⟩ hk hn=>?_;subst hv;have hb9:M9 b9=some (.rows 11 [eQ ⟨vs,aa,fs⟩ b9]):=(hn b9 _ (by rw[hH'];exact iL _ _)).1;have hn9:=(hn b9 _ (by rw[hH'];exact iL _ _)).2;have n91:b9≠b1:=fun e=>by rw[e,hb1]at hn9;cases hn9
 have n19:b1≠b9:=fun e=>n91 e.symm;have hb1:=hk _ _ (fun h=>h) hb1;have hKn:=hKn b9;have hFi:=hFi b9;unfold yC at hKn hFi;generalize eQ ⟨vs,aa,fs⟩ b9=RRow at *;simp only[RR,seval];apply y;clear y;refine aI ?_;refine aB fun _ y=>aA rfl ?_;simp only[f1,hb1,aD,RR,seval];apply y;clear y;refine bM fun F2 M2 hfr hH=>?_;have g1:=hfr 1;have g2:=hfr 2;have g3:=hfr 3;have g11:=hfr 11;have g12:=hfr 12;have g13:=hfr 13;have gb1:=hH b1;have gb9:=hH b9
 try simp only[f1,f2,hb1,hb9,RR,seval]at g1 g2 g3 g11 g12 g13 gb1 gb9
 have f1:=g1;clear g1;have f2:=g2;clear g2;have f3:=g3;clear g3;have f11:=g11;clear g11;have f12:=g12;clear g12;have f13:=g13;clear g13;have hb1:=gb1;clear gb1;have hb9:=gb9;clear gb9;clear hfr hH;refine aM ?_;refine bZ [1,3,11,12] (fs.length) (fun k fr M=>fr 13= .int .i64 (k:Nat)∧M b1=M2 b1∧M b9=M2 b9∧(fs.all fun f=>rO Kf f.body)=((fs.drop k).all fun f=>rO Kf f.body)) ⟨f13,rfl,rfl,by rw[List.drop_zero]⟩ ?_;rintro k F3 M3 hk0 ⟨fx,gb1,gb9,hall⟩ agx K0 hK0;have f1:=(agx 1 rfl).trans f1;have f3:=(agx 3 rfl).trans f3;have f11:=(agx 11 rfl).trans f11;have f12:=(agx 12 rfl).trans f12;have f13:=fx;clear fx;have hb1:=gb1.trans hb1;have hb9:=gb9.trans hb9;have ag0:=bC.refl [1,3,11,12] F3;have e0_b1:=gb1;clear gb1;have e0_b9:=gb9;clear gb9;clear agx;refine aB fun _ y=>aA rfl ?_;simp only[f12,f13,RR,seval];apply y;clear y;refine aI ?_;refine aH _ rfl (fun hc=>?_) (fun hc=>?_)
 ·have hlt0:k<fs.length:=by have:=aC hc;omega
  clear hc;have hg:=kK (aG hlt0);have hok:=(hof _ (bA hlt0)).body;rw[bD hlt0,List.all_cons]at hall;generalize fs[k]=f at hg hall hok;have hk:=hKn f.body hok;generalize rO Kf f.body=KK at hk hall;refine aK ?_;try simp only[RR]
  refine aI ?_;refine aM ?_;refine aB fun _ y=>aA rfl ?_;simp only[f11,f13,hg,RR,seval];refine aP fun b5 hn5=>?_;have nb5_b1:b5≠b1:=fun e=>by rw[e]at hn5;simp only[hb1,seval,reduceCtorEq]at hn5
  have nb1_b5:b1≠b5:=fun e=>nb5_b1 e.symm;have nb5_b9:b5≠b9:=fun e=>by rw[e]at hn5;simp only[hb9,seval,reduceCtorEq]at hn5
  have nb9_b5:b9≠b5:=fun e=>nb5_b9 e.symm;simp only[RR,seval];apply y;clear y;refine aB fun _ y=>aA rfl ?_;simp only[f3,RR,seval];refine eY (b:=b9) hk (by first|exact hb9|(simp only[hb9,nb9_b5,aJ,seval];done)|(simp only[f1,f3,f11,f12,f13,hb1,hb9,n91,n19,nb5_b1,nb1_b5,nb5_b9,nb9_b5,aD,hg,aJ,seval];rfl)) (fun _=>trivial) ?_;simp only[RR,seval];apply y;clear y;refine aH _ rfl (fun hc5=>?_) (fun hc5=>?_)
  ·refine aB fun _ y=>aA rfl ?_
   simp only[RR,seval];apply y;clear y;refine aO ?_;simp only[bB,aL,bH,RR,seval];refine aZ.pure ?_;rw[hX,if_neg (by rw[hall,show KK=false by simpa using hc5];simp)]
  refine aK ?_;try simp only[RR]
  refine aA rfl ?_;simp only[f13,RR,seval]
  try rw[aQ _ (by omega)]
  refine hK0 _ _ hlt0 ⟨by first|rfl|(simp only[aJ,seval];rfl),(by first|exact e0_b1|(simp only[nb1_b5,aJ,seval];first|done|exact e0_b1)),(by first|exact e0_b9|(simp only[nb9_b5,aJ,seval];first|done|exact e0_b9)),by rw[hall,show KK=true by simpa using hc5,Bool.true_and]⟩ (by repeat (first|exact ag0|refine bC.upd rfl ?_))
 have hkn0:k=fs.length:=by have:=aF hc;omega
 clear hc;rw[hkn0,List.drop_length,List.all_nil]at hall;rw[if_pos hall]at hX;refine bF ?_;simp only[RR,seval];refine aI ?_;refine aB fun _ y=>aA rfl ?_;simp only[f1,hb1,aD,RR,seval];apply y;clear y;refine bM fun F4 M4 hfr hH=>?_;have g2:=hfr 2;have g3:=hfr 3;have g24:=hfr 24;have g25:=hfr 25;have g26:=hfr 26;have gb1:=hH b1;have gb9:=hH b9
 try simp only[f3,hb1,hb9,RR,seval]at g2 g3 g24 g25 g26 gb1 gb9
 have f2:=g2;clear g2;have f3:=g3;clear g3;have f24:=g24;clear g24;have f25:=g25;clear g25;have f26:=g26;clear g26;have hb1:=gb1;clear gb1;have hb9:=gb9;clear gb9;clear hfr hH;refine aM ?_;refine bZ [3,24,25] (fs.length) (fun j fr M=>fr 26= .int .i64 (j:Nat)∧M b1=M4 b1∧M b9=M4 b9∧(fs.all fun f=>jA W f.word f.body)=((fs.drop j).all fun f=>jA W f.word f.body)) ⟨f26,rfl,rfl,by rw[List.drop_zero]⟩ ?_;rintro j F5 M5 hk2 ⟨fx,gb1,gb9,hall2⟩ agx K2 hK2;have f3:=(agx 3 rfl).trans f3;have f24:=(agx 24 rfl).trans f24;have f25:=(agx 25 rfl).trans f25;have f26:=fx;clear fx;have hb1:=gb1.trans hb1;have hb9:=gb9.trans hb9;have ag2:=bC.refl [3,24,25] F5;have e2_b1:=gb1;clear gb1;have e2_b9:=gb9;clear gb9;clear agx;refine aB fun _ y=>aA rfl ?_;simp only[f25,f26,RR,seval];apply y;clear y;refine aI ?_;refine aH _ rfl (fun hc=>?_) (fun hc=>?_)
 ·have hlt2:j<fs.length:=by have:=aC hc;omega
  clear hc;have hg:=kK (aG hlt2);have hok:=(hof _ (bA hlt2)).body;rw[bD hlt2,List.all_cons]at hall2;generalize fs[j]=f at hg hall2 hok;have hk:=hFi f f.body hok;simp only[Fu.row]at hk;generalize jA W f.word f.body=KK at hk hall2;refine aK ?_;try simp only[RR]
  refine aI ?_;refine aM ?_;refine aB fun _ y=>aA rfl ?_;simp only[f24,f26,hg,RR,seval];refine aP fun b7 hn7=>?_;have nb7_b1:b7≠b1:=fun e=>by rw[e]at hn7;simp only[hb1,seval,reduceCtorEq]at hn7
  have nb1_b7:b1≠b7:=fun e=>nb7_b1 e.symm;have nb7_b9:b7≠b9:=fun e=>by rw[e]at hn7;simp only[hb9,seval,reduceCtorEq]at hn7
  have nb9_b7:b9≠b7:=fun e=>nb7_b9 e.symm;simp only[RR,seval];apply y;clear y;refine aB fun _ y=>aA rfl ?_;simp only[f3,RR,seval];refine eY (b:=b9) hk (by first|exact hb9|(simp only[hb9,nb9_b7,aJ,seval];done)|(simp only[f3,f24,f25,f26,hb1,hb9,n91,n19,nb7_b1,nb1_b7,nb7_b9,nb9_b7,aD,hg,aJ,seval];rfl)) (fun _=>trivial) ?_;simp only[RR,seval];apply y;clear y;refine aH _ rfl (fun hc11=>?_) (fun hc11=>?_)
  ·refine aB fun _ y=>aA rfl ?_
   simp only[RR,seval];apply y;clear y;refine aO ?_;simp only[bB,aL,bH,RR,seval];refine aZ.pure ?_;rw[hX,if_neg (by rw[hall2,show KK=false by simpa using hc11];simp)]
  refine aK ?_;try simp only[RR]
  refine aA rfl ?_;simp only[f26,RR,seval]
  try rw[aQ _ (by omega)]
  refine hK2 _ _ hlt2 ⟨by first|rfl|(simp only[aJ,seval];rfl),(by first|exact e2_b1|(simp only[nb1_b7,aJ,seval];first|done|exact e2_b1)),(by first|exact e2_b9|(simp only[nb9_b7,aJ,seval];first|done|exact e2_b9)),by rw[hall2,show KK=true by simpa using hc11,Bool.true_and]⟩ (by repeat (first|exact ag2|refine bC.upd rfl ?_))
 have hkn2:j=fs.length:=by have:=aF hc;omega
 clear hc;refine bF ?_;simp only[RR,seval];refine aB fun _ y=>aA rfl ?_;simp only[RR,seval];apply y;clear y;refine aO ?_;simp only[bB,aL,bH,RR,seval];refine aZ.pure ?_;rw[hX,if_pos (by rw[hall2,hkn2,List.drop_length];rfl)]
theorem Jt (p:Pg) (hp:p.few):cJ cK 26 [p.av] (.int .i64 (dT p)):=by
 have hR:=Ju p hp.ok
 have h1:eD p=true→1≤p.funs.length:=fun h=>by
  simp only[eD,aS,aW]at h;exact h.1.1.1.2
 have hC:=fun h=>Qk p hp (h1 h);have hT:=Gg p hp.ok;have hX:dT p=if eD p=true then(if gQ p=0 then kL p else gQ p)else 7:=rfl
 generalize dT p=res at *;generalize kL p=ct at *;generalize gQ p=ci at *;generalize eD p=rp at *;simp only[Pg.av,Pg.row]at *
 cases rp with
 |false=>
  refine bI 14 [.tmp 2] Tryz.func26 rfl rfl rfl rfl ?_;refine aB fun _ y=>aA rfl ?_;simp only[RR,seval];refine aP fun b1 hn1=>?_;simp only[RR,seval];apply y;clear y;refine aI ?_;refine aB fun _ y=>aA rfl ?_;simp only[RR,seval];refine aN (hR) ?_;simp only[RR,seval];apply y;clear y;refine aH true rfl (fun _=>?_) (fun hc=>by cases hc);refine aB fun _ y=>aA rfl ?_;simp only[RR,seval];apply y;clear y;refine aO ?_;simp only[bB,aL,bH,RR,seval];refine aZ.pure ?_;rw[hX];rfl
 |true=>
  have hC:=hC rfl;rw[if_pos rfl]at hX;refine bI 14 [.tmp 2] Tryz.func26 rfl rfl rfl rfl ?_;refine aB fun _ y=>aA rfl ?_;simp only[RR,seval];refine aP fun b1 hn1=>?_;simp only[RR,seval];apply y;clear y;refine aI ?_;refine aB fun _ y=>aA rfl ?_;simp only[RR,seval];refine aN (hR) ?_;simp only[RR,seval];apply y;clear y;refine aH false rfl (fun hc=>by cases hc) (fun _=>?_);refine aK ?_;try simp only[RR]
  refine aI ?_;refine aB fun _ y=>aA rfl ?_;simp only[RR,seval];refine aN (hC) ?_;simp only[RR,seval];apply y;clear y;refine aB fun _ y=>aA rfl ?_;simp only[RR,seval];apply y;clear y;refine aH _ rfl (fun hc4=>?_) (fun hc4=>?_)
  ·refine aB fun _ y=>aA rfl ?_
   simp only[RR,seval];apply y;clear y;refine aO ?_;simp only[bB,aL,bH,RR,seval];refine aZ.pure ?_;rw[hX,if_neg (by simpa using hc4)]
  refine aK ?_;try simp only[RR]
  refine aB fun _ y=>aA rfl ?_;simp only[RR,seval];refine aN (hT) ?_;simp only[RR,seval];apply y;clear y;refine aO ?_;simp only[bB,aL,bH,RR,seval];refine aZ.pure ?_;rw[hX,if_pos (by simpa using hc4)]
end Go.Proofs.YtnfbbjhdflhmjaaGreatDoor
namespace Go.Proofs.YtnfbbjhdflhmjaaGreatDoor
open Go.Al
theorem xX (n:Nat): ∀(l:List Ex) (left cB:Int),iA l≤n→0≤eS l left cB→eS l left cB+iA l=left:=by
 induction n using Nat.strongRecOn with
 |_ n ih=>
  intro l left cB hn h
  cases l with
  |nil=>rw[eS,iA];simp
  |cons e l=>
   have hs:=e.sz_eq;rw[iA]at hn⊢;rw[lF]at h⊢;split at h
   ·omega
   rename_i h1;rw[if_neg h1];split at h
   ·omega
   rename_i h2;rw[if_neg h2];have i1:=ih (iA l) (by omega) l _ cB (aY _) h;have i2:=ih (iA e.kids) (by omega) e.kids (left- 1) (cB- 1) (aY _) (by omega);omega
theorem xW (n:Nat): ∀(l:List Sm) (left cB:Int),fE l≤n→0≤eP l left cB→eP l left cB+fE l=left:=by
 induction n using Nat.strongRecOn with
 |_ n ih=>
  intro l left cB hn h
  cases l with
  |nil=>rw[eP,fE];simp
  |cons e l=>
   have hs:=e.sz_eq;rw[fE]at hn⊢;rw[lE]at h⊢;split at h
   ·omega
   rename_i h1;rw[if_neg h1];split at h
   ·omega
   rename_i h2;rw[if_neg h2];have i1:=ih (fE l) (by omega) l _ cB (aY _) h;have i2:=ih (fE e.els) (by omega) e.els (eP e.thn (eS e.es (left- 1) (cB- 1)) (cB- 1)) (cB- 1) (aY _) (by omega);have i3:=ih (fE e.thn) (by omega) e.thn (eS e.es (left- 1) (cB- 1)) (cB- 1) (aY _) (by omega);have i4:=xX _ e.es (left- 1) (cB- 1) (aY _) (by omega);omega
theorem pL: ∀(l:List Fu) (left:Int),0≤kO l left→kO l left≤left∧ ∀f∈l,(fE f.body:Int)≤left
 |[],left,h=>⟨by rw[kO];exact Int.le_refl _,fun f hf=>by cases hf⟩
 |f::l,left,h=>by
  rw[kO]at h⊢;obtain⟨h1,h2⟩:=pL l _ h;have h3:=xW _ f.body (left-f.params.length-f.locs.length) 60 (aY _) (by omega);refine⟨by omega,fun g hg=>?_⟩;rcases List.mem_cons.mp hg with rfl|hg
  ·omega
  have:=h2 g hg;omega
theorem I2 (p:Pg) (hp:p.ok) (m:Int) (hm:m≤400) (h:yL p m=true):p.few:=by
 simp only[yL,aS,aW,List.all_eq_true]at h;obtain⟨⟨⟨⟨⟨h1,h2⟩,h3⟩,h4⟩,h5⟩,h6⟩:=h;have hs:=(pL _ _ h6).2;refine⟨hp, ?_,by omega,by omega,fun f hf=>?_⟩
 ·have:=(fX h1).1;omega
 have hff:=h5 f hf;simp only[rH,aS]at hff;have q1:=(fX hff.1.1).1;have q2:=(fX hff.1.2).1;have:=hs f hf;refine⟨by omega,by omega,by omega⟩
theorem Uz (e:Ex) (he:e.ok) (level:Int) (h1: -1000000≤level) (h2:level≤999999):cJ cK 139 [.agg e.row, .int .i64 level] (.bool (iP e level)):=
 qK e he level h1 (by omega) fun _=>qJ _ e.kids (level+1) rfl he.kids (by omega) (by omega)
def aE:Ex:= .mk 2 0 0 [97] []
def Vo:Ex:= .mk 1 0 1 [] []
def pA:Pg:=⟨[[97]],[],[⟨[109,97,105,110],[],[],false,[.mk 3 [] [aE] [] []]⟩]⟩
def qA:Pg:=⟨[[97]],[],[⟨[109,97,105,110],[],[],false,[.mk 4 [] [aE] [] []]⟩]⟩
def pZ:Pg:=⟨[],[],[]⟩
theorem U0:Nc pA (.mk 6 4 0 [] [Vo,aE])=(1,0):=by decide+kernel
theorem T9:Nc pA (.mk 6 14 0 [] [Vo,aE])=(2,0):=by decide+kernel
theorem T8:Nc pA (.mk 7 0 0 [] [Vo])=(0,5):=by decide+kernel
theorem T7:Nc pA (.mk 4 0 0 [102] [])=(0,4):=by decide+kernel
theorem T6:dT pA=0:=by
 simp only[dT,eD,eT,pA,aE,List.all_cons,List.all_nil,gI,lB,iZ,gJ,iD,iP,gQ,fI,lV,eU,eR,eM,eZ,dN,eE,Ex.kids,Sm.es,Sm.thn,Sm.els]
 decide+kernel
theorem T5:dT qA=5:=by
 simp only[dT,eD,eT,qA,aE,List.all_cons,List.all_nil,gI,lB,iZ,gJ,iD,iP,gQ,fI,lV,eU,eR,eM,eZ,dN,eE,Ex.kids,Sm.es,Sm.thn,Sm.els]
 decide+kernel
theorem T4:dT pZ=7:=by decide+kernel
theorem wH:xQ []:=⟨(by simp [cI]),fun e h=>by cases h⟩
theorem E4:aE.ok:= .mk _ _ _ _ _ (by simp [dC]) (by simp [dC]) (by simp [dI]) (by simp [cI]) wH.fit wH.all
theorem M0:Vo.ok:= .mk _ _ _ _ _ (by simp [dC]) (by simp [dC]) (by simp [dI]) (by simp [cI]) wH.fit wH.all
theorem E6 {e:Ex} (h:e.ok):xQ [e]:=⟨(by simp [cI]),fun x hx=>by rw[List.mem_singleton]at hx;rw[hx];exact h⟩
theorem Q9 {e f:Ex} (h:e.ok) (h':f.ok):xQ [e,f]:=⟨(by simp [cI]),fun x hx=>by
 rcases List.mem_cons.1 hx with rfl|hx
 ·exact h
 rw[List.mem_singleton]at hx;rw[hx];exact h'⟩
theorem P8 (k o n:Int) (hk:dC k) (ho:dC o) (hn:dI n) {s:dD} (hs:cI s) {l:List Ex} (hl:xQ l):(Ex.mk k o n s l).ok:= .mk _ _ _ _ _ hk ho hn hs hl.fit hl.all
theorem R4 (k:Int) (hk:dC k):(⟨[[97]],[],[⟨[109,97,105,110],[],[],false,[.mk k [] [aE] [] []]⟩]⟩:Pg).few:=by
 refine⟨⟨⟨by simp [cI],fun s hs=>by simp only[List.mem_singleton]at hs;subst hs;simp [cI]⟩,by simp [cI],(fun a h=>by cases h),by simp [cI],fun f hf=>?_⟩,by simp,by simp,by simp,fun f hf=>?_⟩
 ·simp only[List.mem_singleton]at hf
  subst hf;refine⟨by simp [cI],⟨by simp [cI],(fun s h=>by cases h)⟩,⟨by simp [cI],fun s h=>by cases h⟩,⟨by simp [cI],fun s hs=>?_⟩⟩;simp only[List.mem_singleton]at hs;subst hs;exact .mk _ _ _ _ _ hk (by simp [cI]) (E6 E4) (by simp [cI]) (fun e h=>by cases h) (by simp [cI]) (fun e h=>by cases h)
 simp only[List.mem_singleton]at hf;subst hf;simp [fE,Sm.sz,iA,Ex.sz,aE]
theorem R3:pZ.few:=⟨⟨⟨by simp [pZ,cI],fun s h=>by cases h⟩,by simp [pZ,cI],(fun a h=>by cases h),by simp [pZ,cI],(fun f h=>by cases h)⟩,by simp [pZ],by simp [pZ],by simp [pZ],fun f h=>by cases h⟩
end Go.Proofs.YtnfbbjhdflhmjaaGreatDoor
