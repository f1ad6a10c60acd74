/- Chapter 17, the program's: the rules for a program. Chapter 17, the program's: what is known; types. Chapter 17, the program's: types of expressions. Chapter 17, the program's: statements. Chapter 17, the program's: which statements are right. Chapter 17, the program's: Expr, Check, Sound. -/
import Derived.Test.YtaecpjgmcffliaaGreatDoorT1
import Derived.Test.YtaecpjgmcffliaaGreatDoorSy3
import Derived.Test.YtaecpjgmcffliaaGreatDoorSc2
set_option linter.unusedSimpArgs false
set_option linter.unusedVariables false
set_option maxRecDepth 10000
namespace Go.Al
def Cm (m:List Fu) (f:Fu):List Fu:=if(m.find? fun g=>decide (g.name=f.name)).isSome then m else m++[f]
def gM (l:List Fu):List Fu:=l.foldl Cm []
theorem Nu (l:List Fu) (f:Fu):gM (l++[f])=Cm (gM l) f:=by simp [gM]
theorem Bj (s:cN): ∀(l m:List Fu),(l.foldl Cm m).find? (fun g=>decide (g.name=s))=(m++l).find? (fun g=>decide (g.name=s))
 |[],m=>by simp
 |f::l,m=>by
  rw[List.foldl_cons,Bj s l];unfold Cm;split
  ·rename_i h
   rw[List.find?_append,List.find?_append,List.find?_cons]
   cases hm:m.find? fun g=>decide (g.name=s)with
   |some x=>rfl
   |none=>
    have hne:decide (f.name=s)=false:=by
     refine aX fun e=>?_;rw[e,hm]at h;cases h
    rw[hne]
  rw[List.append_assoc,List.singleton_append]
theorem uN (s:cN) (l:List Fu):(gM l).find? (fun g=>decide (g.name=s))=l.find? (fun g=>decide (g.name=s)):=by
 rw[gM,Bj,List.nil_append]
def Uj (f:Fu):AV×AV:=(.str f.name, .agg [.str f.name, .isl 1 (f.params.map bG), .isl 1 (f.locs.map bG), .bool f.word, .isl 5 (f.body.map Sm.row)])
theorem mY (s:cN): ∀(m:List Fu) (i:Nat),(m.find? (fun g=>decide (g.name=s))=none∧pM (.str s) (m.map Uj) i=some none)∨
  (∃j g,m.find? (fun g=>decide (g.name=s))=some g∧pM (.str s) (m.map Uj) i=some (some (j, .agg [.str g.name, .isl 1 (g.params.map bG), .isl 1 (g.locs.map bG), .bool g.word, .isl 5 (g.body.map Sm.row)])))
 |[],i=> .inl ⟨rfl,rfl⟩
 |t::m,i=>by
  simp only[List.map_cons,pM,I7,Uj,List.find?_cons];by_cases h:t.name=s
  ·right
   refine⟨i,t,by rw[bQ h], ?_⟩;rw[bQ h.symm]
  rw[aX h,aX (fun e=>h e.symm)];exact mY s m (i+1)
def Tz (p:Pg):AV:= .imp (((gM p.funs).map Uj).map (·.1)) (((gM p.funs).map Uj).map (·.2))
end Go.Al
namespace Go.Proofs.YtaecpjgmcffliaaGreatDoor
open Go.Al
def eF (p:Pg) (b:Nat):List AV:=[Tz p, .nfn, .fn (.func 131) [] [], .fn (.func 131) [] [], .fn (.func 133) [.ptr 11 b 0 0] [], .fn (.func 134) [.ptr 11 b 0 0] [],
 .fn (.func 131) [] [], .fn (.func 135) [.ptr 11 b 0 0] [], .fn (.func 132) [.ptr 11 b 0 0] [], .fn (.func 132) [.ptr 11 b 0 0] [], .fn (.func 132) [.ptr 11 b 0 0] []]
set_option maxHeartbeats 2000000 in
theorem Hi (p:Pg) (hp:cQ p.funs):rK cG 90 [p.av] lG (fun ae H'=> ∃v,ae= .ret v∧ ∃b,v= .ptr 11 b 0 0∧H'=H1 b (.rows 11 [eF p b])):=by
 have hR:=eF;unfold eF Tz;obtain⟨vs,aa,fs⟩:=p;simp only[Pg.av,Pg.row,cQ]at *;clear hR;refine bM 91 [.tmp 2] Tryz.func90 rfl rfl rfl rfl ?_;refine aB fun _ y=>aA rfl ?_;simp only[RR,seval];refine aT fun b1 hn1=>?_;simp only[RR,seval];apply y;clear y;refine aB fun _ y=>aA rfl ?_;simp only[RR,seval];refine aT fun b10 hn10=>?_;have nb10_b1:b10≠b1:=fun e=>by rw[e]at hn10;simp only[RR,seval,reduceCtorEq]at hn10
 have nb1_b10:b1≠b10:=fun e=>nb10_b1 e.symm;simp only[RR,seval];refine aT fun b12 hn12=>?_;have nb12_b1:b12≠b1:=fun e=>by rw[e]at hn12;simp only[nb1_b10,RR,seval,reduceCtorEq]at hn12
 have nb1_b12:b1≠b12:=fun e=>nb12_b1 e.symm;have nb12_b10:b12≠b10:=fun e=>by rw[e]at hn12;simp only[RR,seval,reduceCtorEq]at hn12
 have nb10_b12:b10≠b12:=fun e=>nb12_b10 e.symm;simp only[RR,seval];apply y;clear y;refine aJ ?_;refine aB fun _ y=>aA rfl ?_;simp only[nb1_b10,nb1_b12,aC,RR,seval];apply y;clear y;refine bN fun F1 M1 hfr hH=>?_;have g2:=hfr 2;have g3:=hfr 3;have g14:=hfr 14;have g15:=hfr 15;have g16:=hfr 16;have gb1:=hH b1;have gb10:=hH b10;have gb12:=hH b12
 try simp only[nb1_b10,nb1_b12,nb10_b12,RR,seval]at g2 g3 g14 g15 g16 gb1 gb10 gb12
 have f2:=g2;clear g2;have f3:=g3;clear g3;have f14:=g14;clear g14;have f15:=g15;clear g15;have f16:=g16;clear g16;have hb1:=gb1;clear gb1;have hb10:=gb10;clear gb10;have hb12:=gb12;clear gb12;clear hfr hH;refine aN ?_;refine cF [2,3,14,15] (fs.length) (fun k fr M=>fr 16= .int .i64 (k:Nat)∧M b1=M1 b1∧M b12=M1 b12∧M b10=some (.amap ((gM (fs.take k)).map Uj))) ⟨f16,rfl,rfl,by rw[hb10];rfl⟩ ?_;rintro k F2 M2 hk0 ⟨fx,gb1,gb12,hb10⟩ agx K0 hK0;have f2:=(agx 2 rfl).trans f2;have f3:=(agx 3 rfl).trans f3;have f14:=(agx 14 rfl).trans f14;have f15:=(agx 15 rfl).trans f15;have f16:=fx;clear fx;have hb1:=gb1.trans hb1;have hb12:=gb12.trans hb12;have ag0:=aY.refl [2,3,14,15] F2;have e0_b1:=gb1;clear gb1;have e0_b12:=gb12;clear gb12;clear agx;refine aB fun _ y=>aA rfl ?_;simp only[f15,f16,RR,seval];apply y;clear y;refine aJ ?_;refine aH _ rfl (fun hc=>?_) (fun hc=>?_)
 ·have hlt0:k<fs.length:=by have:=aD hc;omega
  clear hc;have hg:=jK (aG hlt0);have htk:fs.take (k+1)=fs.take k++[fs[k]]:=bL hlt0;generalize fs[k]=f at hg htk;have hst:gM (fs.take (k+1))=Cm (gM (fs.take k)) f:=by rw[htk,Nu]
  have hfi:=mY f.name (gM (fs.take k)) 0;unfold Cm at hst;generalize gM (fs.take k)=m at *;rcases hfi with⟨hl,hr⟩|⟨j,g,hl,hr⟩
  all_goals
   refine aK ?_;try simp only[RR]
   refine aJ ?_;refine aN ?_;refine aB fun _ y=>aA rfl ?_;simp only[f14,f16,hg,RR,seval];refine aT fun b5 hn5=>?_;have nb5_b1:b5≠b1:=fun e=>by rw[e]at hn5;simp only[hb1,seval,reduceCtorEq]at hn5
   have nb1_b5:b1≠b5:=fun e=>nb5_b1 e.symm;have nb5_b12:b5≠b12:=fun e=>by rw[e]at hn5;simp only[hb12,seval,reduceCtorEq]at hn5
   have nb12_b5:b12≠b5:=fun e=>nb5_b12 e.symm;have nb5_b10:b5≠b10:=fun e=>by rw[e]at hn5;simp only[hb10,seval,reduceCtorEq]at hn5
   have nb10_b5:b10≠b5:=fun e=>nb5_b10 e.symm;simp only[RR,seval];apply y;clear y;refine aB fun K y=>?_;refine bK (fun x=>x≠b1∧x≠b12∧x≠b10∧x≠b5) [(0,3),(1,3),(2,3),(3,0),(4,3),(5,0),(6,0),(7,3),(8,3),(9,3),(10,1)] [(11,1),(12,3)] cX (by kernel_rfl) rfl rfl ?_;simp only[cO,dG,EM,f3,hb12,hb10,nb10_b1,nb12_b1,nb12_b10,nb10_b12,nb5_b1,nb5_b12,nb12_b5,nb5_b10,nb10_b5,hr,Option.getD_some,Option.getD_none,Option.isSome_none,Option.isSome_some,RR,seval];refine aT fun b6 hn6=>?_;have nb6_b1:b6≠b1:=fun e=>by rw[e]at hn6;simp only[hb1,nb1_b5,RR,seval,reduceCtorEq]at hn6
   have nb1_b6:b1≠b6:=fun e=>nb6_b1 e.symm;have nb6_b12:b6≠b12:=fun e=>by rw[e]at hn6;simp only[hb12,nb12_b5,RR,seval,reduceCtorEq]at hn6
   have nb12_b6:b12≠b6:=fun e=>nb6_b12 e.symm;have nb6_b10:b6≠b10:=fun e=>by rw[e]at hn6;simp only[hb10,nb10_b5,RR,seval,reduceCtorEq]at hn6
   have nb10_b6:b10≠b6:=fun e=>nb6_b10 e.symm;have nb6_b5:b6≠b5:=fun e=>by rw[e]at hn6;simp only[RR,seval,reduceCtorEq]at hn6
   have nb5_b6:b5≠b6:=fun e=>nb6_b5 e.symm;simp only[RR,seval];apply y;clear y;refine aB fun _ y=>aA rfl ?_;simp only[RR,seval];apply y;clear y;refine aH _ rfl (fun hc6=>?_) (fun hc6=>?_)
   ·try (cases hc6;done)
    all_goals
     refine bK (fun x=>x≠b1∧x≠b12∧x≠b10∧x≠b5∧x≠b6) [(0,3),(1,3),(2,3),(3,1),(4,3),(5,1),(6,1)] [(7,1)] cX (by kernel_rfl) rfl rfl ?_;simp only[cO,f3,hb12,hb10,nb12_b5,nb10_b5,nb12_b6,nb10_b6,nb5_b6,hr,Ew,RR,seval];refine aA rfl ?_;simp only[f16,RR,seval]
     try rw[aV _ (by omega)]
     refine hK0 _ _ hlt0 ⟨by first|rfl|(simp only[aF,seval];rfl),(by first|exact e0_b1|(simp only[nb1_b10,nb1_b5,nb1_b6,aF,seval];first|done|exact e0_b1)),(by first|exact e0_b12|(simp only[nb12_b10,nb12_b5,nb12_b6,aF,seval];first|done|exact e0_b12)), ?_⟩ (by repeat (first|exact ag0|refine aY.upd rfl ?_));rw[hst,hl]
     first|(simp only[Option.isSome_none,aF,List.map_append,List.map_cons,List.map_nil,Option.isSome_none,Bool.false_eq_true,seval];rfl)|(simp only[f2,f3,f14,f15,f16,hb1,hb12,hb10,nb10_b1,nb1_b10,nb12_b1,nb1_b12,nb12_b10,nb10_b12,nb5_b1,nb1_b5,nb5_b12,nb12_b5,nb5_b10,nb10_b5,nb6_b1,nb1_b6,nb6_b12,nb12_b6,nb6_b10,nb10_b6,nb6_b5,nb5_b6,aC,hg,hr,Ew,Option.getD_some,Option.getD_none,Option.isSome_none,Option.isSome_some,aF,Option.isSome_none,Option.isSome_some,if_true,Bool.false_eq_true,if_false,RR,seval];done)
   try (cases hc6;done)
   all_goals
    refine aK ?_;try simp only[RR]
    refine aA rfl ?_;simp only[f16,RR,seval]
    try rw[aV _ (by omega)]
    refine hK0 _ _ hlt0 ⟨by first|rfl|(simp only[aF,seval];rfl),(by first|exact e0_b1|(simp only[nb1_b5,nb1_b6,aF,seval];first|done|exact e0_b1)),(by first|exact e0_b12|(simp only[nb12_b5,nb12_b6,aF,seval];first|done|exact e0_b12)), ?_⟩ (by repeat (first|exact ag0|refine aY.upd rfl ?_));rw[hst,hl]
    first|(simp only[hb10,nb10_b5,nb10_b6,Option.isSome_some,aF,Option.isSome_some,seval];rfl)|(simp only[hb10,nb10_b5,nb10_b6,Option.isSome_some,aF,Option.isSome_some,seval];done)
 have hkn0:k=fs.length:=by have:=aE hc;omega
 clear hc;rw[hkn0,List.take_length]at hb10;refine bI ?_;simp only[RR,seval];refine bN fun F3 M3 hfr hH=>?_;have g2:=hfr 2;have g3:=hfr 3;have gb1:=hH b1;have gb12:=hH b12;have gb10:=hH b10
 try simp only[f2,f3,hb1,hb12,hb10,RR,seval]at g2 g3 gb1 gb12 gb10
 have f2:=g2;clear g2;have f3:=g3;clear g3;have hb1:=gb1;clear gb1;have hb12:=gb12;clear gb12;have hb10:=gb10;clear gb10;clear hfr hH;refine Je hb10 ?_;refine bN fun F4 M4 hfr hH=>?_;have g2:=hfr 2;have g3:=hfr 3;have gb1:=hH b1;have gb12:=hH b12
 try simp only[SM,List.map_cons,List.map_nil,Option.map_some,f2,f3,hb1,hb12,nb1_b10,nb12_b10,seval]at g2 g3 gb1 gb12
 have f2:=g2;clear g2;have f3:=g3;clear g3;have hb1:=gb1;clear gb1;have hb12:=gb12;clear gb12;clear hfr hH;refine aB fun _ y=>aA rfl ?_;simp only[RR,seval];apply y;clear y;refine aB fun _ y=>aA rfl ?_;simp only[f3,RR,seval];apply y;clear y;refine aB fun K y=>?_;refine bK (fun x=>x≠b1∧x≠b12) [(0,3),(1,3),(2,3),(3,3),(4,3),(5,3),(6,3),(7,3),(8,3),(10,3),(11,3),(14,3),(15,3)] [(9,1),(12,3),(13,1),(16,3),(17,1)] cX (by kernel_rfl) rfl rfl ?_;simp only[cO,f3,hb12,RR,seval];apply y;clear y;refine aB fun _ y=>aA rfl ?_;simp only[f3,RR,seval];apply y;clear y;refine aB fun _ y=>aA rfl ?_;simp only[f3,RR,seval];apply y;clear y;refine aB fun _ y=>aA rfl ?_;simp only[f3,RR,seval];apply y;clear y;refine aB fun K y=>?_;refine bK (fun x=>x≠b1∧x≠b12) [(0,3),(1,3),(2,3),(3,3),(4,3),(5,3),(6,3),(7,3),(8,3),(10,3),(11,3),(14,3),(15,3)] [(9,1),(12,3),(13,1),(16,3),(17,1)] cX (by kernel_rfl) rfl rfl ?_;simp only[cO,f3,RR,seval];apply y;clear y;refine aB fun _ y=>aA rfl ?_;simp only[f3,RR,seval];apply y;clear y;refine aM ?_;simp only[aZ,aL,bJ,RR,seval];exact⟨_,_,fZ.drop (dM (b:=b12) (by first|exact hb12|(simp only[aF,seval];done)|(simp only[f2,f3,hb1,hb12,nb10_b1,nb1_b10,nb12_b1,nb1_b12,nb12_b10,nb10_b12,aC,aF,RR,seval];rfl))),_,rfl,b12,rfl,rfl⟩
end Go.Proofs.YtaecpjgmcffliaaGreatDoor
namespace Go.Proofs.YtaecpjgmcffliaaGreatDoor
open Go.Al
def xG (p:Pg) (b:Nat):Hp:=H1 b (.rows 11 [eF p b])
theorem xB (p:Pg) (s:cN):rJ p s=((gM p.funs).find? fun g=>decide (g.name=s)).isSome:=by rw[uN];rfl
theorem vR (p:Pg) (s:cN):lF p s=match(gM p.funs).find? (fun g=>decide (g.name=s))with |some f=>f.word|none=>false:=by rw[uN];rfl
theorem Tj (p:Pg) (b0:Nat) (n:Nat): ∀e:Ex,e.sz≤n→e.ok→uA cG 136 [.ptr 11 b0 0 0, .agg e.row] (xG p b0) (.bool (J5 (rJ p) e)):=by
 induction n using Nat.strongRecOn with
 |_ n ih=>
  intro e hn he;have hz:=e.sz_eq;have hfit:=he.kids.fit;have hkids:=he.kids.all;have hX:=B5 (rJ p) e;have hkn:=xB p e.name;have hfi:=mY e.name (gM p.funs) 0;have hall: ∀x∈e.kids,uA cG 136 [.ptr 11 b0 0 0, .agg x.row] (xG p b0) (.bool (J5 (rJ p) x)):=fun x hx=>ih x.sz (by have:=fH hx;omega) x (bF _) (hkids x hx);generalize J5 (rJ p) e=res at *;clear ih he hkids;rw[e.row_eq];simp only[cQ]at hfit;generalize rJ p e.name=K1 at hX hkn;obtain⟨K4,z4⟩: ∃c,decide (e.kind=4)=c:=⟨_,rfl⟩;rw[z4]at hX
  cases K4<;>rcases hfi with⟨hl,hr⟩|⟨j,g,hl,hr⟩<;>rw[hl]at hkn<;>subst hkn<;>simp only[Option.isSome_none,Option.isSome_some,Bool.not_true,Bool.not_false,Bool.or_false,Bool.or_true,Bool.true_and,Bool.false_and]at hX
  all_goals
   refine bM 36 [.tmp 4] Tryz.func136 rfl rfl rfl rfl ?_;have hb0:(xG p b0) b0=some (.rows 11 [eF p b0]):=iE _ _;simp only[eF,Tz]at hb0;refine aB fun _ y=>aA rfl ?_;simp only[RR,seval];refine aT fun b3 hn3=>?_;have nb3_b0:b3≠b0:=fun e=>by rw[e]at hn3;simp only[hb0,seval,reduceCtorEq]at hn3
   have nb0_b3:b0≠b3:=fun e=>nb3_b0 e.symm;simp only[RR,seval];apply y;clear y;refine aJ ?_;refine aB fun _ y=>aA rfl ?_;simp only[z4,RR,seval];apply y;clear y;refine aH _ rfl (fun hc1=>?_) (fun hc1=>?_)
   ·try (cases hc1;done)
    all_goals
     refine aB fun K y=>?_;refine bK (fun x=>x≠b0∧x≠b3) [(0,3),(1,3),(2,3),(3,0),(4,3),(5,0),(6,0),(7,3),(8,3),(9,3),(10,1)] [(11,1),(12,3)] cX (by kernel_rfl) rfl rfl ?_;simp only[cO,dG,EM,hb0,nb3_b0,nb0_b3,cD,hr,Option.getD_some,Option.getD_none,Option.isSome_none,Option.isSome_some,RR,seval];refine aT fun b5 hn5=>?_;have nb5_b0:b5≠b0:=fun e=>by rw[e]at hn5;simp only[hb0,nb0_b3,RR,seval,reduceCtorEq]at hn5
     have nb0_b5:b0≠b5:=fun e=>nb5_b0 e.symm;have nb5_b3:b5≠b3:=fun e=>by rw[e]at hn5;simp only[RR,seval,reduceCtorEq]at hn5
     have nb3_b5:b3≠b5:=fun e=>nb5_b3 e.symm;simp only[RR,seval];apply y;clear y;refine aB fun _ y=>aA rfl ?_;simp only[RR,seval];apply y;clear y;refine aH _ rfl (fun hc3=>?_) (fun hc3=>?_)
     ·try (cases hc3;done)
      all_goals
       refine aB fun _ y=>aA rfl ?_;simp only[RR,seval];apply y;clear y;refine aM ?_;simp only[aZ,aL,bJ,RR,seval];refine bB.q ?_ (dM (b:=b0) (by first|exact hb0|(simp only[hb0,nb0_b3,nb0_b5,aF,seval];done)|(simp only[hb0,nb0_b3,nb0_b5,aF,seval];rfl)));rw[hX]
     try (cases hc3;done)
     all_goals
      refine aK ?_;try simp only[RR]
      refine aJ ?_;refine aB fun _ y=>aA rfl ?_;simp only[nb3_b5,aC,RR,seval];apply y;clear y;refine bN fun F1 M1 hfr hH=>?_;have g0:=hfr 0;have g4:=hfr 4;have g25:=hfr 25;have g26:=hfr 26;have g27:=hfr 27;have gb0:=hH b0;have gb3:=hH b3;have gb5:=hH b5
      try simp only[hb0,nb0_b3,nb0_b5,nb3_b5,RR,seval]at g0 g4 g25 g26 g27 gb0 gb3 gb5
      have f0:=g0;clear g0;have f4:=g4;clear g4;have f25:=g25;clear g25;have f26:=g26;clear g26;have f27:=g27;clear g27;have hb0:=gb0;clear gb0;have hb3:=gb3;clear gb3;have hb5:=gb5;clear gb5;clear hfr hH;refine aN ?_;refine cF [0,25,26] (e.kids.length) (fun k fr M=>fr 27= .int .i64 (k:Nat)∧M b0=M1 b0∧M b3=M1 b3∧M b5=M1 b5∧res=Dx (rJ p) (e.kids.drop k)) ⟨f27,rfl,rfl,rfl,by rw[List.drop_zero];exact hX⟩ ?_;rintro k F2 M2 hk0 ⟨fx,gb0,gb3,gb5,hres⟩ agx K0 hK0;have f0:=(agx 0 rfl).trans f0;have f25:=(agx 25 rfl).trans f25;have f26:=(agx 26 rfl).trans f26;have f27:=fx;clear fx;have hb0:=gb0.trans hb0;have hb3:=gb3.trans hb3;have hb5:=gb5.trans hb5;have ag0:=aY.refl [0,25,26] F2;have e0_b0:=gb0;clear gb0;have e0_b3:=gb3;clear gb3;have e0_b5:=gb5;clear gb5;clear agx;refine aB fun _ y=>aA rfl ?_;simp only[f26,f27,RR,seval];apply y;clear y;refine aJ ?_;refine aH _ rfl (fun hc=>?_) (fun hc=>?_)
      ·have hlt0:k<e.kids.length:=by have:=aD hc;omega
       clear hc;have hg:=nM (aG hlt0);have hm:=hall _ (bE hlt0);rw[bD hlt0,rW]at hres;generalize e.kids[k]=x at hg hres hm;rw[x.row_eq]at hm;generalize J5 (rJ p) x=KK at hres hm;refine aK ?_;try simp only[RR]
       refine aJ ?_;refine aN ?_;refine aB fun _ y=>aA rfl ?_;simp only[f25,f27,hg,RR,seval];refine aT fun b8 hn8=>?_;have nb8_b0:b8≠b0:=fun e=>by rw[e]at hn8;simp only[hb0,seval,reduceCtorEq]at hn8
       have nb0_b8:b0≠b8:=fun e=>nb8_b0 e.symm;have nb8_b3:b8≠b3:=fun e=>by rw[e]at hn8;simp only[hb3,seval,reduceCtorEq]at hn8
       have nb3_b8:b3≠b8:=fun e=>nb8_b3 e.symm;have nb8_b5:b8≠b5:=fun e=>by rw[e]at hn8;simp only[hb5,seval,reduceCtorEq]at hn8
       have nb5_b8:b5≠b8:=fun e=>nb8_b5 e.symm;simp only[RR,seval];apply y;clear y;refine aB fun _ y=>aA rfl ?_;simp only[f0,RR,seval];refine eO (b:=b0) hm (by first|exact hb0|(simp only[hb0,nb0_b8,aF,seval];done)|(simp only[hb0,nb0_b8,aF,seval];rfl)) (fun _=>trivial) ?_;simp only[RR,seval];apply y;clear y;refine aH _ rfl (fun hc8=>?_) (fun hc8=>?_)
       ·try (cases hc8;done)
        all_goals
         refine aB fun _ y=>aA rfl ?_;simp only[RR,seval];apply y;clear y;refine aM ?_;simp only[aZ,aL,bJ,RR,seval];refine bB.q ?_ (dM (b:=b0) (by first|exact hb0|(simp only[hb0,nb0_b8,aF,seval];done)|(simp only[hb0,nb0_b8,aF,seval];rfl)));rw[hres,show KK=false by simpa using hc8];rfl
       try (cases hc8;done)
       all_goals
        refine aK ?_;try simp only[RR]
        refine aA rfl ?_;simp only[f27,RR,seval]
        try rw[aV _ (by omega)]
        refine hK0 _ _ hlt0 ⟨by first|rfl|(simp only[aF,seval];rfl),(by first|exact e0_b0|(simp only[nb0_b8,aF,seval];first|done|exact e0_b0)),(by first|exact e0_b3|(simp only[nb3_b8,aF,seval];first|done|exact e0_b3)),(by first|exact e0_b5|(simp only[nb5_b8,aF,seval];first|done|exact e0_b5)),by rw[hres,show KK=true by simpa using hc8,Bool.true_and]⟩ (by repeat (first|exact ag0|refine aY.upd rfl ?_))
      have hkn0:k=e.kids.length:=by have:=aE hc;omega
      clear hc;refine bI ?_;simp only[RR,seval];refine aB fun _ y=>aA rfl ?_;simp only[RR,seval];apply y;clear y;refine aM ?_;simp only[aZ,aL,bJ,RR,seval];refine bB.q ?_ (dM (b:=b0) (by first|exact hb0|(simp only[f0,f25,f26,f27,hb0,hb3,hb5,nb3_b0,nb0_b3,nb5_b0,nb0_b5,nb5_b3,nb3_b5,aC,z4,cD,hr,Option.getD_some,Option.getD_none,Option.isSome_none,Option.isSome_some,aF,seval];done)|(simp only[f0,f25,f26,f27,hb0,hb3,hb5,nb3_b0,nb0_b3,nb5_b0,nb0_b5,nb5_b3,nb3_b5,aC,z4,cD,hr,Option.getD_some,Option.getD_none,Option.isSome_none,Option.isSome_some,aF,seval];rfl)));rw[hres,hkn0,List.drop_length,vM]
   try (cases hc1;done)
   all_goals
    refine aK ?_;try simp only[RR]
    refine aJ ?_;refine aB fun _ y=>aA rfl ?_;simp only[aC,RR,seval];apply y;clear y;refine bN fun F3 M3 hfr hH=>?_;have g0:=hfr 0;have g4:=hfr 4;have g25:=hfr 25;have g26:=hfr 26;have g27:=hfr 27;have gb0:=hH b0;have gb3:=hH b3
    try simp only[hb0,nb0_b3,RR,seval]at g0 g4 g25 g26 g27 gb0 gb3
    have f0:=g0;clear g0;have f4:=g4;clear g4;have f25:=g25;clear g25;have f26:=g26;clear g26;have f27:=g27;clear g27;have hb0:=gb0;clear gb0;have hb3:=gb3;clear gb3;clear hfr hH;refine aN ?_;refine cF [0,25,26] (e.kids.length) (fun k fr M=>fr 27= .int .i64 (k:Nat)∧M b0=M3 b0∧M b3=M3 b3∧res=Dx (rJ p) (e.kids.drop k)) ⟨f27,rfl,rfl,by rw[List.drop_zero];exact hX⟩ ?_;rintro k F4 M4 hk0 ⟨fx,gb0,gb3,hres⟩ agx K0 hK0;have f0:=(agx 0 rfl).trans f0;have f25:=(agx 25 rfl).trans f25;have f26:=(agx 26 rfl).trans f26;have f27:=fx;clear fx;have hb0:=gb0.trans hb0;have hb3:=gb3.trans hb3;have ag0:=aY.refl [0,25,26] F4;have e0_b0:=gb0;clear gb0;have e0_b3:=gb3;clear gb3;clear agx;refine aB fun _ y=>aA rfl ?_;simp only[f26,f27,RR,seval];apply y;clear y;refine aJ ?_;refine aH _ rfl (fun hc=>?_) (fun hc=>?_)
    ·have hlt0:k<e.kids.length:=by have:=aD hc;omega
     clear hc;have hg:=nM (aG hlt0);have hm:=hall _ (bE hlt0);rw[bD hlt0,rW]at hres;generalize e.kids[k]=x at hg hres hm;rw[x.row_eq]at hm;generalize J5 (rJ p) x=KK at hres hm;refine aK ?_;try simp only[RR]
     refine aJ ?_;refine aN ?_;refine aB fun _ y=>aA rfl ?_;simp only[f25,f27,hg,RR,seval];refine aT fun b8 hn8=>?_;have nb8_b0:b8≠b0:=fun e=>by rw[e]at hn8;simp only[hb0,seval,reduceCtorEq]at hn8
     have nb0_b8:b0≠b8:=fun e=>nb8_b0 e.symm;have nb8_b3:b8≠b3:=fun e=>by rw[e]at hn8;simp only[hb3,seval,reduceCtorEq]at hn8
     have nb3_b8:b3≠b8:=fun e=>nb8_b3 e.symm;simp only[RR,seval];apply y;clear y;refine aB fun _ y=>aA rfl ?_;simp only[f0,RR,seval];refine eO (b:=b0) hm (by first|exact hb0|(simp only[hb0,nb0_b8,aF,seval];done)|(simp only[hb0,nb0_b8,aF,seval];rfl)) (fun _=>trivial) ?_;simp only[RR,seval];apply y;clear y;refine aH _ rfl (fun hc8=>?_) (fun hc8=>?_)
     ·try (cases hc8;done)
      all_goals
       refine aB fun _ y=>aA rfl ?_;simp only[RR,seval];apply y;clear y;refine aM ?_;simp only[aZ,aL,bJ,RR,seval];refine bB.q ?_ (dM (b:=b0) (by first|exact hb0|(simp only[hb0,nb0_b8,aF,seval];done)|(simp only[hb0,nb0_b8,aF,seval];rfl)));rw[hres,show KK=false by simpa using hc8];rfl
     try (cases hc8;done)
     all_goals
      refine aK ?_;try simp only[RR]
      refine aA rfl ?_;simp only[f27,RR,seval]
      try rw[aV _ (by omega)]
      refine hK0 _ _ hlt0 ⟨by first|rfl|(simp only[aF,seval];rfl),(by first|exact e0_b0|(simp only[nb0_b8,aF,seval];first|done|exact e0_b0)),(by first|exact e0_b3|(simp only[nb3_b8,aF,seval];first|done|exact e0_b3)),by rw[hres,show KK=true by simpa using hc8,Bool.true_and]⟩ (by repeat (first|exact ag0|refine aY.upd rfl ?_))
    have hkn0:k=e.kids.length:=by have:=aE hc;omega
    clear hc;refine bI ?_;simp only[RR,seval];refine aB fun _ y=>aA rfl ?_;simp only[RR,seval];apply y;clear y;refine aM ?_;simp only[aZ,aL,bJ,RR,seval];refine bB.q ?_ (dM (b:=b0) (by first|exact hb0|(simp only[f0,f25,f26,f27,hb0,hb3,nb3_b0,nb0_b3,aC,z4,cD,hr,Option.getD_some,Option.getD_none,Option.isSome_none,Option.isSome_some,aF,seval];done)|(simp only[f0,f25,f26,f27,hb0,hb3,nb3_b0,nb0_b3,aC,z4,cD,hr,Option.getD_some,Option.getD_none,Option.isSome_none,Option.isSome_some,aF,seval];rfl)));rw[hres,hkn0,List.drop_length,vM]
end Go.Proofs.YtaecpjgmcffliaaGreatDoor
namespace Go.Proofs.YtaecpjgmcffliaaGreatDoor
open Go.Al
theorem Vj (e:Ex):cM cG 131 [.agg e.row] (.int .i64 1):=by
 rw[e.row_eq];refine bM 3 [.tmp 2] Tryz.func131 rfl rfl rfl rfl ?_;refine aB fun _ y=>aA rfl ?_;simp only[RR,seval];refine aT fun b1 hn1=>?_;simp only[RR,seval];apply y;clear y;refine aB fun _ y=>aA rfl ?_;simp only[RR,seval];apply y;clear y;refine aM ?_;simp only[aZ,aL,bJ,RR,seval];refine bB.pure ?_;rfl
def Oo (p:Pg) (b0:Nat) (l:List Ex):Prop:= ∀e∈l,uA cG 189 [.ptr 11 b0 0 0, .agg e.row] (xG p b0) (.int .i64 (Rj (lF p) e))
theorem sT (p:Pg) (b0:Nat) (l:List Ex) (hl:cQ l) (t:Int) (h:Oo p b0 l):uA cG 137 [.ptr 11 b0 0 0, .isl 5 (l.map Ex.row), .int .i64 t] (xG p b0) (.bool (fX (lF p) l t)):=by
 simp only[cQ]at hl;unfold Oo at h;generalize lF p=W at *;refine bM 21 [.tmp 6] Tryz.func137 rfl rfl rfl rfl ?_;have hb0:(xG p b0) b0=some (.rows 11 [eF p b0]):=iE _ _;simp only[eF,Tz]at hb0;refine aB fun _ y=>aA rfl ?_;simp only[RR,seval];apply y;clear y;refine aJ ?_;refine aB fun _ y=>aA rfl ?_;simp only[aC,RR,seval];apply y;clear y;refine bN fun F1 M1 hfr hH=>?_;have g0:=hfr 0;have g2:=hfr 2;have g6:=hfr 6;have g9:=hfr 9;have g10:=hfr 10;have g11:=hfr 11;have gb0:=hH b0
 try simp only[hb0,RR,seval]at g0 g2 g6 g9 g10 g11 gb0
 have f0:=g0;clear g0;have f2:=g2;clear g2;have f6:=g6;clear g6;have f9:=g9;clear g9;have f10:=g10;clear g10;have f11:=g11;clear g11;have hb0:=gb0;clear gb0;clear hfr hH;refine aN ?_;refine cF [0,2,9,10] (l.length) (fun k fr M=>fr 11= .int .i64 (k:Nat)∧M b0=M1 b0∧fX W l t=fX W (l.drop k) t) ⟨f11,rfl,by rw[List.drop_zero]⟩ ?_;rintro k F2 M2 hk0 ⟨fx,gb0,hall⟩ agx K0 hK0;have f0:=(agx 0 rfl).trans f0;have f2:=(agx 2 rfl).trans f2;have f9:=(agx 9 rfl).trans f9;have f10:=(agx 10 rfl).trans f10;have f11:=fx;clear fx;have hb0:=gb0.trans hb0;have ag0:=aY.refl [0,2,9,10] F2;have e0_b0:=gb0;clear gb0;clear agx;refine aB fun _ y=>aA rfl ?_;simp only[f10,f11,RR,seval];apply y;clear y;refine aJ ?_;refine aH _ rfl (fun hc=>?_) (fun hc=>?_)
 ·have hlt0:k<l.length:=by have:=aD hc;omega
  clear hc;have hg:=nM (aG hlt0);have hm:=h _ (bE hlt0);rw[bD hlt0,tY]at hall;generalize l[k]=e at hg hall hm;rw[e.row_eq]at hm;generalize Rj W e=u at hall hm;refine aK ?_;try simp only[RR]
  refine aJ ?_;refine aN ?_;refine aB fun _ y=>aA rfl ?_;simp only[f9,f11,hg,RR,seval];refine aT fun b8 hn8=>?_;have nb8_b0:b8≠b0:=fun e=>by rw[e]at hn8;simp only[hb0,seval,reduceCtorEq]at hn8
  have nb0_b8:b0≠b8:=fun e=>nb8_b0 e.symm;simp only[RR,seval];apply y;clear y;refine aB fun _ y=>aA rfl ?_;simp only[f0,RR,seval];refine eO (b:=b0) hm (by first|exact hb0|(simp only[hb0,nb0_b8,aF,seval];done)|(simp only[hb0,nb0_b8,aF,seval];rfl)) (fun _=>trivial) ?_;simp only[f2,RR,seval];apply y;clear y;refine aH _ rfl (fun hc4=>?_) (fun hc4=>?_)
  ·refine aB fun _ y=>aA rfl ?_
   simp only[RR,seval];apply y;clear y;refine aM ?_;simp only[aZ,aL,bJ,RR,seval];refine bB.q ?_ (dM (b:=b0) (by first|exact hb0|(simp only[hb0,nb0_b8,aF,seval];done)|(simp only[hb0,nb0_b8,aF,seval];rfl)));rw[hall,show decide (u=t)=false by simpa using hc4,Bool.false_and]
  refine aK ?_;try simp only[RR]
  refine aA rfl ?_;simp only[f11,RR,seval]
  try rw[aV _ (by omega)]
  refine hK0 _ _ hlt0 ⟨by first|rfl|(simp only[aF,seval];rfl),(by first|exact e0_b0|(simp only[nb0_b8,aF,seval];first|done|exact e0_b0)),by rw[hall,show decide (u=t)=true by simpa using hc4,Bool.true_and]⟩ (by repeat (first|exact ag0|refine aY.upd rfl ?_))
 have hkn0:k=l.length:=by have:=aE hc;omega
 clear hc;refine bI ?_;simp only[RR,seval];refine aB fun _ y=>aA rfl ?_;simp only[RR,seval];apply y;clear y;refine aM ?_;simp only[aZ,aL,bJ,RR,seval];refine bB.q ?_ (dM (b:=b0) (by first|exact hb0|(simp only[f0,f2,f9,f10,f11,hb0,aC,aF,seval];done)|(simp only[f0,f2,f9,f10,f11,hb0,aC,aF,seval];rfl)));rw[hall,hkn0,List.drop_length,yP]
theorem H5 (p:Pg) (b0:Nat) (e:Ex) (he:cQ e.kids) (h:Oo p b0 e.kids):uA cG 132 [.ptr 11 b0 0 0, .agg e.row] (xG p b0) (.int .i64 (if fX (lF p) e.kids 2=true then 2 else 0)):=by
 have ha:=sT p b0 e.kids he 2 h;generalize fX (lF p) e.kids 2=A at *;rw[e.row_eq];refine bM 9 [.tmp 4] Tryz.func132 rfl rfl rfl rfl ?_;have hb0:(xG p b0) b0=some (.rows 11 [eF p b0]):=iE _ _;simp only[eF,Tz]at hb0;refine aB fun _ y=>aA rfl ?_;simp only[RR,seval];refine aT fun b3 hn3=>?_;have nb3_b0:b3≠b0:=fun e=>by rw[e]at hn3;simp only[hb0,seval,reduceCtorEq]at hn3
 have nb0_b3:b0≠b3:=fun e=>nb3_b0 e.symm;simp only[RR,seval];apply y;clear y;refine aJ ?_;refine aB fun _ y=>aA rfl ?_;simp only[RR,seval];refine eO (b:=b0) ha (by first|exact hb0|(simp only[hb0,nb0_b3,aF,seval];done)|(simp only[hb0,nb0_b3,aF,seval];rfl)) (fun _=>trivial) ?_;simp only[RR,seval];apply y;clear y;refine aH _ rfl (fun hc1=>?_) (fun hc1=>?_)
 ·refine aB fun _ y=>aA rfl ?_
  simp only[RR,seval];apply y;clear y;refine aM ?_;simp only[aZ,aL,bJ,RR,seval];refine bB.q ?_ (dM (b:=b0) (by first|exact hb0|(simp only[hb0,nb0_b3,aF,seval];done)|(simp only[hb0,nb0_b3,aF,seval];rfl)));rw[hc1];rfl
 refine aK ?_;try simp only[RR]
 refine aB fun _ y=>aA rfl ?_;simp only[RR,seval];apply y;clear y;refine aM ?_;simp only[aZ,aL,bJ,RR,seval];refine bB.q ?_ (dM (b:=b0) (by first|exact hb0|(simp only[hb0,nb0_b3,aF,seval];done)|(simp only[hb0,nb0_b3,aF,seval];rfl)));rw[hc1];rfl
theorem Tv (p:Pg) (b0:Nat) (e:Ex) (he:cQ e.kids) (h:Oo p b0 e.kids):uA cG 133 [.ptr 11 b0 0 0, .agg e.row] (xG p b0) (.int .i64 (if fX (lF p) e.kids 1=true then 1 else 0)):=by
 have ha:=sT p b0 e.kids he 1 h;generalize fX (lF p) e.kids 1=A at *;rw[e.row_eq];refine bM 9 [.tmp 4] Tryz.func133 rfl rfl rfl rfl ?_;have hb0:(xG p b0) b0=some (.rows 11 [eF p b0]):=iE _ _;simp only[eF,Tz]at hb0;refine aB fun _ y=>aA rfl ?_;simp only[RR,seval];refine aT fun b3 hn3=>?_;have nb3_b0:b3≠b0:=fun e=>by rw[e]at hn3;simp only[hb0,seval,reduceCtorEq]at hn3
 have nb0_b3:b0≠b3:=fun e=>nb3_b0 e.symm;simp only[RR,seval];apply y;clear y;refine aJ ?_;refine aB fun _ y=>aA rfl ?_;simp only[RR,seval];refine eO (b:=b0) ha (by first|exact hb0|(simp only[hb0,nb0_b3,aF,seval];done)|(simp only[hb0,nb0_b3,aF,seval];rfl)) (fun _=>trivial) ?_;simp only[RR,seval];apply y;clear y;refine aH _ rfl (fun hc1=>?_) (fun hc1=>?_)
 ·refine aB fun _ y=>aA rfl ?_
  simp only[RR,seval];apply y;clear y;refine aM ?_;simp only[aZ,aL,bJ,RR,seval];refine bB.q ?_ (dM (b:=b0) (by first|exact hb0|(simp only[hb0,nb0_b3,aF,seval];done)|(simp only[hb0,nb0_b3,aF,seval];rfl)));rw[hc1];rfl
 refine aK ?_;try simp only[RR]
 refine aB fun _ y=>aA rfl ?_;simp only[RR,seval];apply y;clear y;refine aM ?_;simp only[aZ,aL,bJ,RR,seval];refine bB.q ?_ (dM (b:=b0) (by first|exact hb0|(simp only[hb0,nb0_b3,aF,seval];done)|(simp only[hb0,nb0_b3,aF,seval];rfl)));rw[hc1];rfl
theorem X6 (p:Pg) (b0:Nat) (e:Ex) (he:cQ e.kids) (h:Oo p b0 e.kids):uA cG 135 [.ptr 11 b0 0 0, .agg e.row] (xG p b0) (.int .i64 (if fX (lF p) e.kids 1=true then(if e.op=14∨e.op=15 then 2 else 1)else 0)):=by
 have ha:=sT p b0 e.kids he 1 h;generalize fX (lF p) e.kids 1=A at *;rw[e.row_eq];refine bM 18 [.tmp 4] Tryz.func135 rfl rfl rfl rfl ?_;have hb0:(xG p b0) b0=some (.rows 11 [eF p b0]):=iE _ _;simp only[eF,Tz]at hb0;refine aB fun _ y=>aA rfl ?_;simp only[RR,seval];refine aT fun b3 hn3=>?_;have nb3_b0:b3≠b0:=fun e=>by rw[e]at hn3;simp only[hb0,seval,reduceCtorEq]at hn3
 have nb0_b3:b0≠b3:=fun e=>nb3_b0 e.symm;simp only[RR,seval];apply y;clear y;refine aJ ?_;refine aB fun _ y=>aA rfl ?_;simp only[RR,seval];refine eO (b:=b0) ha (by first|exact hb0|(simp only[hb0,nb0_b3,aF,seval];done)|(simp only[hb0,nb0_b3,aF,seval];rfl)) (fun _=>trivial) ?_;simp only[RR,seval];apply y;clear y;refine aH _ rfl (fun hc1=>?_) (fun hc1=>?_)
 ·refine aB fun _ y=>aA rfl ?_
  simp only[RR,seval];apply y;clear y;refine aM ?_;simp only[aZ,aL,bJ,RR,seval];refine bB.q ?_ (dM (b:=b0) (by first|exact hb0|(simp only[hb0,nb0_b3,aF,seval];done)|(simp only[hb0,nb0_b3,aF,seval];rfl)));rw[show A=false by simpa using hc1];rfl
 refine aK ?_;try simp only[RR]
 refine aJ ?_;refine aB fun _ y=>aA rfl ?_;simp only[RR,seval]
 repeat' ((first|refine aO (fun h=>?_) (fun h=>?_)|refine aR (fun h=>?_) (fun h=>?_))<;>simp only[h,RR,seval])
 all_goals
  apply y;clear y;refine aH _ rfl (fun hc3=>?_) (fun hc3=>?_)
  ·try (cases hc3;done)
   all_goals
    refine aB fun _ y=>aA rfl ?_;simp only[RR,seval];apply y;clear y;refine aM ?_;simp only[aZ,aL,bJ,RR,seval];refine bB.q ?_ (dM (b:=b0) (by first|exact hb0|(simp only[hb0,nb0_b3,aF,seval];done)|(simp only[hb0,nb0_b3,aF,seval];rfl)));rw[show A=true by simpa using hc1];simp_all
  try (cases hc3;done)
  all_goals
   refine aK ?_;try simp only[RR]
   refine aB fun _ y=>aA rfl ?_;simp only[RR,seval];apply y;clear y;refine aM ?_;simp only[aZ,aL,bJ,RR,seval];refine bB.q ?_ (dM (b:=b0) (by first|exact hb0|(simp only[hb0,nb0_b3,aF,seval];done)|(simp only[hb0,nb0_b3,aF,seval];rfl)));rw[show A=true by simpa using hc1];simp_all
theorem G7 (p:Pg) (b0:Nat) (e:Ex) (he:cQ e.kids) (h:Oo p b0 e.kids):uA cG 134 [.ptr 11 b0 0 0, .agg e.row] (xG p b0) (.int .i64 (if(lF p e.name&&fX (lF p) e.kids 1)=true then 1 else 0)):=by
 have ha:=sT p b0 e.kids he 1 h;have hwd:=vR p e.name;have hfi:=mY e.name (gM p.funs) 0;generalize fX (lF p) e.kids 1=A at *;generalize lF p e.name=WD at *;rw[e.row_eq];rcases hfi with⟨hl,hr⟩|⟨j,g,hl,hr⟩<;>rw[hl]at hwd<;>subst hwd
 ·skip
  refine bM 19 [.tmp 4] Tryz.func134 rfl rfl rfl rfl ?_;have hb0:(xG p b0) b0=some (.rows 11 [eF p b0]):=iE _ _;simp only[eF,Tz]at hb0;refine aB fun _ y=>aA rfl ?_;simp only[RR,seval];refine aT fun b3 hn3=>?_;have nb3_b0:b3≠b0:=fun e=>by rw[e]at hn3;simp only[hb0,seval,reduceCtorEq]at hn3
  have nb0_b3:b0≠b3:=fun e=>nb3_b0 e.symm;simp only[RR,seval];apply y;clear y;refine aJ ?_;refine aB fun K y=>?_;refine bK (fun _=>True) [(0,3),(1,3),(2,3),(3,1),(4,3),(5,1),(6,1),(7,3),(8,3),(9,3),(10,3),(11,1),(12,1),(13,3)] [] cX (by kernel_rfl) rfl rfl ?_;simp only[cO,hb0,nb0_b3,cD,hr,Option.getD_none,RR,seval]
  all_goals try ((first|refine aO (fun h=>?_) (fun h=>?_)|refine aR (fun h=>?_) (fun h=>?_))<;>simp only[h,cO,dG,EM,hb0,nb3_b0,nb0_b3,cD,hr,Option.getD_none,Option.isSome_none,RR,seval])
  all_goals try (refine eO (b:=b0) ha (by first|exact hb0|(simp only[hb0,nb3_b0,nb0_b3,cD,hr,Option.getD_none,Option.isSome_none,aF,seval];done)|(simp only[hb0,nb3_b0,nb0_b3,cD,hr,Option.getD_none,Option.isSome_none,aF,seval];rfl)) (fun _=>trivial) ?_;simp only[cO,dG,EM,hb0,nb3_b0,nb0_b3,cD,hr,Option.getD_none,Option.isSome_none,RR,seval])
  all_goals
   apply y;clear y;refine aH _ rfl (fun hc1=>?_) (fun hc1=>?_)
   ·try (cases hc1;done)
    all_goals
     refine aB fun _ y=>aA rfl ?_;simp only[cD,hr,Option.getD_none,Option.isSome_none,RR,seval];apply y;clear y;refine aM ?_;simp only[aZ,aL,bJ,cD,hr,Option.getD_none,Option.isSome_none,RR,seval];refine bB.q ?_ (dM (b:=b0) (by first|exact hb0|(simp only[hb0,nb3_b0,nb0_b3,cD,hr,Option.getD_none,Option.isSome_none,aF,seval];done)|(simp only[hb0,nb3_b0,nb0_b3,cD,hr,Option.getD_none,Option.isSome_none,aF,seval];rfl)));simp_all
   try (cases hc1;done)
   all_goals
    refine aK ?_;try simp only[RR]
    refine aB fun _ y=>aA rfl ?_;simp only[RR,seval];apply y;clear y;refine aM ?_;simp only[aZ,aL,bJ,RR,seval];refine bB.q ?_ (dM (b:=b0) (by first|exact hb0|(simp only[hb0,nb0_b3,aF,seval];done)|(simp only[hb0,nb0_b3,aF,seval];rfl)));simp_all
 obtain⟨gn,gp,gl,gw,gb⟩:=g;simp only at hr⊢;cases gw<;>cases A
 all_goals
  refine bM 19 [.tmp 4] Tryz.func134 rfl rfl rfl rfl ?_;have hb0:(xG p b0) b0=some (.rows 11 [eF p b0]):=iE _ _;simp only[eF,Tz]at hb0;refine aB fun _ y=>aA rfl ?_;simp only[RR,seval];refine aT fun b3 hn3=>?_;have nb3_b0:b3≠b0:=fun e=>by rw[e]at hn3;simp only[hb0,seval,reduceCtorEq]at hn3
  have nb0_b3:b0≠b3:=fun e=>nb3_b0 e.symm;simp only[RR,seval];apply y;clear y;refine aJ ?_;refine aB fun K y=>?_;refine bK (fun _=>True) [(0,3),(1,3),(2,3),(3,1),(4,3),(5,1),(6,1),(7,3),(8,3),(9,3),(10,3),(11,1),(12,1),(13,3)] [] cX (by kernel_rfl) rfl rfl ?_;simp only[cO,hb0,nb0_b3,cD,hr,Option.getD_some,RR,seval]
  all_goals try ((first|refine aO (fun h=>?_) (fun h=>?_)|refine aR (fun h=>?_) (fun h=>?_))<;>simp only[h,cO,dG,EM,hb0,nb3_b0,nb0_b3,cD,hr,Option.getD_some,Option.isSome_some,RR,seval])
  all_goals try (refine eO (b:=b0) ha (by first|exact hb0|(simp only[hb0,nb0_b3,aF,seval];done)|(simp only[hb0,nb0_b3,aF,seval];rfl)) (fun _=>trivial) ?_;simp only[RR,seval])
  all_goals
   apply y;clear y;refine aH _ rfl (fun hc1=>?_) (fun hc1=>?_)
   ·try (cases hc1;done)
    all_goals
     refine aB fun _ y=>aA rfl ?_;simp only[RR,seval];apply y;clear y;refine aM ?_;simp only[aZ,aL,bJ,RR,seval];refine bB.q ?_ (dM (b:=b0) (by first|exact hb0|(simp only[hb0,nb0_b3,aF,seval];done)|(simp only[hb0,nb0_b3,aF,seval];rfl)));rfl
   try (cases hc1;done)
   all_goals
    refine aK ?_;try simp only[RR]
    refine aB fun _ y=>aA rfl ?_;simp only[RR,seval];apply y;clear y;refine aM ?_;simp only[aZ,aL,bJ,RR,seval];refine bB.q ?_ (dM (b:=b0) (by first|exact hb0|(simp only[hb0,nb0_b3,aF,seval];done)|(simp only[hb0,nb0_b3,aF,seval];rfl)));rfl
theorem Ld (p:Pg) (b0:Nat) (n:Nat): ∀e:Ex,e.sz≤n→e.ok→uA cG 189 [.ptr 11 b0 0 0, .agg e.row] (xG p b0) (.int .i64 (Rj (lF p) e)):=by
 induction n using Nat.strongRecOn with
 |_ n ih=>
  intro e hn he;have hz:=e.sz_eq;have hfit:=he.kids.fit;have hkids:=he.kids.all;have hall:Oo p b0 e.kids:=fun x hx=>ih x.sz (by have:=fH hx;omega) x (bF _) (hkids x hx);have hX:=Yr (lF p) e;have q1:=Vj e;have q2:=H5 p b0 e hfit hall;have q3:=Tv p b0 e hfit hall;have q4:=X6 p b0 e hfit hall;have q5:=G7 p b0 e hfit hall;generalize Rj (lF p) e=res at *;generalize lF p e.name=WD at *;generalize fX (lF p) e.kids 1=A1 at *;generalize fX (lF p) e.kids 2=A2 at *;clear ih he hkids hall;rw[e.row_eq]at *;by_cases hk:1≤e.kind∧e.kind≤9
  ·have z1:decide (e.kind<1)=false:=aX (by omega)
   have z2:decide (9<e.kind)=false:=aX (by omega);have hcase:e.kind=1∨e.kind=2∨e.kind=3∨e.kind=4∨e.kind=5∨e.kind=6∨e.kind=7∨e.kind=8∨e.kind=9:=by omega
   obtain⟨k,o,m,s,l⟩:=e;simp only[Ex.kind,Ex.op,Ex.num,Ex.name,Ex.kids]at *;rcases hcase with rfl|rfl|rfl|rfl|rfl|rfl|rfl|rfl|rfl
   all_goals
    simp only[Int.reduceEq,or_self,or_true,or_false,if_true,if_false]at hX;subst hX;refine bM 22 [.tmp 4] Tryz.func189 rfl rfl rfl rfl ?_;have hb0:(xG p b0) b0=some (.rows 11 [eF p b0]):=iE _ _;simp only[eF,Tz]at hb0;refine aB fun _ y=>aA rfl ?_;simp only[RR,seval];refine aT fun b3 hn3=>?_;have nb3_b0:b3≠b0:=fun e=>by rw[e]at hn3;simp only[hb0,seval,reduceCtorEq]at hn3
    have nb0_b3:b0≠b3:=fun e=>nb3_b0 e.symm;simp only[RR,seval];apply y;clear y;refine aJ ?_;refine aB fun _ y=>aA rfl ?_;simp only[RR,seval];apply y;clear y;refine aH false rfl (fun hc=>by cases hc) (fun _=>?_);refine aK ?_;try simp only[RR]
    refine aB fun K y=>?_;refine bK (fun _=>True) [(0,3),(1,3),(2,1),(3,3),(4,3),(5,3),(6,1),(7,1),(8,1),(9,3)] [] cX (by kernel_rfl) rfl rfl ?_;simp only[cO,hb0,nb0_b3,RR,seval]
    first|(refine aP q1 ?_)|(refine eO (b:=b0) q2 (by first|exact hb0|(simp only[hb0,nb0_b3,aF,seval];done)|(simp only[hb0,nb0_b3,aF,seval];rfl)) (fun _=>trivial) ?_)|(refine eO (b:=b0) q3 (by first|exact hb0|(simp only[hb0,nb0_b3,aF,seval];done)|(simp only[hb0,nb0_b3,aF,seval];rfl)) (fun _=>trivial) ?_)|(refine eO (b:=b0) q4 (by first|exact hb0|(simp only[hb0,nb0_b3,aF,seval];done)|(simp only[hb0,nb0_b3,aF,seval];rfl)) (fun _=>trivial) ?_)|(refine eO (b:=b0) q5 (by first|exact hb0|(simp only[hb0,nb0_b3,aF,seval];done)|(simp only[hb0,nb0_b3,aF,seval];rfl)) (fun _=>trivial) ?_)
    simp only[RR,seval];apply y;clear y;refine aM ?_;simp only[aZ,aL,bJ,RR,seval];refine bB.q ?_ (dM (b:=b0) (by first|exact hb0|(simp only[hb0,nb0_b3,aF,seval];done)|(simp only[hb0,nb0_b3,aF,seval];rfl)));rfl
  rw[if_neg (by omega),if_neg (by omega),if_neg (by omega),if_neg (by omega),if_neg (by omega)]at hX;subst hX;refine bM 22 [.tmp 4] Tryz.func189 rfl rfl rfl rfl ?_;have hb0:(xG p b0) b0=some (.rows 11 [eF p b0]):=iE _ _;simp only[eF,Tz]at hb0;refine aB fun _ y=>aA rfl ?_;simp only[RR,seval];refine aT fun b3 hn3=>?_;have nb3_b0:b3≠b0:=fun e=>by rw[e]at hn3;simp only[hb0,seval,reduceCtorEq]at hn3
  have nb0_b3:b0≠b3:=fun e=>nb3_b0 e.symm;simp only[RR,seval];apply y;clear y;refine aJ ?_;refine aB fun _ y=>aA rfl ?_;simp only[RR,seval]
  repeat' ((first|refine aO (fun h=>?_) (fun h=>?_)|refine aR (fun h=>?_) (fun h=>?_))<;>simp only[h,RR,seval])
  all_goals
   apply y;clear y;refine aH _ rfl (fun hc1=>?_) (fun hc1=>?_)
   ·try (cases hc1;done)
    all_goals
     refine aB fun _ y=>aA rfl ?_;simp only[RR,seval];apply y;clear y;refine aM ?_;simp only[aZ,aL,bJ,RR,seval];refine bB.q ?_ (dM (b:=b0) (by first|exact hb0|(simp only[hb0,nb0_b3,aF,seval];done)|(simp only[hb0,nb0_b3,aF,seval];rfl)));rfl
   try (cases hc1;done)
   all_goals
    exfalso
    first|(have:=aE h;have:=aE hc1;omega)|(have:=aD h;omega)
end Go.Proofs.YtaecpjgmcffliaaGreatDoor
namespace Go.Proofs.YtaecpjgmcffliaaGreatDoor
open Go.Al
set_option maxHeartbeats 4000000 in
theorem Ez (p:Pg) (b0:Nat) (n:Nat): ∀l:List Sm,gH l≤n→rI l→uA cG 91 [.ptr 11 b0 0 0, .isl 5 (l.map Sm.row)] (xG p b0) (.bool (qJ (rJ p) l)):=by
 induction n using Nat.strongRecOn with
 |_ n ih=>
  intro l hn hok;have hfit:=hok.fit;have hE:=fun(x:Ex) (h:x.ok)=>Tj p b0 _ x (bF _) h;have hkf:=fun s=>xB p s;have hfi:=fun s=>mY s (gM p.funs) 0;generalize rJ p=K at *;simp only[cQ]at hfit;refine bM 57 [.tmp 4] Tryz.func91 rfl rfl rfl rfl ?_;have hb0:(xG p b0) b0=some (.rows 11 [eF p b0]):=iE _ _;simp only[eF,Tz]at hb0;refine aB fun _ y=>aA rfl ?_;simp only[RR,seval];apply y;clear y;refine aJ ?_;refine aB fun _ y=>aA rfl ?_;simp only[aC,RR,seval];apply y;clear y;refine bN fun F1 M1 hfr hH=>?_;have g0:=hfr 0;have g4:=hfr 4;have g11:=hfr 11;have g12:=hfr 12;have g13:=hfr 13;have gb0:=hH b0
  try simp only[hb0,RR,seval]at g0 g4 g11 g12 g13 gb0
  have f0:=g0;clear g0;have f4:=g4;clear g4;have f11:=g11;clear g11;have f12:=g12;clear g12;have f13:=g13;clear g13;have hb0:=gb0;clear gb0;clear hfr hH;refine aN ?_;refine cF [0,11,12] (l.length) (fun k fr M=>fr 13= .int .i64 (k:Nat)∧M b0=M1 b0∧qJ K l=qJ K (l.drop k)) ⟨f13,rfl,by rw[List.drop_zero]⟩ ?_;rintro k F2 M2 hk0 ⟨fx,gb0,hall⟩ agx K0 hK0;have f0:=(agx 0 rfl).trans f0;have f11:=(agx 11 rfl).trans f11;have f12:=(agx 12 rfl).trans f12;have f13:=fx;clear fx;have hb0:=gb0.trans hb0;have ag0:=aY.refl [0,11,12] F2;have e0_b0:=gb0;clear gb0;clear agx;refine aB fun _ y=>aA rfl ?_;simp only[f12,f13,RR,seval];apply y;clear y;refine aJ ?_;refine aH _ rfl (fun hc=>?_) (fun hc=>?_)
  ·have hlt0:k<l.length:=by have:=aD hc;omega
   clear hc;have hg:=sC (aG hlt0);have hm:=bE hlt0;have hoe:=hok.all _ hm;have hsz:=eS hm;rw[bD hlt0,xA,Me]at hall;generalize l[k]=e at hg hall hoe hsz;have hz:=e.sz_eq;have hT:=ih (gH e.thn) (by omega) e.thn (bF _) hoe.thn;have hU:=ih (gH e.els) (by omega) e.els (bF _) hoe.els;have hlok:=hoe.es.all;have hlfit:=hoe.es.fit;have hkn:=hkf e.name;have hfe:=hfi e.name;simp only[cQ]at hlfit;generalize K e.name=K1 at hall hkn;generalize qJ K e.thn=K4 at hall hT;generalize qJ K e.els=K5 at hall hU;obtain⟨K6,z6⟩: ∃c,decide (e.kind=6)=c:=⟨_,rfl⟩;rw[z6]at hall;refine aK ?_;try simp only[RR]
   refine aJ ?_;refine aN ?_;refine aB fun _ y=>aA rfl ?_;simp only[f11,f13,hg,RR,seval];refine aT fun b6 hn6=>?_;have nb6_b0:b6≠b0:=fun e=>by rw[e]at hn6;simp only[hb0,seval,reduceCtorEq]at hn6
   have nb0_b6:b0≠b6:=fun e=>nb6_b0 e.symm;simp only[RR,seval];apply y;clear y;refine aJ ?_;refine aB fun _ y=>aA rfl ?_;simp only[z6,RR,seval];apply y;clear y;refine bN fun F3 M3 hfr hH=>?_;have g0:=hfr 0;have g4:=hfr 4;have g6:=hfr 6;have g11:=hfr 11;have g12:=hfr 12;have g13:=hfr 13;have g19:=hfr 19;have gb0:=hH b0;have gb6:=hH b6
   try simp only[f0,f11,f12,f13,hb0,nb0_b6,RR,seval]at g0 g4 g6 g11 g12 g13 g19 gb0 gb6
   have ag0:aY [0,11,12] F2 F3:=aY.same hfr (by repeat (first|exact ag0|refine aY.upd rfl ?_));have e0_b0:=(hH b0).trans (by first|exact e0_b0|(simp only[nb0_b6,aF,seval];first|done|exact e0_b0));have f0:=g0;clear g0;have f4:=g4;clear g4;have f6:=g6;clear g6;have f11:=g11;clear g11;have f12:=g12;clear g12;have f13:=g13;clear g13;have f19:=g19;clear g19;have hb0:=gb0;clear gb0;have hb6:=gb6;clear gb6;clear hfr hH;refine dU (fun fr M=>aY [0,6,11,12,13] F3 fr∧M b0=M3 b0∧M b6=M3 b6∧(!K6||K1)=true) (fun KC4 hKC4=>?_) ?_
   ·have agC4:=aY.refl [0,6,11,12,13] F3
    have eC4_b0:M3 b0=M3 b0:=rfl;have eC4_b6:M3 b6=M3 b6:=rfl;refine aH _ (by first|rfl|exact f19) (fun hc4=>?_) (fun hc4=>?_)
    ·try (cases hc4;done)
     all_goals
      rcases hfe with⟨hl,hr⟩|⟨j,g,hl,hr⟩<;>rw[hl]at hkn<;>subst hkn
      all_goals
       refine aB fun K y=>?_;refine bK (fun x=>x≠b0∧x≠b6) [(0,3),(1,3),(2,3),(3,0),(4,3),(5,0),(6,0),(7,3),(8,3),(9,3),(10,1)] [(11,1),(12,3)] cX (by kernel_rfl) rfl rfl ?_;simp only[cO,dG,EM,f0,f6,hb0,hb6,nb6_b0,nb0_b6,cD,Option.getD_some,Option.getD_none,Option.isSome_none,Option.isSome_some,hr,RR,seval];refine aT fun b7 hn7=>?_;have nb7_b0:b7≠b0:=fun e=>by rw[e]at hn7;simp only[hb0,seval,reduceCtorEq]at hn7
       have nb0_b7:b0≠b7:=fun e=>nb7_b0 e.symm;have nb7_b6:b7≠b6:=fun e=>by rw[e]at hn7;simp only[hb6,seval,reduceCtorEq]at hn7
       have nb6_b7:b6≠b7:=fun e=>nb7_b6 e.symm;simp only[RR,seval];apply y;clear y;refine aB fun _ y=>aA rfl ?_;simp only[RR,seval];apply y;clear y;refine aH _ rfl (fun hc6=>?_) (fun hc6=>?_)
       ·try (cases hc6;done)
        all_goals
         refine aB fun _ y=>aA rfl ?_;simp only[RR,seval];apply y;clear y;refine aM ?_;simp only[aZ,aL,bJ,RR,seval];refine bB.q ?_ (dM (b:=b0) (by first|exact hb0|(simp only[hb0,nb0_b7,aF,seval];done)|(simp only[hb0,nb0_b7,aF,seval];rfl)));rw[hall,hc4];simp
       try (cases hc6;done)
       all_goals
        refine aK ?_;try simp only[RR]
        refine hKC4 _ _ ⟨(by repeat (first|exact agC4|refine aY.upd rfl ?_)),(by first|exact eC4_b0|(simp only[nb0_b7,aF,seval];first|done|exact eC4_b0)),(by first|exact eC4_b6|(simp only[nb6_b7,aF,seval];first|done|exact eC4_b6)),by simp_all⟩
    try (cases hc4;done)
    all_goals
     refine aK ?_;try simp only[RR]
     refine hKC4 _ _ ⟨(by repeat (first|exact agC4|refine aY.upd rfl ?_)),(by first|exact eC4_b0|(simp only[nb6_b0,nb0_b6,aF,seval];first|done|exact eC4_b0)),(by first|exact eC4_b6|(simp only[nb6_b0,nb0_b6,aF,seval];first|done|exact eC4_b6)),by simp_all⟩
   rintro F4 M4 ⟨agx,gb0,gb6,hA⟩;have f0:=(agx 0 rfl).trans f0;have f6:=(agx 6 rfl).trans f6;have f11:=(agx 11 rfl).trans f11;have f12:=(agx 12 rfl).trans f12;have f13:=(agx 13 rfl).trans f13;have hb0:=gb0.trans hb0;have hb6:=gb6.trans hb6;have ag0:aY [0,11,12] F2 F4:=aY.sub agx rfl ag0;have e0_b0:=gb0.trans e0_b0;clear agx;clear gb0;clear gb6;simp only[RR,seval];rw[hA,Bool.true_and]at hall;refine aJ ?_;refine aB fun _ y=>aA rfl ?_;simp only[f6,hb6,aC,RR,seval];apply y;clear y;refine bN fun F5 M5 hfr hH=>?_;have g0:=hfr 0;have g4:=hfr 4;have g6:=hfr 6;have g8:=hfr 8;have g11:=hfr 11;have g12:=hfr 12;have g13:=hfr 13;have g33:=hfr 33;have g34:=hfr 34;have g35:=hfr 35;have gb0:=hH b0;have gb6:=hH b6
   try simp only[f0,f6,f11,f12,f13,hb0,hb6,RR,seval]at g0 g4 g6 g8 g11 g12 g13 g33 g34 g35 gb0 gb6
   have ag0:aY [0,11,12] F2 F5:=aY.same hfr (by repeat (first|exact ag0|refine aY.upd rfl ?_));have e0_b0:=(hH b0).trans (by first|exact e0_b0|(simp only[nb6_b0,nb0_b6,aF,seval];first|done|exact e0_b0));have f0:=g0;clear g0;have f4:=g4;clear g4;have f6:=g6;clear g6;have f8:=g8;clear g8;have f11:=g11;clear g11;have f12:=g12;clear g12;have f13:=g13;clear g13;have f33:=g33;clear g33;have f34:=g34;clear g34;have f35:=g35;clear g35;have hb0:=gb0;clear gb0;have hb6:=gb6;clear gb6;clear hfr hH;refine aN ?_;refine cF [0,6,8,11,12,13,33,34] (e.es.length) (fun j fr M=>fr 35= .int .i64 (j:Nat)∧M b0=M5 b0∧M b6=M5 b6∧Dx K e.es=Dx K (e.es.drop j)) ⟨f35,rfl,rfl,by rw[List.drop_zero]⟩ ?_;rintro j F6 M6 hk2 ⟨fx,gb0,gb6,hal2⟩ agx K2 hK2;have f0:=(agx 0 rfl).trans f0;have f6:=(agx 6 rfl).trans f6;have f8:=(agx 8 rfl).trans f8;have f11:=(agx 11 rfl).trans f11;have f12:=(agx 12 rfl).trans f12;have f13:=(agx 13 rfl).trans f13;have f33:=(agx 33 rfl).trans f33;have f34:=(agx 34 rfl).trans f34;have f35:=fx;clear fx;have hb0:=gb0.trans hb0;have hb6:=gb6.trans hb6;have ag0:aY [0,11,12] F2 F6:=aY.sub agx rfl ag0;have e0_b0:=gb0.trans e0_b0;have ag2:=aY.refl [0,6,8,11,12,13,33,34] F6;have e2_b0:=gb0;clear gb0;have e2_b6:=gb6;clear gb6;clear agx;refine aB fun _ y=>aA rfl ?_;simp only[f34,f35,RR,seval];apply y;clear y;refine aJ ?_;refine aH _ rfl (fun hc=>?_) (fun hc=>?_)
   ·have hlt2:j<e.es.length:=by have:=aD hc;omega
    clear hc;have hgx:=nM (aG hlt2);have hmx:=hE _ (hlok _ (bE hlt2));rw[bD hlt2,rW]at hal2;generalize e.es[j]=x at hgx hal2 hmx;rw[x.row_eq]at hmx;generalize J5 K x=KK at hal2 hmx;refine aK ?_;try simp only[RR]
    refine aJ ?_;refine aN ?_;refine aB fun _ y=>aA rfl ?_;simp only[f33,f35,hgx,RR,seval];refine aT fun b10 hn10=>?_;have nb10_b0:b10≠b0:=fun e=>by rw[e]at hn10;simp only[hb0,seval,reduceCtorEq]at hn10
    have nb0_b10:b0≠b10:=fun e=>nb10_b0 e.symm;have nb10_b6:b10≠b6:=fun e=>by rw[e]at hn10;simp only[hb6,seval,reduceCtorEq]at hn10
    have nb6_b10:b6≠b10:=fun e=>nb10_b6 e.symm;simp only[RR,seval];apply y;clear y;refine aB fun _ y=>aA rfl ?_;simp only[f0,RR,seval];refine eO (b:=b0) hmx (by first|exact hb0|(simp only[hb0,nb0_b10,aF,seval];done)|(simp only[hb0,nb0_b10,aF,seval];rfl)) (fun _=>trivial) ?_;simp only[RR,seval];apply y;clear y;refine aH _ rfl (fun hc11=>?_) (fun hc11=>?_)
    ·try (cases hc11;done)
     all_goals
      refine aB fun _ y=>aA rfl ?_;simp only[RR,seval];apply y;clear y;refine aM ?_;simp only[aZ,aL,bJ,RR,seval];refine bB.q ?_ (dM (b:=b0) (by first|exact hb0|(simp only[hb0,nb0_b10,aF,seval];done)|(simp only[hb0,nb0_b10,aF,seval];rfl)));rw[hall,hal2,show KK=false by simpa using hc11];simp
    try (cases hc11;done)
    all_goals
     refine aK ?_;try simp only[RR]
     refine aA rfl ?_;simp only[f35,RR,seval]
     try rw[aV _ (by omega)]
     refine hK2 _ _ hlt2 ⟨by first|rfl|(simp only[aF,seval];rfl),(by first|exact e2_b0|(simp only[nb0_b10,aF,seval];first|done|exact e2_b0)),(by first|exact e2_b6|(simp only[nb6_b10,aF,seval];first|done|exact e2_b6)),by rw[hal2,show KK=true by simpa using hc11,Bool.true_and]⟩ (by repeat (first|exact ag2|refine aY.upd rfl ?_))
   have hkn2:j=e.es.length:=by have:=aE hc;omega
   clear hc;rw[hkn2,List.drop_length,vM]at hal2;rw[hal2,Bool.true_and]at hall;refine bI ?_;simp only[RR,seval];refine aB fun _ y=>aA rfl ?_;simp only[f0,f6,hb6,RR,seval]
   all_goals try (refine eO (b:=b0) hT (by first|exact hb0|(simp only[f0,f6,f8,f11,f12,f13,f33,f34,f35,hb0,hb6,nb6_b0,nb0_b6,aC,cD,Option.getD_some,Option.getD_none,Option.isSome_none,Option.isSome_some,hg,z6,aF,seval];done)|(simp only[f0,f6,f8,f11,f12,f13,f33,f34,f35,hb0,hb6,nb6_b0,nb0_b6,aC,cD,Option.getD_some,Option.getD_none,Option.isSome_none,Option.isSome_some,hg,z6,aF,seval];rfl)) (fun _=>trivial) ?_;simp only[RR,seval])
   all_goals try ((first|refine aO (fun h=>?_) (fun h=>?_)|refine aR (fun h=>?_) (fun h=>?_))<;>simp only[h,f0,f6,hb6,RR,seval])
   all_goals try (refine eO (b:=b0) hU (by first|exact hb0|(simp only[f0,f6,f8,f11,f12,f13,f33,f34,f35,hb0,hb6,nb6_b0,nb0_b6,aC,cD,Option.getD_some,Option.getD_none,Option.isSome_none,Option.isSome_some,hg,z6,aF,seval];done)|(simp only[f0,f6,f8,f11,f12,f13,f33,f34,f35,hb0,hb6,nb6_b0,nb0_b6,aC,cD,Option.getD_some,Option.getD_none,Option.isSome_none,Option.isSome_some,hg,z6,aF,seval];rfl)) (fun _=>trivial) ?_;simp only[RR,seval])
   all_goals
    apply y;clear y;refine aH _ rfl (fun hc14=>?_) (fun hc14=>?_)
    ·try (cases hc14;done)
     all_goals
      refine aB fun _ y=>aA rfl ?_;simp only[RR,seval];apply y;clear y;refine aM ?_;simp only[aZ,aL,bJ,RR,seval];refine bB.q ?_ (dM (b:=b0) (by first|exact hb0|(simp only[f0,f6,f8,f11,f12,f13,f33,f34,f35,hb0,hb6,nb6_b0,nb0_b6,aC,cD,Option.getD_some,Option.getD_none,Option.isSome_none,Option.isSome_some,hg,z6,aF,seval];done)|(simp only[f0,f6,f8,f11,f12,f13,f33,f34,f35,hb0,hb6,nb6_b0,nb0_b6,aC,cD,Option.getD_some,Option.getD_none,Option.isSome_none,Option.isSome_some,hg,z6,aF,seval];rfl)));rw[hall];clear hT hU hE hkf hfi hfe ih;simp_all
    try (cases hc14;done)
    all_goals
     refine aK ?_;try simp only[RR]
     refine aA rfl ?_;simp only[f13,RR,seval]
     try rw[aV _ (by omega)]
     refine hK0 _ _ hlt0 ⟨by first|rfl|(simp only[aF,seval];rfl),(by first|exact e0_b0|(simp only[nb6_b0,nb0_b6,aF,seval];first|done|exact e0_b0)),by rw[hall];clear hT hU hE hkf hfi hfe ih;simp_all⟩ (by repeat (first|exact ag0|refine aY.upd rfl ?_))
  have hkn0:k=l.length:=by have:=aE hc;omega
  clear hc;refine bI ?_;simp only[RR,seval];refine aB fun _ y=>aA rfl ?_;simp only[RR,seval];apply y;clear y;refine aM ?_;simp only[aZ,aL,bJ,RR,seval];refine bB.q ?_ (dM (b:=b0) (by first|exact hb0|(simp only[f0,f11,f12,f13,hb0,aC,cD,Option.getD_some,Option.getD_none,Option.isSome_none,Option.isSome_some,aF,seval];done)|(simp only[f0,f11,f12,f13,hb0,aC,cD,Option.getD_some,Option.getD_none,Option.isSome_none,Option.isSome_some,aF,seval];rfl)));rw[hall,hkn0,List.drop_length,Qc]
end Go.Proofs.YtaecpjgmcffliaaGreatDoor
namespace Go.Proofs.YtaecpjgmcffliaaGreatDoor
open Go.Al
set_option maxHeartbeats 4000000 in
theorem Ey (p:Pg) (b0:Nat) (f:Fu) (n:Nat): ∀l:List Sm,gH l≤n→rI l→uA cG 92 [.ptr 11 b0 0 0, .agg f.row, .isl 5 (l.map Sm.row)] (xG p b0) (.bool (jG (lF p) f.word l)):=by
 induction n using Nat.strongRecOn with
 |_ n ih=>
  intro l hn hok;have hfit:=hok.fit;have hAl:=fun(x:List Ex) (h:rT x) (t:Int)=>sT p b0 x h.fit t fun e he=>Ld p b0 _ e (bF _) (h.all e he);have hwf:=fun s=>vR p s;have hfi:=fun s=>mY s (gM p.funs) 0;generalize lF p=W at *;obtain⟨fn,fp,fl,w,fb⟩:=f;simp only[cQ,Fu.row]at *;refine bM 65 [.tmp 6] Tryz.func92 rfl rfl rfl rfl ?_;have hb0:(xG p b0) b0=some (.rows 11 [eF p b0]):=iE _ _;simp only[eF,Tz]at hb0;refine aB fun _ y=>aA rfl ?_;simp only[RR,seval];refine aT fun b4 hn4=>?_;have nb4_b0:b4≠b0:=fun e=>by rw[e]at hn4;simp only[hb0,seval,reduceCtorEq]at hn4
  have nb0_b4:b0≠b4:=fun e=>nb4_b0 e.symm;simp only[RR,seval];apply y;clear y;refine aJ ?_;refine aB fun _ y=>aA rfl ?_;simp only[aC,RR,seval];apply y;clear y;refine bN fun F1 M1 hfr hH=>?_;have g0:=hfr 0;have g4:=hfr 4;have g6:=hfr 6;have g10:=hfr 10;have g11:=hfr 11;have g12:=hfr 12;have gb0:=hH b0;have gb4:=hH b4
  try simp only[hb0,nb0_b4,RR,seval]at g0 g4 g6 g10 g11 g12 gb0 gb4
  have f0:=g0;clear g0;have f4:=g4;clear g4;have f6:=g6;clear g6;have f10:=g10;clear g10;have f11:=g11;clear g11;have f12:=g12;clear g12;have hb0:=gb0;clear gb0;have hb4:=gb4;clear gb4;clear hfr hH;refine aN ?_;refine cF [0,4,10,11] (l.length) (fun k fr M=>fr 12= .int .i64 (k:Nat)∧M b0=M1 b0∧M b4=M1 b4∧jG W w l=jG W w (l.drop k)) ⟨f12,rfl,rfl,by rw[List.drop_zero]⟩ ?_;rintro k F2 M2 hk0 ⟨fx,gb0,gb4,hall⟩ agx K0 hK0;have f0:=(agx 0 rfl).trans f0;have f4:=(agx 4 rfl).trans f4;have f10:=(agx 10 rfl).trans f10;have f11:=(agx 11 rfl).trans f11;have f12:=fx;clear fx;have hb0:=gb0.trans hb0;have hb4:=gb4.trans hb4;have ag0:=aY.refl [0,4,10,11] F2;have e0_b0:=gb0;clear gb0;have e0_b4:=gb4;clear gb4;clear agx;refine aB fun _ y=>aA rfl ?_;simp only[f11,f12,RR,seval];apply y;clear y;refine aJ ?_;refine aH _ rfl (fun hc=>?_) (fun hc=>?_)
  ·have hlt0:k<l.length:=by have:=aD hc;omega
   clear hc;have hg:=sC (aG hlt0);have hm:=bE hlt0;have hoe:=hok.all _ hm;have hsz:=eS hm;rw[bD hlt0,Bh,Ql]at hall;generalize l[k]=e at hg hall hoe hsz;have hz:=e.sz_eq;have hE:=hAl e.es hoe.es (oM e.kind);have hT:=ih (gH e.thn) (by omega) e.thn (bF _) hoe.thn;have hU:=ih (gH e.els) (by omega) e.els (bF _) hoe.els;have hwd:=hwf e.name;have hfe:=hfi e.name;have hw1:(e.kind=4∨e.kind=5)→oM e.kind=2:=fun h=>by simp only[oM,if_pos h]
   have hw2: ¬(e.kind=4∨e.kind=5)→oM e.kind=1:=fun h=>by simp only[oM,if_neg h]
   generalize W e.name=WD at hall hwd;generalize fX W e.es (oM e.kind)=A at hall hE;generalize jG W w e.thn=K4 at hall hT;generalize jG W w e.els=K5 at hall hU;generalize oM e.kind=ws at *;have hlen:decide ((0:Int)<(e.es.length:Int))=decide (0<e.es.length):=by rw[Bool.eq_iff_iff];simp only[bC];omega
   obtain⟨K8,z8⟩: ∃b,decide (0<e.es.length)=b:=⟨_,rfl⟩;rw[z8]at hall;clear ih hAl hok hm hfi hwf hoe;refine aK ?_;try simp only[RR]
   refine aJ ?_;refine aN ?_;refine aB fun _ y=>aA rfl ?_;simp only[f10,f12,hg,RR,seval];refine aT fun b8 hn8=>?_;have nb8_b0:b8≠b0:=fun e=>by rw[e]at hn8;simp only[hb0,seval,reduceCtorEq]at hn8
   have nb0_b8:b0≠b8:=fun e=>nb8_b0 e.symm;have nb8_b4:b8≠b4:=fun e=>by rw[e]at hn8;simp only[hb4,seval,reduceCtorEq]at hn8
   have nb4_b8:b4≠b8:=fun e=>nb8_b4 e.symm;simp only[RR,seval];apply y;clear y;refine aB fun _ y=>aA rfl ?_;simp only[RR,seval];apply y;clear y;refine aJ ?_;refine aB fun _ y=>aA rfl ?_;simp only[RR,seval];apply y;clear y;refine bN fun F3 M3 hfr hH=>?_;have g0:=hfr 0;have g4:=hfr 4;have g6:=hfr 6;have g8:=hfr 8;have g9:=hfr 9;have g10:=hfr 10;have g11:=hfr 11;have g12:=hfr 12;have g17:=hfr 17;have gb0:=hH b0;have gb4:=hH b4;have gb8:=hH b8
   try simp only[f0,f4,f10,f11,f12,hb0,hb4,nb0_b8,nb4_b8,RR,seval]at g0 g4 g6 g8 g9 g10 g11 g12 g17 gb0 gb4 gb8
   have ag0:aY [0,4,10,11] F2 F3:=aY.same hfr (by repeat (first|exact ag0|refine aY.upd rfl ?_));have e0_b0:=(hH b0).trans (by first|exact e0_b0|(simp only[nb0_b8,aF,seval];first|done|exact e0_b0));have e0_b4:=(hH b4).trans (by first|exact e0_b4|(simp only[nb4_b8,aF,seval];first|done|exact e0_b4));have f0:=g0;clear g0;have f4:=g4;clear g4;have f6:=g6;clear g6;have f8:=g8;clear g8;have f9:=g9;clear g9;have f10:=g10;clear g10;have f11:=g11;clear g11;have f12:=g12;clear g12;have f17:=g17;clear g17;have hb0:=gb0;clear gb0;have hb4:=gb4;clear gb4;have hb8:=gb8;clear gb8;clear hfr hH;refine dU (fun fr M=>aY [0,4,8,10,11,12,17] F3 fr∧M b0=M3 b0∧M b4=M3 b4∧M b8=M3 b8∧fr 9= .int .i64 ws∧(!(decide (e.kind=6)&&WD))=true∧(!(decide (e.kind=7)&&K8&& !w))=true) (fun KB2 hKB2=>?_) ?_
   ·have agB2:=aY.refl [0,4,8,10,11,12,17] F3
    have eB2_b0:M3 b0=M3 b0:=rfl;have eB2_b4:M3 b4=M3 b4:=rfl;have eB2_b8:M3 b8=M3 b8:=rfl;refine aN ?_;refine aJ ?_;refine aB fun _ y=>aA rfl ?_;simp only[f17,RR,seval];apply y;clear y;refine bN fun F4 M4 hfr hH=>?_;have g0:=hfr 0;have g4:=hfr 4;have g6:=hfr 6;have g8:=hfr 8;have g9:=hfr 9;have g10:=hfr 10;have g11:=hfr 11;have g12:=hfr 12;have g17:=hfr 17;have g18:=hfr 18;have gb0:=hH b0;have gb4:=hH b4;have gb8:=hH b8
    try simp only[f0,f4,f6,f8,f9,f10,f11,f12,f17,hb0,hb4,hb8,RR,seval]at g0 g4 g6 g8 g9 g10 g11 g12 g17 g18 gb0 gb4 gb8
    have ag0:aY [0,4,10,11] F2 F4:=aY.same hfr (by repeat (first|exact ag0|refine aY.upd rfl ?_));have e0_b0:=(hH b0).trans (by first|exact e0_b0|(simp only[nb4_b0,nb0_b4,nb8_b0,nb0_b8,nb8_b4,nb4_b8,aF,seval];first|done|exact e0_b0));have e0_b4:=(hH b4).trans (by first|exact e0_b4|(simp only[nb4_b0,nb0_b4,nb8_b0,nb0_b8,nb8_b4,nb4_b8,aF,seval];first|done|exact e0_b4));have agB2:aY [0,4,8,10,11,12,17] F3 F4:=aY.same hfr (by repeat (first|exact agB2|refine aY.upd rfl ?_));have eB2_b0:=(hH b0).trans (by first|exact eB2_b0|(simp only[nb4_b0,nb0_b4,nb8_b0,nb0_b8,nb8_b4,nb4_b8,aF,seval];first|done|exact eB2_b0));have eB2_b4:=(hH b4).trans (by first|exact eB2_b4|(simp only[nb4_b0,nb0_b4,nb8_b0,nb0_b8,nb8_b4,nb4_b8,aF,seval];first|done|exact eB2_b4));have eB2_b8:=(hH b8).trans (by first|exact eB2_b8|(simp only[nb4_b0,nb0_b4,nb8_b0,nb0_b8,nb8_b4,nb4_b8,aF,seval];first|done|exact eB2_b8));have f0:=g0;clear g0;have f4:=g4;clear g4;have f6:=g6;clear g6;have f8:=g8;clear g8;have f9:=g9;clear g9;have f10:=g10;clear g10;have f11:=g11;clear g11;have f12:=g12;clear g12;have f17:=g17;clear g17;have f18:=g18;clear g18;have hb0:=gb0;clear gb0;have hb4:=gb4;clear gb4;have hb8:=gb8;clear gb8;clear hfr hH;refine dU (fun fr M=>aY [0,4,6,8,9,10,11,12,17] F4 fr∧M b0=M4 b0∧M b4=M4 b4∧M b8=M4 b8∧fr 18= .bool (decide (e.kind=4∨e.kind=5))) (fun KC6 hKC6=>?_) ?_
    ·have agC6:=aY.refl [0,4,6,8,9,10,11,12,17] F4
     have eC6_b0:M4 b0=M4 b0:=rfl;have eC6_b4:M4 b4=M4 b4:=rfl;have eC6_b8:M4 b8=M4 b8:=rfl;refine aH _ (by first|rfl|exact f18) (fun hc6=>?_) (fun hc6=>?_)
     ·try (cases hc6;done)
      all_goals
       refine aK ?_;try simp only[RR]
       refine hKC6 _ _ ⟨(by repeat (first|exact agC6|refine aY.upd rfl ?_)),(by first|exact eC6_b0|(simp only[nb4_b0,nb0_b4,nb8_b0,nb0_b8,nb8_b4,nb4_b8,aF,seval];first|done|exact eC6_b0)),(by first|exact eC6_b4|(simp only[nb4_b0,nb0_b4,nb8_b0,nb0_b8,nb8_b4,nb4_b8,aF,seval];first|done|exact eC6_b4)),(by first|exact eC6_b8|(simp only[nb4_b0,nb0_b4,nb8_b0,nb0_b8,nb8_b4,nb4_b8,aF,seval];first|done|exact eC6_b8)), ?_⟩
       first|(rw[f18,hc6];simp [aD hc6])|(simp only[aF,seval];simp [aE hc6])
     try (cases hc6;done)
     all_goals
      refine aA rfl ?_;simp only[f17,RR,seval];refine hKC6 _ _ ⟨(by repeat (first|exact agC6|refine aY.upd rfl ?_)),(by first|exact eC6_b0|(simp only[nb4_b0,nb0_b4,nb8_b0,nb0_b8,nb8_b4,nb4_b8,aF,seval];first|done|exact eC6_b0)),(by first|exact eC6_b4|(simp only[nb4_b0,nb0_b4,nb8_b0,nb0_b8,nb8_b4,nb4_b8,aF,seval];first|done|exact eC6_b4)),(by first|exact eC6_b8|(simp only[nb4_b0,nb0_b4,nb8_b0,nb0_b8,nb8_b4,nb4_b8,aF,seval];first|done|exact eC6_b8)), ?_⟩
      first|(rw[f18,hc6];simp [aD hc6])|(simp only[aF,seval];simp [aE hc6])
    rintro F5 M5 ⟨agx,gb0,gb4,gb8,f18⟩;have f0:=(agx 0 rfl).trans f0;have f4:=(agx 4 rfl).trans f4;have f6:=(agx 6 rfl).trans f6;have f8:=(agx 8 rfl).trans f8;have f9:=(agx 9 rfl).trans f9;have f10:=(agx 10 rfl).trans f10;have f11:=(agx 11 rfl).trans f11;have f12:=(agx 12 rfl).trans f12;have f17:=(agx 17 rfl).trans f17;have hb0:=gb0.trans hb0;have hb4:=gb4.trans hb4;have hb8:=gb8.trans hb8;have ag0:aY [0,4,10,11] F2 F5:=aY.sub agx rfl ag0;have e0_b0:=gb0.trans e0_b0;have e0_b4:=gb4.trans e0_b4;have agB2:aY [0,4,8,10,11,12,17] F3 F5:=aY.sub agx rfl agB2;have eB2_b0:=gb0.trans eB2_b0;have eB2_b4:=gb4.trans eB2_b4;have eB2_b8:=gb8.trans eB2_b8;clear agx;clear gb0;clear gb4;clear gb8;simp only[RR,seval];refine aH _ (by first|rfl|exact f18) (fun hc7=>?_) (fun hc7=>?_)
    ·try (cases hc7;done)
     all_goals
      refine aA rfl ?_;simp only[RR,seval];refine hKB2 _ _ ⟨(by repeat (first|exact agB2|refine aY.upd rfl ?_)),(by first|exact eB2_b0|(simp only[nb4_b0,nb0_b4,nb8_b0,nb0_b8,nb8_b4,nb4_b8,aF,seval];first|done|exact eB2_b0)),(by first|exact eB2_b4|(simp only[nb4_b0,nb0_b4,nb8_b0,nb0_b8,nb8_b4,nb4_b8,aF,seval];first|done|exact eB2_b4)),(by first|exact eB2_b8|(simp only[nb4_b0,nb0_b4,nb8_b0,nb0_b8,nb8_b4,nb4_b8,aF,seval];first|done|exact eB2_b8)), ?_⟩;clear hT hU hE hall
      try clear hfe
      refine⟨?_, ?_, ?_⟩
      ·first|(simp only[aF,seval];rw[hw1 (aD hc7)];done)|(simp only[aF,seval,f9];rw[hw2 (aE hc7)])
      ·first|(have hq:=aD hc7;rw[aX (show ¬e.kind=6 by omega)];rfl)|simp_all
      first|(have hq:=aD hc7;rw[aX (show ¬e.kind=7 by omega)];rfl)|(have hq:=aD hc9;rw[aX (show ¬e.kind=7 by omega)];rfl)|simp_all
    try (cases hc7;done)
    all_goals
     refine aB fun _ y=>aA rfl ?_;simp only[f17,RR,seval];apply y;clear y;refine aH _ rfl (fun hc9=>?_) (fun hc9=>?_)
     ·try (cases hc9;done)
      all_goals
       rcases hfe with⟨hl,hr⟩|⟨j,g,hl,hr⟩<;>rw[hl]at hwd<;>simp only at hwd<;>subst hwd
       all_goals
        refine aB fun K y=>?_;refine bK (fun x=>x≠b0∧x≠b4∧x≠b8) [(0,3),(1,3),(2,3),(3,1),(4,3),(5,1),(6,1),(7,3)] [] cX (by kernel_rfl) rfl rfl ?_;simp only[cO,f0,f8,hb0,hb8,cD,Option.getD_some,Option.getD_none,hr,RR,seval];apply y;clear y;refine aH _ rfl (fun hc10=>?_) (fun hc10=>?_)
        ·try (cases hc10;done)
         all_goals
          refine aB fun _ y=>aA rfl ?_;simp only[RR,seval];apply y;clear y;refine aM ?_;simp only[aZ,aL,bJ,RR,seval];refine bB.q ?_ (dM (b:=b0) (by first|exact hb0|(simp only[f0,f4,f6,f8,f9,f10,f11,f12,f17,f18,hb0,hb4,hb8,nb4_b0,nb0_b4,nb8_b0,nb0_b8,nb8_b4,nb4_b8,aC,cD,Option.getD_some,Option.getD_none,Option.isSome_none,Option.isSome_some,hg,hlen,z8,hr,aF,seval];done)|(simp only[f0,f4,f6,f8,f9,f10,f11,f12,f17,f18,hb0,hb4,hb8,nb4_b0,nb0_b4,nb8_b0,nb0_b8,nb8_b4,nb4_b8,aC,cD,Option.getD_some,Option.getD_none,Option.isSome_none,Option.isSome_some,hg,hlen,z8,hr,aF,seval];rfl)));rw[hall];clear hT hU hE hw1 hw2 hr;simp_all
        try (cases hc10;done)
        all_goals
         refine aK ?_;try simp only[RR]
         refine hKB2 _ _ ⟨(by repeat (first|exact agB2|refine aY.upd rfl ?_)),(by first|exact eB2_b0|(simp only[nb4_b0,nb0_b4,nb8_b0,nb0_b8,nb8_b4,nb4_b8,aF,seval];first|done|exact eB2_b0)),(by first|exact eB2_b4|(simp only[nb4_b0,nb0_b4,nb8_b0,nb0_b8,nb8_b4,nb4_b8,aF,seval];first|done|exact eB2_b4)),(by first|exact eB2_b8|(simp only[nb4_b0,nb0_b4,nb8_b0,nb0_b8,nb8_b4,nb4_b8,aF,seval];first|done|exact eB2_b8)), ?_⟩;clear hT hU hE hall
         try clear hfe
         refine⟨?_, ?_, ?_⟩
         ·first|(simp only[aF,seval];rw[hw1 (aD hc7)];done)|(simp only[aF,seval,f9];rw[hw2 (aE hc7)])
         ·first|(have hq:=aD hc7;rw[aX (show ¬e.kind=6 by omega)];rfl)|simp_all
         first|(have hq:=aD hc7;rw[aX (show ¬e.kind=7 by omega)];rfl)|(have hq:=aD hc9;rw[aX (show ¬e.kind=7 by omega)];rfl)|simp_all
     try (cases hc9;done)
     all_goals
      refine aB fun _ y=>aA rfl ?_;simp only[f17,RR,seval];apply y;clear y;refine aH _ rfl (fun hc12=>?_) (fun hc12=>?_)
      ·try (cases hc12;done)
       all_goals
        refine aB fun _ y=>aA rfl ?_;simp only[f8,hb8,aC,hlen,z8,RR,seval]
        repeat' ((first|refine aO (fun h=>?_) (fun h=>?_)|refine aR (fun h=>?_) (fun h=>?_))<;>simp only[h,f4,hb4,RR,seval])
        all_goals
         apply y;clear y;refine aH _ rfl (fun hc13=>?_) (fun hc13=>?_)
         ·try (cases hc13;done)
          all_goals
           refine aB fun _ y=>aA rfl ?_;simp only[RR,seval];apply y;clear y;refine aM ?_;simp only[aZ,aL,bJ,RR,seval];refine bB.q ?_ (dM (b:=b0) (by first|exact hb0|(simp only[f0,f4,f6,f8,f9,f10,f11,f12,f17,f18,hb0,hb4,hb8,nb4_b0,nb0_b4,nb8_b0,nb0_b8,nb8_b4,nb4_b8,aC,cD,Option.getD_some,Option.getD_none,Option.isSome_none,Option.isSome_some,hg,hlen,z8,aF,seval];done)|(simp only[f0,f4,f6,f8,f9,f10,f11,f12,f17,f18,hb0,hb4,hb8,nb4_b0,nb0_b4,nb8_b0,nb0_b8,nb8_b4,nb4_b8,aC,cD,Option.getD_some,Option.getD_none,Option.isSome_none,Option.isSome_some,hg,hlen,z8,aF,seval];rfl)));rw[hall];clear hT hU hE hfe hw1 hw2;simp_all
         try (cases hc13;done)
         all_goals
          refine aK ?_;try simp only[RR]
          refine hKB2 _ _ ⟨(by repeat (first|exact agB2|refine aY.upd rfl ?_)),(by first|exact eB2_b0|(simp only[nb4_b0,nb0_b4,nb8_b0,nb0_b8,nb8_b4,nb4_b8,aF,seval];first|done|exact eB2_b0)),(by first|exact eB2_b4|(simp only[nb4_b0,nb0_b4,nb8_b0,nb0_b8,nb8_b4,nb4_b8,aF,seval];first|done|exact eB2_b4)),(by first|exact eB2_b8|(simp only[nb4_b0,nb0_b4,nb8_b0,nb0_b8,nb8_b4,nb4_b8,aF,seval];first|done|exact eB2_b8)), ?_⟩;clear hT hU hE hall
          try clear hfe
          refine⟨?_, ?_, ?_⟩
          ·first|(simp only[aF,seval];rw[hw1 (aD hc7)];done)|(simp only[aF,seval,f9];rw[hw2 (aE hc7)])
          ·first|(have hq:=aD hc7;rw[aX (show ¬e.kind=6 by omega)];rfl)|simp_all
          first|(have hq:=aD hc7;rw[aX (show ¬e.kind=7 by omega)];rfl)|(have hq:=aD hc9;rw[aX (show ¬e.kind=7 by omega)];rfl)|simp_all
      try (cases hc12;done)
      all_goals
       refine aK ?_;try simp only[RR]
       refine hKB2 _ _ ⟨(by repeat (first|exact agB2|refine aY.upd rfl ?_)),(by first|exact eB2_b0|(simp only[nb4_b0,nb0_b4,nb8_b0,nb0_b8,nb8_b4,nb4_b8,aF,seval];first|done|exact eB2_b0)),(by first|exact eB2_b4|(simp only[nb4_b0,nb0_b4,nb8_b0,nb0_b8,nb8_b4,nb4_b8,aF,seval];first|done|exact eB2_b4)),(by first|exact eB2_b8|(simp only[nb4_b0,nb0_b4,nb8_b0,nb0_b8,nb8_b4,nb4_b8,aF,seval];first|done|exact eB2_b8)), ?_⟩;clear hT hU hE hall
       try clear hfe
       refine⟨?_, ?_, ?_⟩
       ·first|(simp only[aF,seval];rw[hw1 (aD hc7)];done)|(simp only[aF,seval,f9];rw[hw2 (aE hc7)])
       ·first|(have hq:=aD hc7;rw[aX (show ¬e.kind=6 by omega)];rfl)|simp_all
       first|(have hq:=aD hc7;rw[aX (show ¬e.kind=7 by omega)];rfl)|(have hq:=aD hc9;rw[aX (show ¬e.kind=7 by omega)];rfl)|simp_all
   rintro F6 M6 ⟨agx,gb0,gb4,gb8,f9,hA,hB⟩;have f0:=(agx 0 rfl).trans f0;have f4:=(agx 4 rfl).trans f4;have f8:=(agx 8 rfl).trans f8;have f10:=(agx 10 rfl).trans f10;have f11:=(agx 11 rfl).trans f11;have f12:=(agx 12 rfl).trans f12;have f17:=(agx 17 rfl).trans f17;have hb0:=gb0.trans hb0;have hb4:=gb4.trans hb4;have hb8:=gb8.trans hb8;have ag0:aY [0,4,10,11] F2 F6:=aY.sub agx rfl ag0;have e0_b0:=gb0.trans e0_b0;have e0_b4:=gb4.trans e0_b4;clear agx;clear gb0;clear gb4;clear gb8;simp only[RR,seval];rw[hA,hB,Bool.and_true,Bool.and_true]at hall;refine aB fun _ y=>aA rfl ?_;simp only[f0,f8,f9,hb8,RR,seval]
   all_goals try (refine eO (b:=b0) hE (by first|exact hb0|(simp only[f0,f4,f8,f10,f11,f12,f17,f9,hb0,hb4,hb8,nb4_b0,nb0_b4,nb8_b0,nb0_b8,nb8_b4,nb4_b8,aC,cD,Option.getD_some,Option.getD_none,Option.isSome_none,Option.isSome_some,hg,hlen,z8,aF,seval];done)|(simp only[f0,f4,f8,f10,f11,f12,f17,f9,hb0,hb4,hb8,nb4_b0,nb0_b4,nb8_b0,nb0_b8,nb8_b4,nb4_b8,aC,cD,Option.getD_some,Option.getD_none,Option.isSome_none,Option.isSome_some,hg,hlen,z8,aF,seval];rfl)) (fun _=>trivial) ?_;simp only[RR,seval])
   all_goals try ((first|refine aO (fun h=>?_) (fun h=>?_)|refine aR (fun h=>?_) (fun h=>?_))<;>simp only[h,f0,f4,f8,hb4,hb8,RR,seval])
   all_goals try (refine eO (b:=b0) hT (by first|exact hb0|(simp only[f0,f4,f8,f10,f11,f12,f17,f9,hb0,hb4,hb8,nb4_b0,nb0_b4,nb8_b0,nb0_b8,nb8_b4,nb4_b8,aC,cD,Option.getD_some,Option.getD_none,Option.isSome_none,Option.isSome_some,hg,hlen,z8,aF,seval];done)|(simp only[f0,f4,f8,f10,f11,f12,f17,f9,hb0,hb4,hb8,nb4_b0,nb0_b4,nb8_b0,nb0_b8,nb8_b4,nb4_b8,aC,cD,Option.getD_some,Option.getD_none,Option.isSome_none,Option.isSome_some,hg,hlen,z8,aF,seval];rfl)) (fun _=>trivial) ?_;simp only[RR,seval])
   all_goals try ((first|refine aO (fun h=>?_) (fun h=>?_)|refine aR (fun h=>?_) (fun h=>?_))<;>simp only[h,f0,f4,f8,hb4,hb8,RR,seval])
   all_goals try (refine eO (b:=b0) hU (by first|exact hb0|(simp only[f0,f4,f8,f10,f11,f12,f17,f9,hb0,hb4,hb8,nb4_b0,nb0_b4,nb8_b0,nb0_b8,nb8_b4,nb4_b8,aC,cD,Option.getD_some,Option.getD_none,Option.isSome_none,Option.isSome_some,hg,hlen,z8,aF,seval];done)|(simp only[f0,f4,f8,f10,f11,f12,f17,f9,hb0,hb4,hb8,nb4_b0,nb0_b4,nb8_b0,nb0_b8,nb8_b4,nb4_b8,aC,cD,Option.getD_some,Option.getD_none,Option.isSome_none,Option.isSome_some,hg,hlen,z8,aF,seval];rfl)) (fun _=>trivial) ?_;simp only[RR,seval])
   all_goals
    apply y;clear y;refine aH _ rfl (fun hc15=>?_) (fun hc15=>?_)
    ·try (cases hc15;done)
     all_goals
      refine aB fun _ y=>aA rfl ?_;simp only[RR,seval];apply y;clear y;refine aM ?_;simp only[aZ,aL,bJ,RR,seval];refine bB.q ?_ (dM (b:=b0) (by first|exact hb0|(simp only[f0,f4,f8,f10,f11,f12,f17,f9,hb0,hb4,hb8,nb4_b0,nb0_b4,nb8_b0,nb0_b8,nb8_b4,nb4_b8,aC,cD,Option.getD_some,Option.getD_none,Option.isSome_none,Option.isSome_some,hg,hlen,z8,aF,seval];done)|(simp only[f0,f4,f8,f10,f11,f12,f17,f9,hb0,hb4,hb8,nb4_b0,nb0_b4,nb8_b0,nb0_b8,nb8_b4,nb4_b8,aC,cD,Option.getD_some,Option.getD_none,Option.isSome_none,Option.isSome_some,hg,hlen,z8,aF,seval];rfl)));rw[hall];clear hT hU hE hfe hw1 hw2;simp_all
    try (cases hc15;done)
    all_goals
     refine aK ?_;try simp only[RR]
     refine aA rfl ?_;simp only[f12,RR,seval]
     try rw[aV _ (by omega)]
     refine hK0 _ _ hlt0 ⟨by first|rfl|(simp only[aF,seval];rfl),(by first|exact e0_b0|(simp only[nb4_b0,nb0_b4,nb8_b0,nb0_b8,nb8_b4,nb4_b8,aF,seval];first|done|exact e0_b0)),(by first|exact e0_b4|(simp only[nb4_b0,nb0_b4,nb8_b0,nb0_b8,nb8_b4,nb4_b8,aF,seval];first|done|exact e0_b4)),by rw[hall];clear hT hU hE hfe hw1 hw2;simp_all⟩ (by repeat (first|exact ag0|refine aY.upd rfl ?_))
  have hkn0:k=l.length:=by have:=aE hc;omega
  clear hc;refine bI ?_;simp only[RR,seval];refine aB fun _ y=>aA rfl ?_;simp only[RR,seval];apply y;clear y;refine aM ?_;simp only[aZ,aL,bJ,RR,seval];refine bB.q ?_ (dM (b:=b0) (by first|exact hb0|(simp only[f0,f4,f10,f11,f12,hb0,hb4,nb4_b0,nb0_b4,aC,cD,Option.getD_some,Option.getD_none,Option.isSome_none,Option.isSome_some,aF,seval];done)|(simp only[f0,f4,f10,f11,f12,hb0,hb4,nb4_b0,nb0_b4,aC,cD,Option.getD_some,Option.getD_none,Option.isSome_none,Option.isSome_some,aF,seval];rfl)));rw[hall,hkn0,List.drop_length,Ir]
end Go.Proofs.YtaecpjgmcffliaaGreatDoor
namespace Go.Proofs.YtaecpjgmcffliaaGreatDoor
open Go.Al
theorem Hy (p:Pg) (hp:p.ok):cM cG 59 [p.av] (.int .i64 (kU p)):=by
 have hX:kU p=if(p.funs.all fun f=>qJ (rJ p) f.body)=true then(if(p.funs.all fun f=>jG (lF p) f.word f.body)=true then 0 else 5)else 4:=rfl
 have hof:=hp.funs;have hff:=hp.ffit;have hRu:=Hi p hp.ffit;have hKn:=fun b (x:List Sm) (h:rI x)=>Ez p b _ x (bF _) h;have hFi:=fun b (f:Fu) (x:List Sm) (h:rI x)=>Ey p b f _ x (bF _) h;generalize kU p=res at *;generalize lF p=W at *;generalize rJ p=Kf at *;clear hp;obtain⟨vs,aa,fs⟩:=p;simp only[Pg.av,Pg.row,cQ]at hRu hff hof hX⊢;refine bM 37 [.tmp 2] Tryz.func59 rfl rfl rfl rfl ?_;refine aB fun _ y=>aA rfl ?_;simp only[RR,seval];refine aT fun b1 hn1=>?_;simp only[RR,seval];apply y;clear y;refine bN fun F1 M1 hfr hH=>?_;have g1:=hfr 1;have g2:=hfr 2;have gb1:=hH b1
 try simp only[RR,seval]at g1 g2 gb1
 have f1:=g1;clear g1;have f2:=g2;clear g2;have hb1:=gb1;clear gb1;clear hfr hH;refine aB fun _ y=>aA rfl ?_;simp only[f1,hb1,RR,seval];refine rF hRu (cY.refl _) fun v H' M9 ⟨b9,hv,hH'⟩ hk hn=>?_;subst hv;have hb9:M9 b9=some (.rows 11 [eF ⟨vs,aa,fs⟩ b9]):=(hn b9 _ (by rw[hH'];exact iE _ _)).1;have hn9:=(hn b9 _ (by rw[hH'];exact iE _ _)).2;have n91:b9≠b1:=fun e=>by rw[e,hb1]at hn9;cases hn9
 have n19:b1≠b9:=fun e=>n91 e.symm;have hb1:=hk _ _ (fun h=>h) hb1;have hKn:=hKn b9;have hFi:=hFi b9;unfold xG at hKn hFi;generalize eF ⟨vs,aa,fs⟩ b9=RRow at *;simp only[RR,seval];apply y;clear y;refine aJ ?_;refine aB fun _ y=>aA rfl ?_;simp only[f1,hb1,aC,RR,seval];apply y;clear y;refine bN fun F2 M2 hfr hH=>?_;have g1:=hfr 1;have g2:=hfr 2;have g3:=hfr 3;have g11:=hfr 11;have g12:=hfr 12;have g13:=hfr 13;have gb1:=hH b1;have gb9:=hH b9
 try simp only[f1,f2,hb1,hb9,RR,seval]at g1 g2 g3 g11 g12 g13 gb1 gb9
 have f1:=g1;clear g1;have f2:=g2;clear g2;have f3:=g3;clear g3;have f11:=g11;clear g11;have f12:=g12;clear g12;have f13:=g13;clear g13;have hb1:=gb1;clear gb1;have hb9:=gb9;clear gb9;clear hfr hH;refine aN ?_;refine cF [1,3,11,12] (fs.length) (fun k fr M=>fr 13= .int .i64 (k:Nat)∧M b1=M2 b1∧M b9=M2 b9∧(fs.all fun f=>qJ Kf f.body)=((fs.drop k).all fun f=>qJ Kf f.body)) ⟨f13,rfl,rfl,by rw[List.drop_zero]⟩ ?_;rintro k F3 M3 hk0 ⟨fx,gb1,gb9,hall⟩ agx K0 hK0;have f1:=(agx 1 rfl).trans f1;have f3:=(agx 3 rfl).trans f3;have f11:=(agx 11 rfl).trans f11;have f12:=(agx 12 rfl).trans f12;have f13:=fx;clear fx;have hb1:=gb1.trans hb1;have hb9:=gb9.trans hb9;have ag0:=aY.refl [1,3,11,12] F3;have e0_b1:=gb1;clear gb1;have e0_b9:=gb9;clear gb9;clear agx;refine aB fun _ y=>aA rfl ?_;simp only[f12,f13,RR,seval];apply y;clear y;refine aJ ?_;refine aH _ rfl (fun hc=>?_) (fun hc=>?_)
 ·have hlt0:k<fs.length:=by have:=aD hc;omega
  clear hc;have hg:=jK (aG hlt0);have hok:=(hof _ (bE hlt0)).body;rw[bD hlt0,List.all_cons]at hall;generalize fs[k]=f at hg hall hok;have hk:=hKn f.body hok;generalize qJ Kf f.body=KK at hk hall;refine aK ?_;try simp only[RR]
  refine aJ ?_;refine aN ?_;refine aB fun _ y=>aA rfl ?_;simp only[f11,f13,hg,RR,seval];refine aT fun b5 hn5=>?_;have nb5_b1:b5≠b1:=fun e=>by rw[e]at hn5;simp only[hb1,seval,reduceCtorEq]at hn5
  have nb1_b5:b1≠b5:=fun e=>nb5_b1 e.symm;have nb5_b9:b5≠b9:=fun e=>by rw[e]at hn5;simp only[hb9,seval,reduceCtorEq]at hn5
  have nb9_b5:b9≠b5:=fun e=>nb5_b9 e.symm;simp only[RR,seval];apply y;clear y;refine aB fun _ y=>aA rfl ?_;simp only[f3,RR,seval];refine eO (b:=b9) hk (by first|exact hb9|(simp only[hb9,nb9_b5,aF,seval];done)|(simp only[f1,f3,f11,f12,f13,hb1,hb9,n91,n19,nb5_b1,nb1_b5,nb5_b9,nb9_b5,aC,hg,aF,seval];rfl)) (fun _=>trivial) ?_;simp only[RR,seval];apply y;clear y;refine aH _ rfl (fun hc5=>?_) (fun hc5=>?_)
  ·refine aB fun _ y=>aA rfl ?_
   simp only[RR,seval];apply y;clear y;refine aM ?_;simp only[aZ,aL,bJ,RR,seval];refine bB.pure ?_;rw[hX,if_neg (by rw[hall,show KK=false by simpa using hc5];simp)]
  refine aK ?_;try simp only[RR]
  refine aA rfl ?_;simp only[f13,RR,seval]
  try rw[aV _ (by omega)]
  refine hK0 _ _ hlt0 ⟨by first|rfl|(simp only[aF,seval];rfl),(by first|exact e0_b1|(simp only[nb1_b5,aF,seval];first|done|exact e0_b1)),(by first|exact e0_b9|(simp only[nb9_b5,aF,seval];first|done|exact e0_b9)),by rw[hall,show KK=true by simpa using hc5,Bool.true_and]⟩ (by repeat (first|exact ag0|refine aY.upd rfl ?_))
 have hkn0:k=fs.length:=by have:=aE hc;omega
 clear hc;rw[hkn0,List.drop_length,List.all_nil]at hall;rw[if_pos hall]at hX;refine bI ?_;simp only[RR,seval];refine aJ ?_;refine aB fun _ y=>aA rfl ?_;simp only[f1,hb1,aC,RR,seval];apply y;clear y;refine bN fun F4 M4 hfr hH=>?_;have g2:=hfr 2;have g3:=hfr 3;have g24:=hfr 24;have g25:=hfr 25;have g26:=hfr 26;have gb1:=hH b1;have gb9:=hH b9
 try simp only[f3,hb1,hb9,RR,seval]at g2 g3 g24 g25 g26 gb1 gb9
 have f2:=g2;clear g2;have f3:=g3;clear g3;have f24:=g24;clear g24;have f25:=g25;clear g25;have f26:=g26;clear g26;have hb1:=gb1;clear gb1;have hb9:=gb9;clear gb9;clear hfr hH;refine aN ?_;refine cF [3,24,25] (fs.length) (fun j fr M=>fr 26= .int .i64 (j:Nat)∧M b1=M4 b1∧M b9=M4 b9∧(fs.all fun f=>jG W f.word f.body)=((fs.drop j).all fun f=>jG W f.word f.body)) ⟨f26,rfl,rfl,by rw[List.drop_zero]⟩ ?_;rintro j F5 M5 hk2 ⟨fx,gb1,gb9,hall2⟩ agx K2 hK2;have f3:=(agx 3 rfl).trans f3;have f24:=(agx 24 rfl).trans f24;have f25:=(agx 25 rfl).trans f25;have f26:=fx;clear fx;have hb1:=gb1.trans hb1;have hb9:=gb9.trans hb9;have ag2:=aY.refl [3,24,25] F5;have e2_b1:=gb1;clear gb1;have e2_b9:=gb9;clear gb9;clear agx;refine aB fun _ y=>aA rfl ?_;simp only[f25,f26,RR,seval];apply y;clear y;refine aJ ?_;refine aH _ rfl (fun hc=>?_) (fun hc=>?_)
 ·have hlt2:j<fs.length:=by have:=aD hc;omega
  clear hc;have hg:=jK (aG hlt2);have hok:=(hof _ (bE hlt2)).body;rw[bD hlt2,List.all_cons]at hall2;generalize fs[j]=f at hg hall2 hok;have hk:=hFi f f.body hok;simp only[Fu.row]at hk;generalize jG W f.word f.body=KK at hk hall2;refine aK ?_;try simp only[RR]
  refine aJ ?_;refine aN ?_;refine aB fun _ y=>aA rfl ?_;simp only[f24,f26,hg,RR,seval];refine aT fun b7 hn7=>?_;have nb7_b1:b7≠b1:=fun e=>by rw[e]at hn7;simp only[hb1,seval,reduceCtorEq]at hn7
  have nb1_b7:b1≠b7:=fun e=>nb7_b1 e.symm;have nb7_b9:b7≠b9:=fun e=>by rw[e]at hn7;simp only[hb9,seval,reduceCtorEq]at hn7
  have nb9_b7:b9≠b7:=fun e=>nb7_b9 e.symm;simp only[RR,seval];apply y;clear y;refine aB fun _ y=>aA rfl ?_;simp only[f3,RR,seval];refine eO (b:=b9) hk (by first|exact hb9|(simp only[hb9,nb9_b7,aF,seval];done)|(simp only[f3,f24,f25,f26,hb1,hb9,n91,n19,nb7_b1,nb1_b7,nb7_b9,nb9_b7,aC,hg,aF,seval];rfl)) (fun _=>trivial) ?_;simp only[RR,seval];apply y;clear y;refine aH _ rfl (fun hc11=>?_) (fun hc11=>?_)
  ·refine aB fun _ y=>aA rfl ?_
   simp only[RR,seval];apply y;clear y;refine aM ?_;simp only[aZ,aL,bJ,RR,seval];refine bB.pure ?_;rw[hX,if_neg (by rw[hall2,show KK=false by simpa using hc11];simp)]
  refine aK ?_;try simp only[RR]
  refine aA rfl ?_;simp only[f26,RR,seval]
  try rw[aV _ (by omega)]
  refine hK2 _ _ hlt2 ⟨by first|rfl|(simp only[aF,seval];rfl),(by first|exact e2_b1|(simp only[nb1_b7,aF,seval];first|done|exact e2_b1)),(by first|exact e2_b9|(simp only[nb9_b7,aF,seval];first|done|exact e2_b9)),by rw[hall2,show KK=true by simpa using hc11,Bool.true_and]⟩ (by repeat (first|exact ag2|refine aY.upd rfl ?_))
 have hkn2:j=fs.length:=by have:=aE hc;omega
 clear hc;refine bI ?_;simp only[RR,seval];refine aB fun _ y=>aA rfl ?_;simp only[RR,seval];apply y;clear y;refine aM ?_;simp only[aZ,aL,bJ,RR,seval];refine bB.pure ?_;rw[hX,if_pos (by rw[hall2,hkn2,List.drop_length];rfl)]
theorem Hw (p:Pg) (hp:p.ok) (hfew:dH p=true→p.few):cM cG 32 [p.av] (.int .i64 (fN p)):=by
 have hR:=Lr p hp
 have h1:dH p=true→1≤p.funs.length:=fun h=>by
  simp only[dH,bA,bC]at h;exact h.1.1.1.2
 have hC:=fun h=>Vf p (hfew h) (h1 h);have hT:=Hy p hp;clear hfew;have hX:fN p=if dH p=true then(if gY p=0 then kU p else gY p)else 7:=rfl
 generalize fN p=res at *;generalize kU p=ct at *;generalize gY p=ci at *;generalize dH p=rp at *;simp only[Pg.av,Pg.row]at *
 cases rp with
 |false=>
  refine bM 14 [.tmp 2] Tryz.func32 rfl rfl rfl rfl ?_;refine aB fun _ y=>aA rfl ?_;simp only[RR,seval];refine aT fun b1 hn1=>?_;simp only[RR,seval];apply y;clear y;refine aJ ?_;refine aB fun _ y=>aA rfl ?_;simp only[RR,seval];refine aP (hR) ?_;simp only[RR,seval];apply y;clear y;refine aH true rfl (fun _=>?_) (fun hc=>by cases hc);refine aB fun _ y=>aA rfl ?_;simp only[RR,seval];apply y;clear y;refine aM ?_;simp only[aZ,aL,bJ,RR,seval];refine bB.pure ?_;rw[hX];rfl
 |true=>
  have hC:=hC rfl;rw[if_pos rfl]at hX;refine bM 14 [.tmp 2] Tryz.func32 rfl rfl rfl rfl ?_;refine aB fun _ y=>aA rfl ?_;simp only[RR,seval];refine aT fun b1 hn1=>?_;simp only[RR,seval];apply y;clear y;refine aJ ?_;refine aB fun _ y=>aA rfl ?_;simp only[RR,seval];refine aP (hR) ?_;simp only[RR,seval];apply y;clear y;refine aH false rfl (fun hc=>by cases hc) (fun _=>?_);refine aK ?_;try simp only[RR]
  refine aJ ?_;refine aB fun _ y=>aA rfl ?_;simp only[RR,seval];refine aP (hC) ?_;simp only[RR,seval];apply y;clear y;refine aB fun _ y=>aA rfl ?_;simp only[RR,seval];apply y;clear y;refine aH _ rfl (fun hc4=>?_) (fun hc4=>?_)
  ·refine aB fun _ y=>aA rfl ?_
   simp only[RR,seval];apply y;clear y;refine aM ?_;simp only[aZ,aL,bJ,RR,seval];refine bB.pure ?_;rw[hX,if_neg (by simpa using hc4)]
  refine aK ?_;try simp only[RR]
  refine aB fun _ y=>aA rfl ?_;simp only[RR,seval];refine aP (hT) ?_;simp only[RR,seval];apply y;clear y;refine aM ?_;simp only[aZ,aL,bJ,RR,seval];refine bB.pure ?_;rw[hX,if_pos (by simpa using hc4)]
end Go.Proofs.YtaecpjgmcffliaaGreatDoor
