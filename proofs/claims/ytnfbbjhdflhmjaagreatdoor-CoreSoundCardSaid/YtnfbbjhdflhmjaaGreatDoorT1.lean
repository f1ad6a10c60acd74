/- Chapter 17: types, in plain Lean. Chapter 17, the judge's: types of expressions. Chapter 17, the judge's: what is known; what fits; Expr, Check, Sound. Chapter 17, the judge's: what fits; Expr, Check, Sound. Chapter 17, the judge's: Expr, Check, Sound. -/
import Derived.Test.YtnfbbjhdflhmjaaGreatDoorSy2
import Derived.Test.YtnfbbjhdflhmjaaGreatDoorSc1
import Derived.Test.YtnfbbjhdflhmjaaGreatDoorAl4
import Derived.Test.YtnfbbjhdflhmjaaGreatDoorSy1
set_option linter.unusedSimpArgs false
set_option linter.unusedVariables false
set_option maxRecDepth 10000
namespace Go.Al
def Vz (p:Pg) (s:dD):Option Fu:=p.funs.find? fun f=>decide (f.name=s)
def sE (p:Pg) (s:dD):Bool:=(Vz p s).isSome
def jX (p:Pg) (s:dD):Bool:=match Vz p s with |some f=>f.word|none=>false
mutual
def Jk (W:dD→Bool):Ex→Int
 | .mk k o _ s l=>if k=1∨k=2∨k=5 then 1 else if k=3 then(if fV W l 1=true then 1 else 0)else if k=4 then(if(W s&&fV W l 1)=true then 1 else 0)
   else if k=6 then(if fV W l 1=true then(if o=14∨o=15 then 2 else 1)else 0)else if k=7∨k=8∨k=9 then(if fV W l 2=true then 2 else 0)else 0
def fV (W:dD→Bool):List Ex→Int→Bool
 |[],_=>true
 |e::l,t=>decide (Jk W e=t)&&fV W l t
end
theorem Jj (W:dD→Bool) (e:Ex):Jk W e=if e.kind=1∨e.kind=2∨e.kind=5 then 1 else if e.kind=3 then(if fV W e.kids 1=true then 1 else 0)else if e.kind=4 then(if(W e.name&&fV W e.kids 1)=true then 1 else 0)
   else if e.kind=6 then(if fV W e.kids 1=true then(if e.op=14∨e.op=15 then 2 else 1)else 0)else if e.kind=7∨e.kind=8∨e.kind=9 then(if fV W e.kids 2=true then 2 else 0)else 0:=by
 cases e;simp only[Jk,Ex.kind,Ex.op,Ex.name,Ex.kids];rfl
theorem rC (W:dD→Bool) (e:Ex) (l:List Ex) (t:Int):fV W (e::l) t=(decide (Jk W e=t)&&fV W l t):=by simp only[fV]
theorem tN (W:dD→Bool) (t:Int):fV W [] t=true:=by simp only[fV]
mutual
def Tl (K:dD→Bool):Ex→Bool
 | .mk k _ _ s l=>(!decide (k=4)||K s)&&Dr K l
def Dr (K:dD→Bool):List Ex→Bool
 |[]=>true
 |e::l=>Tl K e&&Dr K l
end
theorem Tk (K:dD→Bool) (e:Ex):Tl K e=((!decide (e.kind=4)||K e.name)&&Dr K e.kids):=by
 cases e;simp only[Tl,Ex.kind,Ex.name,Ex.kids];rfl
theorem sZ (K:dD→Bool) (e:Ex) (l:List Ex):Dr K (e::l)=(Tl K e&&Dr K l):=by simp only[Dr]
theorem wK (K:dD→Bool):Dr K []=true:=by simp only[Dr]
mutual
def N2 (K:dD→Bool):Sm→Bool
 | .mk k s l t u=>(!decide (k=6)||K s)&&Dr K l&&rO K t&&rO K u
def rO (K:dD→Bool):List Sm→Bool
 |[]=>true
 |e::l=>N2 K e&&rO K l
end
theorem Kd (K:dD→Bool) (e:Sm):N2 K e=((!decide (e.kind=6)||K e.name)&&Dr K e.es&&rO K e.thn&&rO K e.els):=by
 cases e;simp only[N2,Sm.kind,Sm.name,Sm.es,Sm.thn,Sm.els];rfl
theorem yA (K:dD→Bool) (e:Sm) (l:List Sm):rO K (e::l)=(N2 K e&&rO K l):=by simp only[rO]
theorem Ms (K:dD→Bool):rO K []=true:=by simp only[rO]
def mO (k:Int):Int:=if k=4∨k=5 then 2 else 1
mutual
def Wa (W:dD→Bool) (w:Bool):Sm→Bool
 | .mk k s l t u=>fV W l (mO k)&& !(decide (k=6)&&W s)&& !(decide (k=7)&&decide (0<l.length)&& !w)&&jA W w t&&jA W w u
def jA (W:dD→Bool) (w:Bool):List Sm→Bool
 |[]=>true
 |e::l=>Wa W w e&&jA W w l
end
theorem Du (W:dD→Bool) (w:Bool) (e:Sm):Wa W w e=(fV W e.es (mO e.kind)&& !(decide (e.kind=6)&&W e.name)&& !(decide (e.kind=7)&&decide (0<e.es.length)&& !w)&&jA W w e.thn&&jA W w e.els):=by
 cases e;simp only[Wa,Sm.kind,Sm.name,Sm.es,Sm.thn,Sm.els];rfl
theorem uN (W:dD→Bool) (w:Bool) (e:Sm) (l:List Sm):jA W w (e::l)=(Wa W w e&&jA W w l):=by simp only[jA]
theorem Hb (W:dD→Bool) (w:Bool):jA W w []=true:=by simp only[jA]
def Nc (p:Pg) (e:Ex):Int×Int:=if Tl (sE p) e=true then(if Jk (jX p) e=0 then(0,5)else(Jk (jX p) e,0))else(0,4)
def kL (p:Pg):Int:=if(p.funs.all fun f=>rO (sE p) f.body)=true then(if(p.funs.all fun f=>jA (jX p) f.word f.body)=true then 0 else 5)else 4
theorem yI: ∀(l:List Fu) (s:dD),l.find? (fun f=>decide (f.name=s))=(bY (l.map Fu.name) s).bind fun k=>l[k]?
 |[],s=>by simp [bY]
 |f::l,s=>by
  have ih:=yI l s;simp only[List.map_cons,bY];by_cases h:f.name=s
  ·simp [h]
  simp only[List.find?_cons,aU h,if_neg h,ih];cases bY (l.map Fu.name) s<;>simp
theorem lI (p:Pg) (s:dD):Vz p s=(bY (p.funs.map Fu.name) s).bind fun k=>p.funs[k]?:=yI _ _
end Go.Al
namespace Go.Proofs.YtnfbbjhdflhmjaaGreatDoor
open Go.Al
def dT (p:Pg):Int:=if eD p=true then(if gQ p=0 then kL p else gQ p)else 7
end Go.Proofs.YtnfbbjhdflhmjaaGreatDoor
namespace Go.Proofs.YtnfbbjhdflhmjaaGreatDoor
open Go.Al
theorem kU (p:Pg) (hp:cI p.funs) (s:dD):cJ cK 76 [p.av, .str s] (.int .i64 (gG (bY (p.funs.map Fu.name) s))):=by
 obtain⟨vs,aa,fs⟩:=p;simp only[Pg.av,Pg.row,cI]at *;refine bI 22 [.tmp 4] Tryz.func76 rfl rfl rfl rfl ?_;refine aB fun _ y=>aA rfl ?_;simp only[RR,seval];refine aP fun b2 hn2=>?_;simp only[RR,seval];apply y;clear y;refine aI ?_;refine aB fun _ y=>aA rfl ?_;simp only[RR,seval];apply y;clear y;refine bM fun F1 M1 hfr hH=>?_;have g1:=hfr 1;have g2:=hfr 2;have g4:=hfr 4;have g5:=hfr 5;have gb2:=hH b2
 try simp only[RR,seval]at g1 g2 g4 g5 gb2
 have f1:=g1;clear g1;have f2:=g2;clear g2;have f4:=g4;clear g4;have f5:=g5;clear g5;have hb2:=gb2;clear gb2;clear hfr hH;refine aM ?_;refine bZ [1,2] (fs.length) (fun k fr M=>fr 5= .int .i64 (k:Nat)∧M b2=M1 b2∧((fs.map Fu.name).take k).contains s=false) ⟨f5,rfl,by simp⟩ ?_;rintro k F2 M2 hk0 ⟨fx,gb2,hno⟩ agx K0 hK0;have f1:=(agx 1 rfl).trans f1;have f2:=(agx 2 rfl).trans f2;have f5:=fx;clear fx;have hb2:=gb2.trans hb2;have ag0:=bC.refl [1,2] F2;have e0_b2:=gb2;clear gb2;clear agx;refine aI ?_;refine aB fun _ y=>aA rfl ?_;simp only[f2,f5,hb2,aD,RR,seval];apply y;clear y;refine aH _ rfl (fun hc=>?_) (fun hc=>?_)
 ·have hlt0:k<fs.length:=by have:=aC hc;omega
  clear hc;have hg:=kK (aG hlt0);have htk:(fs.map Fu.name).take (k+1)=(fs.map Fu.name).take k++[fs[k].name]:=by rw[bR (by simpa using hlt0)];simp
  have hdr:(fs.map Fu.name).drop k=fs[k].name::(fs.map Fu.name).drop (k+1):=by rw[bD (by simpa using hlt0)];simp
  generalize fs[k]=f at hg htk hdr;refine aK ?_;try simp only[RR]
  refine aI ?_;refine aM ?_;refine aB fun _ y=>aA rfl ?_;simp only[f1,f2,f5,hb2,hg,RR,seval];apply y;clear y;refine aH _ rfl (fun hc4=>?_) (fun hc4=>?_)
  ·refine aB fun _ y=>aA rfl ?_
   simp only[f5,RR,seval];apply y;clear y;refine aO ?_;simp only[bB,aL,bH,RR,seval];refine aZ.pure ?_;rw[pG _ _ _ hno,hdr,bY,if_pos (aC hc4)];simp [gG]
  refine aK ?_;try simp only[RR]
  refine aA rfl ?_;simp only[f5,RR,seval]
  try rw[aQ _ (by omega)]
  refine hK0 _ _ hlt0 ⟨by first|rfl|(simp only[aJ,seval];rfl),(by first|exact e0_b2|(simp only[aJ,seval];first|done|exact e0_b2)),by rw[htk,List.contains_append,hno,Bool.false_or];have:=aF hc4;simp;exact fun e=>this e.symm⟩ (by repeat (first|exact ag0|refine bC.upd rfl ?_))
 have hkn0:k=fs.length:=by have:=aF hc;omega
 clear hc;refine bF ?_;simp only[RR,seval];refine aB fun _ y=>aA rfl ?_;simp only[RR,seval];apply y;clear y;refine aO ?_;simp only[bB,aL,bH,RR,seval];refine aZ.pure ?_;rw[hkn0]at hno;rw[pG _ _ fs.length hno,List.drop_eq_nil_of_le (by simp)];rfl
def Ur (p:Pg) (l:List Ex):Prop:= ∀e∈l,cJ cK 115 [p.av, .agg e.row] (.int .i64 (Jk (jX p) e))
theorem Cy (p:Pg) (l:List Ex) (hl:cI l) (h:Ur p l):cJ cK 79 [p.av, .isl 5 (l.map Ex.row)] (.bool (fV (jX p) l 1)):=by
 simp only[cI]at hl;unfold Ur at h;generalize jX p=W at *;simp only[Pg.av,Pg.row]at *;refine bI 19 [.tmp 4] Tryz.func79 rfl rfl rfl rfl ?_;refine aB fun _ y=>aA rfl ?_;simp only[RR,seval];refine aP fun b2 hn2=>?_;simp only[RR,seval];apply y;clear y;refine aI ?_;refine aB fun _ y=>aA rfl ?_;simp only[RR,seval];apply y;clear y;refine bM fun F1 M1 hfr hH=>?_;have g1:=hfr 1;have g2:=hfr 2;have g4:=hfr 4;have g5:=hfr 5;have gb2:=hH b2
 try simp only[RR,seval]at g1 g2 g4 g5 gb2
 have f1:=g1;clear g1;have f2:=g2;clear g2;have f4:=g4;clear g4;have f5:=g5;clear g5;have hb2:=gb2;clear gb2;clear hfr hH;refine aM ?_;refine bZ [1,2] (l.length) (fun k fr M=>fr 5= .int .i64 (k:Nat)∧M b2=M1 b2∧fV W l 1=fV W (l.drop k) 1) ⟨f5,rfl,by rw[List.drop_zero]⟩ ?_;rintro k F2 M2 hk0 ⟨fx,gb2,hall⟩ agx K0 hK0;have f1:=(agx 1 rfl).trans f1;have f2:=(agx 2 rfl).trans f2;have f5:=fx;clear fx;have hb2:=gb2.trans hb2;have ag0:=bC.refl [1,2] F2;have e0_b2:=gb2;clear gb2;clear agx;refine aI ?_;refine aB fun _ y=>aA rfl ?_;simp only[f1,f5,aD,RR,seval];apply y;clear y;refine aH _ rfl (fun hc=>?_) (fun hc=>?_)
 ·have hlt0:k<l.length:=by have:=aC hc;omega
  clear hc;have hg:=uL (aG hlt0);have hm:=h _ (bA hlt0);rw[bD hlt0,rC]at hall;generalize l[k]=e at hg hall hm;rw[e.row_eq]at hm;generalize Jk W e=t at hall hm;refine aK ?_;try simp only[RR]
  refine aI ?_;refine aM ?_;refine aB fun K y=>?_;refine bJ (fun x=>x≠b2) [(0,1),(1,3),(2,3),(3,3),(4,1),(5,1),(6,3)] [] dG (by kernel_rfl) rfl rfl ?_;simp only[cF,f1,f2,f5,hb2,hg,RR,seval];refine aN (hm) ?_;simp only[RR,seval];apply y;clear y;refine aH _ rfl (fun hc4=>?_) (fun hc4=>?_)
  ·refine aB fun _ y=>aA rfl ?_
   simp only[RR,seval];apply y;clear y;refine aO ?_;simp only[bB,aL,bH,RR,seval];refine aZ.pure ?_;rw[hall,show decide (t=1)=false by simpa using hc4,Bool.false_and]
  refine aK ?_;try simp only[RR]
  refine aA rfl ?_;simp only[f5,RR,seval]
  try rw[aQ _ (by omega)]
  refine hK0 _ _ hlt0 ⟨by first|rfl|(simp only[aJ,seval];rfl),(by first|exact e0_b2|(simp only[aJ,seval];first|done|exact e0_b2)),by rw[hall,show decide (t=1)=true by simpa using hc4,Bool.true_and]⟩ (by repeat (first|exact ag0|refine bC.upd rfl ?_))
 have hkn0:k=l.length:=by have:=aF hc;omega
 clear hc;refine bF ?_;simp only[RR,seval];refine aB fun _ y=>aA rfl ?_;simp only[RR,seval];apply y;clear y;refine aO ?_;simp only[bB,aL,bH,RR,seval];refine aZ.pure ?_;rw[hall,hkn0,List.drop_length,tN]
theorem Db (p:Pg) (l:List Ex) (hl:cI l) (h:Ur p l):cJ cK 78 [p.av, .isl 5 (l.map Ex.row)] (.bool (fV (jX p) l 2)):=by
 simp only[cI]at hl;unfold Ur at h;generalize jX p=W at *;simp only[Pg.av,Pg.row]at *;refine bI 19 [.tmp 4] Tryz.func78 rfl rfl rfl rfl ?_;refine aB fun _ y=>aA rfl ?_;simp only[RR,seval];refine aP fun b2 hn2=>?_;simp only[RR,seval];apply y;clear y;refine aI ?_;refine aB fun _ y=>aA rfl ?_;simp only[RR,seval];apply y;clear y;refine bM fun F1 M1 hfr hH=>?_;have g1:=hfr 1;have g2:=hfr 2;have g4:=hfr 4;have g5:=hfr 5;have gb2:=hH b2
 try simp only[RR,seval]at g1 g2 g4 g5 gb2
 have f1:=g1;clear g1;have f2:=g2;clear g2;have f4:=g4;clear g4;have f5:=g5;clear g5;have hb2:=gb2;clear gb2;clear hfr hH;refine aM ?_;refine bZ [1,2] (l.length) (fun k fr M=>fr 5= .int .i64 (k:Nat)∧M b2=M1 b2∧fV W l 2=fV W (l.drop k) 2) ⟨f5,rfl,by rw[List.drop_zero]⟩ ?_;rintro k F2 M2 hk0 ⟨fx,gb2,hall⟩ agx K0 hK0;have f1:=(agx 1 rfl).trans f1;have f2:=(agx 2 rfl).trans f2;have f5:=fx;clear fx;have hb2:=gb2.trans hb2;have ag0:=bC.refl [1,2] F2;have e0_b2:=gb2;clear gb2;clear agx;refine aI ?_;refine aB fun _ y=>aA rfl ?_;simp only[f1,f5,aD,RR,seval];apply y;clear y;refine aH _ rfl (fun hc=>?_) (fun hc=>?_)
 ·have hlt0:k<l.length:=by have:=aC hc;omega
  clear hc;have hg:=uL (aG hlt0);have hm:=h _ (bA hlt0);rw[bD hlt0,rC]at hall;generalize l[k]=e at hg hall hm;rw[e.row_eq]at hm;generalize Jk W e=t at hall hm;refine aK ?_;try simp only[RR]
  refine aI ?_;refine aM ?_;refine aB fun K y=>?_;refine bJ (fun x=>x≠b2) [(0,1),(1,3),(2,3),(3,3),(4,1),(5,1),(6,3)] [] dG (by kernel_rfl) rfl rfl ?_;simp only[cF,f1,f2,f5,hb2,hg,RR,seval];refine aN (hm) ?_;simp only[RR,seval];apply y;clear y;refine aH _ rfl (fun hc4=>?_) (fun hc4=>?_)
  ·refine aB fun _ y=>aA rfl ?_
   simp only[RR,seval];apply y;clear y;refine aO ?_;simp only[bB,aL,bH,RR,seval];refine aZ.pure ?_;rw[hall,show decide (t=2)=false by simpa using hc4,Bool.false_and]
  refine aK ?_;try simp only[RR]
  refine aA rfl ?_;simp only[f5,RR,seval]
  try rw[aQ _ (by omega)]
  refine hK0 _ _ hlt0 ⟨by first|rfl|(simp only[aJ,seval];rfl),(by first|exact e0_b2|(simp only[aJ,seval];first|done|exact e0_b2)),by rw[hall,show decide (t=2)=true by simpa using hc4,Bool.true_and]⟩ (by repeat (first|exact ag0|refine bC.upd rfl ?_))
 have hkn0:k=l.length:=by have:=aF hc;omega
 clear hc;refine bF ?_;simp only[RR,seval];refine aB fun _ y=>aA rfl ?_;simp only[RR,seval];apply y;clear y;refine aO ?_;simp only[bB,aL,bH,RR,seval];refine aZ.pure ?_;rw[hall,hkn0,List.drop_length,tN]
theorem Iw (p:Pg) (hp:p.ok) (n:Nat): ∀e:Ex,e.sz≤n→e.ok→cJ cK 115 [p.av, .agg e.row] (.int .i64 (Jk (jX p) e)):=by
 induction n using Nat.strongRecOn with
 |_ n ih=>
  intro e hn he;have hz:=e.sz_eq;have hk:=he.kids;have hall:Ur p e.kids:=fun x hx=>ih x.sz (by have:=iI hx;omega) x (aY _) (hk.all x hx);have hW:=Cy p e.kids hk.fit hall;have hB:=Db p e.kids hk.fit hall;have hF:=kU p hp.ffit e.name;have hty:=Jj (jX p) e;have hwd:jX p e.name=match(bY (p.funs.map Fu.name) e.name).bind (fun k=>p.funs[k]?)with |some f=>f.word|none=>false:=by simp only[jX,lI]<;>rfl
  have hpl:=fun k h=>eL (p.funs.map Fu.name) e.name k h;have hff:=hp.ffit;generalize Jk (jX p) e=res at *;generalize jX p e.name=WD at *;generalize fV (jX p) e.kids 1=A1 at *;generalize fV (jX p) e.kids 2=A2 at *
  obtain⟨g,hg1,hg2⟩: ∃g:Fu,(decide ((0:Int)≤gG (bY (p.funs.map Fu.name) e.name))=true→(p.funs.map Fu.row)[(gG (bY (p.funs.map Fu.name) e.name)).toNat]?=some [.str g.name, .isl 1 (g.params.map bK), .isl 1 (g.locs.map bK), .bool g.word, .isl 5 (g.body.map Sm.row)])∧WD=(decide ((0:Int)≤gG (bY (p.funs.map Fu.name) e.name))&&g.word):=by
   cases hc:bY (p.funs.map Fu.name) e.name with
   |none=>
    rw[hc]at hwd;exact⟨⟨[],[],[],false,[]⟩,fun h=>by simp [gG]at h,by rw[hwd];rfl⟩
   |some k=>
    rw[hc]at hwd;have hlt:=(hpl k hc).1;rw[aD]at hlt;refine⟨p.funs[k],fun _=>?_, ?_⟩
    ·simp only[gG,Int.toNat_natCast]
     exact kK (aG hlt)
    rw[hwd];simp [gG,aG hlt]
  have z2:decide ((0:Int)≤gG (bY (p.funs.map Fu.name) e.name))=true→(0:Int)≤gG (bY (p.funs.map Fu.name) e.name):=aC;generalize gG (bY (p.funs.map Fu.name) e.name)=pl at *;clear hall ih hp hpl hwd;subst hg2;rw[e.row_eq];simp only[Pg.av,Pg.row,cI]at *;refine bI 63 [.tmp 4] Tryz.func115 rfl rfl rfl rfl ?_;refine aB fun _ y=>aA rfl ?_;simp only[RR,seval];refine aP fun b2 hn2=>?_;simp only[RR,seval];refine aP fun b3 hn3=>?_;have nb3_b2:b3≠b2:=fun e=>by rw[e]at hn3;simp only[RR,seval,reduceCtorEq]at hn3
  have nb2_b3:b2≠b3:=fun e=>nb3_b2 e.symm;simp only[RR,seval];apply y;clear y;refine aI ?_;refine aB fun _ y=>aA rfl ?_;simp only[RR,seval];apply y;clear y;refine aM ?_;refine aI ?_;refine aB fun _ y=>aA rfl ?_;simp only[RR,seval];apply y;clear y;refine bM fun F1 M1 hfr hH=>?_;have g2:=hfr 2;have g3:=hfr 3;have g4:=hfr 4;have g7:=hfr 7;have g8:=hfr 8;have gb2:=hH b2;have gb3:=hH b3
  try simp only[nb2_b3,RR,seval]at g2 g3 g4 g7 g8 gb2 gb3
  have f2:=g2;clear g2;have f3:=g3;clear g3;have f4:=g4;clear g4;have f7:=g7;clear g7;have f8:=g8;clear g8;have hb2:=gb2;clear gb2;have hb3:=gb3;clear gb3;clear hfr hH;refine dS (fun fr M=>bC [2,3,4,7] F1 fr∧M b2=M1 b2∧M b3=M1 b3∧fr 8= .bool (decide (e.kind=1∨e.kind=2∨e.kind=5))) (fun KC2 hKC2=>?_) ?_
  ·have agC2:=bC.refl [2,3,4,7] F1
   have eC2_b2:M1 b2=M1 b2:=rfl;have eC2_b3:M1 b3=M1 b3:=rfl;refine aH _ (by first|rfl|exact f8) (fun hc2=>?_) (fun hc2=>?_)
   ·refine aK ?_;try simp only[RR]
    refine hKC2 _ _ ⟨(by repeat (first|exact agC2|refine bC.upd rfl ?_)),(by first|exact eC2_b2|(simp only[nb3_b2,nb2_b3,aJ,seval];first|done|exact eC2_b2)),(by first|exact eC2_b3|(simp only[nb3_b2,nb2_b3,aJ,seval];first|done|exact eC2_b3)), ?_⟩
    first|(rw[f8,hc2];simp [aC hc2])|(simp only[aJ,seval];simp [hc2,hc3,aC];done)|(simp only[aJ,seval];simp_all)
   refine aB fun _ y=>aA rfl ?_;simp only[f7,RR,seval];apply y;clear y;refine aH _ (by first|rfl|exact f8) (fun hc3=>?_) (fun hc3=>?_)
   ·refine aK ?_;try simp only[RR]
    refine hKC2 _ _ ⟨(by repeat (first|exact agC2|refine bC.upd rfl ?_)),(by first|exact eC2_b2|(simp only[nb3_b2,nb2_b3,aJ,seval];first|done|exact eC2_b2)),(by first|exact eC2_b3|(simp only[nb3_b2,nb2_b3,aJ,seval];first|done|exact eC2_b3)), ?_⟩
    first|(rw[f8,hc2];simp [aC hc2])|(simp only[aJ,seval];simp [hc3,aC];done)|(simp only[aJ,seval];simp_all)
   refine aA rfl ?_;simp only[f7,RR,seval];refine hKC2 _ _ ⟨(by repeat (first|exact agC2|refine bC.upd rfl ?_)),(by first|exact eC2_b2|(simp only[nb3_b2,nb2_b3,aJ,seval];first|done|exact eC2_b2)),(by first|exact eC2_b3|(simp only[nb3_b2,nb2_b3,aJ,seval];first|done|exact eC2_b3)), ?_⟩
   first|(rw[f8,hc2];simp [aC hc2])|(simp only[aJ,seval];simp [hc2,hc3,aC];done)|(simp only[aJ,seval];simp_all)
  rintro F2 M2 ⟨agx,gb2,gb3,f8⟩;have f2:=(agx 2 rfl).trans f2;have f3:=(agx 3 rfl).trans f3;have f4:=(agx 4 rfl).trans f4;have f7:=(agx 7 rfl).trans f7;have hb2:=gb2.trans hb2;have hb3:=gb3.trans hb3;clear agx;clear gb2;clear gb3;simp only[RR,seval];refine aH _ (by first|rfl|exact f8) (fun hc4=>?_) (fun hc4=>?_)
  ·refine aB fun _ y=>aA rfl ?_
   simp only[RR,seval];apply y;clear y;refine aO ?_;simp only[bB,aL,bH,RR,seval];refine aZ.pure ?_;rw[hty];clear hW hB hF hty hg1;simp_all
   all_goals (intros;omega)
  refine aB fun _ y=>aA rfl ?_;simp only[f7,RR,seval];apply y;clear y;refine aH _ rfl (fun hc6=>?_) (fun hc6=>?_)
  ·refine aB fun _ y=>aA rfl ?_
   simp only[f2,f3,hb2,hb3,RR,seval];refine aN (hW) ?_;simp only[RR,seval];apply y;clear y;refine aH _ rfl (fun hc7=>?_) (fun hc7=>?_)
   ·refine aB fun _ y=>aA rfl ?_
    simp only[RR,seval];apply y;clear y;refine aO ?_;simp only[bB,aL,bH,RR,seval];refine aZ.pure ?_;rw[hty];clear hW hB hF hty hg1;simp_all
    all_goals (intros;omega)
   refine aK ?_;try simp only[RR]
   refine aB fun _ y=>aA rfl ?_;simp only[RR,seval];apply y;clear y;refine aO ?_;simp only[bB,aL,bH,RR,seval];refine aZ.pure ?_;rw[hty];clear hW hB hF hty hg1;simp_all
   all_goals (intros;omega)
  refine aB fun _ y=>aA rfl ?_;simp only[f7,RR,seval];apply y;clear y;refine aH _ rfl (fun hc9=>?_) (fun hc9=>?_)
  ·refine aB fun _ y=>aA rfl ?_
   simp only[f2,f3,hb2,hb3,RR,seval];refine aN (hF) ?_;simp only[RR,seval];apply y;clear y;refine aB fun _ y=>aA rfl ?_;simp only[RR,seval]
   all_goals try ((first|refine aR (fun h=>?_) (fun h=>?_)|refine aV (fun h=>?_) (fun h=>?_))<;>simp only[h,f2,hb2,hg1,z2,RR,seval])
   all_goals try ((first|refine aR (fun h=>?_) (fun h=>?_)|refine aV (fun h=>?_) (fun h=>?_))<;>simp only[h,f2,f3,hb2,hb3,RR,seval])
   all_goals try (refine aN (hW) ?_;simp only[RR,seval])
   all_goals
    apply y;clear y;refine aH _ rfl (fun hc11=>?_) (fun hc11=>?_)
    ·try (cases hc11;done)
     all_goals
      refine aB fun _ y=>aA rfl ?_;simp only[RR,seval];apply y;clear y;refine aO ?_;simp only[bB,aL,bH,RR,seval];refine aZ.pure ?_;rw[hty];clear hW hB hF hty hg1;simp_all
      all_goals (intros;omega)
    try (cases hc11;done)
    all_goals
     refine aK ?_;try simp only[RR]
     refine aB fun _ y=>aA rfl ?_;simp only[RR,seval];apply y;clear y;refine aO ?_;simp only[bB,aL,bH,RR,seval];refine aZ.pure ?_;rw[hty];clear hW hB hF hty hg1;simp_all
     all_goals (intros;omega)
  refine aB fun _ y=>aA rfl ?_;simp only[f7,RR,seval];apply y;clear y;refine aH _ rfl (fun hc13=>?_) (fun hc13=>?_)
  ·refine aI ?_
   refine aB fun _ y=>aA rfl ?_;simp only[f2,f3,hb2,hb3,RR,seval];refine aN (hW) ?_;simp only[RR,seval];apply y;clear y;refine aH _ rfl (fun hc14=>?_) (fun hc14=>?_)
   ·refine aB fun _ y=>aA rfl ?_
    simp only[RR,seval];apply y;clear y;refine aO ?_;simp only[bB,aL,bH,RR,seval];refine aZ.pure ?_;rw[hty];clear hW hB hF hty hg1;simp_all
    all_goals (intros;omega)
   refine aK ?_;try simp only[RR]
   refine aI ?_;refine aB fun _ y=>aA rfl ?_;simp only[f3,hb3,RR,seval]
   repeat' ((first|refine aR (fun h=>?_) (fun h=>?_)|refine aV (fun h=>?_) (fun h=>?_))<;>simp only[h,f3,hb3,RR,seval])
   all_goals
    apply y;clear y;refine aH _ rfl (fun hc16=>?_) (fun hc16=>?_)
    ·try (cases hc16;done)
     all_goals
      refine aB fun _ y=>aA rfl ?_;simp only[RR,seval];apply y;clear y;refine aO ?_;simp only[bB,aL,bH,RR,seval];refine aZ.pure ?_;rw[hty];clear hW hB hF hty hg1;simp_all
      all_goals (intros;omega)
    try (cases hc16;done)
    all_goals
     refine aK ?_;try simp only[RR]
     refine aB fun _ y=>aA rfl ?_;simp only[RR,seval];apply y;clear y;refine aO ?_;simp only[bB,aL,bH,RR,seval];refine aZ.pure ?_;rw[hty];clear hW hB hF hty hg1;simp_all
     all_goals (intros;omega)
  refine aI ?_;refine aB fun _ y=>aA rfl ?_;simp only[f7,RR,seval];apply y;clear y;refine bM fun F3 M3 hfr hH=>?_;have g2:=hfr 2;have g3:=hfr 3;have g4:=hfr 4;have g7:=hfr 7;have g55:=hfr 55;have gb2:=hH b2;have gb3:=hH b3
  try simp only[f2,f3,f4,f7,hb2,hb3,RR,seval]at g2 g3 g4 g7 g55 gb2 gb3
  have f2:=g2;clear g2;have f3:=g3;clear g3;have f4:=g4;clear g4;have f7:=g7;clear g7;have f55:=g55;clear g55;have hb2:=gb2;clear gb2;have hb3:=gb3;clear gb3;clear hfr hH;refine dS (fun fr M=>bC [2,3,4] F3 fr∧M b2=M3 b2∧M b3=M3 b3∧fr 55= .bool (decide (e.kind=7∨e.kind=8∨e.kind=9))) (fun KC19 hKC19=>?_) ?_
  ·have agC19:=bC.refl [2,3,4] F3
   have eC19_b2:M3 b2=M3 b2:=rfl;have eC19_b3:M3 b3=M3 b3:=rfl;refine aH _ (by first|rfl|exact f55) (fun hc19=>?_) (fun hc19=>?_)
   ·refine aK ?_;try simp only[RR]
    refine hKC19 _ _ ⟨(by repeat (first|exact agC19|refine bC.upd rfl ?_)),(by first|exact eC19_b2|(simp only[nb3_b2,nb2_b3,aJ,seval];first|done|exact eC19_b2)),(by first|exact eC19_b3|(simp only[nb3_b2,nb2_b3,aJ,seval];first|done|exact eC19_b3)), ?_⟩
    first|(rw[f55,hc19];simp [aC hc19])|(simp only[aJ,seval];simp_all)
   refine aB fun _ y=>aA rfl ?_;simp only[f7,RR,seval];apply y;clear y;refine aH _ (by first|rfl|exact f55) (fun hc20=>?_) (fun hc20=>?_)
   ·refine aK ?_;try simp only[RR]
    refine hKC19 _ _ ⟨(by repeat (first|exact agC19|refine bC.upd rfl ?_)),(by first|exact eC19_b2|(simp only[nb3_b2,nb2_b3,aJ,seval];first|done|exact eC19_b2)),(by first|exact eC19_b3|(simp only[nb3_b2,nb2_b3,aJ,seval];first|done|exact eC19_b3)), ?_⟩
    first|(rw[f55,hc19];simp [aC hc19])|(simp only[aJ,seval];simp_all)
   refine aA rfl ?_;simp only[f7,RR,seval];refine hKC19 _ _ ⟨(by repeat (first|exact agC19|refine bC.upd rfl ?_)),(by first|exact eC19_b2|(simp only[nb3_b2,nb2_b3,aJ,seval];first|done|exact eC19_b2)),(by first|exact eC19_b3|(simp only[nb3_b2,nb2_b3,aJ,seval];first|done|exact eC19_b3)), ?_⟩
   first|(rw[f55,hc19];simp [aC hc19])|(simp only[aJ,seval];simp_all)
  rintro F4 M4 ⟨agx,gb2,gb3,f55⟩;have f2:=(agx 2 rfl).trans f2;have f3:=(agx 3 rfl).trans f3;have f4:=(agx 4 rfl).trans f4;have hb2:=gb2.trans hb2;have hb3:=gb3.trans hb3;clear agx;clear gb2;clear gb3;simp only[RR,seval];refine aH _ (by first|rfl|exact f55) (fun hc21=>?_) (fun hc21=>?_)
  ·refine aB fun _ y=>aA rfl ?_
   simp only[f2,f3,hb2,hb3,RR,seval];refine aN (hB) ?_;simp only[RR,seval];apply y;clear y;refine aH _ rfl (fun hc22=>?_) (fun hc22=>?_)
   ·refine aB fun _ y=>aA rfl ?_
    simp only[RR,seval];apply y;clear y;refine aO ?_;simp only[bB,aL,bH,RR,seval];refine aZ.pure ?_;rw[hty];clear hW hB hF hty hg1;simp_all
    all_goals (intros;omega)
   refine aK ?_;try simp only[RR]
   refine aB fun _ y=>aA rfl ?_;simp only[RR,seval];apply y;clear y;refine aO ?_;simp only[bB,aL,bH,RR,seval];refine aZ.pure ?_;rw[hty];clear hW hB hF hty hg1;simp_all
   all_goals (intros;omega)
  refine aK ?_;try simp only[RR]
  refine aB fun _ y=>aA rfl ?_;simp only[RR,seval];apply y;clear y;refine aO ?_;simp only[bB,aL,bH,RR,seval];refine aZ.pure ?_;rw[hty];clear hW hB hF hty hg1;simp_all
  all_goals (intros;omega)
end Go.Proofs.YtnfbbjhdflhmjaaGreatDoor
namespace Go.Proofs.YtnfbbjhdflhmjaaGreatDoor
open Go.Al
theorem Bt (p:Pg) (s:dD):decide (gG (bY (p.funs.map Fu.name) s)<0)= !sE p s:=by
 have h:sE p s=((bY (p.funs.map Fu.name) s).bind fun k=>p.funs[k]?).isSome:=by simp only[sE,lI]
 cases hc:bY (p.funs.map Fu.name) s with
 |none=>rw[h,hc];rfl
 |some k=>
  have hlt:=(eL _ _ _ hc).1;rw[aD]at hlt;rw[h,hc];simp [gG,aG hlt];exact aU (by omega)
theorem Qj (p:Pg) (hp:p.ok) (n:Nat): ∀l:List Ex,iA l≤n→xQ l→cJ cK 77 [p.av, .isl 5 (l.map Ex.row)] (.bool (Dr (sE p) l)):=by
 induction n using Nat.strongRecOn with
 |_ n ih=>
  intro l hn hok;have hfit:=hok.fit;have hFn:=fun s=>kU p hp.ffit s;have hkp:=fun s=>Bt p s;generalize sE p=K at *;clear hp;simp only[Pg.av,Pg.row,cI]at *;refine bI 38 [.tmp 4] Tryz.func77 rfl rfl rfl rfl ?_;refine aB fun _ y=>aA rfl ?_;simp only[RR,seval];refine aP fun b2 hn2=>?_;simp only[RR,seval];apply y;clear y;refine aI ?_;refine aB fun _ y=>aA rfl ?_;simp only[RR,seval];apply y;clear y;refine bM fun F1 M1 hfr hH=>?_;have g1:=hfr 1;have g2:=hfr 2;have g4:=hfr 4;have g5:=hfr 5;have gb2:=hH b2
  try simp only[RR,seval]at g1 g2 g4 g5 gb2
  have f1:=g1;clear g1;have f2:=g2;clear g2;have f4:=g4;clear g4;have f5:=g5;clear g5;have hb2:=gb2;clear gb2;clear hfr hH;refine aM ?_;refine bZ [1,2] (l.length) (fun k fr M=>fr 5= .int .i64 (k:Nat)∧M b2=M1 b2∧Dr K l=Dr K (l.drop k)) ⟨f5,rfl,by rw[List.drop_zero]⟩ ?_;rintro k F2 M2 hk0 ⟨fx,gb2,hall⟩ agx K0 hK0;have f1:=(agx 1 rfl).trans f1;have f2:=(agx 2 rfl).trans f2;have f5:=fx;clear fx;have hb2:=gb2.trans hb2;have ag0:=bC.refl [1,2] F2;have e0_b2:=gb2;clear gb2;clear agx;refine aI ?_;refine aB fun _ y=>aA rfl ?_;simp only[f1,f5,aD,RR,seval];apply y;clear y;refine aH _ rfl (fun hc=>?_) (fun hc=>?_)
  ·have hlt0:k<l.length:=by have:=aC hc;omega
   clear hc;have hg:=uL (aG hlt0);have hm:=bA hlt0;have hke:=(hok.all _ hm).kids;have hsz:=iI hm;rw[bD hlt0,sZ,Tk]at hall;generalize l[k]=e at hg hall hke hsz;have hz:=e.sz_eq;have hi:=ih (iA e.kids) (by omega) e.kids (aY _) hke;have hf:=hFn e.name;have z1:=hkp e.name;generalize K e.name=K1 at hall z1;generalize Dr K e.kids=K2 at hall hi;generalize gG (bY (p.funs.map Fu.name) e.name)=pl at hf z1;obtain⟨K3,z3⟩: ∃b,decide (e.kind=4)=b:=⟨_,rfl⟩;rw[z3]at hall;clear ih hFn hkp hke hok;cases K1<;>cases K2<;>cases K3
   all_goals
    refine aK ?_;try simp only[RR]
    refine aI ?_;refine aM ?_;refine aB fun K y=>?_;refine bJ (fun x=>x≠b2) [(0,3),(1,3),(2,3),(3,3),(4,1),(5,3),(6,3),(7,1),(8,3),(9,3),(10,3),(11,3),(12,1),(13,1),(14,3),(15,3),(16,3),(17,1),(18,3),(19,3),(20,3),(21,3),(22,1),(23,1),(24,3),(25,3)] [] dG (by kernel_rfl) rfl rfl ?_;simp only[cF,f1,f2,f5,hb2,hg,z3,RR,seval]
    all_goals try ((first|refine aR (fun h=>?_) (fun h=>?_)|refine aV (fun h=>?_) (fun h=>?_))<;>simp only[h,cF,dM,EM,f1,f2,f5,hb2,aD,hg,z1,z3,RR,seval])
    all_goals try (refine aN (hf) ?_;simp only[f1,f2,f5,hb2,hg,z1,RR,seval])
    all_goals try ((first|refine aR (fun h=>?_) (fun h=>?_)|refine aV (fun h=>?_) (fun h=>?_))<;>simp only[h,cF,dM,EM,f1,f2,f5,hb2,aD,hg,z1,z3,RR,seval])
    all_goals try (refine aN (hi) ?_;simp only[RR,seval])
    all_goals
     apply y;clear y;refine aH _ rfl (fun hc4=>?_) (fun hc4=>?_)
     ·try (cases hc4;done)
      all_goals
       refine aB fun _ y=>aA rfl ?_;simp only[RR,seval];apply y;clear y;refine aO ?_;simp only[bB,aL,bH,RR,seval];refine aZ.pure ?_;rw[hall];rfl
     try (cases hc4;done)
     all_goals
      refine aK ?_;try simp only[RR]
      refine aA rfl ?_;simp only[f5,RR,seval]
      try rw[aQ _ (by omega)]
      refine hK0 _ _ hlt0 ⟨by first|rfl|(simp only[aJ,seval];rfl),(by first|exact e0_b2|(simp only[aJ,seval];first|done|exact e0_b2)),by rw[hall];rfl⟩ (by repeat (first|exact ag0|refine bC.upd rfl ?_))
  have hkn0:k=l.length:=by have:=aF hc;omega
  clear hc;refine bF ?_;simp only[RR,seval];refine aB fun _ y=>aA rfl ?_;simp only[RR,seval];apply y;clear y;refine aO ?_;simp only[bB,aL,bH,RR,seval];refine aZ.pure ?_;rw[hall,hkn0,List.drop_length,wK]
theorem zV (p:Pg) (hp:p.ok) (n:Nat): ∀l:List Sm,fE l≤n→Bq l→cJ cK 48 [p.av, .isl 5 (l.map Sm.row)] (.bool (rO (sE p) l)):=by
 induction n using Nat.strongRecOn with
 |_ n ih=>
  intro l hn hok;have hfit:=hok.fit;have hFn:=fun s=>kU p hp.ffit s;have hKn:=fun(x:List Ex) (h:xQ x)=>Qj p hp _ x (aY _) h;have hkp:=fun s=>Bt p s;generalize sE p=K at *;clear hp;simp only[Pg.av,Pg.row,cI]at *;refine bI 58 [.tmp 4] Tryz.func48 rfl rfl rfl rfl ?_;refine aB fun _ y=>aA rfl ?_;simp only[RR,seval];refine aP fun b2 hn2=>?_;simp only[RR,seval];apply y;clear y;refine aI ?_;refine aB fun _ y=>aA rfl ?_;simp only[RR,seval];apply y;clear y;refine bM fun F1 M1 hfr hH=>?_;have g1:=hfr 1;have g2:=hfr 2;have g4:=hfr 4;have g5:=hfr 5;have gb2:=hH b2
  try simp only[RR,seval]at g1 g2 g4 g5 gb2
  have f1:=g1;clear g1;have f2:=g2;clear g2;have f4:=g4;clear g4;have f5:=g5;clear g5;have hb2:=gb2;clear gb2;clear hfr hH;refine aM ?_;refine bZ [1,2] (l.length) (fun k fr M=>fr 5= .int .i64 (k:Nat)∧M b2=M1 b2∧rO K l=rO K (l.drop k)) ⟨f5,rfl,by rw[List.drop_zero]⟩ ?_;rintro k F2 M2 hk0 ⟨fx,gb2,hall⟩ agx K0 hK0;have f1:=(agx 1 rfl).trans f1;have f2:=(agx 2 rfl).trans f2;have f5:=fx;clear fx;have hb2:=gb2.trans hb2;have ag0:=bC.refl [1,2] F2;have e0_b2:=gb2;clear gb2;clear agx;refine aI ?_;refine aB fun _ y=>aA rfl ?_;simp only[f1,f5,aD,RR,seval];apply y;clear y;refine aH _ rfl (fun hc=>?_) (fun hc=>?_)
  ·have hlt0:k<l.length:=by have:=aC hc;omega
   clear hc;have hg:=An (aG hlt0);have hm:=bA hlt0;have hoe:=hok.all _ hm;have hsz:=fT hm;rw[bD hlt0,yA,Kd]at hall;generalize l[k]=e at hg hall hoe hsz;have hz:=e.sz_eq;have hE:=hKn e.es hoe.es;have hT:=ih (fE e.thn) (by omega) e.thn (aY _) hoe.thn;have hU:=ih (fE e.els) (by omega) e.els (aY _) hoe.els;have hf:=hFn e.name;have z1:=hkp e.name;generalize K e.name=K1 at hall z1;generalize Dr K e.es=K2 at hall hE;generalize rO K e.thn=K4 at hall hT;generalize rO K e.els=K5 at hall hU;generalize gG (bY (p.funs.map Fu.name) e.name)=pl at hf z1;obtain⟨K3,z3⟩: ∃b,decide (e.kind=6)=b:=⟨_,rfl⟩;rw[z3]at hall;clear ih hFn hkp hoe hok hKn;refine aK ?_;try simp only[RR]
   refine aI ?_;refine aM ?_;refine aB fun K y=>?_;refine bJ (fun x=>x≠b2) [(0,3),(1,3),(2,3),(3,3),(4,1),(5,3),(6,3),(7,1),(8,3),(9,3),(10,3),(11,3),(12,1),(13,1),(14,3),(15,3),(16,3),(17,1),(18,3),(19,3),(20,3),(21,3),(22,1),(23,1),(24,3),(25,3),(26,3),(27,1),(28,3),(29,3),(30,3),(31,3),(32,1),(33,1),(34,3),(35,3),(36,3),(37,1),(38,3),(39,3),(40,3),(41,3),(42,1),(43,1),(44,3),(45,3)] [] dG (by kernel_rfl) rfl rfl ?_;simp only[cF,f1,f5,hg,z3,RR,seval]
   all_goals try ((first|refine aR (fun h=>?_) (fun h=>?_)|refine aV (fun h=>?_) (fun h=>?_))<;>simp only[h,f1,f2,f5,hb2,hg,RR,seval])
   all_goals try (refine aN (hf) ?_;simp only[z1,RR,seval])
   all_goals try ((first|refine aR (fun h=>?_) (fun h=>?_)|refine aV (fun h=>?_) (fun h=>?_))<;>simp only[h,f1,f2,f5,hb2,hg,RR,seval])
   all_goals try (refine aN (hE) ?_;simp only[RR,seval])
   all_goals try ((first|refine aR (fun h=>?_) (fun h=>?_)|refine aV (fun h=>?_) (fun h=>?_))<;>simp only[h,f1,f2,f5,hb2,hg,RR,seval])
   all_goals try (refine aN (hT) ?_;simp only[RR,seval])
   all_goals try ((first|refine aR (fun h=>?_) (fun h=>?_)|refine aV (fun h=>?_) (fun h=>?_))<;>simp only[h,f1,f2,f5,hb2,hg,RR,seval])
   all_goals try (refine aN (hU) ?_;simp only[RR,seval])
   all_goals
    apply y;clear y;refine aH _ rfl (fun hc4=>?_) (fun hc4=>?_)
    ·try (cases hc4;done)
     all_goals
      refine aB fun _ y=>aA rfl ?_;simp only[RR,seval];apply y;clear y;refine aO ?_;simp only[bB,aL,bH,RR,seval];refine aZ.pure ?_;rw[hall];clear hE hT hU hf z1 z3;simp_all
    try (cases hc4;done)
    all_goals
     refine aK ?_;try simp only[RR]
     refine aA rfl ?_;simp only[f5,RR,seval]
     try rw[aQ _ (by omega)]
     refine hK0 _ _ hlt0 ⟨by first|rfl|(simp only[aJ,seval];rfl),(by first|exact e0_b2|(simp only[aJ,seval];first|done|exact e0_b2)),by rw[hall];clear hE hT hU hf z1 z3;simp_all⟩ (by repeat (first|exact ag0|refine bC.upd rfl ?_))
  have hkn0:k=l.length:=by have:=aF hc;omega
  clear hc;refine bF ?_;simp only[RR,seval];refine aB fun _ y=>aA rfl ?_;simp only[RR,seval];apply y;clear y;refine aO ?_;simp only[bB,aL,bH,RR,seval];refine aZ.pure ?_;rw[hall,hkn0,List.drop_length,Ms]
end Go.Proofs.YtnfbbjhdflhmjaaGreatDoor
namespace Go.Proofs.YtnfbbjhdflhmjaaGreatDoor
open Go.Al
theorem Od (p:Pg) (s:dD) (h:sE p s=true): ∃(k:Nat) (g:Fu),bY (p.funs.map Fu.name) s=some k∧p.funs[k]?=some g∧jX p s=g.word:=by
 have h1:sE p s=((bY (p.funs.map Fu.name) s).bind fun k=>p.funs[k]?).isSome:=by simp only[sE,lI]
 have h2:jX p s=match(bY (p.funs.map Fu.name) s).bind (fun k=>p.funs[k]?)with |some f=>f.word|none=>false:=by simp only[jX,lI]<;>rfl
 cases hc:bY (p.funs.map Fu.name) s with
 |none=>rw[h1,hc]at h;cases h
 |some k=>
  have hlt:=(eL _ _ _ hc).1;rw[aD]at hlt;refine⟨k,p.funs[k],rfl,aG hlt, ?_⟩;rw[h2,hc];simp [aG hlt]
set_option maxHeartbeats 4000000 in
theorem Uv (p:Pg) (hp:p.ok) (w:Bool) (n:Nat): ∀l:List Sm,fE l≤n→Bq l→rO (sE p) l=true→cJ cK 49 [p.av, .bool w, .isl 5 (l.map Sm.row)] (.bool (jA (jX p) w l)):=by
 induction n using Nat.strongRecOn with
 |_ n ih=>
  intro l hn hok hkn;have hfit:=hok.fit;have hWd:=fun(x:List Ex) (h:xQ x)=>Cy p x h.fit fun e he=>Iw p hp _ e (aY _) (h.all e he);have hBl:=fun(x:List Ex) (h:xQ x)=>Db p x h.fit fun e he=>Iw p hp _ e (aY _) (h.all e he);have hFn:=fun s=>kU p hp.ffit s;have hwd:=fun s h=>Od p s h;have hff:=hp.ffit;generalize jX p=W at *;clear hp;simp only[Pg.av,Pg.row,cI]at *;refine bI 80 [.tmp 6] Tryz.func49 rfl rfl rfl rfl ?_;refine aB fun _ y=>aA rfl ?_;simp only[RR,seval];refine aP fun b3 hn3=>?_;simp only[RR,seval];apply y;clear y;refine aI ?_;refine aB fun _ y=>aA rfl ?_;simp only[RR,seval];apply y;clear y;refine bM fun F1 M1 hfr hH=>?_;have g1:=hfr 1;have g2:=hfr 2;have g3:=hfr 3;have g6:=hfr 6;have g7:=hfr 7;have gb3:=hH b3
  try simp only[RR,seval]at g1 g2 g3 g6 g7 gb3
  have f1:=g1;clear g1;have f2:=g2;clear g2;have f3:=g3;clear g3;have f6:=g6;clear g6;have f7:=g7;clear g7;have hb3:=gb3;clear gb3;clear hfr hH;refine aM ?_;refine bZ [1,2,3] (l.length) (fun k fr M=>fr 7= .int .i64 (k:Nat)∧M b3=M1 b3∧jA W w l=jA W w (l.drop k)∧rO (sE p) (l.drop k)=true) ⟨f7,rfl,by rw[List.drop_zero],by rw[List.drop_zero];exact hkn⟩ ?_;rintro k F2 M2 hk0 ⟨fx,gb3,hall,hkd⟩ agx K0 hK0;have f1:=(agx 1 rfl).trans f1;have f2:=(agx 2 rfl).trans f2;have f3:=(agx 3 rfl).trans f3;have f7:=fx;clear fx;have hb3:=gb3.trans hb3;have ag0:=bC.refl [1,2,3] F2;have e0_b3:=gb3;clear gb3;clear agx;refine aI ?_;refine aB fun _ y=>aA rfl ?_;simp only[f2,f7,aD,RR,seval];apply y;clear y;refine aH _ rfl (fun hc=>?_) (fun hc=>?_)
  ·have hlt0:k<l.length:=by have:=aC hc;omega
   clear hc;have hg:=An (aG hlt0);have hm:=bA hlt0;have hoe:=hok.all _ hm;have hsz:=fT hm;rw[bD hlt0,uN,Du]at hall;rw[bD hlt0,yA,Kd]at hkd;generalize l[k]=e at hg hall hkd hoe hsz;have hz:=e.sz_eq;simp only[aS]at hkd;have hE1:=hWd e.es hoe.es;have hE2:=hBl e.es hoe.es;have hT:=ih (fE e.thn) (by omega) e.thn (aY _) hoe.thn hkd.1.1.2;have hU:=ih (fE e.els) (by omega) e.els (aY _) hoe.els hkd.1.2;have hf:=hFn e.name;have z1:decide (e.kind=6)=true→ ∃(k:Nat) (g:Fu),bY (p.funs.map Fu.name) e.name=some k∧p.funs[k]?=some g∧W e.name=g.word:=fun h=>hwd _ (by have:=hkd.1.1.1.1;rw[h]at this;simpa using this)
   obtain⟨pl,g,y1,y2,y3⟩: ∃(pl:Nat) (g:Fu),(decide (e.kind=6)=true→gG (bY (p.funs.map Fu.name) e.name)=(pl:Int))∧(decide (e.kind=6)=true→(p.funs.map Fu.row)[pl]?=some [.str g.name, .isl 1 (g.params.map bK), .isl 1 (g.locs.map bK), .bool g.word, .isl 5 (g.body.map Sm.row)])∧(decide (e.kind=6)&&W e.name)=(decide (e.kind=6)&&g.word):=by
    cases h6:decide (e.kind=6)with
    |false=>exact⟨0,⟨[],[],[],false,[]⟩,(fun h=>by cases h),(fun h=>by cases h),rfl⟩
    |true=>
     obtain⟨k,g,q1,q2,q3⟩:=z1 h6;exact⟨k,g,(fun _=>by rw[q1];rfl),(fun _=>kK q2),by rw[q3]⟩
   rw[y3]at hall;have hwant:mO e.kind=if decide (e.kind=4∨e.kind=5)=true then 2 else 1:=by simp only[mO,aW]
   rw[hwant]at hall;generalize jA W w e.thn=K4 at hall hT;generalize jA W w e.els=K5 at hall hU;generalize g.word=WG at hall y2;have hlen:decide ((0:Int)<(e.es.length:Int))=decide (0<e.es.length):=by rw[Bool.eq_iff_iff];simp only[aW];omega
   obtain⟨K7,z7⟩: ∃b,decide (e.kind=7)=b:=⟨_,rfl⟩;obtain⟨K8,z8⟩: ∃b,decide (0<e.es.length)=b:=⟨_,rfl⟩;obtain⟨K6,z6⟩: ∃b,decide (e.kind=6)=b:=⟨_,rfl⟩;rw[z6]at y1 y2;rw[z6,z7,z8]at hall;clear ih hFn hoe hok hWd hBl hwd z1 y3;cases K6
   all_goals
    refine aK ?_;try simp only[RR]
    refine aI ?_;refine aM ?_;refine aB fun _ y=>aA rfl ?_;simp only[f2,f7,hg,RR,seval];refine aP fun b8 hn8=>?_;have nb8_b3:b8≠b3:=fun e=>by rw[e]at hn8;simp only[hb3,seval,reduceCtorEq]at hn8
    have nb3_b8:b3≠b8:=fun e=>nb8_b3 e.symm;simp only[RR,seval];apply y;clear y;refine aI ?_;refine aB fun _ y=>aA rfl ?_;simp only[RR,seval]
    repeat' ((first|refine aR (fun h=>?_) (fun h=>?_)|refine aV (fun h=>?_) (fun h=>?_))<;>simp only[h,RR,seval])
    all_goals
     apply y;clear y;refine bM fun F3 M3 hfr hH=>?_;have g1:=hfr 1;have g2:=hfr 2;have g3:=hfr 3;have g6:=hfr 6;have g7:=hfr 7;have g8:=hfr 8;have g26:=hfr 26;have gb3:=hH b3;have gb8:=hH b8
     try simp only[f1,f2,f3,f7,hb3,nb3_b8,RR,seval]at g1 g2 g3 g6 g7 g8 g26 gb3 gb8
     have ag0:bC [1,2,3] F2 F3:=bC.same hfr (by repeat (first|exact ag0|refine bC.upd rfl ?_));have e0_b3:=(hH b3).trans (by first|exact e0_b3|(simp only[nb3_b8,aJ,seval];first|done|exact e0_b3));have f1:=g1;clear g1;have f2:=g2;clear g2;have f3:=g3;clear g3;have f6:=g6;clear g6;have f7:=g7;clear g7;have f8:=g8;clear g8;have f26:=g26;clear g26;have hb3:=gb3;clear gb3;have hb8:=gb8;clear gb8;clear hfr hH;refine dS (fun fr M=>bC [1,2,3,7,8] F3 fr∧M b3=M3 b3∧M b8=M3 b8∧(fV W e.es (if decide (e.kind=4∨e.kind=5)=true then 2 else 1)=true)) (fun KC5 hKC5=>?_) ?_
     ·have agC5:=bC.refl [1,2,3,7,8] F3
      have eC5_b3:M3 b3=M3 b3:=rfl;have eC5_b8:M3 b8=M3 b8:=rfl;refine aH _ (by first|rfl|exact f26) (fun hc5=>?_) (fun hc5=>?_)
      ·try (cases hc5;done)
       all_goals
        have hA2:(if decide (e.kind=4∨e.kind=5)=true then(2:Int)else 1)=2:=by rw[if_pos];first|simp [aC h]|simp [aC hc5]
        rw[hA2]at hall;refine aB fun _ y=>aA rfl ?_;simp only[f3,f8,hb3,hb8,RR,seval];refine aN (hE2) ?_;simp only[RR,seval];apply y;clear y;refine aH _ rfl (fun hc6=>?_) (fun hc6=>?_)
        ·refine aB fun _ y=>aA rfl ?_
         simp only[RR,seval];apply y;clear y;refine aO ?_;simp only[bB,aL,bH,RR,seval];refine aZ.pure ?_;rw[hall,show fV W e.es 2=false by simpa using hc6];simp
        refine aK ?_;try simp only[RR]
        refine hKC5 _ _ ⟨(by repeat (first|exact agC5|refine bC.upd rfl ?_)),(by first|exact eC5_b3|(simp only[nb8_b3,nb3_b8,aJ,seval];first|done|exact eC5_b3)),(by first|exact eC5_b8|(simp only[nb8_b3,nb3_b8,aJ,seval];first|done|exact eC5_b8)),by rw[hA2];first|simpa using hc6|simpa using hc8⟩
      try (cases hc5;done)
      all_goals
       have hA2:(if decide (e.kind=4∨e.kind=5)=true then(2:Int)else 1)=1:=by rw[if_neg];simp [aF h,aF hc5]
       rw[hA2]at hall;refine aB fun _ y=>aA rfl ?_;simp only[f3,f8,hb3,hb8,RR,seval];refine aN (hE1) ?_;simp only[RR,seval];apply y;clear y;refine aH _ rfl (fun hc8=>?_) (fun hc8=>?_)
       ·refine aB fun _ y=>aA rfl ?_
        simp only[RR,seval];apply y;clear y;refine aO ?_;simp only[bB,aL,bH,RR,seval];refine aZ.pure ?_;rw[hall,show fV W e.es 1=false by simpa using hc8];simp
       refine aK ?_;try simp only[RR]
       refine hKC5 _ _ ⟨(by repeat (first|exact agC5|refine bC.upd rfl ?_)),(by first|exact eC5_b3|(simp only[nb8_b3,nb3_b8,aJ,seval];first|done|exact eC5_b3)),(by first|exact eC5_b8|(simp only[nb8_b3,nb3_b8,aJ,seval];first|done|exact eC5_b8)),by rw[hA2];first|simpa using hc6|simpa using hc8⟩
     rintro F4 M4 ⟨agx,gb3,gb8,hA⟩;have f1:=(agx 1 rfl).trans f1;have f2:=(agx 2 rfl).trans f2;have f3:=(agx 3 rfl).trans f3;have f7:=(agx 7 rfl).trans f7;have f8:=(agx 8 rfl).trans f8;have hb3:=gb3.trans hb3;have hb8:=gb8.trans hb8;have ag0:bC [1,2,3] F2 F4:=bC.sub agx rfl ag0;have e0_b3:=gb3.trans e0_b3;clear agx;clear gb3;clear gb8;simp only[RR,seval];rw[hA,Bool.true_and]at hall;clear hA;refine aI ?_;refine aB fun K y=>?_;refine bJ (fun x=>x≠b3∧x≠b8) [(0,3),(1,1),(2,3),(3,3),(4,3),(5,0),(6,1),(7,3),(8,1),(9,1),(10,3),(11,3),(12,1),(13,3),(14,3),(15,3),(16,1),(17,3),(18,3),(19,3),(20,1),(21,3),(22,3),(23,3),(24,3),(25,3),(26,3),(27,3),(28,3)] [] dG (by kernel_rfl) rfl rfl ?_;simp only[cF,dM,f3,f8,hb3,hb8,nb3_b8,z6,z7,RR,seval]
     all_goals try ((first|refine aR (fun h=>?_) (fun h=>?_)|refine aV (fun h=>?_) (fun h=>?_))<;>simp only[h,f8,hb8,aD,hlen,z8,RR,seval])
     all_goals try (refine aN (hf) ?_;simp only[y1,y2,RR,seval])
     all_goals try ((first|refine aR (fun h=>?_) (fun h=>?_)|refine aV (fun h=>?_) (fun h=>?_))<;>simp only[h,f1,f8,hb8,z7,RR,seval])
     all_goals try ((first|refine aR (fun h=>?_) (fun h=>?_)|refine aV (fun h=>?_) (fun h=>?_))<;>simp only[h,f8,hb8,aD,hlen,z8,RR,seval])
     all_goals try ((first|refine aR (fun h=>?_) (fun h=>?_)|refine aV (fun h=>?_) (fun h=>?_))<;>simp only[h,f1,RR,seval])
     all_goals try ((first|refine aR (fun h=>?_) (fun h=>?_)|refine aV (fun h=>?_) (fun h=>?_))<;>simp only[h,cF,dM,EM,f1,f2,f3,f7,f8,hb3,hb8,nb8_b3,nb3_b8,aD,hg,hlen,z6,z7,z8,y1,y2,RR,seval])
     all_goals try ((first|refine aR (fun h=>?_) (fun h=>?_)|refine aV (fun h=>?_) (fun h=>?_))<;>simp only[h,cF,dM,EM,f1,f2,f3,f7,f8,hb3,hb8,nb8_b3,nb3_b8,aD,hg,hlen,z6,z7,z8,y1,y2,RR,seval])
     all_goals
      apply y;clear y;refine aH _ rfl (fun hc10=>?_) (fun hc10=>?_)
      ·try (cases hc10;done)
       all_goals
        refine aB fun _ y=>aA rfl ?_;simp only[RR,seval];apply y;clear y;refine aO ?_;simp only[bB,aL,bH,RR,seval];refine aZ.pure ?_;rw[hall];clear hT hU hf y1 y2 hE1 hE2;simp_all
      try (cases hc10;done)
      all_goals
       refine aK ?_;try simp only[RR]
       refine aB fun _ y=>aA rfl ?_;simp only[f1,f3,f8,hb3,hb8,RR,seval]
       all_goals try (refine aN (hT) ?_;simp only[RR,seval])
       all_goals try ((first|refine aR (fun h=>?_) (fun h=>?_)|refine aV (fun h=>?_) (fun h=>?_))<;>simp only[h,f1,f3,f8,hb3,hb8,RR,seval])
       all_goals try (refine aN (hU) ?_;simp only[RR,seval])
       all_goals
        apply y;clear y;refine aH _ rfl (fun hc12=>?_) (fun hc12=>?_)
        ·try (cases hc12;done)
         all_goals
          refine aB fun _ y=>aA rfl ?_;simp only[RR,seval];apply y;clear y;refine aO ?_;simp only[bB,aL,bH,RR,seval];refine aZ.pure ?_;rw[hall];clear hT hU hf y1 y2 hE1 hE2;simp_all
        try (cases hc12;done)
        all_goals
         refine aK ?_;try simp only[RR]
         refine aA rfl ?_;simp only[f7,RR,seval]
         try rw[aQ _ (by omega)]
         refine hK0 _ _ hlt0 ⟨by first|rfl|(simp only[aJ,seval];rfl),(by first|exact e0_b3|(simp only[nb8_b3,nb3_b8,aJ,seval];first|done|exact e0_b3)),(by rw[hall];clear hT hU hf y1 y2 hE1 hE2;simp_all),hkd.2⟩ (by repeat (first|exact ag0|refine bC.upd rfl ?_))
  have hkn0:k=l.length:=by have:=aF hc;omega
  clear hc;refine bF ?_;simp only[RR,seval];refine aB fun _ y=>aA rfl ?_;simp only[RR,seval];apply y;clear y;refine aO ?_;simp only[bB,aL,bH,RR,seval];refine aZ.pure ?_;rw[hall,hkn0,List.drop_length,Hb]
end Go.Proofs.YtnfbbjhdflhmjaaGreatDoor
namespace Go.Proofs.YtnfbbjhdflhmjaaGreatDoor
open Go.Al
theorem Gf (p:Pg) (hp:p.ok):cJ cK 25 [p.av] (.int .i64 (kL p)):=by
 have hX:kL p=if(p.funs.all fun f=>rO (sE p) f.body)=true then(if(p.funs.all fun f=>jA (jX p) f.word f.body)=true then 0 else 5)else 4:=rfl
 have hof:=hp.funs;have hff:=hp.ffit;have hKn:=fun(x:List Sm) (h:Bq x)=>zV p hp _ x (aY _) h;have hFi:=fun(w:Bool) (x:List Sm) (h:Bq x) (hk:rO (sE p) x=true)=>Uv p hp w _ x (aY _) h hk;generalize kL p=res at *;generalize jX p=W at *;generalize sE p=Kf at *;clear hp;obtain⟨vs,aa,fs⟩:=p;simp only[Pg.av,Pg.row,cI]at *;refine bI 43 [.tmp 2] Tryz.func25 rfl rfl rfl rfl ?_;refine aB fun _ y=>aA rfl ?_;simp only[RR,seval];refine aP fun b1 hn1=>?_;simp only[RR,seval];apply y;clear y;refine aI ?_;refine aB fun _ y=>aA rfl ?_;simp only[RR,seval];apply y;clear y;refine bM fun F1 M1 hfr hH=>?_;have g1:=hfr 1;have g2:=hfr 2;have g3:=hfr 3;have gb1:=hH b1
 try simp only[RR,seval]at g1 g2 g3 gb1
 have f1:=g1;clear g1;have f2:=g2;clear g2;have f3:=g3;clear g3;have hb1:=gb1;clear gb1;clear hfr hH;refine aM ?_;refine bZ [1] (fs.length) (fun k fr M=>fr 3= .int .i64 (k:Nat)∧M b1=M1 b1∧(fs.all fun f=>rO Kf f.body)=((fs.drop k).all fun f=>rO Kf f.body)) ⟨f3,rfl,by rw[List.drop_zero]⟩ ?_;rintro k F2 M2 hk0 ⟨fx,gb1,hall⟩ agx K0 hK0;have f1:=(agx 1 rfl).trans f1;have f3:=fx;clear fx;have hb1:=gb1.trans hb1;have ag0:=bC.refl [1] F2;have e0_b1:=gb1;clear gb1;clear agx;refine aI ?_;refine aB fun _ y=>aA rfl ?_;simp only[f1,f3,hb1,aD,RR,seval];apply y;clear y;refine aH _ rfl (fun hc=>?_) (fun hc=>?_)
 ·have hlt0:k<fs.length:=by have:=aC hc;omega
  clear hc;have hg:=kK (aG hlt0);have hok:=(hof _ (bA hlt0)).body;rw[bD hlt0,List.all_cons]at hall;generalize fs[k]=f at hg hall hok;have hk:=hKn f.body hok;generalize rO Kf f.body=KK at hk hall;refine aK ?_;try simp only[RR]
  refine aI ?_;refine aM ?_;refine aB fun K y=>?_;refine bJ (fun x=>x≠b1) [(0,1),(1,3),(2,1),(3,3),(4,3),(5,3),(6,1),(7,1),(8,3)] [] dG (by kernel_rfl) rfl rfl ?_;simp only[cF,f1,f3,hb1,hg,RR,seval];refine aN (hk) ?_;simp only[RR,seval];apply y;clear y;refine aH _ rfl (fun hc4=>?_) (fun hc4=>?_)
  ·refine aB fun _ y=>aA rfl ?_
   simp only[RR,seval];apply y;clear y;refine aO ?_;simp only[bB,aL,bH,RR,seval];refine aZ.pure ?_;rw[hX,if_neg (by rw[hall,show KK=false by simpa using hc4];simp)]
  refine aK ?_;try simp only[RR]
  refine aA rfl ?_;simp only[f3,RR,seval]
  try rw[aQ _ (by omega)]
  refine hK0 _ _ hlt0 ⟨by first|rfl|(simp only[aJ,seval];rfl),(by first|exact e0_b1|(simp only[aJ,seval];first|done|exact e0_b1)),by rw[hall,show KK=true by simpa using hc4,Bool.true_and]⟩ (by repeat (first|exact ag0|refine bC.upd rfl ?_))
 have hkn0:k=fs.length:=by have:=aF hc;omega
 clear hc;rw[hkn0,List.drop_length,List.all_nil]at hall;rw[if_pos hall]at hX;have hkn:=List.all_eq_true.1 hall;refine bF ?_;simp only[RR,seval];refine aI ?_;refine aB fun _ y=>aA rfl ?_;simp only[RR,seval];apply y;clear y;refine bM fun F3 M3 hfr hH=>?_;have g1:=hfr 1;have g2:=hfr 2;have g4:=hfr 4;have gb1:=hH b1
 try simp only[f1,hb1,RR,seval]at g1 g2 g4 gb1
 have f1:=g1;clear g1;have f2:=g2;clear g2;have f4:=g4;clear g4;have hb1:=gb1;clear gb1;clear hfr hH;refine aM ?_;refine bZ [1] (fs.length) (fun j fr M=>fr 4= .int .i64 (j:Nat)∧M b1=M3 b1∧(fs.all fun f=>jA W f.word f.body)=((fs.drop j).all fun f=>jA W f.word f.body)) ⟨f4,rfl,by rw[List.drop_zero]⟩ ?_;rintro j F4 M4 hk2 ⟨fx,gb1,hall2⟩ agx K2 hK2;have f1:=(agx 1 rfl).trans f1;have f4:=fx;clear fx;have hb1:=gb1.trans hb1;have ag2:=bC.refl [1] F4;have e2_b1:=gb1;clear gb1;clear agx;refine aI ?_;refine aB fun _ y=>aA rfl ?_;simp only[f1,f4,hb1,aD,RR,seval];apply y;clear y;refine aH _ rfl (fun hc=>?_) (fun hc=>?_)
 ·have hlt2:j<fs.length:=by have:=aC hc;omega
  clear hc;have hg:=kK (aG hlt2);have hok:=(hof _ (bA hlt2)).body;have hkf:=hkn _ (bA hlt2);rw[bD hlt2,List.all_cons]at hall2;generalize fs[j]=f at hg hall2 hok hkf;have hk:=hFi f.word f.body hok hkf;generalize jA W f.word f.body=KK at hk hall2;refine aK ?_;try simp only[RR]
  refine aI ?_;refine aM ?_;refine aB fun K y=>?_;refine bJ (fun x=>x≠b1) [(0,1),(1,3),(2,1),(3,3),(4,3),(5,3),(6,1),(7,3),(8,1),(9,3),(10,3),(11,3),(12,1),(13,1),(14,3)] [] dG (by kernel_rfl) rfl rfl ?_;simp only[cF,f1,f4,hb1,hg,RR,seval];refine aN (hk) ?_;simp only[RR,seval];apply y;clear y;refine aH _ rfl (fun hc9=>?_) (fun hc9=>?_)
  ·refine aB fun _ y=>aA rfl ?_
   simp only[RR,seval];apply y;clear y;refine aO ?_;simp only[bB,aL,bH,RR,seval];refine aZ.pure ?_;rw[hX,if_neg (by rw[hall2,show KK=false by simpa using hc9];simp)]
  refine aK ?_;try simp only[RR]
  refine aA rfl ?_;simp only[f4,RR,seval]
  try rw[aQ _ (by omega)]
  refine hK2 _ _ hlt2 ⟨by first|rfl|(simp only[aJ,seval];rfl),(by first|exact e2_b1|(simp only[aJ,seval];first|done|exact e2_b1)),by rw[hall2,show KK=true by simpa using hc9,Bool.true_and]⟩ (by repeat (first|exact ag2|refine bC.upd rfl ?_))
 have hkn2:j=fs.length:=by have:=aF hc;omega
 clear hc;refine bF ?_;simp only[RR,seval];refine aB fun _ y=>aA rfl ?_;simp only[RR,seval];apply y;clear y;refine aO ?_;simp only[bB,aL,bH,RR,seval];refine aZ.pure ?_;rw[hX,if_pos (by rw[hall2,hkn2,List.drop_length];rfl)]
theorem Ge (p:Pg) (hp:p.ok) (hpar: ∀f∈p.funs,f.params.length≤1100000) (hfew:eD p=true→p.few):cJ cK 8 [p.av] (.int .i64 (dT p)):=by
 have hR:=Cz p hp hpar
 have h1:eD p=true→1≤p.funs.length:=fun h=>by
  simp only[eD,aS,aW]at h;exact h.1.1.1.2
 have hC:=fun h=>Jq p (hfew h) (h1 h);have hT:=Gf p hp;clear hfew hpar;have hX:dT p=if eD p=true then(if gQ p=0 then kL p else gQ p)else 7:=rfl
 generalize dT p=res at *;generalize kL p=ct at *;generalize gQ p=ci at *;generalize eD p=rp at *;simp only[Pg.av,Pg.row]at *
 cases rp with
 |false=>
  refine bI 14 [.tmp 2] Tryz.func8 rfl rfl rfl rfl ?_;refine aB fun _ y=>aA rfl ?_;simp only[RR,seval];refine aP fun b1 hn1=>?_;simp only[RR,seval];apply y;clear y;refine aI ?_;refine aB fun _ y=>aA rfl ?_;simp only[RR,seval];refine aN (hR) ?_;simp only[RR,seval];apply y;clear y;refine aH true rfl (fun _=>?_) (fun hc=>by cases hc);refine aB fun _ y=>aA rfl ?_;simp only[RR,seval];apply y;clear y;refine aO ?_;simp only[bB,aL,bH,RR,seval];refine aZ.pure ?_;rw[hX];rfl
 |true=>
  have hC:=hC rfl;rw[if_pos rfl]at hX;refine bI 14 [.tmp 2] Tryz.func8 rfl rfl rfl rfl ?_;refine aB fun _ y=>aA rfl ?_;simp only[RR,seval];refine aP fun b1 hn1=>?_;simp only[RR,seval];apply y;clear y;refine aI ?_;refine aB fun _ y=>aA rfl ?_;simp only[RR,seval];refine aN (hR) ?_;simp only[RR,seval];apply y;clear y;refine aH false rfl (fun hc=>by cases hc) (fun _=>?_);refine aK ?_;try simp only[RR]
  refine aB fun _ y=>aA rfl ?_;simp only[RR,seval];refine aN (hC) ?_;simp only[RR,seval];apply y;clear y;refine aI ?_;refine aB fun _ y=>aA rfl ?_;simp only[RR,seval];apply y;clear y;refine aH _ rfl (fun hc4=>?_) (fun hc4=>?_)
  ·refine aB fun _ y=>aA rfl ?_
   simp only[RR,seval];apply y;clear y;refine aO ?_;simp only[bB,aL,bH,RR,seval];refine aZ.pure ?_;rw[hX,if_neg (by simpa using hc4)]
  refine aK ?_;try simp only[RR]
  refine aB fun _ y=>aA rfl ?_;simp only[RR,seval];refine aN (hT) ?_;simp only[RR,seval];apply y;clear y;refine aO ?_;simp only[bB,aL,bH,RR,seval];refine aZ.pure ?_;rw[hX,if_pos (by simpa using hc4)]
theorem xK (p:Pg) (hp:p.few):cJ cK 8 [p.av] (.int .i64 (dT p)):=Ge p hp.ok (fun f hf=>by have:=hp.fs f hf;omega) fun _=>hp
end Go.Proofs.YtnfbbjhdflhmjaaGreatDoor
