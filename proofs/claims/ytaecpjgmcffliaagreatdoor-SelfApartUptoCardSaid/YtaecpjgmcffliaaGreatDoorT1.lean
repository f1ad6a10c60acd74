/- Chapter 17: types, in plain Lean. Chapter 17, the judge's: types of expressions. Chapter 17, the judge's: what is known; what fits; Expr, Check, Sound. Chapter 17, the judge's: what fits; Expr, Check, Sound. Chapter 17, the judge's: Expr, Check, Sound. -/
import Derived.Test.YtaecpjgmcffliaaGreatDoorSy2
import Derived.Test.YtaecpjgmcffliaaGreatDoorSc1
import Derived.Test.YtaecpjgmcffliaaGreatDoorAl4
import Derived.Test.YtaecpjgmcffliaaGreatDoorSy1
set_option linter.unusedSimpArgs false
set_option linter.unusedVariables false
set_option maxRecDepth 10000
namespace Go.Al
def Y4 (p:Pg) (s:cN):Option Fu:=p.funs.find? fun f=>decide (f.name=s)
def rJ (p:Pg) (s:cN):Bool:=(Y4 p s).isSome
def lF (p:Pg) (s:cN):Bool:=match Y4 p s with |some f=>f.word|none=>false
mutual
def Rj (W:cN→Bool):Ex→Int
 | .mk k o _ s l=>if k=1∨k=2∨k=5 then 1 else if k=3 then(if fX W l 1=true then 1 else 0)else if k=4 then(if(W s&&fX W l 1)=true then 1 else 0)
   else if k=6 then(if fX W l 1=true then(if o=14∨o=15 then 2 else 1)else 0)else if k=7∨k=8∨k=9 then(if fX W l 2=true then 2 else 0)else 0
def fX (W:cN→Bool):List Ex→Int→Bool
 |[],_=>true
 |e::l,t=>decide (Rj W e=t)&&fX W l t
end
theorem Yr (W:cN→Bool) (e:Ex):Rj W e=if e.kind=1∨e.kind=2∨e.kind=5 then 1 else if e.kind=3 then(if fX W e.kids 1=true then 1 else 0)else if e.kind=4 then(if(W e.name&&fX W e.kids 1)=true then 1 else 0)
   else if e.kind=6 then(if fX W e.kids 1=true then(if e.op=14∨e.op=15 then 2 else 1)else 0)else if e.kind=7∨e.kind=8∨e.kind=9 then(if fX W e.kids 2=true then 2 else 0)else 0:=by
 cases e;simp only[Rj,Ex.kind,Ex.op,Ex.name,Ex.kids];rfl
theorem tY (W:cN→Bool) (e:Ex) (l:List Ex) (t:Int):fX W (e::l) t=(decide (Rj W e=t)&&fX W l t):=by simp only[fX]
theorem yP (W:cN→Bool) (t:Int):fX W [] t=true:=by simp only[fX]
mutual
def J5 (K:cN→Bool):Ex→Bool
 | .mk k _ _ s l=>(!decide (k=4)||K s)&&Dx K l
def Dx (K:cN→Bool):List Ex→Bool
 |[]=>true
 |e::l=>J5 K e&&Dx K l
end
theorem B5 (K:cN→Bool) (e:Ex):J5 K e=((!decide (e.kind=4)||K e.name)&&Dx K e.kids):=by
 cases e;simp only[J5,Ex.kind,Ex.name,Ex.kids];rfl
theorem rW (K:cN→Bool) (e:Ex) (l:List Ex):Dx K (e::l)=(J5 K e&&Dx K l):=by simp only[Dx]
theorem vM (K:cN→Bool):Dx K []=true:=by simp only[Dx]
mutual
def BN (K:cN→Bool):Sm→Bool
 | .mk k s l t u=>(!decide (k=6)||K s)&&Dx K l&&qJ K t&&qJ K u
def qJ (K:cN→Bool):List Sm→Bool
 |[]=>true
 |e::l=>BN K e&&qJ K l
end
theorem Me (K:cN→Bool) (e:Sm):BN K e=((!decide (e.kind=6)||K e.name)&&Dx K e.es&&qJ K e.thn&&qJ K e.els):=by
 cases e;simp only[BN,Sm.kind,Sm.name,Sm.es,Sm.thn,Sm.els];rfl
theorem xA (K:cN→Bool) (e:Sm) (l:List Sm):qJ K (e::l)=(BN K e&&qJ K l):=by simp only[qJ]
theorem Qc (K:cN→Bool):qJ K []=true:=by simp only[qJ]
def oM (k:Int):Int:=if k=4∨k=5 then 2 else 1
mutual
def P9 (W:cN→Bool) (w:Bool):Sm→Bool
 | .mk k s l t u=>fX W l (oM k)&& !(decide (k=6)&&W s)&& !(decide (k=7)&&decide (0<l.length)&& !w)&&jG W w t&&jG W w u
def jG (W:cN→Bool) (w:Bool):List Sm→Bool
 |[]=>true
 |e::l=>P9 W w e&&jG W w l
end
theorem Ql (W:cN→Bool) (w:Bool) (e:Sm):P9 W w e=(fX W e.es (oM e.kind)&& !(decide (e.kind=6)&&W e.name)&& !(decide (e.kind=7)&&decide (0<e.es.length)&& !w)&&jG W w e.thn&&jG W w e.els):=by
 cases e;simp only[P9,Sm.kind,Sm.name,Sm.es,Sm.thn,Sm.els];rfl
theorem Bh (W:cN→Bool) (w:Bool) (e:Sm) (l:List Sm):jG W w (e::l)=(P9 W w e&&jG W w l):=by simp only[jG]
theorem Ir (W:cN→Bool) (w:Bool):jG W w []=true:=by simp only[jG]
def kU (p:Pg):Int:=if(p.funs.all fun f=>qJ (rJ p) f.body)=true then(if(p.funs.all fun f=>jG (lF p) f.word f.body)=true then 0 else 5)else 4
theorem xK: ∀(l:List Fu) (s:cN),l.find? (fun f=>decide (f.name=s))=(cC (l.map Fu.name) s).bind fun k=>l[k]?
 |[],s=>by simp [cC]
 |f::l,s=>by
  have ih:=xK l s;simp only[List.map_cons,cC];by_cases h:f.name=s
  ·simp [h]
  simp only[List.find?_cons,aX h,if_neg h,ih];cases cC (l.map Fu.name) s<;>simp
theorem nN (p:Pg) (s:cN):Y4 p s=(cC (p.funs.map Fu.name) s).bind fun k=>p.funs[k]?:=xK _ _
end Go.Al
namespace Go.Proofs.YtaecpjgmcffliaaGreatDoor
open Go.Al
def fN (p:Pg):Int:=if dH p=true then(if gY p=0 then kU p else gY p)else 7
end Go.Proofs.YtaecpjgmcffliaaGreatDoor
namespace Go.Proofs.YtaecpjgmcffliaaGreatDoor
open Go.Al
theorem kL (p:Pg) (hp:cQ p.funs) (s:cN):cM cG 143 [p.av, .str s] (.int .i64 (fY (cC (p.funs.map Fu.name) s))):=by
 obtain⟨vs,aa,fs⟩:=p;simp only[Pg.av,Pg.row,cQ]at *;refine bM 22 [.tmp 4] Tryz.func143 rfl rfl rfl rfl ?_;refine aB fun _ y=>aA rfl ?_;simp only[RR,seval];refine aT fun b2 hn2=>?_;simp only[RR,seval];apply y;clear y;refine aJ ?_;refine aB fun _ y=>aA rfl ?_;simp only[RR,seval];apply y;clear y;refine bN fun F1 M1 hfr hH=>?_;have g1:=hfr 1;have g2:=hfr 2;have g4:=hfr 4;have g5:=hfr 5;have gb2:=hH b2
 try simp only[RR,seval]at g1 g2 g4 g5 gb2
 have f1:=g1;clear g1;have f2:=g2;clear g2;have f4:=g4;clear g4;have f5:=g5;clear g5;have hb2:=gb2;clear gb2;clear hfr hH;refine aN ?_;refine cF [1,2] (fs.length) (fun k fr M=>fr 5= .int .i64 (k:Nat)∧M b2=M1 b2∧((fs.map Fu.name).take k).contains s=false) ⟨f5,rfl,by simp⟩ ?_;rintro k F2 M2 hk0 ⟨fx,gb2,hno⟩ agx K0 hK0;have f1:=(agx 1 rfl).trans f1;have f2:=(agx 2 rfl).trans f2;have f5:=fx;clear fx;have hb2:=gb2.trans hb2;have ag0:=aY.refl [1,2] F2;have e0_b2:=gb2;clear gb2;clear agx;refine aJ ?_;refine aB fun _ y=>aA rfl ?_;simp only[f2,f5,hb2,aC,RR,seval];apply y;clear y;refine aH _ rfl (fun hc=>?_) (fun hc=>?_)
 ·have hlt0:k<fs.length:=by have:=aD hc;omega
  clear hc;have hg:=jK (aG hlt0);have htk:(fs.map Fu.name).take (k+1)=(fs.map Fu.name).take k++[fs[k].name]:=by rw[bL (by simpa using hlt0)];simp
  have hdr:(fs.map Fu.name).drop k=fs[k].name::(fs.map Fu.name).drop (k+1):=by rw[bD (by simpa using hlt0)];simp
  generalize fs[k]=f at hg htk hdr;refine aK ?_;try simp only[RR]
  refine aJ ?_;refine aN ?_;refine aB fun _ y=>aA rfl ?_;simp only[f1,f2,f5,hb2,hg,RR,seval];apply y;clear y;refine aH _ rfl (fun hc4=>?_) (fun hc4=>?_)
  ·refine aB fun _ y=>aA rfl ?_
   simp only[f5,RR,seval];apply y;clear y;refine aM ?_;simp only[aZ,aL,bJ,RR,seval];refine bB.pure ?_;rw[oP _ _ _ hno,hdr,cC,if_pos (aD hc4)];simp [fY]
  refine aK ?_;try simp only[RR]
  refine aA rfl ?_;simp only[f5,RR,seval]
  try rw[aV _ (by omega)]
  refine hK0 _ _ hlt0 ⟨by first|rfl|(simp only[aF,seval];rfl),(by first|exact e0_b2|(simp only[aF,seval];first|done|exact e0_b2)),by rw[htk,List.contains_append,hno,Bool.false_or];have:=aE hc4;simp;exact fun e=>this e.symm⟩ (by repeat (first|exact ag0|refine aY.upd rfl ?_))
 have hkn0:k=fs.length:=by have:=aE hc;omega
 clear hc;refine bI ?_;simp only[RR,seval];refine aB fun _ y=>aA rfl ?_;simp only[RR,seval];apply y;clear y;refine aM ?_;simp only[aZ,aL,bJ,RR,seval];refine bB.pure ?_;rw[hkn0]at hno;rw[oP _ _ fs.length hno,List.drop_eq_nil_of_le (by simp)];rfl
def I8 (p:Pg) (l:List Ex):Prop:= ∀e∈l,cM cG 192 [p.av, .agg e.row] (.int .i64 (Rj (lF p) e))
theorem Da (p:Pg) (l:List Ex) (hl:cQ l) (h:I8 p l):cM cG 146 [p.av, .isl 5 (l.map Ex.row)] (.bool (fX (lF p) l 1)):=by
 simp only[cQ]at hl;unfold I8 at h;generalize lF p=W at *;simp only[Pg.av,Pg.row]at *;refine bM 19 [.tmp 4] Tryz.func146 rfl rfl rfl rfl ?_;refine aB fun _ y=>aA rfl ?_;simp only[RR,seval];refine aT fun b2 hn2=>?_;simp only[RR,seval];apply y;clear y;refine aJ ?_;refine aB fun _ y=>aA rfl ?_;simp only[RR,seval];apply y;clear y;refine bN fun F1 M1 hfr hH=>?_;have g1:=hfr 1;have g2:=hfr 2;have g4:=hfr 4;have g5:=hfr 5;have gb2:=hH b2
 try simp only[RR,seval]at g1 g2 g4 g5 gb2
 have f1:=g1;clear g1;have f2:=g2;clear g2;have f4:=g4;clear g4;have f5:=g5;clear g5;have hb2:=gb2;clear gb2;clear hfr hH;refine aN ?_;refine cF [1,2] (l.length) (fun k fr M=>fr 5= .int .i64 (k:Nat)∧M b2=M1 b2∧fX W l 1=fX W (l.drop k) 1) ⟨f5,rfl,by rw[List.drop_zero]⟩ ?_;rintro k F2 M2 hk0 ⟨fx,gb2,hall⟩ agx K0 hK0;have f1:=(agx 1 rfl).trans f1;have f2:=(agx 2 rfl).trans f2;have f5:=fx;clear fx;have hb2:=gb2.trans hb2;have ag0:=aY.refl [1,2] F2;have e0_b2:=gb2;clear gb2;clear agx;refine aJ ?_;refine aB fun _ y=>aA rfl ?_;simp only[f1,f5,aC,RR,seval];apply y;clear y;refine aH _ rfl (fun hc=>?_) (fun hc=>?_)
 ·have hlt0:k<l.length:=by have:=aD hc;omega
  clear hc;have hg:=nM (aG hlt0);have hm:=h _ (bE hlt0);rw[bD hlt0,tY]at hall;generalize l[k]=e at hg hall hm;rw[e.row_eq]at hm;generalize Rj W e=t at hall hm;refine aK ?_;try simp only[RR]
  refine aJ ?_;refine aN ?_;refine aB fun K y=>?_;refine bK (fun x=>x≠b2) [(0,1),(1,3),(2,3),(3,3),(4,1),(5,1),(6,3)] [] cX (by kernel_rfl) rfl rfl ?_;simp only[cO,f1,f2,f5,hb2,hg,RR,seval];refine aP (hm) ?_;simp only[RR,seval];apply y;clear y;refine aH _ rfl (fun hc4=>?_) (fun hc4=>?_)
  ·refine aB fun _ y=>aA rfl ?_
   simp only[RR,seval];apply y;clear y;refine aM ?_;simp only[aZ,aL,bJ,RR,seval];refine bB.pure ?_;rw[hall,show decide (t=1)=false by simpa using hc4,Bool.false_and]
  refine aK ?_;try simp only[RR]
  refine aA rfl ?_;simp only[f5,RR,seval]
  try rw[aV _ (by omega)]
  refine hK0 _ _ hlt0 ⟨by first|rfl|(simp only[aF,seval];rfl),(by first|exact e0_b2|(simp only[aF,seval];first|done|exact e0_b2)),by rw[hall,show decide (t=1)=true by simpa using hc4,Bool.true_and]⟩ (by repeat (first|exact ag0|refine aY.upd rfl ?_))
 have hkn0:k=l.length:=by have:=aE hc;omega
 clear hc;refine bI ?_;simp only[RR,seval];refine aB fun _ y=>aA rfl ?_;simp only[RR,seval];apply y;clear y;refine aM ?_;simp only[aZ,aL,bJ,RR,seval];refine bB.pure ?_;rw[hall,hkn0,List.drop_length,yP]
theorem Dc (p:Pg) (l:List Ex) (hl:cQ l) (h:I8 p l):cM cG 145 [p.av, .isl 5 (l.map Ex.row)] (.bool (fX (lF p) l 2)):=by
 simp only[cQ]at hl;unfold I8 at h;generalize lF p=W at *;simp only[Pg.av,Pg.row]at *;refine bM 19 [.tmp 4] Tryz.func145 rfl rfl rfl rfl ?_;refine aB fun _ y=>aA rfl ?_;simp only[RR,seval];refine aT fun b2 hn2=>?_;simp only[RR,seval];apply y;clear y;refine aJ ?_;refine aB fun _ y=>aA rfl ?_;simp only[RR,seval];apply y;clear y;refine bN fun F1 M1 hfr hH=>?_;have g1:=hfr 1;have g2:=hfr 2;have g4:=hfr 4;have g5:=hfr 5;have gb2:=hH b2
 try simp only[RR,seval]at g1 g2 g4 g5 gb2
 have f1:=g1;clear g1;have f2:=g2;clear g2;have f4:=g4;clear g4;have f5:=g5;clear g5;have hb2:=gb2;clear gb2;clear hfr hH;refine aN ?_;refine cF [1,2] (l.length) (fun k fr M=>fr 5= .int .i64 (k:Nat)∧M b2=M1 b2∧fX W l 2=fX W (l.drop k) 2) ⟨f5,rfl,by rw[List.drop_zero]⟩ ?_;rintro k F2 M2 hk0 ⟨fx,gb2,hall⟩ agx K0 hK0;have f1:=(agx 1 rfl).trans f1;have f2:=(agx 2 rfl).trans f2;have f5:=fx;clear fx;have hb2:=gb2.trans hb2;have ag0:=aY.refl [1,2] F2;have e0_b2:=gb2;clear gb2;clear agx;refine aJ ?_;refine aB fun _ y=>aA rfl ?_;simp only[f1,f5,aC,RR,seval];apply y;clear y;refine aH _ rfl (fun hc=>?_) (fun hc=>?_)
 ·have hlt0:k<l.length:=by have:=aD hc;omega
  clear hc;have hg:=nM (aG hlt0);have hm:=h _ (bE hlt0);rw[bD hlt0,tY]at hall;generalize l[k]=e at hg hall hm;rw[e.row_eq]at hm;generalize Rj W e=t at hall hm;refine aK ?_;try simp only[RR]
  refine aJ ?_;refine aN ?_;refine aB fun K y=>?_;refine bK (fun x=>x≠b2) [(0,1),(1,3),(2,3),(3,3),(4,1),(5,1),(6,3)] [] cX (by kernel_rfl) rfl rfl ?_;simp only[cO,f1,f2,f5,hb2,hg,RR,seval];refine aP (hm) ?_;simp only[RR,seval];apply y;clear y;refine aH _ rfl (fun hc4=>?_) (fun hc4=>?_)
  ·refine aB fun _ y=>aA rfl ?_
   simp only[RR,seval];apply y;clear y;refine aM ?_;simp only[aZ,aL,bJ,RR,seval];refine bB.pure ?_;rw[hall,show decide (t=2)=false by simpa using hc4,Bool.false_and]
  refine aK ?_;try simp only[RR]
  refine aA rfl ?_;simp only[f5,RR,seval]
  try rw[aV _ (by omega)]
  refine hK0 _ _ hlt0 ⟨by first|rfl|(simp only[aF,seval];rfl),(by first|exact e0_b2|(simp only[aF,seval];first|done|exact e0_b2)),by rw[hall,show decide (t=2)=true by simpa using hc4,Bool.true_and]⟩ (by repeat (first|exact ag0|refine aY.upd rfl ?_))
 have hkn0:k=l.length:=by have:=aE hc;omega
 clear hc;refine bI ?_;simp only[RR,seval];refine aB fun _ y=>aA rfl ?_;simp only[RR,seval];apply y;clear y;refine aM ?_;simp only[aZ,aL,bJ,RR,seval];refine bB.pure ?_;rw[hall,hkn0,List.drop_length,yP]
theorem Jx (p:Pg) (hp:p.ok) (n:Nat): ∀e:Ex,e.sz≤n→e.ok→cM cG 192 [p.av, .agg e.row] (.int .i64 (Rj (lF p) e)):=by
 induction n using Nat.strongRecOn with
 |_ n ih=>
  intro e hn he;have hz:=e.sz_eq;have hk:=he.kids;have hall:I8 p e.kids:=fun x hx=>ih x.sz (by have:=fH hx;omega) x (bF _) (hk.all x hx);have hW:=Da p e.kids hk.fit hall;have hB:=Dc p e.kids hk.fit hall;have hF:=kL p hp.ffit e.name;have hty:=Yr (lF p) e;have hwd:lF p e.name=match(cC (p.funs.map Fu.name) e.name).bind (fun k=>p.funs[k]?)with |some f=>f.word|none=>false:=by simp only[lF,nN]<;>rfl
  have hpl:=fun k h=>fU (p.funs.map Fu.name) e.name k h;have hff:=hp.ffit;generalize Rj (lF p) e=res at *;generalize lF p e.name=WD at *;generalize fX (lF p) e.kids 1=A1 at *;generalize fX (lF p) e.kids 2=A2 at *
  obtain⟨g,hg1,hg2⟩: ∃g:Fu,(decide ((0:Int)≤fY (cC (p.funs.map Fu.name) e.name))=true→(p.funs.map Fu.row)[(fY (cC (p.funs.map Fu.name) e.name)).toNat]?=some [.str g.name, .isl 1 (g.params.map bG), .isl 1 (g.locs.map bG), .bool g.word, .isl 5 (g.body.map Sm.row)])∧WD=(decide ((0:Int)≤fY (cC (p.funs.map Fu.name) e.name))&&g.word):=by
   cases hc:cC (p.funs.map Fu.name) e.name with
   |none=>
    rw[hc]at hwd;exact⟨⟨[],[],[],false,[]⟩,fun h=>by simp [fY]at h,by rw[hwd];rfl⟩
   |some k=>
    rw[hc]at hwd;have hlt:=(hpl k hc).1;rw[aC]at hlt;refine⟨p.funs[k],fun _=>?_, ?_⟩
    ·simp only[fY,Int.toNat_natCast]
     exact jK (aG hlt)
    rw[hwd];simp [fY,aG hlt]
  have z2:decide ((0:Int)≤fY (cC (p.funs.map Fu.name) e.name))=true→(0:Int)≤fY (cC (p.funs.map Fu.name) e.name):=aD;generalize fY (cC (p.funs.map Fu.name) e.name)=pl at *;clear hall ih hp hpl hwd;subst hg2;rw[e.row_eq];simp only[Pg.av,Pg.row,cQ]at *;refine bM 63 [.tmp 4] Tryz.func192 rfl rfl rfl rfl ?_;refine aB fun _ y=>aA rfl ?_;simp only[RR,seval];refine aT fun b2 hn2=>?_;simp only[RR,seval];refine aT fun b3 hn3=>?_;have nb3_b2:b3≠b2:=fun e=>by rw[e]at hn3;simp only[RR,seval,reduceCtorEq]at hn3
  have nb2_b3:b2≠b3:=fun e=>nb3_b2 e.symm;simp only[RR,seval];apply y;clear y;refine aJ ?_;refine aB fun _ y=>aA rfl ?_;simp only[RR,seval];apply y;clear y;refine aN ?_;refine aJ ?_;refine aB fun _ y=>aA rfl ?_;simp only[RR,seval];apply y;clear y;refine bN fun F1 M1 hfr hH=>?_;have g2:=hfr 2;have g3:=hfr 3;have g4:=hfr 4;have g7:=hfr 7;have g8:=hfr 8;have gb2:=hH b2;have gb3:=hH b3
  try simp only[nb2_b3,RR,seval]at g2 g3 g4 g7 g8 gb2 gb3
  have f2:=g2;clear g2;have f3:=g3;clear g3;have f4:=g4;clear g4;have f7:=g7;clear g7;have f8:=g8;clear g8;have hb2:=gb2;clear gb2;have hb3:=gb3;clear gb3;clear hfr hH;refine dU (fun fr M=>aY [2,3,4,7] F1 fr∧M b2=M1 b2∧M b3=M1 b3∧fr 8= .bool (decide (e.kind=1∨e.kind=2∨e.kind=5))) (fun KC2 hKC2=>?_) ?_
  ·have agC2:=aY.refl [2,3,4,7] F1
   have eC2_b2:M1 b2=M1 b2:=rfl;have eC2_b3:M1 b3=M1 b3:=rfl;refine aH _ (by first|rfl|exact f8) (fun hc2=>?_) (fun hc2=>?_)
   ·refine aK ?_;try simp only[RR]
    refine hKC2 _ _ ⟨(by repeat (first|exact agC2|refine aY.upd rfl ?_)),(by first|exact eC2_b2|(simp only[nb3_b2,nb2_b3,aF,seval];first|done|exact eC2_b2)),(by first|exact eC2_b3|(simp only[nb3_b2,nb2_b3,aF,seval];first|done|exact eC2_b3)), ?_⟩
    first|(rw[f8,hc2];simp [aD hc2])|(simp only[aF,seval];simp [hc2,hc3,aD];done)|(simp only[aF,seval];simp_all)
   refine aB fun _ y=>aA rfl ?_;simp only[f7,RR,seval];apply y;clear y;refine aH _ (by first|rfl|exact f8) (fun hc3=>?_) (fun hc3=>?_)
   ·refine aK ?_;try simp only[RR]
    refine hKC2 _ _ ⟨(by repeat (first|exact agC2|refine aY.upd rfl ?_)),(by first|exact eC2_b2|(simp only[nb3_b2,nb2_b3,aF,seval];first|done|exact eC2_b2)),(by first|exact eC2_b3|(simp only[nb3_b2,nb2_b3,aF,seval];first|done|exact eC2_b3)), ?_⟩
    first|(rw[f8,hc2];simp [aD hc2])|(simp only[aF,seval];simp [hc3,aD];done)|(simp only[aF,seval];simp_all)
   refine aA rfl ?_;simp only[f7,RR,seval];refine hKC2 _ _ ⟨(by repeat (first|exact agC2|refine aY.upd rfl ?_)),(by first|exact eC2_b2|(simp only[nb3_b2,nb2_b3,aF,seval];first|done|exact eC2_b2)),(by first|exact eC2_b3|(simp only[nb3_b2,nb2_b3,aF,seval];first|done|exact eC2_b3)), ?_⟩
   first|(rw[f8,hc2];simp [aD hc2])|(simp only[aF,seval];simp [hc2,hc3,aD];done)|(simp only[aF,seval];simp_all)
  rintro F2 M2 ⟨agx,gb2,gb3,f8⟩;have f2:=(agx 2 rfl).trans f2;have f3:=(agx 3 rfl).trans f3;have f4:=(agx 4 rfl).trans f4;have f7:=(agx 7 rfl).trans f7;have hb2:=gb2.trans hb2;have hb3:=gb3.trans hb3;clear agx;clear gb2;clear gb3;simp only[RR,seval];refine aH _ (by first|rfl|exact f8) (fun hc4=>?_) (fun hc4=>?_)
  ·refine aB fun _ y=>aA rfl ?_
   simp only[RR,seval];apply y;clear y;refine aM ?_;simp only[aZ,aL,bJ,RR,seval];refine bB.pure ?_;rw[hty];clear hW hB hF hty hg1;simp_all
   all_goals (intros;omega)
  refine aB fun _ y=>aA rfl ?_;simp only[f7,RR,seval];apply y;clear y;refine aH _ rfl (fun hc6=>?_) (fun hc6=>?_)
  ·refine aB fun _ y=>aA rfl ?_
   simp only[f2,f3,hb2,hb3,RR,seval];refine aP (hW) ?_;simp only[RR,seval];apply y;clear y;refine aH _ rfl (fun hc7=>?_) (fun hc7=>?_)
   ·refine aB fun _ y=>aA rfl ?_
    simp only[RR,seval];apply y;clear y;refine aM ?_;simp only[aZ,aL,bJ,RR,seval];refine bB.pure ?_;rw[hty];clear hW hB hF hty hg1;simp_all
    all_goals (intros;omega)
   refine aK ?_;try simp only[RR]
   refine aB fun _ y=>aA rfl ?_;simp only[RR,seval];apply y;clear y;refine aM ?_;simp only[aZ,aL,bJ,RR,seval];refine bB.pure ?_;rw[hty];clear hW hB hF hty hg1;simp_all
   all_goals (intros;omega)
  refine aB fun _ y=>aA rfl ?_;simp only[f7,RR,seval];apply y;clear y;refine aH _ rfl (fun hc9=>?_) (fun hc9=>?_)
  ·refine aB fun _ y=>aA rfl ?_
   simp only[f2,f3,hb2,hb3,RR,seval];refine aP (hF) ?_;simp only[RR,seval];apply y;clear y;refine aB fun _ y=>aA rfl ?_;simp only[RR,seval]
   all_goals try ((first|refine aO (fun h=>?_) (fun h=>?_)|refine aR (fun h=>?_) (fun h=>?_))<;>simp only[h,f2,hb2,hg1,z2,RR,seval])
   all_goals try ((first|refine aO (fun h=>?_) (fun h=>?_)|refine aR (fun h=>?_) (fun h=>?_))<;>simp only[h,f2,f3,hb2,hb3,RR,seval])
   all_goals try (refine aP (hW) ?_;simp only[RR,seval])
   all_goals
    apply y;clear y;refine aH _ rfl (fun hc11=>?_) (fun hc11=>?_)
    ·try (cases hc11;done)
     all_goals
      refine aB fun _ y=>aA rfl ?_;simp only[RR,seval];apply y;clear y;refine aM ?_;simp only[aZ,aL,bJ,RR,seval];refine bB.pure ?_;rw[hty];clear hW hB hF hty hg1;simp_all
      all_goals (intros;omega)
    try (cases hc11;done)
    all_goals
     refine aK ?_;try simp only[RR]
     refine aB fun _ y=>aA rfl ?_;simp only[RR,seval];apply y;clear y;refine aM ?_;simp only[aZ,aL,bJ,RR,seval];refine bB.pure ?_;rw[hty];clear hW hB hF hty hg1;simp_all
     all_goals (intros;omega)
  refine aB fun _ y=>aA rfl ?_;simp only[f7,RR,seval];apply y;clear y;refine aH _ rfl (fun hc13=>?_) (fun hc13=>?_)
  ·refine aJ ?_
   refine aB fun _ y=>aA rfl ?_;simp only[f2,f3,hb2,hb3,RR,seval];refine aP (hW) ?_;simp only[RR,seval];apply y;clear y;refine aH _ rfl (fun hc14=>?_) (fun hc14=>?_)
   ·refine aB fun _ y=>aA rfl ?_
    simp only[RR,seval];apply y;clear y;refine aM ?_;simp only[aZ,aL,bJ,RR,seval];refine bB.pure ?_;rw[hty];clear hW hB hF hty hg1;simp_all
    all_goals (intros;omega)
   refine aK ?_;try simp only[RR]
   refine aJ ?_;refine aB fun _ y=>aA rfl ?_;simp only[f3,hb3,RR,seval]
   repeat' ((first|refine aO (fun h=>?_) (fun h=>?_)|refine aR (fun h=>?_) (fun h=>?_))<;>simp only[h,f3,hb3,RR,seval])
   all_goals
    apply y;clear y;refine aH _ rfl (fun hc16=>?_) (fun hc16=>?_)
    ·try (cases hc16;done)
     all_goals
      refine aB fun _ y=>aA rfl ?_;simp only[RR,seval];apply y;clear y;refine aM ?_;simp only[aZ,aL,bJ,RR,seval];refine bB.pure ?_;rw[hty];clear hW hB hF hty hg1;simp_all
      all_goals (intros;omega)
    try (cases hc16;done)
    all_goals
     refine aK ?_;try simp only[RR]
     refine aB fun _ y=>aA rfl ?_;simp only[RR,seval];apply y;clear y;refine aM ?_;simp only[aZ,aL,bJ,RR,seval];refine bB.pure ?_;rw[hty];clear hW hB hF hty hg1;simp_all
     all_goals (intros;omega)
  refine aJ ?_;refine aB fun _ y=>aA rfl ?_;simp only[f7,RR,seval];apply y;clear y;refine bN fun F3 M3 hfr hH=>?_;have g2:=hfr 2;have g3:=hfr 3;have g4:=hfr 4;have g7:=hfr 7;have g55:=hfr 55;have gb2:=hH b2;have gb3:=hH b3
  try simp only[f2,f3,f4,f7,hb2,hb3,RR,seval]at g2 g3 g4 g7 g55 gb2 gb3
  have f2:=g2;clear g2;have f3:=g3;clear g3;have f4:=g4;clear g4;have f7:=g7;clear g7;have f55:=g55;clear g55;have hb2:=gb2;clear gb2;have hb3:=gb3;clear gb3;clear hfr hH;refine dU (fun fr M=>aY [2,3,4] F3 fr∧M b2=M3 b2∧M b3=M3 b3∧fr 55= .bool (decide (e.kind=7∨e.kind=8∨e.kind=9))) (fun KC19 hKC19=>?_) ?_
  ·have agC19:=aY.refl [2,3,4] F3
   have eC19_b2:M3 b2=M3 b2:=rfl;have eC19_b3:M3 b3=M3 b3:=rfl;refine aH _ (by first|rfl|exact f55) (fun hc19=>?_) (fun hc19=>?_)
   ·refine aK ?_;try simp only[RR]
    refine hKC19 _ _ ⟨(by repeat (first|exact agC19|refine aY.upd rfl ?_)),(by first|exact eC19_b2|(simp only[nb3_b2,nb2_b3,aF,seval];first|done|exact eC19_b2)),(by first|exact eC19_b3|(simp only[nb3_b2,nb2_b3,aF,seval];first|done|exact eC19_b3)), ?_⟩
    first|(rw[f55,hc19];simp [aD hc19])|(simp only[aF,seval];simp_all)
   refine aB fun _ y=>aA rfl ?_;simp only[f7,RR,seval];apply y;clear y;refine aH _ (by first|rfl|exact f55) (fun hc20=>?_) (fun hc20=>?_)
   ·refine aK ?_;try simp only[RR]
    refine hKC19 _ _ ⟨(by repeat (first|exact agC19|refine aY.upd rfl ?_)),(by first|exact eC19_b2|(simp only[nb3_b2,nb2_b3,aF,seval];first|done|exact eC19_b2)),(by first|exact eC19_b3|(simp only[nb3_b2,nb2_b3,aF,seval];first|done|exact eC19_b3)), ?_⟩
    first|(rw[f55,hc19];simp [aD hc19])|(simp only[aF,seval];simp_all)
   refine aA rfl ?_;simp only[f7,RR,seval];refine hKC19 _ _ ⟨(by repeat (first|exact agC19|refine aY.upd rfl ?_)),(by first|exact eC19_b2|(simp only[nb3_b2,nb2_b3,aF,seval];first|done|exact eC19_b2)),(by first|exact eC19_b3|(simp only[nb3_b2,nb2_b3,aF,seval];first|done|exact eC19_b3)), ?_⟩
   first|(rw[f55,hc19];simp [aD hc19])|(simp only[aF,seval];simp_all)
  rintro F4 M4 ⟨agx,gb2,gb3,f55⟩;have f2:=(agx 2 rfl).trans f2;have f3:=(agx 3 rfl).trans f3;have f4:=(agx 4 rfl).trans f4;have hb2:=gb2.trans hb2;have hb3:=gb3.trans hb3;clear agx;clear gb2;clear gb3;simp only[RR,seval];refine aH _ (by first|rfl|exact f55) (fun hc21=>?_) (fun hc21=>?_)
  ·refine aB fun _ y=>aA rfl ?_
   simp only[f2,f3,hb2,hb3,RR,seval];refine aP (hB) ?_;simp only[RR,seval];apply y;clear y;refine aH _ rfl (fun hc22=>?_) (fun hc22=>?_)
   ·refine aB fun _ y=>aA rfl ?_
    simp only[RR,seval];apply y;clear y;refine aM ?_;simp only[aZ,aL,bJ,RR,seval];refine bB.pure ?_;rw[hty];clear hW hB hF hty hg1;simp_all
    all_goals (intros;omega)
   refine aK ?_;try simp only[RR]
   refine aB fun _ y=>aA rfl ?_;simp only[RR,seval];apply y;clear y;refine aM ?_;simp only[aZ,aL,bJ,RR,seval];refine bB.pure ?_;rw[hty];clear hW hB hF hty hg1;simp_all
   all_goals (intros;omega)
  refine aK ?_;try simp only[RR]
  refine aB fun _ y=>aA rfl ?_;simp only[RR,seval];apply y;clear y;refine aM ?_;simp only[aZ,aL,bJ,RR,seval];refine bB.pure ?_;rw[hty];clear hW hB hF hty hg1;simp_all
  all_goals (intros;omega)
end Go.Proofs.YtaecpjgmcffliaaGreatDoor
namespace Go.Proofs.YtaecpjgmcffliaaGreatDoor
open Go.Al
theorem Ax (p:Pg) (s:cN):decide (fY (cC (p.funs.map Fu.name) s)<0)= !rJ p s:=by
 have h:rJ p s=((cC (p.funs.map Fu.name) s).bind fun k=>p.funs[k]?).isSome:=by simp only[rJ,nN]
 cases hc:cC (p.funs.map Fu.name) s with
 |none=>rw[h,hc];rfl
 |some k=>
  have hlt:=(fU _ _ _ hc).1;rw[aC]at hlt;rw[h,hc];simp [fY,aG hlt];exact aX (by omega)
theorem Ve (p:Pg) (hp:p.ok) (n:Nat): ∀l:List Ex,jA l≤n→rT l→cM cG 144 [p.av, .isl 5 (l.map Ex.row)] (.bool (Dx (rJ p) l)):=by
 induction n using Nat.strongRecOn with
 |_ n ih=>
  intro l hn hok;have hfit:=hok.fit;have hFn:=fun s=>kL p hp.ffit s;have hkp:=fun s=>Ax p s;generalize rJ p=K at *;clear hp;simp only[Pg.av,Pg.row,cQ]at *;refine bM 38 [.tmp 4] Tryz.func144 rfl rfl rfl rfl ?_;refine aB fun _ y=>aA rfl ?_;simp only[RR,seval];refine aT fun b2 hn2=>?_;simp only[RR,seval];apply y;clear y;refine aJ ?_;refine aB fun _ y=>aA rfl ?_;simp only[RR,seval];apply y;clear y;refine bN fun F1 M1 hfr hH=>?_;have g1:=hfr 1;have g2:=hfr 2;have g4:=hfr 4;have g5:=hfr 5;have gb2:=hH b2
  try simp only[RR,seval]at g1 g2 g4 g5 gb2
  have f1:=g1;clear g1;have f2:=g2;clear g2;have f4:=g4;clear g4;have f5:=g5;clear g5;have hb2:=gb2;clear gb2;clear hfr hH;refine aN ?_;refine cF [1,2] (l.length) (fun k fr M=>fr 5= .int .i64 (k:Nat)∧M b2=M1 b2∧Dx K l=Dx K (l.drop k)) ⟨f5,rfl,by rw[List.drop_zero]⟩ ?_;rintro k F2 M2 hk0 ⟨fx,gb2,hall⟩ agx K0 hK0;have f1:=(agx 1 rfl).trans f1;have f2:=(agx 2 rfl).trans f2;have f5:=fx;clear fx;have hb2:=gb2.trans hb2;have ag0:=aY.refl [1,2] F2;have e0_b2:=gb2;clear gb2;clear agx;refine aJ ?_;refine aB fun _ y=>aA rfl ?_;simp only[f1,f5,aC,RR,seval];apply y;clear y;refine aH _ rfl (fun hc=>?_) (fun hc=>?_)
  ·have hlt0:k<l.length:=by have:=aD hc;omega
   clear hc;have hg:=nM (aG hlt0);have hm:=bE hlt0;have hke:=(hok.all _ hm).kids;have hsz:=fH hm;rw[bD hlt0,rW,B5]at hall;generalize l[k]=e at hg hall hke hsz;have hz:=e.sz_eq;have hi:=ih (jA e.kids) (by omega) e.kids (bF _) hke;have hf:=hFn e.name;have z1:=hkp e.name;generalize K e.name=K1 at hall z1;generalize Dx K e.kids=K2 at hall hi;generalize fY (cC (p.funs.map Fu.name) e.name)=pl at hf z1;obtain⟨K3,z3⟩: ∃b,decide (e.kind=4)=b:=⟨_,rfl⟩;rw[z3]at hall;clear ih hFn hkp hke hok;cases K1<;>cases K2<;>cases K3
   all_goals
    refine aK ?_;try simp only[RR]
    refine aJ ?_;refine aN ?_;refine aB fun K y=>?_;refine bK (fun x=>x≠b2) [(0,3),(1,3),(2,3),(3,3),(4,1),(5,3),(6,3),(7,1),(8,3),(9,3),(10,3),(11,3),(12,1),(13,1),(14,3),(15,3),(16,3),(17,1),(18,3),(19,3),(20,3),(21,3),(22,1),(23,1),(24,3),(25,3)] [] cX (by kernel_rfl) rfl rfl ?_;simp only[cO,f1,f2,f5,hb2,hg,z3,RR,seval]
    all_goals try ((first|refine aO (fun h=>?_) (fun h=>?_)|refine aR (fun h=>?_) (fun h=>?_))<;>simp only[h,cO,dG,EM,f1,f2,f5,hb2,aC,hg,z1,z3,RR,seval])
    all_goals try (refine aP (hf) ?_;simp only[f1,f2,f5,hb2,hg,z1,RR,seval])
    all_goals try ((first|refine aO (fun h=>?_) (fun h=>?_)|refine aR (fun h=>?_) (fun h=>?_))<;>simp only[h,cO,dG,EM,f1,f2,f5,hb2,aC,hg,z1,z3,RR,seval])
    all_goals try (refine aP (hi) ?_;simp only[RR,seval])
    all_goals
     apply y;clear y;refine aH _ rfl (fun hc4=>?_) (fun hc4=>?_)
     ·try (cases hc4;done)
      all_goals
       refine aB fun _ y=>aA rfl ?_;simp only[RR,seval];apply y;clear y;refine aM ?_;simp only[aZ,aL,bJ,RR,seval];refine bB.pure ?_;rw[hall];rfl
     try (cases hc4;done)
     all_goals
      refine aK ?_;try simp only[RR]
      refine aA rfl ?_;simp only[f5,RR,seval]
      try rw[aV _ (by omega)]
      refine hK0 _ _ hlt0 ⟨by first|rfl|(simp only[aF,seval];rfl),(by first|exact e0_b2|(simp only[aF,seval];first|done|exact e0_b2)),by rw[hall];rfl⟩ (by repeat (first|exact ag0|refine aY.upd rfl ?_))
  have hkn0:k=l.length:=by have:=aE hc;omega
  clear hc;refine bI ?_;simp only[RR,seval];refine aB fun _ y=>aA rfl ?_;simp only[RR,seval];apply y;clear y;refine aM ?_;simp only[aZ,aL,bJ,RR,seval];refine bB.pure ?_;rw[hall,hkn0,List.drop_length,vM]
theorem yX (p:Pg) (hp:p.ok) (n:Nat): ∀l:List Sm,gH l≤n→rI l→cM cG 95 [p.av, .isl 5 (l.map Sm.row)] (.bool (qJ (rJ p) l)):=by
 induction n using Nat.strongRecOn with
 |_ n ih=>
  intro l hn hok;have hfit:=hok.fit;have hFn:=fun s=>kL p hp.ffit s;have hKn:=fun(x:List Ex) (h:rT x)=>Ve p hp _ x (bF _) h;have hkp:=fun s=>Ax p s;generalize rJ p=K at *;clear hp;simp only[Pg.av,Pg.row,cQ]at *;refine bM 58 [.tmp 4] Tryz.func95 rfl rfl rfl rfl ?_;refine aB fun _ y=>aA rfl ?_;simp only[RR,seval];refine aT fun b2 hn2=>?_;simp only[RR,seval];apply y;clear y;refine aJ ?_;refine aB fun _ y=>aA rfl ?_;simp only[RR,seval];apply y;clear y;refine bN fun F1 M1 hfr hH=>?_;have g1:=hfr 1;have g2:=hfr 2;have g4:=hfr 4;have g5:=hfr 5;have gb2:=hH b2
  try simp only[RR,seval]at g1 g2 g4 g5 gb2
  have f1:=g1;clear g1;have f2:=g2;clear g2;have f4:=g4;clear g4;have f5:=g5;clear g5;have hb2:=gb2;clear gb2;clear hfr hH;refine aN ?_;refine cF [1,2] (l.length) (fun k fr M=>fr 5= .int .i64 (k:Nat)∧M b2=M1 b2∧qJ K l=qJ K (l.drop k)) ⟨f5,rfl,by rw[List.drop_zero]⟩ ?_;rintro k F2 M2 hk0 ⟨fx,gb2,hall⟩ agx K0 hK0;have f1:=(agx 1 rfl).trans f1;have f2:=(agx 2 rfl).trans f2;have f5:=fx;clear fx;have hb2:=gb2.trans hb2;have ag0:=aY.refl [1,2] F2;have e0_b2:=gb2;clear gb2;clear agx;refine aJ ?_;refine aB fun _ y=>aA rfl ?_;simp only[f1,f5,aC,RR,seval];apply y;clear y;refine aH _ rfl (fun hc=>?_) (fun hc=>?_)
  ·have hlt0:k<l.length:=by have:=aD hc;omega
   clear hc;have hg:=sC (aG hlt0);have hm:=bE hlt0;have hoe:=hok.all _ hm;have hsz:=eS hm;rw[bD hlt0,xA,Me]at hall;generalize l[k]=e at hg hall hoe hsz;have hz:=e.sz_eq;have hE:=hKn e.es hoe.es;have hT:=ih (gH e.thn) (by omega) e.thn (bF _) hoe.thn;have hU:=ih (gH e.els) (by omega) e.els (bF _) hoe.els;have hf:=hFn e.name;have z1:=hkp e.name;generalize K e.name=K1 at hall z1;generalize Dx K e.es=K2 at hall hE;generalize qJ K e.thn=K4 at hall hT;generalize qJ K e.els=K5 at hall hU;generalize fY (cC (p.funs.map Fu.name) e.name)=pl at hf z1;obtain⟨K3,z3⟩: ∃b,decide (e.kind=6)=b:=⟨_,rfl⟩;rw[z3]at hall;clear ih hFn hkp hoe hok hKn;refine aK ?_;try simp only[RR]
   refine aJ ?_;refine aN ?_;refine aB fun K y=>?_;refine bK (fun x=>x≠b2) [(0,3),(1,3),(2,3),(3,3),(4,1),(5,3),(6,3),(7,1),(8,3),(9,3),(10,3),(11,3),(12,1),(13,1),(14,3),(15,3),(16,3),(17,1),(18,3),(19,3),(20,3),(21,3),(22,1),(23,1),(24,3),(25,3),(26,3),(27,1),(28,3),(29,3),(30,3),(31,3),(32,1),(33,1),(34,3),(35,3),(36,3),(37,1),(38,3),(39,3),(40,3),(41,3),(42,1),(43,1),(44,3),(45,3)] [] cX (by kernel_rfl) rfl rfl ?_;simp only[cO,f1,f5,hg,z3,RR,seval]
   all_goals try ((first|refine aO (fun h=>?_) (fun h=>?_)|refine aR (fun h=>?_) (fun h=>?_))<;>simp only[h,f1,f2,f5,hb2,hg,RR,seval])
   all_goals try (refine aP (hf) ?_;simp only[z1,RR,seval])
   all_goals try ((first|refine aO (fun h=>?_) (fun h=>?_)|refine aR (fun h=>?_) (fun h=>?_))<;>simp only[h,f1,f2,f5,hb2,hg,RR,seval])
   all_goals try (refine aP (hE) ?_;simp only[RR,seval])
   all_goals try ((first|refine aO (fun h=>?_) (fun h=>?_)|refine aR (fun h=>?_) (fun h=>?_))<;>simp only[h,f1,f2,f5,hb2,hg,RR,seval])
   all_goals try (refine aP (hT) ?_;simp only[RR,seval])
   all_goals try ((first|refine aO (fun h=>?_) (fun h=>?_)|refine aR (fun h=>?_) (fun h=>?_))<;>simp only[h,f1,f2,f5,hb2,hg,RR,seval])
   all_goals try (refine aP (hU) ?_;simp only[RR,seval])
   all_goals
    apply y;clear y;refine aH _ rfl (fun hc4=>?_) (fun hc4=>?_)
    ·try (cases hc4;done)
     all_goals
      refine aB fun _ y=>aA rfl ?_;simp only[RR,seval];apply y;clear y;refine aM ?_;simp only[aZ,aL,bJ,RR,seval];refine bB.pure ?_;rw[hall];clear hE hT hU hf z1 z3;simp_all
    try (cases hc4;done)
    all_goals
     refine aK ?_;try simp only[RR]
     refine aA rfl ?_;simp only[f5,RR,seval]
     try rw[aV _ (by omega)]
     refine hK0 _ _ hlt0 ⟨by first|rfl|(simp only[aF,seval];rfl),(by first|exact e0_b2|(simp only[aF,seval];first|done|exact e0_b2)),by rw[hall];clear hE hT hU hf z1 z3;simp_all⟩ (by repeat (first|exact ag0|refine aY.upd rfl ?_))
  have hkn0:k=l.length:=by have:=aE hc;omega
  clear hc;refine bI ?_;simp only[RR,seval];refine aB fun _ y=>aA rfl ?_;simp only[RR,seval];apply y;clear y;refine aM ?_;simp only[aZ,aL,bJ,RR,seval];refine bB.pure ?_;rw[hall,hkn0,List.drop_length,Qc]
end Go.Proofs.YtaecpjgmcffliaaGreatDoor
namespace Go.Proofs.YtaecpjgmcffliaaGreatDoor
open Go.Al
theorem Rf (p:Pg) (s:cN) (h:rJ p s=true): ∃(k:Nat) (g:Fu),cC (p.funs.map Fu.name) s=some k∧p.funs[k]?=some g∧lF p s=g.word:=by
 have h1:rJ p s=((cC (p.funs.map Fu.name) s).bind fun k=>p.funs[k]?).isSome:=by simp only[rJ,nN]
 have h2:lF p s=match(cC (p.funs.map Fu.name) s).bind (fun k=>p.funs[k]?)with |some f=>f.word|none=>false:=by simp only[lF,nN]<;>rfl
 cases hc:cC (p.funs.map Fu.name) s with
 |none=>rw[h1,hc]at h;cases h
 |some k=>
  have hlt:=(fU _ _ _ hc).1;rw[aC]at hlt;refine⟨k,p.funs[k],rfl,aG hlt, ?_⟩;rw[h2,hc];simp [aG hlt]
set_option maxHeartbeats 4000000 in
theorem J4 (p:Pg) (hp:p.ok) (w:Bool) (n:Nat): ∀l:List Sm,gH l≤n→rI l→qJ (rJ p) l=true→cM cG 96 [p.av, .bool w, .isl 5 (l.map Sm.row)] (.bool (jG (lF p) w l)):=by
 induction n using Nat.strongRecOn with
 |_ n ih=>
  intro l hn hok hkn;have hfit:=hok.fit;have hWd:=fun(x:List Ex) (h:rT x)=>Da p x h.fit fun e he=>Jx p hp _ e (bF _) (h.all e he);have hBl:=fun(x:List Ex) (h:rT x)=>Dc p x h.fit fun e he=>Jx p hp _ e (bF _) (h.all e he);have hFn:=fun s=>kL p hp.ffit s;have hwd:=fun s h=>Rf p s h;have hff:=hp.ffit;generalize lF p=W at *;clear hp;simp only[Pg.av,Pg.row,cQ]at *;refine bM 80 [.tmp 6] Tryz.func96 rfl rfl rfl rfl ?_;refine aB fun _ y=>aA rfl ?_;simp only[RR,seval];refine aT fun b3 hn3=>?_;simp only[RR,seval];apply y;clear y;refine aJ ?_;refine aB fun _ y=>aA rfl ?_;simp only[RR,seval];apply y;clear y;refine bN fun F1 M1 hfr hH=>?_;have g1:=hfr 1;have g2:=hfr 2;have g3:=hfr 3;have g6:=hfr 6;have g7:=hfr 7;have gb3:=hH b3
  try simp only[RR,seval]at g1 g2 g3 g6 g7 gb3
  have f1:=g1;clear g1;have f2:=g2;clear g2;have f3:=g3;clear g3;have f6:=g6;clear g6;have f7:=g7;clear g7;have hb3:=gb3;clear gb3;clear hfr hH;refine aN ?_;refine cF [1,2,3] (l.length) (fun k fr M=>fr 7= .int .i64 (k:Nat)∧M b3=M1 b3∧jG W w l=jG W w (l.drop k)∧qJ (rJ p) (l.drop k)=true) ⟨f7,rfl,by rw[List.drop_zero],by rw[List.drop_zero];exact hkn⟩ ?_;rintro k F2 M2 hk0 ⟨fx,gb3,hall,hkd⟩ agx K0 hK0;have f1:=(agx 1 rfl).trans f1;have f2:=(agx 2 rfl).trans f2;have f3:=(agx 3 rfl).trans f3;have f7:=fx;clear fx;have hb3:=gb3.trans hb3;have ag0:=aY.refl [1,2,3] F2;have e0_b3:=gb3;clear gb3;clear agx;refine aJ ?_;refine aB fun _ y=>aA rfl ?_;simp only[f2,f7,aC,RR,seval];apply y;clear y;refine aH _ rfl (fun hc=>?_) (fun hc=>?_)
  ·have hlt0:k<l.length:=by have:=aD hc;omega
   clear hc;have hg:=sC (aG hlt0);have hm:=bE hlt0;have hoe:=hok.all _ hm;have hsz:=eS hm;rw[bD hlt0,Bh,Ql]at hall;rw[bD hlt0,xA,Me]at hkd;generalize l[k]=e at hg hall hkd hoe hsz;have hz:=e.sz_eq;simp only[bA]at hkd;have hE1:=hWd e.es hoe.es;have hE2:=hBl e.es hoe.es;have hT:=ih (gH e.thn) (by omega) e.thn (bF _) hoe.thn hkd.1.1.2;have hU:=ih (gH e.els) (by omega) e.els (bF _) hoe.els hkd.1.2;have hf:=hFn e.name;have z1:decide (e.kind=6)=true→ ∃(k:Nat) (g:Fu),cC (p.funs.map Fu.name) e.name=some k∧p.funs[k]?=some g∧W e.name=g.word:=fun h=>hwd _ (by have:=hkd.1.1.1.1;rw[h]at this;simpa using this)
   obtain⟨pl,g,y1,y2,y3⟩: ∃(pl:Nat) (g:Fu),(decide (e.kind=6)=true→fY (cC (p.funs.map Fu.name) e.name)=(pl:Int))∧(decide (e.kind=6)=true→(p.funs.map Fu.row)[pl]?=some [.str g.name, .isl 1 (g.params.map bG), .isl 1 (g.locs.map bG), .bool g.word, .isl 5 (g.body.map Sm.row)])∧(decide (e.kind=6)&&W e.name)=(decide (e.kind=6)&&g.word):=by
    cases h6:decide (e.kind=6)with
    |false=>exact⟨0,⟨[],[],[],false,[]⟩,(fun h=>by cases h),(fun h=>by cases h),rfl⟩
    |true=>
     obtain⟨k,g,q1,q2,q3⟩:=z1 h6;exact⟨k,g,(fun _=>by rw[q1];rfl),(fun _=>jK q2),by rw[q3]⟩
   rw[y3]at hall;have hwant:oM e.kind=if decide (e.kind=4∨e.kind=5)=true then 2 else 1:=by simp only[oM,bC]
   rw[hwant]at hall;generalize jG W w e.thn=K4 at hall hT;generalize jG W w e.els=K5 at hall hU;generalize g.word=WG at hall y2;have hlen:decide ((0:Int)<(e.es.length:Int))=decide (0<e.es.length):=by rw[Bool.eq_iff_iff];simp only[bC];omega
   obtain⟨K7,z7⟩: ∃b,decide (e.kind=7)=b:=⟨_,rfl⟩;obtain⟨K8,z8⟩: ∃b,decide (0<e.es.length)=b:=⟨_,rfl⟩;obtain⟨K6,z6⟩: ∃b,decide (e.kind=6)=b:=⟨_,rfl⟩;rw[z6]at y1 y2;rw[z6,z7,z8]at hall;clear ih hFn hoe hok hWd hBl hwd z1 y3;cases K6
   all_goals
    refine aK ?_;try simp only[RR]
    refine aJ ?_;refine aN ?_;refine aB fun _ y=>aA rfl ?_;simp only[f2,f7,hg,RR,seval];refine aT fun b8 hn8=>?_;have nb8_b3:b8≠b3:=fun e=>by rw[e]at hn8;simp only[hb3,seval,reduceCtorEq]at hn8
    have nb3_b8:b3≠b8:=fun e=>nb8_b3 e.symm;simp only[RR,seval];apply y;clear y;refine aJ ?_;refine aB fun _ y=>aA rfl ?_;simp only[RR,seval]
    repeat' ((first|refine aO (fun h=>?_) (fun h=>?_)|refine aR (fun h=>?_) (fun h=>?_))<;>simp only[h,RR,seval])
    all_goals
     apply y;clear y;refine bN fun F3 M3 hfr hH=>?_;have g1:=hfr 1;have g2:=hfr 2;have g3:=hfr 3;have g6:=hfr 6;have g7:=hfr 7;have g8:=hfr 8;have g26:=hfr 26;have gb3:=hH b3;have gb8:=hH b8
     try simp only[f1,f2,f3,f7,hb3,nb3_b8,RR,seval]at g1 g2 g3 g6 g7 g8 g26 gb3 gb8
     have ag0:aY [1,2,3] F2 F3:=aY.same hfr (by repeat (first|exact ag0|refine aY.upd rfl ?_));have e0_b3:=(hH b3).trans (by first|exact e0_b3|(simp only[nb3_b8,aF,seval];first|done|exact e0_b3));have f1:=g1;clear g1;have f2:=g2;clear g2;have f3:=g3;clear g3;have f6:=g6;clear g6;have f7:=g7;clear g7;have f8:=g8;clear g8;have f26:=g26;clear g26;have hb3:=gb3;clear gb3;have hb8:=gb8;clear gb8;clear hfr hH;refine dU (fun fr M=>aY [1,2,3,7,8] F3 fr∧M b3=M3 b3∧M b8=M3 b8∧(fX W e.es (if decide (e.kind=4∨e.kind=5)=true then 2 else 1)=true)) (fun KC5 hKC5=>?_) ?_
     ·have agC5:=aY.refl [1,2,3,7,8] F3
      have eC5_b3:M3 b3=M3 b3:=rfl;have eC5_b8:M3 b8=M3 b8:=rfl;refine aH _ (by first|rfl|exact f26) (fun hc5=>?_) (fun hc5=>?_)
      ·try (cases hc5;done)
       all_goals
        have hA2:(if decide (e.kind=4∨e.kind=5)=true then(2:Int)else 1)=2:=by rw[if_pos];first|simp [aD h]|simp [aD hc5]
        rw[hA2]at hall;refine aB fun _ y=>aA rfl ?_;simp only[f3,f8,hb3,hb8,RR,seval];refine aP (hE2) ?_;simp only[RR,seval];apply y;clear y;refine aH _ rfl (fun hc6=>?_) (fun hc6=>?_)
        ·refine aB fun _ y=>aA rfl ?_
         simp only[RR,seval];apply y;clear y;refine aM ?_;simp only[aZ,aL,bJ,RR,seval];refine bB.pure ?_;rw[hall,show fX W e.es 2=false by simpa using hc6];simp
        refine aK ?_;try simp only[RR]
        refine hKC5 _ _ ⟨(by repeat (first|exact agC5|refine aY.upd rfl ?_)),(by first|exact eC5_b3|(simp only[nb8_b3,nb3_b8,aF,seval];first|done|exact eC5_b3)),(by first|exact eC5_b8|(simp only[nb8_b3,nb3_b8,aF,seval];first|done|exact eC5_b8)),by rw[hA2];first|simpa using hc6|simpa using hc8⟩
      try (cases hc5;done)
      all_goals
       have hA2:(if decide (e.kind=4∨e.kind=5)=true then(2:Int)else 1)=1:=by rw[if_neg];simp [aE h,aE hc5]
       rw[hA2]at hall;refine aB fun _ y=>aA rfl ?_;simp only[f3,f8,hb3,hb8,RR,seval];refine aP (hE1) ?_;simp only[RR,seval];apply y;clear y;refine aH _ rfl (fun hc8=>?_) (fun hc8=>?_)
       ·refine aB fun _ y=>aA rfl ?_
        simp only[RR,seval];apply y;clear y;refine aM ?_;simp only[aZ,aL,bJ,RR,seval];refine bB.pure ?_;rw[hall,show fX W e.es 1=false by simpa using hc8];simp
       refine aK ?_;try simp only[RR]
       refine hKC5 _ _ ⟨(by repeat (first|exact agC5|refine aY.upd rfl ?_)),(by first|exact eC5_b3|(simp only[nb8_b3,nb3_b8,aF,seval];first|done|exact eC5_b3)),(by first|exact eC5_b8|(simp only[nb8_b3,nb3_b8,aF,seval];first|done|exact eC5_b8)),by rw[hA2];first|simpa using hc6|simpa using hc8⟩
     rintro F4 M4 ⟨agx,gb3,gb8,hA⟩;have f1:=(agx 1 rfl).trans f1;have f2:=(agx 2 rfl).trans f2;have f3:=(agx 3 rfl).trans f3;have f7:=(agx 7 rfl).trans f7;have f8:=(agx 8 rfl).trans f8;have hb3:=gb3.trans hb3;have hb8:=gb8.trans hb8;have ag0:aY [1,2,3] F2 F4:=aY.sub agx rfl ag0;have e0_b3:=gb3.trans e0_b3;clear agx;clear gb3;clear gb8;simp only[RR,seval];rw[hA,Bool.true_and]at hall;clear hA;refine aJ ?_;refine aB fun K y=>?_;refine bK (fun x=>x≠b3∧x≠b8) [(0,3),(1,1),(2,3),(3,3),(4,3),(5,0),(6,1),(7,3),(8,1),(9,1),(10,3),(11,3),(12,1),(13,3),(14,3),(15,3),(16,1),(17,3),(18,3),(19,3),(20,1),(21,3),(22,3),(23,3),(24,3),(25,3),(26,3),(27,3),(28,3)] [] cX (by kernel_rfl) rfl rfl ?_;simp only[cO,dG,f3,f8,hb3,hb8,nb3_b8,z6,z7,RR,seval]
     all_goals try ((first|refine aO (fun h=>?_) (fun h=>?_)|refine aR (fun h=>?_) (fun h=>?_))<;>simp only[h,f8,hb8,aC,hlen,z8,RR,seval])
     all_goals try (refine aP (hf) ?_;simp only[y1,y2,RR,seval])
     all_goals try ((first|refine aO (fun h=>?_) (fun h=>?_)|refine aR (fun h=>?_) (fun h=>?_))<;>simp only[h,f1,f8,hb8,z7,RR,seval])
     all_goals try ((first|refine aO (fun h=>?_) (fun h=>?_)|refine aR (fun h=>?_) (fun h=>?_))<;>simp only[h,f8,hb8,aC,hlen,z8,RR,seval])
     all_goals try ((first|refine aO (fun h=>?_) (fun h=>?_)|refine aR (fun h=>?_) (fun h=>?_))<;>simp only[h,f1,RR,seval])
     all_goals try ((first|refine aO (fun h=>?_) (fun h=>?_)|refine aR (fun h=>?_) (fun h=>?_))<;>simp only[h,cO,dG,EM,f1,f2,f3,f7,f8,hb3,hb8,nb8_b3,nb3_b8,aC,hg,hlen,z6,z7,z8,y1,y2,RR,seval])
     all_goals try ((first|refine aO (fun h=>?_) (fun h=>?_)|refine aR (fun h=>?_) (fun h=>?_))<;>simp only[h,cO,dG,EM,f1,f2,f3,f7,f8,hb3,hb8,nb8_b3,nb3_b8,aC,hg,hlen,z6,z7,z8,y1,y2,RR,seval])
     all_goals
      apply y;clear y;refine aH _ rfl (fun hc10=>?_) (fun hc10=>?_)
      ·try (cases hc10;done)
       all_goals
        refine aB fun _ y=>aA rfl ?_;simp only[RR,seval];apply y;clear y;refine aM ?_;simp only[aZ,aL,bJ,RR,seval];refine bB.pure ?_;rw[hall];clear hT hU hf y1 y2 hE1 hE2;simp_all
      try (cases hc10;done)
      all_goals
       refine aK ?_;try simp only[RR]
       refine aB fun _ y=>aA rfl ?_;simp only[f1,f3,f8,hb3,hb8,RR,seval]
       all_goals try (refine aP (hT) ?_;simp only[RR,seval])
       all_goals try ((first|refine aO (fun h=>?_) (fun h=>?_)|refine aR (fun h=>?_) (fun h=>?_))<;>simp only[h,f1,f3,f8,hb3,hb8,RR,seval])
       all_goals try (refine aP (hU) ?_;simp only[RR,seval])
       all_goals
        apply y;clear y;refine aH _ rfl (fun hc12=>?_) (fun hc12=>?_)
        ·try (cases hc12;done)
         all_goals
          refine aB fun _ y=>aA rfl ?_;simp only[RR,seval];apply y;clear y;refine aM ?_;simp only[aZ,aL,bJ,RR,seval];refine bB.pure ?_;rw[hall];clear hT hU hf y1 y2 hE1 hE2;simp_all
        try (cases hc12;done)
        all_goals
         refine aK ?_;try simp only[RR]
         refine aA rfl ?_;simp only[f7,RR,seval]
         try rw[aV _ (by omega)]
         refine hK0 _ _ hlt0 ⟨by first|rfl|(simp only[aF,seval];rfl),(by first|exact e0_b3|(simp only[nb8_b3,nb3_b8,aF,seval];first|done|exact e0_b3)),(by rw[hall];clear hT hU hf y1 y2 hE1 hE2;simp_all),hkd.2⟩ (by repeat (first|exact ag0|refine aY.upd rfl ?_))
  have hkn0:k=l.length:=by have:=aE hc;omega
  clear hc;refine bI ?_;simp only[RR,seval];refine aB fun _ y=>aA rfl ?_;simp only[RR,seval];apply y;clear y;refine aM ?_;simp only[aZ,aL,bJ,RR,seval];refine bB.pure ?_;rw[hall,hkn0,List.drop_length,Ir]
end Go.Proofs.YtaecpjgmcffliaaGreatDoor
namespace Go.Proofs.YtaecpjgmcffliaaGreatDoor
open Go.Al
theorem Ht (p:Pg) (hp:p.ok):cM cG 62 [p.av] (.int .i64 (kU p)):=by
 have hX:kU p=if(p.funs.all fun f=>qJ (rJ p) f.body)=true then(if(p.funs.all fun f=>jG (lF p) f.word f.body)=true then 0 else 5)else 4:=rfl
 have hof:=hp.funs;have hff:=hp.ffit;have hKn:=fun(x:List Sm) (h:rI x)=>yX p hp _ x (bF _) h;have hFi:=fun(w:Bool) (x:List Sm) (h:rI x) (hk:qJ (rJ p) x=true)=>J4 p hp w _ x (bF _) h hk;generalize kU p=res at *;generalize lF p=W at *;generalize rJ p=Kf at *;clear hp;obtain⟨vs,aa,fs⟩:=p;simp only[Pg.av,Pg.row,cQ]at *;refine bM 43 [.tmp 2] Tryz.func62 rfl rfl rfl rfl ?_;refine aB fun _ y=>aA rfl ?_;simp only[RR,seval];refine aT fun b1 hn1=>?_;simp only[RR,seval];apply y;clear y;refine aJ ?_;refine aB fun _ y=>aA rfl ?_;simp only[RR,seval];apply y;clear y;refine bN fun F1 M1 hfr hH=>?_;have g1:=hfr 1;have g2:=hfr 2;have g3:=hfr 3;have gb1:=hH b1
 try simp only[RR,seval]at g1 g2 g3 gb1
 have f1:=g1;clear g1;have f2:=g2;clear g2;have f3:=g3;clear g3;have hb1:=gb1;clear gb1;clear hfr hH;refine aN ?_;refine cF [1] (fs.length) (fun k fr M=>fr 3= .int .i64 (k:Nat)∧M b1=M1 b1∧(fs.all fun f=>qJ Kf f.body)=((fs.drop k).all fun f=>qJ Kf f.body)) ⟨f3,rfl,by rw[List.drop_zero]⟩ ?_;rintro k F2 M2 hk0 ⟨fx,gb1,hall⟩ agx K0 hK0;have f1:=(agx 1 rfl).trans f1;have f3:=fx;clear fx;have hb1:=gb1.trans hb1;have ag0:=aY.refl [1] F2;have e0_b1:=gb1;clear gb1;clear agx;refine aJ ?_;refine aB fun _ y=>aA rfl ?_;simp only[f1,f3,hb1,aC,RR,seval];apply y;clear y;refine aH _ rfl (fun hc=>?_) (fun hc=>?_)
 ·have hlt0:k<fs.length:=by have:=aD hc;omega
  clear hc;have hg:=jK (aG hlt0);have hok:=(hof _ (bE hlt0)).body;rw[bD hlt0,List.all_cons]at hall;generalize fs[k]=f at hg hall hok;have hk:=hKn f.body hok;generalize qJ Kf f.body=KK at hk hall;refine aK ?_;try simp only[RR]
  refine aJ ?_;refine aN ?_;refine aB fun K y=>?_;refine bK (fun x=>x≠b1) [(0,1),(1,3),(2,1),(3,3),(4,3),(5,3),(6,1),(7,1),(8,3)] [] cX (by kernel_rfl) rfl rfl ?_;simp only[cO,f1,f3,hb1,hg,RR,seval];refine aP (hk) ?_;simp only[RR,seval];apply y;clear y;refine aH _ rfl (fun hc4=>?_) (fun hc4=>?_)
  ·refine aB fun _ y=>aA rfl ?_
   simp only[RR,seval];apply y;clear y;refine aM ?_;simp only[aZ,aL,bJ,RR,seval];refine bB.pure ?_;rw[hX,if_neg (by rw[hall,show KK=false by simpa using hc4];simp)]
  refine aK ?_;try simp only[RR]
  refine aA rfl ?_;simp only[f3,RR,seval]
  try rw[aV _ (by omega)]
  refine hK0 _ _ hlt0 ⟨by first|rfl|(simp only[aF,seval];rfl),(by first|exact e0_b1|(simp only[aF,seval];first|done|exact e0_b1)),by rw[hall,show KK=true by simpa using hc4,Bool.true_and]⟩ (by repeat (first|exact ag0|refine aY.upd rfl ?_))
 have hkn0:k=fs.length:=by have:=aE hc;omega
 clear hc;rw[hkn0,List.drop_length,List.all_nil]at hall;rw[if_pos hall]at hX;have hkn:=List.all_eq_true.1 hall;refine bI ?_;simp only[RR,seval];refine aJ ?_;refine aB fun _ y=>aA rfl ?_;simp only[RR,seval];apply y;clear y;refine bN fun F3 M3 hfr hH=>?_;have g1:=hfr 1;have g2:=hfr 2;have g4:=hfr 4;have gb1:=hH b1
 try simp only[f1,hb1,RR,seval]at g1 g2 g4 gb1
 have f1:=g1;clear g1;have f2:=g2;clear g2;have f4:=g4;clear g4;have hb1:=gb1;clear gb1;clear hfr hH;refine aN ?_;refine cF [1] (fs.length) (fun j fr M=>fr 4= .int .i64 (j:Nat)∧M b1=M3 b1∧(fs.all fun f=>jG W f.word f.body)=((fs.drop j).all fun f=>jG W f.word f.body)) ⟨f4,rfl,by rw[List.drop_zero]⟩ ?_;rintro j F4 M4 hk2 ⟨fx,gb1,hall2⟩ agx K2 hK2;have f1:=(agx 1 rfl).trans f1;have f4:=fx;clear fx;have hb1:=gb1.trans hb1;have ag2:=aY.refl [1] F4;have e2_b1:=gb1;clear gb1;clear agx;refine aJ ?_;refine aB fun _ y=>aA rfl ?_;simp only[f1,f4,hb1,aC,RR,seval];apply y;clear y;refine aH _ rfl (fun hc=>?_) (fun hc=>?_)
 ·have hlt2:j<fs.length:=by have:=aD hc;omega
  clear hc;have hg:=jK (aG hlt2);have hok:=(hof _ (bE hlt2)).body;have hkf:=hkn _ (bE hlt2);rw[bD hlt2,List.all_cons]at hall2;generalize fs[j]=f at hg hall2 hok hkf;have hk:=hFi f.word f.body hok hkf;generalize jG W f.word f.body=KK at hk hall2;refine aK ?_;try simp only[RR]
  refine aJ ?_;refine aN ?_;refine aB fun K y=>?_;refine bK (fun x=>x≠b1) [(0,1),(1,3),(2,1),(3,3),(4,3),(5,3),(6,1),(7,3),(8,1),(9,3),(10,3),(11,3),(12,1),(13,1),(14,3)] [] cX (by kernel_rfl) rfl rfl ?_;simp only[cO,f1,f4,hb1,hg,RR,seval];refine aP (hk) ?_;simp only[RR,seval];apply y;clear y;refine aH _ rfl (fun hc9=>?_) (fun hc9=>?_)
  ·refine aB fun _ y=>aA rfl ?_
   simp only[RR,seval];apply y;clear y;refine aM ?_;simp only[aZ,aL,bJ,RR,seval];refine bB.pure ?_;rw[hX,if_neg (by rw[hall2,show KK=false by simpa using hc9];simp)]
  refine aK ?_;try simp only[RR]
  refine aA rfl ?_;simp only[f4,RR,seval]
  try rw[aV _ (by omega)]
  refine hK2 _ _ hlt2 ⟨by first|rfl|(simp only[aF,seval];rfl),(by first|exact e2_b1|(simp only[aF,seval];first|done|exact e2_b1)),by rw[hall2,show KK=true by simpa using hc9,Bool.true_and]⟩ (by repeat (first|exact ag2|refine aY.upd rfl ?_))
 have hkn2:j=fs.length:=by have:=aE hc;omega
 clear hc;refine bI ?_;simp only[RR,seval];refine aB fun _ y=>aA rfl ?_;simp only[RR,seval];apply y;clear y;refine aM ?_;simp only[aZ,aL,bJ,RR,seval];refine bB.pure ?_;rw[hX,if_pos (by rw[hall2,hkn2,List.drop_length];rfl)]
theorem Hq (p:Pg) (hp:p.ok) (hfew:dH p=true→p.few):cM cG 35 [p.av] (.int .i64 (fN p)):=by
 have hR:=rH p hp
 have h1:dH p=true→1≤p.funs.length:=fun h=>by
  simp only[dH,bA,bC]at h;exact h.1.1.1.2
 have hC:=fun h=>Lm p (hfew h) (h1 h);have hT:=Ht p hp;clear hfew;have hX:fN p=if dH p=true then(if gY p=0 then kU p else gY p)else 7:=rfl
 generalize fN p=res at *;generalize kU p=ct at *;generalize gY p=ci at *;generalize dH p=rp at *;simp only[Pg.av,Pg.row]at *
 cases rp with
 |false=>
  refine bM 14 [.tmp 2] Tryz.func35 rfl rfl rfl rfl ?_;refine aB fun _ y=>aA rfl ?_;simp only[RR,seval];refine aT fun b1 hn1=>?_;simp only[RR,seval];apply y;clear y;refine aJ ?_;refine aB fun _ y=>aA rfl ?_;simp only[RR,seval];refine aP (hR) ?_;simp only[RR,seval];apply y;clear y;refine aH true rfl (fun _=>?_) (fun hc=>by cases hc);refine aB fun _ y=>aA rfl ?_;simp only[RR,seval];apply y;clear y;refine aM ?_;simp only[aZ,aL,bJ,RR,seval];refine bB.pure ?_;rw[hX];rfl
 |true=>
  have hC:=hC rfl;rw[if_pos rfl]at hX;refine bM 14 [.tmp 2] Tryz.func35 rfl rfl rfl rfl ?_;refine aB fun _ y=>aA rfl ?_;simp only[RR,seval];refine aT fun b1 hn1=>?_;simp only[RR,seval];apply y;clear y;refine aJ ?_;refine aB fun _ y=>aA rfl ?_;simp only[RR,seval];refine aP (hR) ?_;simp only[RR,seval];apply y;clear y;refine aH false rfl (fun hc=>by cases hc) (fun _=>?_);refine aK ?_;try simp only[RR]
  refine aB fun _ y=>aA rfl ?_;simp only[RR,seval];refine aP (hC) ?_;simp only[RR,seval];apply y;clear y;refine aJ ?_;refine aB fun _ y=>aA rfl ?_;simp only[RR,seval];apply y;clear y;refine aH _ rfl (fun hc4=>?_) (fun hc4=>?_)
  ·refine aB fun _ y=>aA rfl ?_
   simp only[RR,seval];apply y;clear y;refine aM ?_;simp only[aZ,aL,bJ,RR,seval];refine bB.pure ?_;rw[hX,if_neg (by simpa using hc4)]
  refine aK ?_;try simp only[RR]
  refine aB fun _ y=>aA rfl ?_;simp only[RR,seval];refine aP (hT) ?_;simp only[RR,seval];apply y;clear y;refine aM ?_;simp only[aZ,aL,bJ,RR,seval];refine bB.pure ?_;rw[hX,if_pos (by simpa using hc4)]
end Go.Proofs.YtaecpjgmcffliaaGreatDoor
