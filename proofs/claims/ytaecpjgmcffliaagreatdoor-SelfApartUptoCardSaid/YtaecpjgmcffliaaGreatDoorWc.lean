/- Chapter 52, the judge's: is a program of the small part? -/
import Derived.Test.YtaecpjgmcffliaaGreatDoorWa
import Derived.Test.YtaecpjgmcffliaaGreatDoorT1
import Derived.Test.YtaecpjgmcffliaaGreatDoorBd2
set_option linter.unusedSimpArgs false
set_option linter.unusedVariables false
set_option maxRecDepth 10000
namespace Go.Proofs.YtaecpjgmcffliaaGreatDoor
open Go.Al
theorem uJ (s:cN):cM cG 36 [.str s] (.bool (oZ s)):=by
 rcases s with _|⟨c,_|⟨d,l⟩⟩
 ·skip
  refine bM 20 [.tmp 2] Tryz.func36 rfl rfl rfl rfl ?_;refine aB fun _ y=>aA rfl ?_;simp only[RR,seval];apply y;clear y;refine aB fun _ y=>aA rfl ?_;simp only[RR,seval];apply y;clear y;refine aM ?_;simp only[aZ,aL,bJ,RR,seval];refine bB.pure ?_;rfl
 ·skip
  refine bM 20 [.tmp 2] Tryz.func36 rfl rfl rfl rfl ?_;refine aB fun _ y=>aA rfl ?_;simp only[RR,seval];apply y;clear y;refine aB fun _ y=>aA rfl ?_;simp only[RR,seval]
  repeat' ((first|refine aO (fun h=>?_) (fun h=>?_)|refine aR (fun h=>?_) (fun h=>?_))<;>simp only[h,RR,seval])
  all_goals
   apply y;clear y;refine aM ?_;simp only[aZ,aL,bJ,RR,seval];refine bB.pure ?_;simp [oZ, *]
 have z:decide (((c::d::l).length:Int)=1)=false:=aX (by simp only[aQ];omega);refine bM 20 [.tmp 2] Tryz.func36 rfl rfl rfl rfl ?_;refine aB fun _ y=>aA rfl ?_;simp only[RR,seval];apply y;clear y;refine aB fun _ y=>aA rfl ?_;simp only[RR,seval];apply y;clear y;refine aM ?_;simp only[aZ,aL,bJ,RR,seval];refine bB.pure ?_;rfl
theorem Eb (n:Nat): ∀l:List Ex,jA l≤n→n≤1000000000→cM cG 63 [.isl 5 (l.map Ex.row)] (.bool (l.all (rD rY))):=by
 induction n using Nat.strongRecOn with
 |_ n ih=>
  intro l hn hb;have hlen:=tB l
  have hkid: ∀e∈l,cM cG 63 [.isl 5 (e.kids.map Ex.row)] (.bool (e.kids.all (rD rY))):=fun e he=>by
   have h1:=fH he;have h2:=e.sz_eq;exact ih (jA e.kids) (by omega) e.kids (bF _) (by omega)
  have hbad: ∀{k:Nat} {e:Ex},l[k]?=some e→rD rY e=false→AV.bool false=AV.bool (l.all (rD rY)):=fun h0 h1=>by rw[jS h0 h1]
  clear ih;refine bM 41 [.tmp 2] Tryz.func63 rfl rfl rfl rfl ?_;refine aB fun _ y=>aA rfl ?_;simp only[RR,seval];apply y;clear y;refine aJ ?_;refine aB fun _ y=>aA rfl ?_;simp only[RR,seval];apply y;clear y;refine bN fun F1 M1 hfr hH=>?_;have g0:=hfr 0;have g2:=hfr 2;have g3:=hfr 3
  try simp only[RR,seval]at g0 g2 g3
  have f0:=g0;clear g0;have f2:=g2;clear g2;have f3:=g3;clear g3;clear hfr hH;refine aN ?_;refine cF [0] (l.length) (fun k fr M=>fr 3= .int .i64 (k:Nat)∧(l.take k).all (rD rY)=true) ⟨f3,rfl⟩ ?_;rintro k F2 M2 hk0 ⟨fx,hk⟩ agx K0 hK0;have f0:=(agx 0 rfl).trans f0;have f3:=fx;clear fx;have ag0:=aY.refl [0] F2;clear agx;refine aJ ?_;refine aB fun _ y=>aA rfl ?_;simp only[f0,f3,aC,RR,seval];apply y;clear y;refine aH _ rfl (fun hc=>?_) (fun hc=>?_)
  ·have hlt0:k<l.length:=by have:=aD hc;omega
   clear hc;have hg0:=aG hlt0;have hkd:=hkid _ (bE hlt0);have hbd:=hbad hg0;have htk:=gZ hg0 hk;have hg:=nM hg0;generalize l[k]=e at *;have hkj:rY e.kind= !(decide (e.kind=4)||decide (e.kind=8)||decide (e.kind=9)):=rfl;rw[rC,hkj]at hbd htk;clear hkj;generalize e.kids.all (rD rY)=a6 at *;generalize h4:decide (e.kind=4)=q4 at *;generalize h8:decide (e.kind=8)=q8 at *;generalize h9:decide (e.kind=9)=q9 at *;refine aK ?_;try simp only[RR]
   refine aJ ?_;refine aN ?_;refine aB fun _ y=>aA rfl ?_;simp only[f0,f3,hg,h4,RR,seval]
   all_goals try ((first|refine aO (fun h=>?_) (fun h=>?_)|refine aR (fun h=>?_) (fun h=>?_))<;>simp only[h,f0,f3,hg,h8,RR,seval])
   all_goals try ((first|refine aO (fun h=>?_) (fun h=>?_)|refine aR (fun h=>?_) (fun h=>?_))<;>simp only[h,f0,f3,hg,h9,RR,seval])
   all_goals try ((first|refine aO (fun h=>?_) (fun h=>?_)|refine aR (fun h=>?_) (fun h=>?_))<;>simp only[h,f0,f3,hg,RR,seval])
   all_goals try (refine aP (hkd) ?_;simp only[RR,seval])
   all_goals
    apply y;clear y;refine aH _ rfl (fun hc4=>?_) (fun hc4=>?_)
    ·try (cases hc4;done)
     all_goals
      refine aB fun _ y=>aA rfl ?_;simp only[RR,seval];apply y;clear y;refine aM ?_;simp only[aZ,aL,bJ,RR,seval];refine bB.pure ?_
      first|(rw[hkn0,List.take_length]at hk;rw[hk])|exact hbd (by simp_all)
    try (cases hc4;done)
    all_goals
     refine aK ?_;try simp only[RR]
     refine aA rfl ?_;simp only[f3,RR,seval]
     try rw[aV _ (by omega)]
     refine hK0 _ _ hlt0 ⟨by first|rfl|(simp only[aF,seval];rfl),htk (by simp_all)⟩ (by repeat (first|exact ag0|refine aY.upd rfl ?_))
  have hkn0:k=l.length:=by have:=aE hc;omega
  clear hc;refine bI ?_;simp only[RR,seval];refine aB fun _ y=>aA rfl ?_;simp only[RR,seval];apply y;clear y;refine aM ?_;simp only[aZ,aL,bJ,RR,seval];refine bB.pure ?_
  first|(rw[hkn0,List.take_length]at hk;rw[hk])|exact hbd (by simp_all)
theorem Ea (n:Nat): ∀l:List Sm,gH l≤n→n≤1000000000→cM cG 37 [.isl 5 (l.map Sm.row)] (.bool (l.all zI)):=by
 induction n using Nat.strongRecOn with
 |_ n ih=>
  intro l hn hb;have hlen:=tA l
  have hkid: ∀e∈l,cM cG 37 [.isl 5 (e.thn.map Sm.row)] (.bool (e.thn.all zI)):=fun e he=>by
   have h1:=eS he;have h2:=e.sz_eq;exact ih (gH e.thn) (by omega) e.thn (bF _) (by omega)
  have hkex: ∀e∈l,cM cG 63 [.isl 5 (e.es.map Ex.row)] (.bool (e.es.all (rD rY))):=fun e he=>Eb _ e.es (bF _) (by have:=eS he;have:=e.sz_eq;omega);have hbad: ∀{k:Nat} {e:Sm},l[k]?=some e→zI e=false→AV.bool false=AV.bool (l.all zI):=fun h0 h1=>by rw[jS h0 h1]
  clear ih;refine bM 41 [.tmp 2] Tryz.func37 rfl rfl rfl rfl ?_;refine aB fun _ y=>aA rfl ?_;simp only[RR,seval];apply y;clear y;refine aJ ?_;refine aB fun _ y=>aA rfl ?_;simp only[RR,seval];apply y;clear y;refine bN fun F1 M1 hfr hH=>?_;have g0:=hfr 0;have g2:=hfr 2;have g3:=hfr 3
  try simp only[RR,seval]at g0 g2 g3
  have f0:=g0;clear g0;have f2:=g2;clear g2;have f3:=g3;clear g3;clear hfr hH;refine aN ?_;refine cF [0] (l.length) (fun k fr M=>fr 3= .int .i64 (k:Nat)∧(l.take k).all zI=true) ⟨f3,rfl⟩ ?_;rintro k F2 M2 hk0 ⟨fx,hk⟩ agx K0 hK0;have f0:=(agx 0 rfl).trans f0;have f3:=fx;clear fx;have ag0:=aY.refl [0] F2;clear agx;refine aJ ?_;refine aB fun _ y=>aA rfl ?_;simp only[f0,f3,aC,RR,seval];apply y;clear y;refine aH _ rfl (fun hc=>?_) (fun hc=>?_)
  ·have hlt0:k<l.length:=by have:=aD hc;omega
   clear hc;have hg0:=aG hlt0;have hkd:=hkid _ (bE hlt0);have hke:=hkex _ (bE hlt0);have hbd:=hbad hg0;have htk:=gZ hg0 hk;have hg:=sC hg0;generalize l[k]=e at *;rw[Zg]at hbd htk;generalize e.thn.all zI=a6 at *;generalize e.es.all (rD rY)=a5 at *;have hz:decide ((0:Int)<(e.els.length:Int))= !decide (e.els.length=0):=by rw[Bool.eq_iff_iff];simp only[bC,Bool.not_eq_true',decide_eq_false_iff_not];omega
   generalize h6:decide (e.kind=6)=q6 at *;generalize h7:decide (e.kind=7)=q7 at *;generalize decide (e.els.length=0)=q0 at *;refine aK ?_;try simp only[RR]
   refine aJ ?_;refine aN ?_;refine aB fun _ y=>aA rfl ?_;simp only[f0,f3,hg,RR,seval];refine aT fun b4 hn4=>?_;simp only[RR,seval];apply y;clear y;refine aB fun _ y=>aA rfl ?_;simp only[h6,RR,seval]
   all_goals try ((first|refine aO (fun h=>?_) (fun h=>?_)|refine aR (fun h=>?_) (fun h=>?_))<;>simp only[h,h7,RR,seval])
   all_goals try ((first|refine aO (fun h=>?_) (fun h=>?_)|refine aR (fun h=>?_) (fun h=>?_))<;>simp only[h,aC,hz,RR,seval])
   all_goals try ((first|refine aO (fun h=>?_) (fun h=>?_)|refine aR (fun h=>?_) (fun h=>?_))<;>simp only[h,RR,seval])
   all_goals try (refine aP (hke) ?_;simp only[RR,seval])
   all_goals try ((first|refine aO (fun h=>?_) (fun h=>?_)|refine aR (fun h=>?_) (fun h=>?_))<;>simp only[h,RR,seval])
   all_goals try (refine aP (hkd) ?_;simp only[RR,seval])
   all_goals
    apply y;clear y;refine aH _ rfl (fun hc5=>?_) (fun hc5=>?_)
    ·try (cases hc5;done)
     all_goals
      refine aB fun _ y=>aA rfl ?_;simp only[RR,seval];apply y;clear y;refine aM ?_;simp only[aZ,aL,bJ,RR,seval];refine bB.pure ?_
      first|(rw[hkn0,List.take_length]at hk;rw[hk])|exact hbd (by simp_all)
    try (cases hc5;done)
    all_goals
     refine aK ?_;try simp only[RR]
     refine aA rfl ?_;simp only[f3,RR,seval]
     try rw[aV _ (by omega)]
     refine hK0 _ _ hlt0 ⟨by first|rfl|(simp only[aF,seval];rfl),htk (by simp_all)⟩ (by repeat (first|exact ag0|refine aY.upd rfl ?_))
  have hkn0:k=l.length:=by have:=aE hc;omega
  clear hc;refine bI ?_;simp only[RR,seval];refine aB fun _ y=>aA rfl ?_;simp only[RR,seval];apply y;clear y;refine aM ?_;simp only[aZ,aL,bJ,RR,seval];refine bB.pure ?_
  first|(rw[hkn0,List.take_length]at hk;rw[hk])|exact hbd (by simp_all)
set_option maxHeartbeats 4000000 in
theorem nK (p:Pg) (hp:p.ok) (hfew:dH p=true→p.few):cM cG 15 [p.av] (.bool (dY (fun l=>l.all zI) p)):=by
 have hS:=Hq p hp hfew;have hX:dY (fun l=>l.all zI) p=(decide (fN p=0)&&(decide (p.funs.length=1)&&(p.funs.all (fun g=>decide (g.locs.length=0))&&(decide (p.arrs.length≤1)&&(p.vars.all oZ&&(p.arrs.all zH&&p.funs.all fun g=>g.body.all zI)))))):=rfl;have fv:p.vars.length≤9223372036854775807:=hp.vars.fit;have hbody:fN p=0→ ∀g∈p.funs,cM cG 37 [.isl 5 (g.body.map Sm.row)] (.bool (g.body.all zI)):=fun h g hg=>Ea _ g.body (bF _) (by have:=(hfew (jE h)).fs g hg;omega);clear hfew hp;generalize fN p=so at *;generalize dY (fun l=>l.all zI) p=res at *;obtain⟨vs,aa,fs⟩:=p;simp only[Pg.av,Pg.row]at *;by_cases z0:so=0
 rotate_left
 ·rw[aX z0,Bool.false_and]at hX
  subst hX;refine bM 68 [.tmp 2] Tryz.func15 rfl rfl rfl rfl ?_;refine aB fun _ y=>aA rfl ?_;simp only[RR,seval];refine aT fun b1 hn1=>?_;simp only[RR,seval];apply y;clear y;refine aJ ?_;refine aB fun _ y=>aA rfl ?_;simp only[RR,seval];refine aP (hS) ?_;simp only[z0,RR,seval];apply y;clear y;refine aH true rfl (fun _=>?_) (fun hc=>by cases hc);refine aB fun _ y=>aA rfl ?_;simp only[RR,seval];apply y;clear y;refine aM ?_;simp only[aZ,aL,bJ,RR,seval];refine bB.pure ?_;rfl
 subst z0;by_cases z1:fs.length=1
 rotate_left
 ·rw[aX z1,Bool.false_and,Bool.and_false]at hX
  subst hX;have y1:decide ((fs.length:Int)=1)=false:=aX (by omega);refine bM 68 [.tmp 2] Tryz.func15 rfl rfl rfl rfl ?_;refine aB fun _ y=>aA rfl ?_;simp only[RR,seval];refine aT fun b1 hn1=>?_;simp only[RR,seval];apply y;clear y;refine aJ ?_;refine aB fun _ y=>aA rfl ?_;simp only[RR,seval];refine aP (hS) ?_;simp only[aC,y1,RR,seval];apply y;clear y;refine aH true rfl (fun _=>?_) (fun hc=>by cases hc);refine aB fun _ y=>aA rfl ?_;simp only[RR,seval];apply y;clear y;refine aM ?_;simp only[aZ,aL,bJ,RR,seval];refine bB.pure ?_;rfl
 obtain⟨f,rfl⟩:=List.length_eq_one_iff.1 z1;have hb:=hbody rfl f (List.mem_singleton.2 rfl);have hrw:f.row=[.str f.name, .isl 1 (f.params.map bG), .isl 1 (f.locs.map bG), .bool f.word, .isl 5 (f.body.map Sm.row)]:=rfl;have w1:decide ((([f]:List Fu).length:Int)=1)=true:=rfl;have w2:(0:Int)<(([f]:List Fu).length:Int):=by simp
 simp only[List.all_cons,List.all_nil,Bool.and_true,aQ,List.length_nil,Nat.zero_add,decide_true,Bool.true_and]at hX;clear z1 hbody;have hg:([f].map Fu.row)[0]?=some [.str f.name, .isl 1 (f.params.map bG), .isl 1 (f.locs.map bG), .bool f.word, .isl 5 (f.body.map Sm.row)]:=jK rfl;by_cases z2:f.locs.length=0
 rotate_left
 ·rw[aX z2,Bool.false_and]at hX
  subst hX;have y1:decide ((0:Int)<(f.locs.length:Int))=true:=bQ (by omega);refine bM 68 [.tmp 2] Tryz.func15 rfl rfl rfl rfl ?_;refine aB fun _ y=>aA rfl ?_;simp only[hrw,RR,seval];refine aT fun b1 hn1=>?_;simp only[RR,seval];apply y;clear y;refine aJ ?_;refine aB fun _ y=>aA rfl ?_;simp only[RR,seval];refine aP (hS) ?_;simp only[aC,y1,RR,seval];apply y;clear y;refine aH true rfl (fun _=>?_) (fun hc=>by cases hc);refine aB fun _ y=>aA rfl ?_;simp only[RR,seval];apply y;clear y;refine aM ?_;simp only[aZ,aL,bJ,RR,seval];refine bB.pure ?_;rfl
 rw[bQ z2,Bool.true_and]at hX;have y2:decide ((0:Int)<(f.locs.length:Int))=false:=aX (by omega);by_cases z3:aa.length≤1
 rotate_left
 ·rw[aX z3,Bool.false_and]at hX
  subst hX;have y3:decide ((1:Int)<(aa.length:Int))=true:=bQ (by omega);refine bM 68 [.tmp 2] Tryz.func15 rfl rfl rfl rfl ?_;refine aB fun _ y=>aA rfl ?_;simp only[hrw,RR,seval];refine aT fun b1 hn1=>?_;simp only[RR,seval];apply y;clear y;refine aJ ?_;refine aB fun _ y=>aA rfl ?_;simp only[RR,seval];refine aP (hS) ?_;simp only[aC,y2,y3,RR,seval];apply y;clear y;refine aH true rfl (fun _=>?_) (fun hc=>by cases hc);refine aB fun _ y=>aA rfl ?_;simp only[RR,seval];apply y;clear y;refine aM ?_;simp only[aZ,aL,bJ,RR,seval];refine bB.pure ?_;rfl
 rw[bQ z3,Bool.true_and]at hX;have y3:decide ((1:Int)<(aa.length:Int))=false:=aX (by omega);have hbadV: ∀{k:Nat} {s:cN},vs[k]?=some s→oZ s=false→AV.bool false=AV.bool res:=fun h0 h1=>by rw[hX,jS h0 h1];rfl
 have hbadA:aa.all zH=false→AV.bool false=AV.bool res:=fun h1=>by rw[hX,h1];simp only[Bool.false_and,Bool.and_false]
 generalize f.body.all zI=a6 at *;rcases aa with _|⟨a,_|⟨a',aa⟩⟩
 ·have y4:decide ((([]:List Ar).length:Int)=1)=false:=rfl
  rw[List.all_nil,Bool.true_and]at hX;refine bM 68 [.tmp 2] Tryz.func15 rfl rfl rfl rfl ?_;refine aB fun _ y=>aA rfl ?_;simp only[hrw,RR,seval];refine aT fun b1 hn1=>?_;simp only[RR,seval];apply y;clear y;refine aJ ?_;refine aB fun _ y=>aA rfl ?_;simp only[RR,seval];refine aP (hS) ?_;simp only[aC,y2,RR,seval];apply y;clear y;refine aH false rfl (fun hc=>by cases hc) (fun _=>?_);refine aK ?_;try simp only[RR]
  refine aJ ?_;refine aB fun _ y=>aA rfl ?_;simp only[RR,seval];apply y;clear y;refine aH false rfl (fun hc=>by cases hc) (fun _=>?_);refine aK ?_;try simp only[RR]
  refine aJ ?_;refine aB fun _ y=>aA rfl ?_;simp only[RR,seval];apply y;clear y;refine bN fun F1 M1 hfr hH=>?_;have g1:=hfr 1;have g2:=hfr 2;have g3:=hfr 3;have gb1:=hH b1
  try simp only[RR,seval]at g1 g2 g3 gb1
  have f1:=g1;clear g1;have f2:=g2;clear g2;have f3:=g3;clear g3;have hb1:=gb1;clear gb1;clear hfr hH;refine aN ?_;refine cF [1] (vs.length) (fun k fr M=>fr 3= .int .i64 (k:Nat)∧M b1=M1 b1∧(vs.take k).all oZ=true) ⟨f3,rfl,rfl⟩ ?_;rintro k F2 M2 hk0 ⟨fx,gb1,hk⟩ agx K0 hK0;have f1:=(agx 1 rfl).trans f1;have f3:=fx;clear fx;have hb1:=gb1.trans hb1;have ag0:=aY.refl [1] F2;have e0_b1:=gb1;clear gb1;clear agx;refine aJ ?_;refine aB fun _ y=>aA rfl ?_;simp only[f1,f3,hb1,aC,RR,seval];apply y;clear y;refine aH _ rfl (fun hc=>?_) (fun hc=>?_)
  ·have hlt0:k<vs.length:=by have:=aD hc;omega
   clear hc;have hg0:=aG hlt0;have hlc:=uJ vs[k];have hbd:=hbadV hg0;have htk:=gZ hg0 hk;have hgn:=vH hg0;generalize vs[k]=s at *;generalize oZ s=a5 at *;refine aK ?_;try simp only[RR]
   refine aJ ?_;refine aN ?_;refine aB fun _ y=>aA rfl ?_;simp only[f1,f3,hb1,hgn,RR,seval];refine aP (hlc) ?_;simp only[RR,seval];apply y;clear y;refine aH _ rfl (fun hc8=>?_) (fun hc8=>?_)
   ·refine aB fun _ y=>aA rfl ?_
    simp only[RR,seval];apply y;clear y;refine aM ?_;simp only[aZ,aL,bJ,RR,seval];refine bB.pure ?_;exact hbd (by simpa using hc8)
   refine aK ?_;try simp only[RR]
   refine aA rfl ?_;simp only[f3,RR,seval]
   try rw[aV _ (by omega)]
   refine hK0 _ _ hlt0 ⟨by first|rfl|(simp only[aF,seval];rfl),(by first|exact e0_b1|(simp only[aF,seval];first|done|exact e0_b1)),htk (by simpa using hc8)⟩ (by repeat (first|exact ag0|refine aY.upd rfl ?_))
  have hkn0:k=vs.length:=by have:=aE hc;omega
  clear hc;rw[hkn0,List.take_length]at hk;rw[hk,Bool.true_and]at hX;refine bI ?_;simp only[RR,seval];refine aB fun _ y=>aA rfl ?_;simp only[f1,hb1,RR,seval];refine aP (hb) ?_;simp only[RR,seval];apply y;clear y;refine aM ?_;simp only[aZ,aL,bJ,RR,seval];refine bB.pure ?_;rw[hX]
 ·have y4:decide ((([a]:List Ar).length:Int)=1)=true:=rfl
  have w3:(0:Int)<(([a]:List Ar).length:Int):=by simp
  have hra:a.row=[.str a.name, .int .i64 a.size]:=rfl;have hga:([a].map Ar.row)[0]?=some [.str a.name, .int .i64 a.size]:=Ip rfl;have hta:([a]:List Ar).all zH=(decide (a.name=[116])&&decide (a.size=4096)):=by simp only[List.all_cons,List.all_nil,Bool.and_true,zH]
  rw[hta]at hX hbadA;generalize hx1:decide (a.name=[116])=x1 at *;generalize hx2:decide (a.size=4096)=x2 at *;by_cases hx:x1=true∧x2=true
  rotate_left
  ·have hbd:=hbadA (by rw[Bool.eq_false_iff];intro c;rw[bA]at c;exact hx c)
   cases x1
   ·skip
    refine bM 68 [.tmp 2] Tryz.func15 rfl rfl rfl rfl ?_;refine aB fun _ y=>aA rfl ?_;simp only[hrw,hra,RR,seval];refine aT fun b1 hn1=>?_;simp only[RR,seval];apply y;clear y;refine aJ ?_;refine aB fun _ y=>aA rfl ?_;simp only[RR,seval];refine aP (hS) ?_;simp only[aC,y2,RR,seval];apply y;clear y;refine aH false rfl (fun hc=>by cases hc) (fun _=>?_);refine aK ?_;try simp only[RR]
    refine aJ ?_;refine aB fun _ y=>aA rfl ?_;simp only[hx1,RR,seval];apply y;clear y;refine aH true rfl (fun _=>?_) (fun hc=>by cases hc);refine aB fun _ y=>aA rfl ?_;simp only[RR,seval];apply y;clear y;refine aM ?_;simp only[aZ,aL,bJ,RR,seval];refine bB.pure ?_;exact hbd
   obtain rfl:x2=false:=by cases x2<;>simp_all
   refine bM 68 [.tmp 2] Tryz.func15 rfl rfl rfl rfl ?_;refine aB fun _ y=>aA rfl ?_;simp only[hrw,hra,RR,seval];refine aT fun b1 hn1=>?_;simp only[RR,seval];apply y;clear y;refine aJ ?_;refine aB fun _ y=>aA rfl ?_;simp only[RR,seval];refine aP (hS) ?_;simp only[aC,y2,RR,seval];apply y;clear y;refine aH false rfl (fun hc=>by cases hc) (fun _=>?_);refine aK ?_;try simp only[RR]
   refine aJ ?_;refine aB fun _ y=>aA rfl ?_;simp only[hx1,hx2,RR,seval];apply y;clear y;refine aH true rfl (fun _=>?_) (fun hc=>by cases hc);refine aB fun _ y=>aA rfl ?_;simp only[RR,seval];apply y;clear y;refine aM ?_;simp only[aZ,aL,bJ,RR,seval];refine bB.pure ?_;exact hbd
  obtain⟨rfl,rfl⟩:=hx;rw[Bool.true_and,Bool.true_and]at hX;refine bM 68 [.tmp 2] Tryz.func15 rfl rfl rfl rfl ?_;refine aB fun _ y=>aA rfl ?_;simp only[hrw,hra,RR,seval];refine aT fun b1 hn1=>?_;simp only[RR,seval];apply y;clear y;refine aJ ?_;refine aB fun _ y=>aA rfl ?_;simp only[RR,seval];refine aP (hS) ?_;simp only[aC,y2,RR,seval];apply y;clear y;refine aH false rfl (fun hc=>by cases hc) (fun _=>?_);refine aK ?_;try simp only[RR]
  refine aJ ?_;refine aB fun _ y=>aA rfl ?_;simp only[hx1,hx2,RR,seval];apply y;clear y;refine aH false rfl (fun hc=>by cases hc) (fun _=>?_);refine aK ?_;try simp only[RR]
  refine aJ ?_;refine aB fun _ y=>aA rfl ?_;simp only[RR,seval];apply y;clear y;refine bN fun F1 M1 hfr hH=>?_;have g1:=hfr 1;have g2:=hfr 2;have g3:=hfr 3;have gb1:=hH b1
  try simp only[RR,seval]at g1 g2 g3 gb1
  have f1:=g1;clear g1;have f2:=g2;clear g2;have f3:=g3;clear g3;have hb1:=gb1;clear gb1;clear hfr hH;refine aN ?_;refine cF [1] (vs.length) (fun k fr M=>fr 3= .int .i64 (k:Nat)∧M b1=M1 b1∧(vs.take k).all oZ=true) ⟨f3,rfl,rfl⟩ ?_;rintro k F2 M2 hk0 ⟨fx,gb1,hk⟩ agx K0 hK0;have f1:=(agx 1 rfl).trans f1;have f3:=fx;clear fx;have hb1:=gb1.trans hb1;have ag0:=aY.refl [1] F2;have e0_b1:=gb1;clear gb1;clear agx;refine aJ ?_;refine aB fun _ y=>aA rfl ?_;simp only[f1,f3,hb1,aC,RR,seval];apply y;clear y;refine aH _ rfl (fun hc=>?_) (fun hc=>?_)
  ·have hlt0:k<vs.length:=by have:=aD hc;omega
   clear hc;have hg0:=aG hlt0;have hlc:=uJ vs[k];have hbd:=hbadV hg0;have htk:=gZ hg0 hk;have hgn:=vH hg0;generalize vs[k]=s at *;generalize oZ s=a5 at *;refine aK ?_;try simp only[RR]
   refine aJ ?_;refine aN ?_;refine aB fun _ y=>aA rfl ?_;simp only[f1,f3,hb1,hgn,RR,seval];refine aP (hlc) ?_;simp only[RR,seval];apply y;clear y;refine aH _ rfl (fun hc8=>?_) (fun hc8=>?_)
   ·refine aB fun _ y=>aA rfl ?_
    simp only[RR,seval];apply y;clear y;refine aM ?_;simp only[aZ,aL,bJ,RR,seval];refine bB.pure ?_;exact hbd (by simpa using hc8)
   refine aK ?_;try simp only[RR]
   refine aA rfl ?_;simp only[f3,RR,seval]
   try rw[aV _ (by omega)]
   refine hK0 _ _ hlt0 ⟨by first|rfl|(simp only[aF,seval];rfl),(by first|exact e0_b1|(simp only[aF,seval];first|done|exact e0_b1)),htk (by simpa using hc8)⟩ (by repeat (first|exact ag0|refine aY.upd rfl ?_))
  have hkn0:k=vs.length:=by have:=aE hc;omega
  clear hc;rw[hkn0,List.take_length]at hk;rw[hk,Bool.true_and]at hX;refine bI ?_;simp only[RR,seval];refine aB fun _ y=>aA rfl ?_;simp only[f1,hb1,RR,seval];refine aP (hb) ?_;simp only[RR,seval];apply y;clear y;refine aM ?_;simp only[aZ,aL,bJ,RR,seval];refine bB.pure ?_;rw[hX]
 simp only[aQ]at z3;omega
end Go.Proofs.YtaecpjgmcffliaaGreatDoor
namespace Go.Proofs.YtaecpjgmcffliaaGreatDoor
open Go.Al
def JX (e:Ex):Prop:=cM cG 56 [.agg e.row] (.str (jU e))
set_option maxHeartbeats 4000000 in
theorem O6 (k o n:Int) (s:cN) (l:List Ex) (hk:k=1∨k=2∨k=3∨k=5∨k=7∨(k=6∧4≤o∧o≤15)) (hn:iN n) (hnil:k=1∨k=2∨k=5→l=[]) (hfit:l.length≤9223372036854775807) (h: ∀e∈l,JX e) (hl:(jU (.mk k o n s l)).length≤140737488355328):JX (.mk k o n s l):=by
 have hE:jU (.mk k o n s l)=eQ l++fB k o n s:=by rw[jU]
 have hl0:(eQ l).length+(fB k o n s).length≤140737488355328:=by
  rw[hE]at hl;simp only[aI]at hl;omega
 unfold JX;rw[hE];clear hl hE;simp only[Ex.row_eq,Ex.kind,Ex.op,Ex.num,Ex.name,Ex.kids];refine bM 52 [.tmp 2] Tryz.func56 rfl rfl rfl rfl ?_;refine aB fun _ y=>aA rfl ?_;simp only[RR,seval];refine aT fun b1 hn1=>?_;simp only[RR,seval];apply y;clear y;refine aB fun _ y=>aA rfl ?_;simp only[RR,seval];apply y;clear y;refine aJ ?_;refine aB fun _ y=>aA rfl ?_;simp only[RR,seval];apply y;clear y;refine bN fun F1 M1 hfr hH=>?_;have g1:=hfr 1;have g2:=hfr 2;have g3:=hfr 3;have g4:=hfr 4;have gb1:=hH b1
 try simp only[RR,seval]at g1 g2 g3 g4 gb1
 have f1:=g1;clear g1;have f2:=g2;clear g2;have f3:=g3;clear g3;have f4:=g4;clear g4;have hb1:=gb1;clear gb1;clear hfr hH;refine aN ?_;refine cF [1,2] (l.length) (fun j fr M=>fr 4= .int .i64 (j:Nat)∧M b1=M1 b1∧fr 3= .str (eQ (l.take j))) ⟨f4,rfl,by rw[f3,List.take_zero,show eQ []=[]by simp only[eQ]]⟩ ?_;rintro j F2 M2 hk0 ⟨fx,gb1,f3⟩ agx K0 hK0;have f1:=(agx 1 rfl).trans f1;have f2:=(agx 2 rfl).trans f2;have f4:=fx;clear fx;have hb1:=gb1.trans hb1;have ag0:=aY.refl [1,2] F2;have e0_b1:=gb1;clear gb1;clear agx;refine aJ ?_;refine aB fun _ y=>aA rfl ?_;simp only[f1,f4,hb1,aC,RR,seval];apply y;clear y;refine aH _ rfl (fun hc=>?_) (fun hc=>?_)
 ·have hlt0:j<l.length:=by have:=aD hc;omega
  clear hc;have hg:=nM (aG hlt0);have htk:l.take (j+1)=l.take j++[l[j]]:=bL hlt0;have hec:=h _ (bE hlt0);have hle:=lX l (j+1);generalize l[j]=e at hg htk hec;rw[htk,gR]at hle;simp only[aI]at hle;unfold JX at hec;rw[Ex.row_eq]at hec;refine aK ?_;try simp only[RR]
  refine aJ ?_;refine aN ?_;have hcat3:(eQ (l.take j)).length+(jU e).length≤maxLen:=by unfold maxLen;(try simp only[aI,aQ,List.length_nil]);omega
  refine aA rfl ?_;simp only[f1,f4,f3,hb1,hg,RR,seval];refine aP (hec) ?_;simp only[hcat3,RR,seval];refine aA rfl ?_;simp only[f4,RR,seval]
  try rw[aV _ (by omega)]
  refine hK0 _ _ hlt0 ⟨by first|rfl|(simp only[aF,seval];rfl),(by first|exact e0_b1|(simp only[aF,seval];first|done|exact e0_b1)),by rw[htk,gR];first|rfl|simp only[aF,seval]⟩ (by repeat (first|exact ag0|refine aY.upd rfl ?_))
 have hkn0:j=l.length:=by have:=aE hc;omega
 clear hc;rw[hkn0,List.take_length]at f3;refine bI ?_;simp only[RR,seval];refine aJ ?_;refine aB fun _ y=>aA rfl ?_;simp only[f1,hb1,RR,seval];apply y;clear y;refine aN ?_;refine aB fun _ y=>aA rfl ?_;simp only[RR,seval];apply y;clear y;refine aH _ rfl (fun hc7=>?_) (fun hc7=>?_)
 ·obtain rfl:=aD hc7
  have hpr:fB 1 o n s=Lib.decDigits n.toNat++[32]:=by simp [fB]
  obtain rfl:=hnil (.inl rfl);rw[hpr]at hl0;simp only[aI,aQ,List.length_nil]at hl0;have hcat4:(Lib.decDigits n.toNat).length+1≤maxLen:=by unfold maxLen;(try simp only[aI,aQ,List.length_nil]);omega
  refine aB fun _ y=>aA rfl ?_;simp only[f1,hb1,RR,seval];refine aP (Si n hn) ?_;simp only[hcat4,RR,seval];apply y;clear y;refine aM ?_;simp only[aZ,aL,bJ,RR,seval];refine bB.pure ?_;rw[hpr,show eQ []=[]by simp only[eQ],List.nil_append]
 refine aB fun _ y=>aA rfl ?_;simp only[RR,seval];apply y;clear y;refine aH _ rfl (fun hc9=>?_) (fun hc9=>?_)
 ·obtain rfl:=aD hc9
  obtain rfl:=hnil (.inr (.inl rfl));have hpr:fB 2 o n s=s:=by simp [fB]
  refine aB fun _ y=>aA rfl ?_;simp only[f1,hb1,RR,seval];apply y;clear y;refine aM ?_;simp only[aZ,aL,bJ,RR,seval];refine bB.pure ?_;rw[hpr,show eQ []=[]by simp only[eQ],List.nil_append]
 refine aB fun _ y=>aA rfl ?_;simp only[RR,seval];apply y;clear y;refine aH _ rfl (fun hc11=>?_) (fun hc11=>?_)
 ·obtain rfl:=aD hc11
  have hpr:fB 3 o n s=[64]:=by simp [fB]
  rw[hpr]at hl0;simp only[aQ,List.length_nil]at hl0;have hcat5:(eQ l).length+1≤maxLen:=by unfold maxLen;(try simp only[aI,aQ,List.length_nil]);omega
  refine aB fun _ y=>aA rfl ?_;simp only[f3,hcat5,RR,seval];apply y;clear y;refine aM ?_;simp only[aZ,aL,bJ,RR,seval];refine bB.pure ?_;rw[hpr]
 refine aB fun _ y=>aA rfl ?_;simp only[RR,seval];apply y;clear y;refine aH _ rfl (fun hc13=>?_) (fun hc13=>?_)
 ·obtain rfl:=aD hc13
  obtain rfl:=hnil (.inr (.inr rfl));have hpr:fB 5 o n s=[63]:=by simp [fB]
  refine aB fun _ y=>aA rfl ?_;simp only[RR,seval];apply y;clear y;refine aM ?_;simp only[aZ,aL,bJ,RR,seval];refine bB.pure ?_;rw[hpr,show eQ []=[]by simp only[eQ],List.nil_append]
 refine aB fun _ y=>aA rfl ?_;simp only[RR,seval];apply y;clear y;refine aH _ rfl (fun hc15=>?_) (fun hc15=>?_)
 ·obtain rfl:=aD hc15
  have hpr:fB 7 o n s=[33]:=by simp [fB]
  rw[hpr]at hl0;simp only[aQ,List.length_nil]at hl0;have hcat6:(eQ l).length+1≤maxLen:=by unfold maxLen;(try simp only[aI,aQ,List.length_nil]);omega
  refine aB fun _ y=>aA rfl ?_;simp only[f3,hcat6,RR,seval];apply y;clear y;refine aM ?_;simp only[aZ,aL,bJ,RR,seval];refine bB.pure ?_;rw[hpr]
 obtain⟨rfl,ho1,ho2⟩:k=6∧4≤o∧o≤15:=by
  have h1:=aE hc7;have h2:=aE hc9;have h3:=aE hc11;have h4:=aE hc13;have h5:=aE hc15;omega
 obtain⟨j,rfl⟩: ∃j:Nat,o=((4+j:Nat):Int):=⟨(o- 4).toNat,by omega⟩;have hj:j<12:=by omega
 have hw:IntKind.wrap .i64 (((4+j:Nat):Int)- 4)=(j:Int):=by rw[aV _ (by omega)];omega
 have hw2:IntKind.wrap .i64 ((j:Int)+1)=((j+1:Nat):Int):=by rw[aV _ (by omega)];omega
 obtain⟨c,hc⟩: ∃c,Zv[j]?=some c:=⟨_,aG (show j<Zv.length from hj)⟩
 have hpr:fB 6 ((4+j:Nat):Int) n s=[c]:=by
  have e1:(((4+j:Nat):Int)- 4).toNat=j:=by omega
  unfold fB;rw[if_neg (by decide),if_neg (by decide),if_neg (by decide),if_neg (by decide),if_neg (by decide),if_pos rfl,e1,hc];rfl
 rw[hpr]at hl0;simp only[aQ,List.length_nil]at hl0
 have hsl:List.take (j+1 -j) (List.drop j ([43,45,42,47,37,38,124,94,76,82,60,61]:List UInt8))=[c]:=by
  rw[Nat.add_sub_cancel_left];have:=bD (show j<Zv.length from hj);rw[show(List.drop j ([43,45,42,47,37,38,124,94,76,82,60,61]:List UInt8))=Zv.drop j from rfl,this,(bV.1 hc).2];rfl
 have hj1:(j:Int)≤((j+1:Nat):Int):=by omega
 have hj2:((j+1:Nat):Int)≤12:=by omega
 have hj3:((j+1:Nat):Int)≤(([43,45,42,47,37,38,124,94,76,82,60,61]:List UInt8).length:Int):=by simp only[aQ,List.length_nil];omega
 have hj4:(0:Int)≤(j:Int):=by omega
 have hj5:(0:Int)≤((j+1:Nat):Int):=by omega
 have hcc:(eQ l).length+1≤maxLen:=by unfold maxLen;omega
 refine aK ?_;try simp only[RR]
 refine aB fun _ y=>aA rfl ?_;simp only[f1,f3,hb1,hcc,hw,hw2,hsl,hj1,hj2,hj4,hj5,Int.toNat_natCast,RR,seval];apply y;clear y;refine aM ?_;simp only[aZ,aL,bJ,RR,seval];refine bB.pure ?_;rw[hpr]
theorem Y1 (N:Nat): ∀(e:Ex) (lv:Int),e.sz≤N→e.ok→fO e lv=true→rD jJ e=true→(jU e).length≤140737488355328→JX e:=by
 induction N using Nat.strongRecOn with
 |_ N ih=>
  intro e lv hs ho hr hkk hl;have hz:=e.sz_eq;have hkids:=ho.kids;have hn:=ho.num;rw[rC,bA,List.all_eq_true]at hkk;simp only[fO,bA]at hr;obtain⟨⟨_,hk⟩,hrk⟩:=hr
  have hlk: ∀x∈e.kids,(jU x).length≤(jU e).length:=fun x hx=>by
   rw[X3 e,aI];obtain⟨i,hi,rfl⟩:=List.getElem_of_mem hx;have h1:=lX e.kids (i+1);rw[bL hi,gR,aI]at h1;omega
  obtain⟨k,o,n,s,l⟩:=e;simp only[Ex.kind,Ex.op,Ex.num,Ex.kids]at *
  have hkp:k=1∨k=2∨k=3∨k=5∨k=6∨k=7:=by
   have:=hkk.1;simp only[jJ,Bool.or_eq_true,bC]at this;omega
  refine O6 k o n s l ?_ hn ?_ hkids.fit (fun x hx=>?_) hl
  ·rcases hkp with rfl|rfl|rfl|rfl|rfl|rfl
   ·simp
   ·simp
   ·simp
   ·simp
   ·simp [fV]at hk;omega
   simp
  ·intro hh
   have :l.length=0:=by rcases hh with rfl|rfl|rfl<;>simpa [fV]using hk
   exact List.eq_nil_of_length_eq_zero this
  have hm:=fH hx;exact ih x.sz (by omega) x (lv+1) (bF _) (hkids.all x hx) (oO hrk x hx) (hkk.2 x hx) (Nat.le_trans (hlk x hx) hl)
end Go.Proofs.YtaecpjgmcffliaaGreatDoor
