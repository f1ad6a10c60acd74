/- Chapter 19, the judge's: what a name stands for; expressions, statements, programs without names. -/
import Derived.Test.YtnfbbjhdflhmjaaGreatDoorGZa
import Derived.Test.YtnfbbjhdflhmjaaGreatDoorGOd
import Derived.Test.YtnfbbjhdflhmjaaGreatDoorCx
set_option linter.unusedSimpArgs false
set_option linter.unusedVariables false
set_option maxRecDepth 10000
namespace Go.Al
def mV (p:Pg) (i:Nat) (s:dD):Int×Int:=
 if(cP p i s).1=1 then(dV p+dZ (p.funs.take i)+(cP p i s).2,0)
 else if(cP p i s).1=3 then((p.vars.length:Int)+fM (p.arrs.take (cP p i s).2.toNat),((p.arrs[(cP p i s).2.toNat]?).map Ar.size).getD 0)
 else((cP p i s).2,0)
def fF (p:Pg) (i:Nat) (s:dD):Int×Int:=if s=[]then(0,0)else mV p i s
theorem qX (p:Pg) (i:Nat) (s:dD):((cP p i s).1=1→ ∃(f:Fu) (k:Nat),p.funs[i]?=some f∧(cP p i s).2=(k:Int)∧k<f.params.length+f.locs.length)∧
  ((cP p i s).1=3→ ∃(k:Nat) (a:Ar),(cP p i s).2=(k:Int)∧p.arrs[k]?=some a):=by
 unfold cP
 cases hf:p.funs[i]? with
 |none=>
  simp only[Option.bind_none];unfold jY
  cases hg:bY (fA p) s with
  |none=>simp
  |some k=>
   simp only;split
   ·simp
   split
   ·rename_i h1 h2
    exact⟨by simp,fun _=>⟨_,_,rfl,aG h2⟩⟩
   simp
 |some f=>
  simp only[Option.bind_some]
  cases hp:bY (dX f) s with
  |some k=>
   have:=(eL _ _ _ hp).1;have hl:(dX f).length=f.params.length+f.locs.length:=bP;exact⟨fun _=>⟨f,k,rfl,rfl,by omega⟩,fun h=>absurd h (by simp)⟩
  |none=>
   simp only;unfold jY
   cases hg:bY (fA p) s with
   |none=>simp
   |some k=>
    simp only;split
    ·simp
    split
    ·rename_i h1 h2
     exact⟨by simp,fun _=>⟨_,_,rfl,aG h2⟩⟩
    simp
def oG (p:Pg) (i:Nat) (w:Int) (f:Fu):CF:=⟨f.params.length,((f.params.length+f.locs.length:Nat):Int),w,f.word,f.body.map (pU (fF p i))⟩
def nJ (p:Pg):Nat→Int→List Fu→List CF
 |_,_,[]=>[]
 |i,w,f::l=>oG p i w f::nJ p (i+1) (w+((f.params.length+f.locs.length:Nat):Int)) l
theorem Cd (p:Pg): ∀(l:List Fu) (i:Nat) (w:Int) (j:Nat) (f:Fu),l[j]?=some f→nJ p i w (l.take (j+1))=nJ p i w (l.take j)++[oG p (i+j) (w+dZ (l.take j)) f]
 |[],i,w,j,s,h=>by simp at h
 |x::l,i,w,0,s,h=>by
  simp only[List.getElem?_cons_zero,Option.some.injEq]at h;subst h;simp [nJ,dZ]
 |x::l,i,w,j+1,s,h=>by
  simp only[List.getElem?_cons_succ]at h;have:=Cd p l (i+1) (w+((x.params.length+x.locs.length:Nat):Int)) j s h;simp only[List.take_succ_cons,nJ,this,dZ,List.cons_append];rw[show w+((x.params.length+x.locs.length:Nat):Int)+dZ (l.take j)=w+(((x.params.length+x.locs.length:Nat):Int)+dZ (l.take j))by omega,show i+1+j=i+(j+1)by omega]
theorem pV (p:Pg): ∀(l:List Fu) (i:Nat) (w:Int),(nJ p i w l).length=l.length
 |[],_,_=>rfl
 |f::l,i,w=>by simp only[nJ,bU,pV p l]
end Go.Al
namespace Go.Proofs.YtnfbbjhdflhmjaaGreatDoor
open Go.Al
def Tb (p:Pg):Co×Int:=if dT p=0 then(if dH p≤32768 then(⟨dH p,nJ p 0 (dV p) p.funs⟩,0)else(⟨0,[]⟩,2))else(⟨0,[]⟩,dT p)
set_option maxHeartbeats 4000000 in
theorem Bu (p:Pg) (hp:p.few) (hsz: ∀a∈p.arrs,0≤a.size∧a.size≤4096) (i:Nat) (hi:i<p.funs.length) (s:dD):cJ cK 56 [p.av, .int .i64 (i:Nat), .str s] (.tup [.int .i64 (mV p i s).1, .int .i64 (mV p i s).2]):=by
 have hW:=sF p hp hsz;have hF:=zX p hp i hi s;have hrng:=qX p i s
 have hsl:mV p i s=if(cP p i s).1=1 then(dV p+dZ (p.funs.take i)+(cP p i s).2,0)
  else if(cP p i s).1=3 then((p.vars.length:Int)+fM (p.arrs.take (cP p i s).2.toNat),((p.arrs[(cP p i s).2.toNat]?).map Ar.size).getD 0)
  else((cP p i s).2,0):=rfl
 have hg1:((eW (dV p) p.funs).map Ak)[i]?=some [.int .i64 (dV p+dZ (p.funs.take i))]:=by rw[cC,pR _ _ _ hi];rfl
 have hlen:((eW (dV p) p.funs).map Ak).length=p.funs.length:=by rw[aD,lX]
 have hfs:=hp.fs;have hA:=nV hsz;have hS:=qQ (l:=p.funs) fun f hf=>⟨(hp.fs f hf).1,(hp.fs f hf).2.1⟩;have hA2:=qR (l:=p.arrs) fun a ha=>(hsz a ha).1;have hA3: ∀j,0≤fM (p.arrs.take j):=fun j=>iB fun a ha=>(hsz a (List.mem_of_mem_take ha)).1;have hF2:=kW p.funs i;have hF3:=gH (p.funs.take i);have hb:dV p=p.vars.length+fM p.arrs:=rfl;have hpv:=hp.v;have hpa:=hp.a;have hpf:=hp.f;have zi:(i:Int)<(p.funs.length:Int):=by omega
 generalize(eW (dV p) p.funs).map Ak=fl at *;generalize mV p i s=res at *;generalize cP p i s=fi at *;obtain⟨k,n⟩:=fi;simp only at *;generalize dH p=wp at *;generalize dV p=bp at *;generalize dZ (p.funs.take i)=sf at *;clear hp;obtain⟨vs,aa,fs⟩:=p;simp only[Pg.av,Pg.row]at *;by_cases k1:k=1
 ·subst k1
  rw[if_pos rfl]at hsl;obtain⟨f,m,hf,rfl,hm⟩:=hrng.1 rfl;have hff:=hfs f (bN hf);subst hsl;have e1:IntKind.wrap .i64 (bp+sf+(m:Int))=bp+sf+(m:Int):=by rw[aQ _ (by omega)]
  refine bI 61 [.tmp 6, .tmp 7] Tryz.func56 rfl rfl rfl rfl ?_;refine aB fun _ y=>aA rfl ?_;simp only[RR,seval];refine aP fun b3 hn3=>?_;simp only[RR,seval];apply y;clear y;refine aB fun _ y=>aA rfl ?_;simp only[RR,seval];refine aN (hW) ?_;simp only[RR,seval];apply y;clear y;refine aB fun _ y=>aA rfl ?_;simp only[RR,seval];refine aN (hF) ?_;simp only[RR,seval];apply y;clear y;refine aI ?_;refine aB fun _ y=>aA rfl ?_;simp only[RR,seval];apply y;clear y;refine aM ?_;refine aB fun _ y=>aA rfl ?_;simp only[RR,seval];apply y;clear y;refine aH true rfl (fun _=>?_) (fun hc=>by cases hc);refine aB fun _ y=>aA rfl ?_;simp only[hg1,e1,RR,seval];apply y;clear y;refine aO ?_;simp only[bB,aL,bH,RR,seval];refine aZ.pure ?_;rfl
 by_cases k3:k=3
 ·subst k3
  rw[if_neg (by decide),if_pos rfl]at hsl;obtain⟨m,a,rfl,ha⟩:=hrng.2 rfl;rw[Int.toNat_natCast,ha]at hsl;simp only[Option.map_some,Option.getD_some]at hsl;subst hsl;have hml:=(bW.1 ha).1;have hga:=Dt ha;have zm:(m:Int)<(aa.length:Int):=by omega
  refine bI 61 [.tmp 6, .tmp 7] Tryz.func56 rfl rfl rfl rfl ?_;refine aB fun _ y=>aA rfl ?_;simp only[RR,seval];refine aP fun b3 hn3=>?_;simp only[RR,seval];apply y;clear y;refine aB fun _ y=>aA rfl ?_;simp only[RR,seval];refine aN (hW) ?_;simp only[RR,seval];apply y;clear y;refine aB fun _ y=>aA rfl ?_;simp only[RR,seval];refine aN (hF) ?_;simp only[RR,seval];apply y;clear y;refine aI ?_;refine aB fun _ y=>aA rfl ?_;simp only[RR,seval];apply y;clear y;refine aM ?_;refine aB fun _ y=>aA rfl ?_;simp only[RR,seval];apply y;clear y;refine aH false rfl (fun hc=>by cases hc) (fun _=>?_);refine aB fun _ y=>aA rfl ?_;simp only[RR,seval];apply y;clear y;refine aH true rfl (fun _=>?_) (fun hc=>by cases hc);refine aB fun _ y=>aA rfl ?_;simp only[aD,RR,seval];apply y;clear y;refine aI ?_;refine aB fun _ y=>aA rfl ?_;simp only[RR,seval];apply y;clear y;refine bM fun F1 M1 hfr hH=>?_;have g3:=hfr 3;have g6:=hfr 6;have g7:=hfr 7;have g11:=hfr 11;have g12:=hfr 12;have g13:=hfr 13;have gb3:=hH b3
  try simp only[RR,seval]at g3 g6 g7 g11 g12 g13 gb3
  have f3:=g3;clear g3;have f6:=g6;clear g6;have f7:=g7;clear g7;have f11:=g11;clear g11;have f12:=g12;clear g12;have f13:=g13;clear g13;have hb3:=gb3;clear gb3;clear hfr hH;refine aM ?_;refine bZ [3,6,7,11] (m) (fun j fr M=>fr 13= .int .i64 (j:Nat)∧M b3=M1 b3∧fr 12= .int .i64 ((vs.length:Int)+fM (aa.take j))) ⟨f13,rfl,by rw[f12];simp [fM]⟩ ?_;rintro j F2 M2 hk1 ⟨fx,gb3,f12⟩ agx K1 hK1;have f3:=(agx 3 rfl).trans f3;have f6:=(agx 6 rfl).trans f6;have f7:=(agx 7 rfl).trans f7;have f11:=(agx 11 rfl).trans f11;have f13:=fx;clear fx;have hb3:=gb3.trans hb3;have ag1:=bC.refl [3,6,7,11] F2;have e1_b3:=gb3;clear gb3;clear agx;refine aI ?_;refine aB fun _ y=>aA rfl ?_;simp only[f11,f13,RR,seval];apply y;clear y;refine aH _ rfl (fun hc=>?_) (fun hc=>?_)
  ·have hlt1:j<m:=by have:=aC hc;omega
   clear hc;have hlj:j<aa.length:=by omega
   have hg0:=aG hlj;have hg:=Dt hg0;have ht:=(mR aa 0 j _ hg0).2;have h1:=hA3 j;have h2:=hA2 (j+1);have h3:=hsz _ (bA hlj);generalize aa[j]=b at hg ht h3;have zj:(j:Int)<(aa.length:Int):=by omega
   have e1:IntKind.wrap .i64 ((vs.length:Int)+fM (aa.take j)+b.size)=(vs.length:Int)+fM (aa.take (j+1)):=by rw[aQ _ (by omega)];omega
   refine aK ?_;try simp only[RR]
   refine aI ?_;refine aM ?_;refine aA rfl ?_;simp only[f3,f13,f12,hb3,hg,e1,RR,seval];refine aA rfl ?_;simp only[f13,RR,seval]
   try rw[aQ _ (by omega)]
   refine hK1 _ _ hlt1 ⟨by first|rfl|(simp only[aJ,seval];rfl),(by first|exact e1_b3|(simp only[aJ,seval];first|done|exact e1_b3)),rfl⟩ (by repeat (first|exact ag1|refine bC.upd rfl ?_))
  have hkn1:j=m:=by have:=aF hc;omega
  clear hc;rw[hkn1]at f12;refine bF ?_;simp only[RR,seval];refine aB fun K y=>?_;refine bJ (fun x=>x≠b3) [(0,3),(1,3),(2,1),(3,3),(4,3),(5,3),(6,1),(7,3),(8,3)] [] dG (by kernel_rfl) rfl rfl ?_;simp only[cF,f3,f11,f12,hb3,hga,RR,seval];apply y;clear y;refine aO ?_;simp only[bB,aL,bH,RR,seval];refine aZ.pure ?_;rfl
 rw[if_neg k1,if_neg k3]at hsl;subst hsl;refine bI 61 [.tmp 6, .tmp 7] Tryz.func56 rfl rfl rfl rfl ?_;refine aB fun _ y=>aA rfl ?_;simp only[RR,seval];refine aP fun b3 hn3=>?_;simp only[RR,seval];apply y;clear y;refine aB fun _ y=>aA rfl ?_;simp only[RR,seval];refine aN (hW) ?_;simp only[RR,seval];apply y;clear y;refine aB fun _ y=>aA rfl ?_;simp only[RR,seval];refine aN (hF) ?_;simp only[RR,seval];apply y;clear y;refine aI ?_;refine aB fun _ y=>aA rfl ?_;simp only[RR,seval];apply y;clear y;refine aM ?_;refine aB fun _ y=>aA rfl ?_;simp only[k1,RR,seval];apply y;clear y;refine aH false rfl (fun hc=>by cases hc) (fun _=>?_);refine aB fun _ y=>aA rfl ?_;simp only[k3,RR,seval];apply y;clear y;refine aH false rfl (fun hc=>by cases hc) (fun _=>?_);refine aK ?_;try simp only[RR]
 refine aB fun _ y=>aA rfl ?_;simp only[RR,seval];apply y;clear y;refine aO ?_;simp only[bB,aL,bH,RR,seval];refine aZ.pure ?_;rfl
set_option maxHeartbeats 4000000 in
theorem Kg (p:Pg) (hp:p.few) (hsz: ∀a∈p.arrs,0≤a.size∧a.size≤4096) (i:Nat) (hi:i<p.funs.length) (n:Nat): ∀l:List Ex,iA l≤n→n≤2000000→
  cJ cK 55 [p.av, .int .i64 (i:Nat), .isl 5 (l.map Ex.row)] (.isl 6 ((l.map (rT (fF p i))).map CE.row)):=by
 induction n using Nat.strongRecOn with
 |_ n ih=>
  intro l hn hb;have hl:=Di l
  have hkid: ∀e∈l,cJ cK 55 [p.av, .int .i64 (i:Nat), .isl 5 (e.kids.map Ex.row)] (.isl 6 ((e.kids.map (rT (fF p i))).map CE.row)):=fun e he=>by
   have h1:=iI he;have h2:=e.sz_eq;exact ih (iA e.kids) (by omega) e.kids (aY _) (by omega)
  have hsl: ∀s:dD, ¬s=[]→cJ cK 56 [p.av, .int .i64 (i:Nat), .str s] (.tup [.int .i64 (fF p i s).1, .int .i64 (fF p i s).2]):=fun s hs=>by
   have:=Bu p hp hsz i hi s;unfold fF;rw[if_neg hs];exact this
  have hsn:fF p i []=(0,0):=by unfold fF;rw[if_pos rfl]
  generalize fF p i=rs at *;clear ih hp hsz hi;have hav:p.av= .agg [.isl 1 (p.vars.map bK), .isl 2 (p.arrs.map Ar.row), .isl 5 (p.funs.map Fu.row)]:=rfl;rw[hav]at *;refine bI 64 [.tmp 6] Tryz.func55 rfl rfl rfl rfl ?_;refine aB fun _ y=>aA rfl ?_;simp only[RR,seval];refine aP fun b3 hn3=>?_;simp only[RR,seval];apply y;clear y;refine aB fun _ y=>aA rfl ?_;simp only[RR,seval];apply y;clear y;refine aI ?_;refine aB fun _ y=>aA rfl ?_;simp only[RR,seval];apply y;clear y;refine bM fun F1 M1 hfr hH=>?_;have g1:=hfr 1;have g2:=hfr 2;have g3:=hfr 3;have g6:=hfr 6;have g7:=hfr 7;have g8:=hfr 8;have gb3:=hH b3
  try simp only[RR,seval]at g1 g2 g3 g6 g7 g8 gb3
  have f1:=g1;clear g1;have f2:=g2;clear g2;have f3:=g3;clear g3;have f6:=g6;clear g6;have f7:=g7;clear g7;have f8:=g8;clear g8;have hb3:=gb3;clear gb3;clear hfr hH;refine aM ?_;refine bZ [1,2,3,6] (l.length) (fun k fr M=>fr 8= .int .i64 (k:Nat)∧M b3=M1 b3∧dJ 6 (fr 7) (((l.take k).map (rT rs)).map CE.row) M) ⟨f8,rfl, .inl ⟨f7,rfl⟩⟩ ?_;rintro k F2 M2 hk0 ⟨fx,gb3,hown⟩ agx K0 hK0;have f1:=(agx 1 rfl).trans f1;have f2:=(agx 2 rfl).trans f2;have f3:=(agx 3 rfl).trans f3;have f6:=(agx 6 rfl).trans f6;have f8:=fx;clear fx;have hb3:=gb3.trans hb3;have ag0:=bC.refl [1,2,3,6] F2;have e0_b3:=gb3;clear gb3;clear agx;obtain⟨v7,f7⟩: ∃v,F2 7=v:=⟨_,rfl⟩;rw[f7]at hown;refine aI ?_;refine aB fun _ y=>aA rfl ?_;simp only[f2,f8,aD,RR,seval];apply y;clear y;refine aH _ rfl (fun hc=>?_) (fun hc=>?_)
  ·have hlt0:k<l.length:=by have:=aC hc;omega
   clear hc;have hg0:=aG hlt0;have htk:l.take (k+1)=l.take k++[l[k]]:=bR hlt0;have hkd:=hkid _ (bA hlt0);have hkl:(l.take k).length≤2000000:=by rw[cU];omega
   generalize l[k]=e at hg0 htk hkd;have hg:=uL hg0;have hs:=hsl e.name;obtain⟨q,hq⟩: ∃q,q=decide (e.name=[]):=⟨_,rfl⟩;refine aK ?_;try simp only[RR]
   refine aI ?_;refine aM ?_;refine bM fun F3 M3 hfr hH=>?_;have g1:=hfr 1;have g2:=hfr 2;have g3:=hfr 3;have g6:=hfr 6;have g7:=hfr 7;have g8:=hfr 8;have gb3:=hH b3
   try simp only[f1,f2,f3,f6,f8,f7,hb3,RR,seval]at g1 g2 g3 g6 g7 g8 gb3
   have ag0:bC [1,2,3,6] F2 F3:=bC.same hfr (by repeat (first|exact ag0|refine bC.upd rfl ?_));have e0_b3:=(hH b3).trans (by first|exact e0_b3|(simp only[aJ,seval];first|done|exact e0_b3));have hown:=hown.same hH;have f1:=g1;clear g1;have f2:=g2;clear g2;have f3:=g3;clear g3;have f6:=g6;clear g6;have f7:=g7;clear g7;have f8:=g8;clear g8;have hb3:=gb3;clear gb3;clear hfr hH;refine aB fun K y=>?_;refine dS (fun fr M=>bC [1,2,3,6,7,8] F3 fr∧M b3=M3 b3∧ ∃b9,fr 9= .ptr 6 b9 0 0∧M b9=some (.rows 6 [[.int .i64 e.kind, .int .i64 e.op, .int .u32 e.num, .int .i64 0, .int .i64 0, .isl 6 ((e.kids.map (rT rs)).map CE.row)]])∧M3 b9=none∧(∀b o,M3 b=some o→M b=some o)) (fun KR5 hKR5=>?_) ?_
   ·refine iE (fun x=>x≠b3) dG (by kernel_rfl) fun hd=>?_
    refine eO [(0,3),(1,3),(2,3),(3,3),(4,0),(5,3),(6,3),(7,3),(8,3),(9,0),(10,3),(11,3),(12,3),(13,3),(14,0),(15,0),(16,3),(17,3),(18,3),(19,3),(20,3),(21,0)] hd (m:=4) rfl (by kernel_rfl) rfl rfl ?_;simp only[cF,dM,f1,f2,f3,f8,hb3,hg,RR,seval];refine iH hd (by kernel_rfl:Region.ready .any _ _=[22,24]) (by simp) ⟨?_, ?_,trivial⟩
    ·simp only[RR,seval]
     refine aN (hkd) ?_;simp only[RR,seval];refine eO [(23,3),(24,1),(25,1)] hd (m:=0) rfl (by kernel_rfl) rfl rfl ?_;simp only[cF,RR,seval];refine aP fun b9 hn9=>?_;have nb9_b3:b9≠b3:=fun e=>by rw[e]at hn9;simp only[hb3,seval,reduceCtorEq]at hn9
     have nb3_b9:b3≠b9:=fun e=>nb9_b3 e.symm;simp only[nb9_b3,RR,seval];refine gF (by kernel_rfl) ?_;simp only[RR,seval];exact hKR5 _ _ ⟨(by repeat (first|exact bC.refl _ _|refine bC.upd rfl ?_)),(by first|rfl|(simp only[hb3,nb3_b9,aJ,seval];done)|(simp only[f1,f2,f3,f6,f7,f8,hb3,nb9_b3,nb3_b9,aD,hg,aJ,RR,seval];rfl)),b9,(by first|rfl|(simp only[f1,f2,f3,f6,f7,f8,hb3,nb9_b3,nb3_b9,aD,hg,aJ,RR,seval];done)|(simp only[f1,f2,f3,f6,f7,f8,hb3,nb9_b3,nb3_b9,aD,hg,aJ,RR,seval];rfl)),(by first|rfl|(simp only[aJ,seval];done)|(simp only[f1,f2,f3,f6,f7,f8,hb3,nb9_b3,nb3_b9,aD,hg,aJ,RR,seval];rfl)),hn9,(fun b o hb=>by have n9:b≠b9:=(fun e=>by rw[e,hn9]at hb;cases hb);simp only[cH _ _ n9];exact hb)⟩
    simp only[RR,seval];refine aP fun b9 hn9=>?_;have nb9_b3:b9≠b3:=fun e=>by rw[e]at hn9;simp only[hb3,seval,reduceCtorEq]at hn9
    have nb3_b9:b3≠b9:=fun e=>nb9_b3 e.symm;simp only[RR,seval];refine eO [(22,1),(23,3),(25,1)] hd (m:=0) rfl (by kernel_rfl) rfl rfl ?_;simp only[cF,RR,seval];refine aN (hkd) ?_;simp only[nb9_b3,RR,seval];refine gF (by kernel_rfl) ?_;simp only[RR,seval];exact hKR5 _ _ ⟨(by repeat (first|exact bC.refl _ _|refine bC.upd rfl ?_)),(by first|rfl|(simp only[hb3,nb3_b9,aJ,seval];done)|(simp only[f1,f2,f3,f6,f7,f8,hb3,nb9_b3,nb3_b9,aD,hg,aJ,RR,seval];rfl)),b9,(by first|rfl|(simp only[f1,f2,f3,f6,f7,f8,hb3,nb9_b3,nb3_b9,aD,hg,aJ,RR,seval];done)|(simp only[f1,f2,f3,f6,f7,f8,hb3,nb9_b3,nb3_b9,aD,hg,aJ,RR,seval];rfl)),(by first|rfl|(simp only[aJ,seval];done)|(simp only[f1,f2,f3,f6,f7,f8,hb3,nb9_b3,nb3_b9,aD,hg,aJ,RR,seval];rfl)),hn9,(fun b o hb=>by have n9:b≠b9:=(fun e=>by rw[e,hn9]at hb;cases hb);simp only[cH _ _ n9];exact hb)⟩
   rintro F4 M4 ⟨agx,gb3,b9,f9,hb9,hz9,hk9⟩;simp only[fR];apply y;clear y;have f1:=(agx 1 rfl).trans f1;have f2:=(agx 2 rfl).trans f2;have f3:=(agx 3 rfl).trans f3;have f6:=(agx 6 rfl).trans f6;have f7:=(agx 7 rfl).trans f7;have f8:=(agx 8 rfl).trans f8;have hb3:=gb3.trans hb3;have ag0:bC [1,2,3,6] F2 F4:=bC.sub agx rfl ag0;have e0_b3:=gb3.trans e0_b3;clear agx gb3;have ho9:off v7 b9:=hown.new hz9;have hown:dJ 6 v7 _ M4:=qS hown hk9;have ho3:=hown.offsz hb3 (by decide);have nb9_b3:b9≠b3:=fun e=>by rw[e,hb3]at hb9;cases hb9
   have nb3_b9:b3≠b9:=fun e=>nb9_b3 e.symm;refine aI ?_;refine aB fun _ y=>aA rfl ?_;simp only[f2,f8,hg,RR,seval];apply y;clear y;refine bM fun F5 M5 hfr hH=>?_;have g1:=hfr 1;have g2:=hfr 2;have g3:=hfr 3;have g6:=hfr 6;have g7:=hfr 7;have g8:=hfr 8;have g9:=hfr 9;have g45:=hfr 45;have gb3:=hH b3;have gb9:=hH b9
   try simp only[f1,f2,f3,f6,f7,f8,f9,hb3,hb9,RR,seval]at g1 g2 g3 g6 g7 g8 g9 g45 gb3 gb9
   have ag0:bC [1,2,3,6] F2 F5:=bC.same hfr (by repeat (first|exact ag0|refine bC.upd rfl ?_));have e0_b3:=(hH b3).trans (by first|exact e0_b3|(simp only[nb9_b3,nb3_b9,aJ,seval];first|done|exact e0_b3));have hown:=hown.same hH;have f1:=g1;clear g1;have f2:=g2;clear g2;have f3:=g3;clear g3;have f6:=g6;clear g6;have f7:=g7;clear g7;have f8:=g8;clear g8;have f9:=g9;clear g9;have f45:=g45;clear g45;have hb3:=gb3;clear gb3;have hb9:=gb9;clear gb9;clear hfr hH;refine dS (fun fr M=>bC [1,2,3,6,7,8,9] F5 fr∧M b3=M5 b3∧dJ 6 v7 (((l.take k).map (rT rs)).map CE.row) M∧M b9=some (.rows 6 [[.int .i64 e.kind, .int .i64 e.op, .int .u32 e.num, .int .i64 (rs e.name).1, .int .i64 (rs e.name).2, .isl 6 ((e.kids.map (rT rs)).map CE.row)]])) (fun KC6 hKC6=>?_) ?_
   ·have agC6:=bC.refl [1,2,3,6,7,8,9] F5
    have eC6_b3:M5 b3=M5 b3:=rfl;refine aH _ (by first|rfl|exact f45) (fun hc6=>?_) (fun hc6=>?_)
    ·have hs:=hs (by intro c;rw[c]at hc6;simp at hc6)
     refine bJ (fun _=>True) [(0,1),(1,3),(2,3),(3,3),(4,3),(5,3),(6,1),(7,1),(8,3),(9,3),(10,3),(11,3)] [(12,1),(13,3),(14,1)] dG (by kernel_rfl) rfl rfl ?_;simp only[cF,f1,f2,f3,f8,hb3,hg,RR,seval];refine aN (hs) ?_;simp only[f9,hb9,RR,seval];refine hKC6 _ _ ⟨(by repeat (first|exact agC6|refine bC.upd rfl ?_)),(by first|exact eC6_b3|(simp only[nb3_b9,aJ,seval];first|done|exact eC6_b3)),(by first|exact hown|exact(hown.off ho9 _).off ho9 _),(by first|exact bO _ _ _|(rw[hr0];exact hb9)|(simp only[aJ,seval];rfl))⟩
    have hen:e.name=[]:=by simpa using hc6
    have hr0:rs e.name=(0,0):=by rw[hen];exact hsn
    refine aK ?_;try simp only[RR]
    refine hKC6 _ _ ⟨(by repeat (first|exact agC6|refine bC.upd rfl ?_)),(by first|exact eC6_b3|(simp only[nb9_b3,nb3_b9,aJ,seval];first|done|exact eC6_b3)),(by first|exact hown|exact(hown.off ho9 _).off ho9 _),(by first|exact bO _ _ _|(rw[hr0];exact hb9)|(simp only[aJ,seval];rfl))⟩
   rintro F6 M6 ⟨agx,gb3,hown,hb9⟩;have f1:=(agx 1 rfl).trans f1;have f2:=(agx 2 rfl).trans f2;have f3:=(agx 3 rfl).trans f3;have f6:=(agx 6 rfl).trans f6;have f7:=(agx 7 rfl).trans f7;have f8:=(agx 8 rfl).trans f8;have f9:=(agx 9 rfl).trans f9;have hb3:=gb3.trans hb3;have ag0:bC [1,2,3,6] F2 F6:=bC.sub agx rfl ag0;have e0_b3:=gb3.trans e0_b3;clear agx;clear gb3;simp only[RR,seval];refine bM fun F7 M7 hfr hH=>?_;have g1:=hfr 1;have g2:=hfr 2;have g3:=hfr 3;have g6:=hfr 6;have g7:=hfr 7;have g8:=hfr 8;have g9:=hfr 9;have gb3:=hH b3;have gb9:=hH b9
   try simp only[f1,f2,f3,f6,f7,f8,f9,hb3,hb9,seval]at g1 g2 g3 g6 g7 g8 g9 gb3 gb9
   have ag0:bC [1,2,3,6] F2 F7:=bC.same hfr (by repeat (first|exact ag0|refine bC.upd rfl ?_));have e0_b3:=(hH b3).trans (by first|exact e0_b3|(simp only[nb9_b3,nb3_b9,aJ,seval];first|done|exact e0_b3));have hown:=hown.same hH;have f1:=g1;clear g1;have f2:=g2;clear g2;have f3:=g3;clear g3;have f6:=g6;clear g6;have f7:=g7;clear g7;have f8:=g8;clear g8;have f9:=g9;clear g9;have hb3:=gb3;clear gb3;have hb9:=gb9;clear gb9;clear hfr hH;refine aA rfl ?_;simp only[f7,f9,hb9,RR,seval];refine cY ?_;simp only[RR,seval];refine kD hown (by simp only[aD,bU,List.length_nil];omega) (fun b e=>by first|trivial|(repeat' apply And.intro)<;>(intro c;subst c;first|exact ho9 _ _ e|exact hown.nb' hb3 (by decide) e)) fun v8 M8 hown' hk' hg'=>?_;have ho9':=hg' b9 ho9 (by rw[hb9];exact cL _);simp only[RR,seval];have gb3:=hk' b3 _ hb3 (by first|exact(hown).nb' hb3 (by decide)|exact ho3 _ _|assumption|(intro e;simp_all));have e0_b3:=(gb3.trans hb3.symm).trans e0_b3;have hb3:=gb3;clear gb3;have gb9:=hk' b9 _ hb9 (by first|exact(hown).nb' hb9 (by decide)|exact ho9 _ _|assumption|(intro e;simp_all));have hb9:=gb9;clear gb9;have hce:=hown'.cells;have hoe:=hown'.one1
   try simp only[hce,hoe,Option.bind_some,List.drop,f7,f9,hb3,hb9,nb9_b3,nb3_b9,aD,hg,RR,seval]
   refine aA rfl ?_;simp only[f8,RR,seval]
   try rw[aQ _ (by omega)]
   refine hK0 _ _ hlt0 ⟨by first|rfl|(simp only[aJ,seval];rfl),(by first|exact e0_b3|(simp only[nb9_b3,nb3_b9,aJ,seval];first|done|exact e0_b3)),by rw[htk,List.map_append,List.map_append];simp only[List.map_cons,List.map_nil,Ni];exact hown'⟩ (by repeat (first|exact ag0|refine bC.upd rfl ?_))
  have hkn0:k=l.length:=by have:=aF hc;omega
  clear hc;rw[hkn0,List.take_length]at hown;refine bF ?_;simp only[RR,seval];refine aB fun _ y=>aA rfl ?_;simp only[f7,RR,seval];apply y;clear y;refine aO ?_;simp only[bB,aL,bH,RR,seval];exact dJ.gives1 hown rfl;skip
set_option maxHeartbeats 4000000 in
theorem Ke (p:Pg) (hp:p.few) (hsz: ∀a∈p.arrs,0≤a.size∧a.size≤4096) (i:Nat) (hi:i<p.funs.length) (n:Nat): ∀l:List Sm,fE l≤n→n≤2000000→
  cJ cK 29 [p.av, .int .i64 (i:Nat), .isl 5 (l.map Sm.row)] (.isl 6 ((l.map (pU (fF p i))).map CS.row)):=by
 induction n using Nat.strongRecOn with
 |_ n ih=>
  intro l hn hb;have hl:=Dh l
  have hT: ∀e∈l,cJ cK 29 [p.av, .int .i64 (i:Nat), .isl 5 (e.thn.map Sm.row)] (.isl 6 ((e.thn.map (pU (fF p i))).map CS.row)):=fun e he=>by
   have h1:=fT he;have h2:=e.sz_eq;exact ih (fE e.thn) (by omega) e.thn (aY _) (by omega)
  have hU: ∀e∈l,cJ cK 29 [p.av, .int .i64 (i:Nat), .isl 5 (e.els.map Sm.row)] (.isl 6 ((e.els.map (pU (fF p i))).map CS.row)):=fun e he=>by
   have h1:=fT he;have h2:=e.sz_eq;exact ih (fE e.els) (by omega) e.els (aY _) (by omega)
  have hE: ∀e∈l,cJ cK 55 [p.av, .int .i64 (i:Nat), .isl 5 (e.es.map Ex.row)] (.isl 6 ((e.es.map (rT (fF p i))).map CE.row)):=fun e he=>by
   have h1:=fT he;have h2:=e.sz_eq;exact Kg p hp hsz i hi (iA e.es) e.es (aY _) (by omega)
  have hsl: ∀s:dD, ¬s=[]→cJ cK 56 [p.av, .int .i64 (i:Nat), .str s] (.tup [.int .i64 (fF p i s).1, .int .i64 (fF p i s).2]):=fun s hs=>by
   have:=Bu p hp hsz i hi s;unfold fF;rw[if_neg hs];exact this
  have hsn:fF p i []=(0,0):=by unfold fF;rw[if_pos rfl]
  generalize fF p i=rs at *;clear ih hp hsz hi;have hav:p.av= .agg [.isl 1 (p.vars.map bK), .isl 2 (p.arrs.map Ar.row), .isl 5 (p.funs.map Fu.row)]:=rfl;rw[hav]at *;refine bI 70 [.tmp 6] Tryz.func29 rfl rfl rfl rfl ?_;refine aB fun _ y=>aA rfl ?_;simp only[RR,seval];refine aP fun b3 hn3=>?_;simp only[RR,seval];apply y;clear y;refine aB fun _ y=>aA rfl ?_;simp only[RR,seval];apply y;clear y;refine aI ?_;refine aB fun _ y=>aA rfl ?_;simp only[RR,seval];apply y;clear y;refine bM fun F1 M1 hfr hH=>?_;have g1:=hfr 1;have g2:=hfr 2;have g3:=hfr 3;have g6:=hfr 6;have g7:=hfr 7;have g8:=hfr 8;have gb3:=hH b3
  try simp only[RR,seval]at g1 g2 g3 g6 g7 g8 gb3
  have f1:=g1;clear g1;have f2:=g2;clear g2;have f3:=g3;clear g3;have f6:=g6;clear g6;have f7:=g7;clear g7;have f8:=g8;clear g8;have hb3:=gb3;clear gb3;clear hfr hH;refine aM ?_;refine bZ [1,2,3,6] (l.length) (fun k fr M=>fr 8= .int .i64 (k:Nat)∧M b3=M1 b3∧dJ 6 (fr 7) (((l.take k).map (pU rs)).map CS.row) M) ⟨f8,rfl, .inl ⟨f7,rfl⟩⟩ ?_;rintro k F2 M2 hk0 ⟨fx,gb3,hown⟩ agx K0 hK0;have f1:=(agx 1 rfl).trans f1;have f2:=(agx 2 rfl).trans f2;have f3:=(agx 3 rfl).trans f3;have f6:=(agx 6 rfl).trans f6;have f8:=fx;clear fx;have hb3:=gb3.trans hb3;have ag0:=bC.refl [1,2,3,6] F2;have e0_b3:=gb3;clear gb3;clear agx;obtain⟨v7,f7⟩: ∃v,F2 7=v:=⟨_,rfl⟩;rw[f7]at hown;refine aI ?_;refine aB fun _ y=>aA rfl ?_;simp only[f2,f8,aD,RR,seval];apply y;clear y;refine aH _ rfl (fun hc=>?_) (fun hc=>?_)
  ·have hlt0:k<l.length:=by have:=aC hc;omega
   clear hc;have hg0:=aG hlt0;have htk:l.take (k+1)=l.take k++[l[k]]:=bR hlt0;have hk1:=hE _ (bA hlt0);have hk2:=hT _ (bA hlt0);have hk3:=hU _ (bA hlt0);have hkl:(l.take k).length≤2000000:=by rw[cU];omega
   generalize l[k]=e at hg0 htk hk1 hk2 hk3;have hg:=An hg0;have hs:=hsl e.name;refine aK ?_;try simp only[RR]
   refine aI ?_;refine aM ?_;refine bM fun F3 M3 hfr hH=>?_;have g1:=hfr 1;have g2:=hfr 2;have g3:=hfr 3;have g6:=hfr 6;have g7:=hfr 7;have g8:=hfr 8;have gb3:=hH b3
   try simp only[f1,f2,f3,f6,f8,f7,hb3,RR,seval]at g1 g2 g3 g6 g7 g8 gb3
   have ag0:bC [1,2,3,6] F2 F3:=bC.same hfr (by repeat (first|exact ag0|refine bC.upd rfl ?_));have e0_b3:=(hH b3).trans (by first|exact e0_b3|(simp only[aJ,seval];first|done|exact e0_b3));have hown:=hown.same hH;have f1:=g1;clear g1;have f2:=g2;clear g2;have f3:=g3;clear g3;have f6:=g6;clear g6;have f7:=g7;clear g7;have f8:=g8;clear g8;have hb3:=gb3;clear gb3;clear hfr hH;refine aB fun K y=>?_;refine dS (fun fr M=>bC [1,2,3,6,7,8] F3 fr∧M b3=M3 b3∧ ∃b9,fr 9= .ptr 6 b9 0 0∧M b9=some (.rows 6 [[.int .i64 e.kind, .int .i64 0, .int .i64 0, .isl 6 ((e.es.map (rT rs)).map CE.row), .isl 6 ((e.thn.map (pU rs)).map CS.row), .isl 6 ((e.els.map (pU rs)).map CS.row)]])∧M3 b9=none∧(∀b o,M3 b=some o→M b=some o)) (fun KR5 hKR5=>?_) ?_
   ·refine iE (fun x=>x≠b3) dG (by kernel_rfl) fun hd=>?_
    refine eO [(0,3),(1,3),(2,3),(3,3),(4,0),(5,0),(6,3),(7,3),(8,3),(9,3),(10,3),(11,0),(13,0),(14,3),(15,3),(16,3),(17,3),(18,3),(19,0),(21,0),(22,3),(23,3),(24,3),(25,3),(26,3),(27,0)] hd (m:=6) rfl (by kernel_rfl) rfl rfl ?_;simp only[cF,dM,f1,f2,f3,f8,hb3,hg,RR,seval];refine iH hd (by kernel_rfl:Region.ready .any _ _=[12,30]) (by simp) ⟨?_, ?_,trivial⟩
    ·simp only[RR,seval]
     refine aN (hk1) ?_;simp only[RR,seval];refine iH hd (by kernel_rfl:Region.ready .any _ _=[20,30]) (by simp) ⟨?_, ?_,trivial⟩
     ·simp only[RR,seval]
      refine aN (hk2) ?_;simp only[RR,seval];refine iH hd (by kernel_rfl:Region.ready .any _ _=[28,30]) (by simp) ⟨?_, ?_,trivial⟩
      ·simp only[RR,seval]
       refine aN (hk3) ?_;simp only[RR,seval];refine eO [(29,3),(30,1),(31,1)] hd (m:=0) rfl (by kernel_rfl) rfl rfl ?_;simp only[cF,RR,seval];refine aP fun b9 hn9=>?_;have nb9_b3:b9≠b3:=fun e=>by rw[e]at hn9;simp only[hb3,seval,reduceCtorEq]at hn9
       have nb3_b9:b3≠b9:=fun e=>nb9_b3 e.symm;simp only[nb9_b3,RR,seval];refine gF (by kernel_rfl) ?_;simp only[RR,seval];exact hKR5 _ _ ⟨(by repeat (first|exact bC.refl _ _|refine bC.upd rfl ?_)),(by first|rfl|(simp only[hb3,nb3_b9,aJ,seval];done)|(simp only[f1,f2,f3,f6,f7,f8,hb3,nb9_b3,nb3_b9,aD,hg,aJ,RR,seval];rfl)),b9,(by first|rfl|(simp only[f1,f2,f3,f6,f7,f8,hb3,nb9_b3,nb3_b9,aD,hg,aJ,RR,seval];done)|(simp only[f1,f2,f3,f6,f7,f8,hb3,nb9_b3,nb3_b9,aD,hg,aJ,RR,seval];rfl)),(by first|rfl|(simp only[aJ,seval];done)|(simp only[f1,f2,f3,f6,f7,f8,hb3,nb9_b3,nb3_b9,aD,hg,aJ,RR,seval];rfl)),hn9,(fun b o hb=>by have n9:b≠b9:=(fun e=>by rw[e,hn9]at hb;cases hb);simp only[cH _ _ n9];exact hb)⟩
      simp only[RR,seval];refine aP fun b9 hn9=>?_;have nb9_b3:b9≠b3:=fun e=>by rw[e]at hn9;simp only[hb3,seval,reduceCtorEq]at hn9
      have nb3_b9:b3≠b9:=fun e=>nb9_b3 e.symm;simp only[RR,seval];refine eO [(28,1),(29,3),(31,1)] hd (m:=0) rfl (by kernel_rfl) rfl rfl ?_;simp only[cF,RR,seval];refine aN (hk3) ?_;simp only[nb9_b3,RR,seval];refine gF (by kernel_rfl) ?_;simp only[RR,seval];exact hKR5 _ _ ⟨(by repeat (first|exact bC.refl _ _|refine bC.upd rfl ?_)),(by first|rfl|(simp only[hb3,nb3_b9,aJ,seval];done)|(simp only[f1,f2,f3,f6,f7,f8,hb3,nb9_b3,nb3_b9,aD,hg,aJ,RR,seval];rfl)),b9,(by first|rfl|(simp only[f1,f2,f3,f6,f7,f8,hb3,nb9_b3,nb3_b9,aD,hg,aJ,RR,seval];done)|(simp only[f1,f2,f3,f6,f7,f8,hb3,nb9_b3,nb3_b9,aD,hg,aJ,RR,seval];rfl)),(by first|rfl|(simp only[aJ,seval];done)|(simp only[f1,f2,f3,f6,f7,f8,hb3,nb9_b3,nb3_b9,aD,hg,aJ,RR,seval];rfl)),hn9,(fun b o hb=>by have n9:b≠b9:=(fun e=>by rw[e,hn9]at hb;cases hb);simp only[cH _ _ n9];exact hb)⟩
     simp only[RR,seval];refine aP fun b9 hn9=>?_;have nb9_b3:b9≠b3:=fun e=>by rw[e]at hn9;simp only[hb3,seval,reduceCtorEq]at hn9
     have nb3_b9:b3≠b9:=fun e=>nb9_b3 e.symm;simp only[RR,seval];refine eO [(20,1),(28,1),(29,3),(31,1)] hd (m:=0) rfl (by kernel_rfl) rfl rfl ?_;simp only[cF,RR,seval];refine aN (hk2) ?_;simp only[RR,seval];refine aN (hk3) ?_;simp only[nb9_b3,RR,seval];refine gF (by kernel_rfl) ?_;simp only[RR,seval];exact hKR5 _ _ ⟨(by repeat (first|exact bC.refl _ _|refine bC.upd rfl ?_)),(by first|rfl|(simp only[hb3,nb3_b9,aJ,seval];done)|(simp only[f1,f2,f3,f6,f7,f8,hb3,nb9_b3,nb3_b9,aD,hg,aJ,RR,seval];rfl)),b9,(by first|rfl|(simp only[f1,f2,f3,f6,f7,f8,hb3,nb9_b3,nb3_b9,aD,hg,aJ,RR,seval];done)|(simp only[f1,f2,f3,f6,f7,f8,hb3,nb9_b3,nb3_b9,aD,hg,aJ,RR,seval];rfl)),(by first|rfl|(simp only[aJ,seval];done)|(simp only[f1,f2,f3,f6,f7,f8,hb3,nb9_b3,nb3_b9,aD,hg,aJ,RR,seval];rfl)),hn9,(fun b o hb=>by have n9:b≠b9:=(fun e=>by rw[e,hn9]at hb;cases hb);simp only[cH _ _ n9];exact hb)⟩
    simp only[RR,seval];refine aP fun b9 hn9=>?_;have nb9_b3:b9≠b3:=fun e=>by rw[e]at hn9;simp only[hb3,seval,reduceCtorEq]at hn9
    have nb3_b9:b3≠b9:=fun e=>nb9_b3 e.symm;simp only[RR,seval];refine eO [(12,1),(20,1),(28,1),(29,3),(31,1)] hd (m:=0) rfl (by kernel_rfl) rfl rfl ?_;simp only[cF,RR,seval];refine aN (hk1) ?_;simp only[RR,seval];refine aN (hk2) ?_;simp only[RR,seval];refine aN (hk3) ?_;simp only[nb9_b3,RR,seval];refine gF (by kernel_rfl) ?_;simp only[RR,seval];exact hKR5 _ _ ⟨(by repeat (first|exact bC.refl _ _|refine bC.upd rfl ?_)),(by first|rfl|(simp only[hb3,nb3_b9,aJ,seval];done)|(simp only[f1,f2,f3,f6,f7,f8,hb3,nb9_b3,nb3_b9,aD,hg,aJ,RR,seval];rfl)),b9,(by first|rfl|(simp only[f1,f2,f3,f6,f7,f8,hb3,nb9_b3,nb3_b9,aD,hg,aJ,RR,seval];done)|(simp only[f1,f2,f3,f6,f7,f8,hb3,nb9_b3,nb3_b9,aD,hg,aJ,RR,seval];rfl)),(by first|rfl|(simp only[aJ,seval];done)|(simp only[f1,f2,f3,f6,f7,f8,hb3,nb9_b3,nb3_b9,aD,hg,aJ,RR,seval];rfl)),hn9,(fun b o hb=>by have n9:b≠b9:=(fun e=>by rw[e,hn9]at hb;cases hb);simp only[cH _ _ n9];exact hb)⟩
   rintro F4 M4 ⟨agx,gb3,b9,f9,hb9,hz9,hk9⟩;simp only[fR];apply y;clear y;have f1:=(agx 1 rfl).trans f1;have f2:=(agx 2 rfl).trans f2;have f3:=(agx 3 rfl).trans f3;have f6:=(agx 6 rfl).trans f6;have f7:=(agx 7 rfl).trans f7;have f8:=(agx 8 rfl).trans f8;have hb3:=gb3.trans hb3;have ag0:bC [1,2,3,6] F2 F4:=bC.sub agx rfl ag0;have e0_b3:=gb3.trans e0_b3;clear agx gb3;have ho9:off v7 b9:=hown.new hz9;have hown:dJ 6 v7 _ M4:=qS hown hk9;have ho3:=hown.offsz hb3 (by decide);have nb9_b3:b9≠b3:=fun e=>by rw[e,hb3]at hb9;cases hb9
   have nb3_b9:b3≠b9:=fun e=>nb9_b3 e.symm;refine aI ?_;refine aB fun _ y=>aA rfl ?_;simp only[f2,f8,hg,RR,seval];apply y;clear y;refine bM fun F5 M5 hfr hH=>?_;have g1:=hfr 1;have g2:=hfr 2;have g3:=hfr 3;have g6:=hfr 6;have g7:=hfr 7;have g8:=hfr 8;have g9:=hfr 9;have g51:=hfr 51;have gb3:=hH b3;have gb9:=hH b9
   try simp only[f1,f2,f3,f6,f7,f8,f9,hb3,hb9,RR,seval]at g1 g2 g3 g6 g7 g8 g9 g51 gb3 gb9
   have ag0:bC [1,2,3,6] F2 F5:=bC.same hfr (by repeat (first|exact ag0|refine bC.upd rfl ?_));have e0_b3:=(hH b3).trans (by first|exact e0_b3|(simp only[nb9_b3,nb3_b9,aJ,seval];first|done|exact e0_b3));have hown:=hown.same hH;have f1:=g1;clear g1;have f2:=g2;clear g2;have f3:=g3;clear g3;have f6:=g6;clear g6;have f7:=g7;clear g7;have f8:=g8;clear g8;have f9:=g9;clear g9;have f51:=g51;clear g51;have hb3:=gb3;clear gb3;have hb9:=gb9;clear gb9;clear hfr hH;refine dS (fun fr M=>bC [1,2,3,6,7,8,9] F5 fr∧M b3=M5 b3∧dJ 6 v7 (((l.take k).map (pU rs)).map CS.row) M∧M b9=some (.rows 6 [[.int .i64 e.kind, .int .i64 (rs e.name).1, .int .i64 (rs e.name).2, .isl 6 ((e.es.map (rT rs)).map CE.row), .isl 6 ((e.thn.map (pU rs)).map CS.row), .isl 6 ((e.els.map (pU rs)).map CS.row)]])) (fun KC6 hKC6=>?_) ?_
   ·have agC6:=bC.refl [1,2,3,6,7,8,9] F5
    have eC6_b3:M5 b3=M5 b3:=rfl;refine aH _ (by first|rfl|exact f51) (fun hc6=>?_) (fun hc6=>?_)
    ·have hs:=hs (by intro c;rw[c]at hc6;simp at hc6)
     refine bJ (fun _=>True) [(0,1),(1,3),(2,3),(3,3),(4,3),(5,3),(6,1),(7,1),(8,3),(9,3),(10,3),(11,3)] [(12,1),(13,3),(14,1)] dG (by kernel_rfl) rfl rfl ?_;simp only[cF,f1,f2,f3,f8,hb3,hg,RR,seval];refine aN (hs) ?_;simp only[f9,hb9,RR,seval];refine hKC6 _ _ ⟨(by repeat (first|exact agC6|refine bC.upd rfl ?_)),(by first|exact eC6_b3|(simp only[nb3_b9,aJ,seval];first|done|exact eC6_b3)),(by first|exact hown|exact(hown.off ho9 _).off ho9 _),(by first|exact bO _ _ _|(rw[hr0];exact hb9)|(simp only[aJ,seval];rfl))⟩
    have hen:e.name=[]:=by simpa using hc6
    have hr0:rs e.name=(0,0):=by rw[hen];exact hsn
    refine aK ?_;try simp only[RR]
    refine hKC6 _ _ ⟨(by repeat (first|exact agC6|refine bC.upd rfl ?_)),(by first|exact eC6_b3|(simp only[nb9_b3,nb3_b9,aJ,seval];first|done|exact eC6_b3)),(by first|exact hown|exact(hown.off ho9 _).off ho9 _),(by first|exact bO _ _ _|(rw[hr0];exact hb9)|(simp only[aJ,seval];rfl))⟩
   rintro F6 M6 ⟨agx,gb3,hown,hb9⟩;have f1:=(agx 1 rfl).trans f1;have f2:=(agx 2 rfl).trans f2;have f3:=(agx 3 rfl).trans f3;have f6:=(agx 6 rfl).trans f6;have f7:=(agx 7 rfl).trans f7;have f8:=(agx 8 rfl).trans f8;have f9:=(agx 9 rfl).trans f9;have hb3:=gb3.trans hb3;have ag0:bC [1,2,3,6] F2 F6:=bC.sub agx rfl ag0;have e0_b3:=gb3.trans e0_b3;clear agx;clear gb3;simp only[RR,seval];refine bM fun F7 M7 hfr hH=>?_;have g1:=hfr 1;have g2:=hfr 2;have g3:=hfr 3;have g6:=hfr 6;have g7:=hfr 7;have g8:=hfr 8;have g9:=hfr 9;have gb3:=hH b3;have gb9:=hH b9
   try simp only[f1,f2,f3,f6,f7,f8,f9,hb3,hb9,seval]at g1 g2 g3 g6 g7 g8 g9 gb3 gb9
   have ag0:bC [1,2,3,6] F2 F7:=bC.same hfr (by repeat (first|exact ag0|refine bC.upd rfl ?_));have e0_b3:=(hH b3).trans (by first|exact e0_b3|(simp only[nb9_b3,nb3_b9,aJ,seval];first|done|exact e0_b3));have hown:=hown.same hH;have f1:=g1;clear g1;have f2:=g2;clear g2;have f3:=g3;clear g3;have f6:=g6;clear g6;have f7:=g7;clear g7;have f8:=g8;clear g8;have f9:=g9;clear g9;have hb3:=gb3;clear gb3;have hb9:=gb9;clear gb9;clear hfr hH;refine aA rfl ?_;simp only[f7,f9,hb9,RR,seval];refine cY ?_;simp only[RR,seval];refine kD hown (by simp only[aD,bU,List.length_nil];omega) (fun b e=>by first|trivial|(repeat' apply And.intro)<;>(intro c;subst c;first|exact ho9 _ _ e|exact hown.nb' hb3 (by decide) e)) fun v8 M8 hown' hk' hg'=>?_;have ho9':=hg' b9 ho9 (by rw[hb9];exact cL _);simp only[RR,seval];have gb3:=hk' b3 _ hb3 (by first|exact(hown).nb' hb3 (by decide)|exact ho3 _ _|assumption|(intro e;simp_all));have e0_b3:=(gb3.trans hb3.symm).trans e0_b3;have hb3:=gb3;clear gb3;have gb9:=hk' b9 _ hb9 (by first|exact(hown).nb' hb9 (by decide)|exact ho9 _ _|assumption|(intro e;simp_all));have hb9:=gb9;clear gb9;have hce:=hown'.cells;have hoe:=hown'.one1
   try simp only[hce,hoe,Option.bind_some,List.drop,f7,f9,hb3,hb9,nb9_b3,nb3_b9,aD,hg,RR,seval]
   refine aA rfl ?_;simp only[f8,RR,seval]
   try rw[aQ _ (by omega)]
   refine hK0 _ _ hlt0 ⟨by first|rfl|(simp only[aJ,seval];rfl),(by first|exact e0_b3|(simp only[nb9_b3,nb3_b9,aJ,seval];first|done|exact e0_b3)),by rw[htk,List.map_append,List.map_append];simp only[List.map_cons,List.map_nil,Nh];exact hown'⟩ (by repeat (first|exact ag0|refine bC.upd rfl ?_))
  have hkn0:k=l.length:=by have:=aF hc;omega
  clear hc;rw[hkn0,List.take_length]at hown;refine bF ?_;simp only[RR,seval];refine aB fun _ y=>aA rfl ?_;simp only[f7,RR,seval];apply y;clear y;refine aO ?_;simp only[bB,aL,bH,RR,seval];exact dJ.gives1 hown rfl;skip
end Go.Proofs.YtnfbbjhdflhmjaaGreatDoor
