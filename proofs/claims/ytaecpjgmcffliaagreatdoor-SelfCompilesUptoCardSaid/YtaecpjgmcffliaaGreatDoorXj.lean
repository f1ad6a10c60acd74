/- Xj -/
import Derived.Test.YtaecpjgmcffliaaGreatDoorMx
import Derived.Test.YtaecpjgmcffliaaGreatDoorXe
import Derived.Test.YtaecpjgmcffliaaGreatDoorMje
import Derived.Test.YtaecpjgmcffliaaGreatDoorSy2
import Derived.Test.YtaecpjgmcffliaaGreatDoorAl3
set_option linter.unusedSimpArgs false
set_option linter.unusedVariables false
set_option maxRecDepth 10000
set_option maxHeartbeats 8000000
namespace Go.Al
section
open Go.Lib
theorem Eb {P:Program} {W:World} {name:String} {k:IntKind} {zs:List Int} {g:Nat} {t e:TypeId} {n:Nat} (hg:P.globalNamed name=some g) (hty:(P.globals[g]?).map (·.type)=some t) (ht:P.underlying t=some (.array n e)) (he:P.underlying e=some (.int k)) (hce:P.cellsOf e=1) (hct:P.cellsOf t=n):
  ∀{l:List (String×DataW Unit)} {ps:List MemPlace},DataW.LaidVars P W l ps→(name,tabData k zs)∈l→W.var? P name=some (zs.map fun z=>Value.int k z).toArray
 |[],_,_,hm=>by cases hm
 |(nm,d)::rest,ps,h,hm=>by
  obtain⟨g',t',cs,fuel,p,q,hg',ht',hvar,hd,hrest,_⟩:=h;rcases bJ.1 hm with hm|hm
  ·cases hm
   obtain rfl:=Option.some.inj (hg.symm.trans hg');obtain rfl:=Option.some.inj (hty.symm.trans ht');rw[hvar,←cells_of_tab ht he hce hct hd]
  exact Eb hg hty ht he hce hct hrest hm
def NB:DataW Unit→Value
 | .lit (.int k z)=> .int k z
 | .lit (.string s)=> .string ⟨s.toArray⟩
 |_=>Go.undef
def AU:DataW Unit→Array Value
 | .agg l=>(l.map NB).toArray
 |_=> #[]
end
end Go.Al
namespace Go.Proofs.YtaecpjgmcffliaaGreatDoor
open Go.Al Go.Proofs.Tryz
theorem Vo {V:UInt8→Prop} {A:Prop} {l:List Sm} (hs: ∀m∈l,SS V A 1 m) (hl:(iL l++[36]).length≤2500):(∀w∈qX (pY 0 l++[36]),dQ w∧sU w)∧(qX (pY 0 l++[36])).length=4 *((iL l).length+1):=by
 have hl:(iL l).length+1≤2500:=by rw[aB,bW]at hl;exact hl
 have hb:=LU (N:=2500) (l:=l) (q:=0) (d:=0) (fun m hm q hq=>⟨LQ (by decide) (hs m hm) q 0 (by decide) hq,jL (hs m hm) q⟩) (by omega);have hw:=XJ (N:=2500) (l:=l) (q:=0) (d:=0) (fun m hm q hq=>⟨ZC (by decide) (hs m hm) q 0 (by decide) hq,LQ (by decide) (hs m hm) q 0 (by decide) hq,jL (hs m hm) q⟩) (by omega);have hln:=qV (b:=0) fun x hx=>jL (hs x hx);refine⟨?_, ?_⟩
 ·have :Kw 0 (zl (0:Nat) 0) (pY 0 l++[36]):=by
   refine hw.app ?_;rw[hb];refine mX ?_;rw[(pS (A:=1509949440) (X:=gB 26 0 0 0) (g:=2) (by decide) (by decide) (by decide) (by decide) (by decide) (by decide) (by decide) (by decide)).1];exact lU (by decide) (by decide) (pL (by decide) (by decide) (by decide))
  exact this
 unfold qX;rw[vU,aB,bW,hln]
theorem SG {cx:Cx} {n nv:Nat} {sizes:List Nat} {e:Int} {out:dE} {t:Nat} (h:Nv cx n nv sizes=some (e,out,t)):t≤cx.fuel:=by
 unfold Nv at h
 cases hm:cx.main with
 |none=>rw[hm]at h;cases h
 |some f=>
  rw[hm,bX,bG]at h;obtain⟨r,h1,h2⟩:=h;have hg:=(grow cx n).L f.res (List.replicate f.words 0) f.body (RS.init nv sizes) r h1;have:=hg.f (cN _);cases r<;>(simp only[Ul,Prod.mk.injEq]at h2;rw[←h2.2.2];exact this)
theorem BB (W:List Int) (a:Int) (k:W.length≤20000) (o:0≤a∧a≤1000000):eG dR 20 [.agg [.isl 1 (W.map gI), .int .i64 4224], .int .i64 a] (.int .i64 (8 *(a+1) *((W.length:Int)+4224+1))):=by
 have l:8 *(a+1) *((W.length:Int)+4224+1)≤8 *1000001 *30000:=Int.mul_le_mul (by omega) (by omega) (by omega) (by decide);have j:0≤8 *(a+1) *((W.length:Int)+4224+1):=Int.mul_nonneg (by omega) (by omega);have d:IntKind.wrap .i64 (a+1)=a+1:=aU _ (by omega);have e:IntKind.wrap .i64 (8 *(a+1))=8 *(a+1):=aU _ (by omega);have f:IntKind.wrap .i64 ((W.length:Int)+4224)=(W.length:Int)+4224:=aU _ (by omega);have g:IntKind.wrap .i64 ((W.length:Int)+4224+1)=(W.length:Int)+4224+1:=aU _ (by omega);have i:IntKind.wrap .i64 (8 *(a+1) *((W.length:Int)+4224+1))=8 *(a+1) *((W.length:Int)+4224+1):=aU _ (by omega);refine bU 16 [.tmp 4] func20 ?_;refine aA fun K b=>?_;simp only[RR,seval];refine aN fun c n=>?_;simp only[RR,seval];refine b _ _ (aA fun K b=>?_);simp only[*,aF,RR,seval];apply b;refine aP ?_;simp only[aY,aK,bP,RR,seval];refine bB.pure ?_;rfl
theorem Un {V:UInt8→Prop} {A:Prop} {l:List Sm} (G: ∀m∈l,SS V A 1 m) (y:(iL l++[36]).length≤2500):eG dR 17 [.str (iL l++[36])] (.tup [.agg [.isl 1 ((qX (pY 0 l++[36])).map gI), .int .i64 4224], .str (uZ (Tv (pY 0 l++[36]))), .bool true]):=by
 obtain⟨n,t,F,ht⟩:=HC G y (100 *(((iL l++[36]).length:Int)+100)) (by omega);have p:=Zw fW (Wl Ie uI) (fun j g v u Q=>Ht Ie uI j g v u Q) (fun g v=>Hu uI g v) (iL l++[36]) (by omega) (100 *(((iL l++[36]).length:Int)+100)) ⟨by omega,by omega⟩ F;obtain⟨H,I⟩:=Vo G y;have C:(qX (pY 0 l++[36])).length≤16384:=by rw[I];rw[aB,bW]at y;omega
 have z:=LM (qX (pY 0 l++[36])) C (fun w R=>(H w R).1)
 have D:Tv (pY 0 l++[36])=[1145390419,((qX (pY 0 l++[36])).length:Int),4224]++qX (pY 0 l++[36]):=by
  unfold Tv qX;rw[vU];simp
 rw[←D]at z;have B:=MQ;unfold SJ at p;have P:fW.av= .agg [.isl 1 (fW.vars.map bT), .isl 2 (fW.arrs.map Ar.row), .isl 5 (fW.funs.map Fu.row)]:=rfl;rw[P]at p B;generalize fW.vars.map bT=q1 at *;generalize fW.arrs.map Ar.row=q2 at *;generalize fW.funs.map Fu.row=q3 at *;generalize iL l++[36]=s at *;generalize uZ (Tv (pY 0 l++[36]))=S at *;generalize(qX (pY 0 l++[36])).map gI=wr at *;clear F H I C D;have L:IntKind.wrap .i64 ((s.length:Int)+100)=(s.length:Int)+100:=aU _ (by omega);have N:IntKind.wrap .i64 (100 *((s.length:Int)+100))=100 *((s.length:Int)+100):=aU _ (by omega);refine bU 40 [.cell 2 36, .tmp 3, .tmp 4] func17 ?_;refine aA fun K a=>?_;simp only[RR,seval];refine aN fun c a4=>?_;simp only[RR,seval];refine a _ _ (aA fun K a=>?_);simp only[RR,seval];refine aI (B) ?_;simp only[RR,seval];refine aN fun d E=>?_;have U:d≠c:=fun e=>by rw[e]at E;simp only[RR,seval,reduceCtorEq]at E
 have J:=U.symm;simp only[RR,seval];refine a _ _ (aH (aA fun K a=>?_));simp only[RR,seval];refine a _ _ (bK ?_);refine aL ?_;simp only[RR];refine aA fun K a=>?_;simp only[L,N,RR,seval];refine aI (p) ?_;simp only[RR,seval];refine aN fun f k=>?_;have X:f≠c:=fun e=>by rw[e]at k;simp only[J,RR,seval,reduceCtorEq]at k
 have T:=X.symm;have Y:f≠d:=fun e=>by rw[e]at k;simp only[RR,seval,reduceCtorEq]at k
 have W:=Y.symm;simp only[RR,seval];refine a _ _ (aA fun K a=>?_);simp only[RR,seval];refine aI (z) ?_;simp only[RR,seval];refine aN fun i b=>?_;have Z:i≠c:=fun e=>by rw[e]at b;simp only[J,T,RR,seval,reduceCtorEq]at b
 have a5:=Z.symm;have a0:i≠d:=fun e=>by rw[e]at b;simp only[W,RR,seval,reduceCtorEq]at b
 have a6:=a0.symm;have a1:i≠f:=fun e=>by rw[e]at b;simp only[RR,seval,reduceCtorEq]at b
 have a7:=a1.symm;simp only[RR,seval];refine a _ _ (aG fun K a=>?_);refine gP (fun o M=>o 2= .ptr 2 c 0 0∧o 3= .str S∧o 4= .bool true∧M c=some (.rows 2 [[.isl 1 wr, .int .i64 4224]])) (fun a2 O=>?_) ?_
 ·refine lM (fun x=>x≠d∧x≠f∧x≠i) eB (by kernel_rfl) fun hd=>?_
  refine hI [(0,1),(1,3),(2,0),(3,3),(4,1),(5,3),(6,3),(7,3),(8,3),(9,3),(10,1),(11,3),(12,3)] hd (m:=0) rfl (by kernel_rfl) rfl rfl ?_;simp only[*,dI,fP,RR,seval];refine jJ (by kernel_rfl) ?_;simp only[RR,seval];refine O _ _ ⟨?_, ?_, ?_, ?_⟩<;>first|rfl|(simp only[aS,seval];done)
 rintro F1 M1 ⟨f2,f3,f4,a3⟩;simp only[iM];apply a;refine aP ?_;simp only[*,aY,aK,bP,RR,seval];refine bB.pure ?_;rfl
theorem D3 {p:Pg} (k:Zz p) (e:H7 p=true) (h:iF (fun l=>l.all zC) p=true): ∃f,rA p f∧(∀m∈f.body,SS (fun c=>[c]∈p.vars) (p.arrs.length=1) 1 m)∧BW p=(iL f.body++[36],0)∧(iL f.body++[36]).length≤2401∧gZ p=0:=by
 obtain⟨f,i⟩:=Hw h;obtain⟨g,b,j⟩:=Xb k.ok h
 have :g=f:=by
  have d:=i.funs;rw[b]at d;injection d
 subst this
 have a:gZ p=0:=by
  simp only[iF,aV,bH]at h;exact h.1
 refine⟨g,i,j, ?_, ?_,a⟩
 ·unfold BW
  rw[bF h,b]
 have o:Ia p≤200:=by
  simp only[H7,aV,kK,bH]at e;rcases e.2 with h2|h2
  ·rw[nN a]at h2;cases h2
  exact h2
 have n:=Gq (l:=g.body) fun s a=>N4 (j s a)
 have :lQ g.body≤Ia p:=by
  unfold Ia;rw[b];simp only[zA,I4];omega
 rw[aB,bW];omega
theorem Dw (p:Pg) (o:Zz p) (inp:dE):eG dR 5 [p.av, .str inp] (.bool true):=by
 have C:=AK p o;have G:=BH;have E:=fun h=>AB p o.ok (Jk o h) (SA o);have k4:=fun h=>zJ p o.ok (Jk o h);rw[←zB]at k4;have hT:=D3 o;have a2:=fun h=>Jk o h;have D:=fun(h1:p.few) (Q:gZ p=0)=>Zw p (Wl h1 Q) (fun j g hg u hu=>Ht h1 Q j g hg u hu) (fun g hg=>Hu Q g hg) inp;have b8:p.av= .agg [.isl 1 (p.vars.map bT), .isl 2 (p.arrs.map Ar.row), .isl 5 (p.funs.map Fu.row)]:=rfl;rw[b8]at C E k4 D⊢;generalize a8:H7 p=fb at *;generalize iF (fun l=>l.all zC) p=sb at *
 cases fb with
 |false=>
  generalize p.vars.map bT=W at *;generalize p.arrs.map Ar.row=X at *;generalize p.funs.map Fu.row=Y at *;refine bU 72 [.tmp 4] func5 ?_;refine aA fun K a=>?_;simp only[RR,seval];refine aN fun i S=>?_;simp only[RR,seval];refine a _ _ (aH (aA fun K a=>?_));simp only[RR,seval];refine aI (C) ?_;simp only[RR,seval];refine a _ _ (cM (aA fun K a=>?_));simp only[RR,seval];refine aI (G) ?_;simp only[RR,seval];apply a;refine aP ?_;simp only[aY,aK,bP,RR,seval];refine bB.pure ?_;rfl
 |true=>
  have E:=E rfl;have k4:=k4 rfl;by_cases c6:60<inp.length
  ·have F:decide ((60:Int)<(inp.length:Int))=true:=cV (by omega)
   generalize p.vars.map bT=W at *;generalize p.arrs.map Ar.row=X at *;generalize p.funs.map Fu.row=Y at *;refine bU 72 [.tmp 4] func5 ?_;refine aA fun K a=>?_;simp only[RR,seval];refine aN fun i S=>?_;simp only[RR,seval];refine a _ _ (aH (aA fun K a=>?_));simp only[RR,seval];refine aI (C) ?_;simp only[F,RR,seval];refine a _ _ (cM (aA fun K a=>?_));simp only[RR,seval];refine aI (G) ?_;simp only[RR,seval];apply a;refine aP ?_;simp only[aY,aK,bP,RR,seval];refine bB.pure ?_;rfl
  have F:decide ((60:Int)<(inp.length:Int))=false:=bI (by omega)
  cases sb with
  |false=>
   generalize p.vars.map bT=W at *;generalize p.arrs.map Ar.row=X at *;generalize p.funs.map Fu.row=Y at *;refine bU 72 [.tmp 4] func5 ?_;refine aA fun K a=>?_;simp only[RR,seval];refine aN fun i S=>?_;simp only[RR,seval];refine a _ _ (aH (aA fun K a=>?_));simp only[RR,seval];refine aI (C) ?_;simp only[F,RR,seval];refine aI (k4) ?_;simp only[RR,seval];refine a _ _ (cM (aA fun K a=>?_));simp only[RR,seval];refine aI (G) ?_;simp only[RR,seval];apply a;refine aP ?_;simp only[aY,aK,bP,RR,seval];refine bB.pure ?_;rfl
  |true=>
   obtain⟨f,a5,J,ht,hl,L⟩:=hT rfl rfl;rw[ht]at E;have hr:=nN L;have a4:=a2 rfl hr;have hC:=Un J (by omega);obtain⟨n,r,I⟩:=W3 L inp 200;obtain⟨e,V,t⟩:=r;have D:=D a4 L (by omega) 200 ⟨by decide,by decide⟩ I;have c7:t≤200:=SG I;have d2:decide ((2500:Int)<((iL f.body++[36]).length:Int))=false:=bI (by omega);unfold SJ at D;by_cases he:e=5
   ·subst he
    generalize iL f.body++[36]=ts at *;generalize uZ (Tv (pY 0 f.body++[36]))=b9 at *;generalize(qX (pY 0 f.body++[36])).map gI=wr at *;clear I a5 J ht hT a4 a2 hr L a8 o;generalize p.vars.map bT=W at *;generalize p.arrs.map Ar.row=X at *;generalize p.funs.map Fu.row=Y at *;refine bU 72 [.tmp 4] func5 ?_;refine aA fun K a=>?_;simp only[RR,seval];refine aN fun i S=>?_;simp only[RR,seval];refine a _ _ (aH (aA fun K a=>?_));simp only[RR,seval];refine aI (C) ?_;simp only[F,RR,seval];refine aI (k4) ?_;simp only[RR,seval];refine a _ _ (bK ?_);refine aL ?_;simp only[RR];refine aA fun K a=>?_;simp only[RR,seval];refine aI (E) ?_;simp only[RR,seval];refine a _ _ (aH (aA fun K a=>?_));simp only[d2,RR,seval];refine a _ _ (bK ?_);refine aL ?_;simp only[RR];refine aA fun K a=>?_;simp only[RR,seval];refine aI (hC) ?_;simp only[RR,seval];refine aN fun v H=>?_;have a7:v≠i:=fun e=>by rw[e]at H;simp only[RR,seval,reduceCtorEq]at H
    have B:=a7.symm;simp only[RR,seval];refine a _ _ (aH (aA fun K a=>?_));simp only[RR,seval];refine a _ _ (bK ?_);refine aL ?_;simp only[RR];refine aA fun K a=>?_;simp only[B,RR,seval];refine aI (D) ?_;simp only[RR,seval];refine aN fun d y=>?_;have a6:d≠i:=fun e=>by rw[e]at y;simp only[B,RR,seval,reduceCtorEq]at y
    have U:=a6.symm;have T:d≠v:=fun e=>by rw[e]at y;simp only[RR,seval,reduceCtorEq]at y
    have P:=T.symm;simp only[RR,seval];refine a _ _ (aH (aA fun K a=>?_));simp only[RR,seval];refine a _ _ (cM (aA fun K a=>?_));simp only[RR,seval];refine aI (G) ?_;simp only[RR,seval];apply a;refine aP ?_;simp only[aY,aK,bP,RR,seval];refine bB.pure ?_;rfl
   have b5:(iL f.body).length+1≤2401:=by rw[aB,bW]at hl;exact hl
   obtain⟨k,Z,hk,a9,b6,_⟩:=NM a5 J (by omega) inp 200 I he;obtain⟨b0,b1⟩:=Vo J (by omega);have a1:(qX (pY 0 f.body++[36])).length≤20000:=by rw[b1];omega
   have hB:=BB (qX (pY 0 f.body++[36])) (t:Int) a1 (by omega)
   have a3:(k:Int)+2≤8 *((t:Int)+1) *(((qX (pY 0 f.body++[36])).length:Int)+4224+1)∧k≤1000000000000:=by
    have h1:4 *((iL f.body).length+1) *(t+1)≤10000 *(t+1):=gA _ (by omega);have Q:(8 *((t:Int)+1)) *4225≤8 *((t:Int)+1) *(((qX (pY 0 f.body++[36])).length:Int)+4224+1):=Int.mul_le_mul_of_nonneg_left (by omega) (by omega);generalize 4 *((iL f.body).length+1) *(t+1)=m1 at *;generalize 8 *((t:Int)+1) *(((qX (pY 0 f.body++[36])).length:Int)+4224+1)=m2 at *;omega
   have R:eG dR 19 [.agg [.isl 1 ((qX (pY 0 f.body++[36])).map gI), .int .i64 4224], .str inp, .int .i64 (8 *((t:Int)+1) *(((qX (pY 0 f.body++[36])).length:Int)+4224+1))] (.agg [.int .i64 e, .str Z.out, .int .i64 Z.st]):=
    BO (qX (pY 0 f.body++[36])) inp 4224 _ k e Z rfl a1 b0 (by omega) a9 (by assumption) a3.2 a3.1
   rw[b6]at R;generalize 8 *((t:Int)+1) *(((qX (pY 0 f.body++[36])).length:Int)+4224+1)=bd at *;generalize iL f.body++[36]=ts at *;generalize uZ (Tv (pY 0 f.body++[36]))=b9 at *;generalize(qX (pY 0 f.body++[36])).map gI=wr at *;generalize Z.st=c0 at *;clear I a9 b0 b1 a1 hk a3 a5 J ht hT a4 a2 hr L a8 o b5;have z0:decide (e=5)=false:=bI he;have z1:decide (e=e)=true:=cV rfl;have z2:decide (V=V)=true:=cV rfl;generalize p.vars.map bT=W at *;generalize p.arrs.map Ar.row=X at *;generalize p.funs.map Fu.row=Y at *;refine bU 72 [.tmp 4] func5 ?_;refine aA fun K a=>?_;simp only[RR,seval];refine aN fun i S=>?_;simp only[RR,seval];refine a _ _ (aH (aA fun K a=>?_));simp only[RR,seval];refine aI (C) ?_;simp only[F,RR,seval];refine aI (k4) ?_;simp only[RR,seval];refine a _ _ (bK ?_);refine aL ?_;simp only[RR];refine aA fun K a=>?_;simp only[RR,seval];refine aI (E) ?_;simp only[RR,seval];refine a _ _ (aH (aA fun K a=>?_));simp only[d2,RR,seval];refine a _ _ (bK ?_);refine aL ?_;simp only[RR];refine aA fun K a=>?_;simp only[RR,seval];refine aI (hC) ?_;simp only[RR,seval];refine aN fun v H=>?_;have a7:v≠i:=fun e=>by rw[e]at H;simp only[RR,seval,reduceCtorEq]at H
   have B:=a7.symm;simp only[RR,seval];refine a _ _ (aH (aA fun K a=>?_));simp only[RR,seval];refine a _ _ (bK ?_);refine aL ?_;simp only[RR];refine aA fun K a=>?_;simp only[B,RR,seval];refine aI (D) ?_;simp only[RR,seval];refine aN fun d y=>?_;have a6:d≠i:=fun e=>by rw[e]at y;simp only[B,RR,seval,reduceCtorEq]at y
   have U:=a6.symm;have T:d≠v:=fun e=>by rw[e]at y;simp only[RR,seval,reduceCtorEq]at y
   have P:=T.symm;simp only[RR,seval];refine a _ _ (aH (aA fun K a=>?_));simp only[z0,RR,seval];refine a _ _ (bK ?_);refine aL ?_;simp only[RR];refine aG fun K a=>?_;refine gP (fun fr M=> ∃c,fr 10= .ptr 3 d 0 0∧fr 11= .ptr 3 c 0 0∧M d=some (.rows 3 [[.int .i64 e, .str V, .int .i64 t]])∧M c=some (.rows 3 [[.int .i64 e, .str V, .int .i64 c0]])) (fun c1 a0=>?_) ?_
   ·refine lM (fun x=>x≠v∧x≠d) eB (by kernel_rfl) fun hd=>?_
    refine hI [(0,0),(1,3),(2,0),(3,3),(4,0)] hd (m:=4) rfl (by kernel_rfl) rfl rfl ?_;simp only[dI,fP,T,P,RR,seval];refine lE hd (by kernel_rfl:Region.ready .any _ _=[5,7]) (by simp) ⟨?_, ?_,trivial⟩
    ·simp only[RR,seval]
     refine aI (hB) ?_;simp only[RR,seval];refine lE hd (by kernel_rfl:Region.ready .any _ _=[6,7]) (by simp) ⟨?_, ?_,trivial⟩
     ·simp only[RR,seval]
      refine aI (R) ?_;simp only[RR,seval];refine hI [(7,1),(8,1)] hd (m:=0) rfl (by kernel_rfl) rfl rfl ?_;simp only[dI,RR,seval];refine aN fun c b=>?_;have O:c≠i:=fun e=>by rw[e]at b;simp only[B,U,RR,seval,reduceCtorEq]at b
      have b3:=O.symm;have A:c≠v:=fun e=>by rw[e]at b;simp only[P,RR,seval,reduceCtorEq]at b
      have b4:=A.symm;have z:c≠d:=fun e=>by rw[e]at b;simp only[RR,seval,reduceCtorEq]at b
      have N:=z.symm;simp only[A,z,RR,seval];refine jJ (by kernel_rfl) ?_;simp only[RR,seval];refine a0 _ _ ⟨c, ?_, ?_, ?_, ?_⟩<;>first|rfl|(simp only[N,aS,seval];done)
     simp only[RR,seval];refine aN fun c b=>?_;have O:c≠i:=fun e=>by rw[e]at b;simp only[B,U,RR,seval,reduceCtorEq]at b
     have b3:=O.symm;have A:c≠v:=fun e=>by rw[e]at b;simp only[P,RR,seval,reduceCtorEq]at b
     have b4:=A.symm;have z:c≠d:=fun e=>by rw[e]at b;simp only[RR,seval,reduceCtorEq]at b
     have N:=z.symm;simp only[RR,seval];refine hI [(6,1),(8,1)] hd (m:=0) rfl (by kernel_rfl) rfl rfl ?_;simp only[dI,RR,seval];refine aI (R) ?_;simp only[A,z,RR,seval];refine jJ (by kernel_rfl) ?_;simp only[RR,seval];refine a0 _ _ ⟨c, ?_, ?_, ?_, ?_⟩<;>first|rfl|(simp only[N,aS,seval];done)
    simp only[RR,seval];refine aN fun c b=>?_;have O:c≠i:=fun e=>by rw[e]at b;simp only[B,U,RR,seval,reduceCtorEq]at b
    have b3:=O.symm;have A:c≠v:=fun e=>by rw[e]at b;simp only[P,RR,seval,reduceCtorEq]at b
    have b4:=A.symm;have z:c≠d:=fun e=>by rw[e]at b;simp only[RR,seval,reduceCtorEq]at b
    have N:=z.symm;simp only[RR,seval];refine hI [(5,1),(6,1),(8,1)] hd (m:=0) rfl (by kernel_rfl) rfl rfl ?_;simp only[dI,RR,seval];refine aI (hB) ?_;simp only[RR,seval];refine aI (R) ?_;simp only[A,z,RR,seval];refine jJ (by kernel_rfl) ?_;simp only[RR,seval];refine a0 _ _ ⟨c, ?_, ?_, ?_, ?_⟩<;>first|rfl|(simp only[N,aS,seval];done)
   rintro F1 M1 ⟨c,c2,c3,c4,c5⟩;simp only[iM];refine a _ _ (aA fun K a=>?_);simp only[RR,seval];refine aI (G) ?_;simp only[*,RR,seval];apply a;refine aP ?_;simp only[aY,aK,bP,RR,seval];refine bB.pure ?_;rfl
section
open Go.Al Go.Lib
theorem G8:Tryz.prog.globalNamed "seedcorn/token.words" =some 0:=by kernel_rfl
theorem NV:(Tryz.prog.globals[0]?).map (·.type)=some 327:=by kernel_rfl
theorem TM:Tryz.prog.globalNamed "internal/strconv.uint64pow10" =some 1:=by kernel_rfl
theorem WX:(Tryz.prog.globals[1]?).map (·.type)=some 353:=by kernel_rfl
theorem ZE:Tryz.prog.underlying 327=some (.array 10 9):=by kernel_rfl
theorem ZD:Tryz.prog.underlying 353=some (.array 20 172):=by kernel_rfl
theorem uStr:Tryz.prog.underlying 9=some .string:=by kernel_rfl
theorem XV:Tryz.prog.underlying 172=some (.int .u64):=by kernel_rfl
theorem YQ:Tryz.prog.cellsOf 9=1:=by kernel_rfl
theorem YP:Tryz.prog.cellsOf 172=1:=by kernel_rfl
theorem XP:Tryz.prog.cellsOf 327=10:=by kernel_rfl
theorem ZL:Tryz.prog.cellsOf 353=20:=by kernel_rfl
theorem Pn {S:gG} {w:World} {b:Nat} {α:Type} (fv:α→Value) (fa:α→AV) (hv: ∀a,cB S w (fa a) (fv a)): ∀(ws:List α) (off:Nat),(∀(i:Nat) s,ws[i]?=some s→w.cell? ⟨b,off+i,none⟩=some (fv s))→eU S w b off (ws.map fa)
 |[],_,_=>by simp only[dH,eU]
 |s::ws,off,h=>by
  simp only[cX,eU];refine⟨⟨_,by simpa using h 0 s rfl,hv s⟩,Pn fv fa hv ws (off+1) fun i s' hs=>?_⟩;rw[show off+1+i=off+(i+1)by omega];exact h (i+1) s' (by simpa using hs)
def VZ:List Int:=[1,10,100,1000,10000,100000,1000000,10000000,100000000,1000000000,10000000000,100000000000,1000000000000,10000000000000,100000000000000,1000000000000000,10000000000000000,100000000000000000,1000000000000000000,10000000000000000000]
theorem D1 {W:World} (hL:laidMet Tryz.prog [("math/bits.deBruijn32tab",Rows.laid_math_bits_deBruijn32tab),("math/bits.deBruijn64tab",Rows.laid_math_bits_deBruijn64tab),("internal/strconv.uint64pow10",Rows.laid_internal_strconv_uint64pow10),("seedcorn/token.words",Rows.laid_seedcorn_token_words)] W):St dR ⟨W,KF oN,uF W,[],fun _=>Go.undef⟩ (uF W) oN W:=by
 obtain⟨ps,hv,_⟩:=hL;have v1:W.var? Tryz.prog "seedcorn/token.words" =some (kC.map fun s=>Value.string ⟨s.toArray⟩).toArray:=zY G8 NV ZE uStr YQ XP hv (by simp only[bJ];right;right;right;left;rfl)
 have v3:W.var? Tryz.prog "internal/strconv.uint64pow10" =some (VZ.map fun z=>Value.int .u64 z).toArray:=Eb TM WX ZD XV YP ZL hv (by simp only[bJ];right;right;left;rfl)
 have lt: ∀{n:String} {g:Nat} {cs:Array Value},Tryz.prog.globalNamed n=some g→W.var? Tryz.prog n=some cs→g<W.heap.size:=fun {n g cs} hg h=>by
  simp only[World.var?,hg,bX]at h;split at h
  ·rename_i e;exact(eM.1 e).1
  cases h
 refine⟨fun k hk=>hk,fun _ h=>h,fun k hk=> .inl hk,fun b o h=>(by cases h),oI.refl _ _,fun g row h=>?_⟩
 have key: ∀{α:Type} (fv:α→Value) (fa:α→AV),(∀a,cB (uF W) W (fa a) (fv a))→ ∀{n:String} {g:Nat} {ws:List α},Tryz.prog.globalNamed n=some g→W.var? Tryz.prog n=some (ws.map fv).toArray→eU (uF W) W g 0 (ws.map fa):=fun {α} fv fa hva {n g ws} hg h=>
  Pn fv fa hva ws 0 fun i s hs=>by
   rw[World.var?_cell hg h];simp [hs]
 have ks: ∀{n:String} {g:Nat} {ws:List (List UInt8)},Tryz.prog.globalNamed n=some g→W.var? Tryz.prog n=some (ws.map fun s=>Value.string ⟨s.toArray⟩).toArray→eU (uF W) W g 0 (ws.map .str):=fun {n g ws} hg h=>key (fun s:List UInt8=>Value.string ⟨s.toArray⟩) AV.str (fun a=>by simp only[cB]) hg h;simp only[TV,JJ]at h;split at h
 ·cases h;exact⟨lt G8 v1,ks G8 v1⟩
 ·cases h;exact⟨lt TM v3,key (fun z:Int=>Value.int .u64 z) (AV.int .u64) (fun a=>by simp only[cB]) (ws:=VZ) TM v3⟩
 cases h
def Ac (d:DataW Unit):Obj→Obj
 | .cells _ t frozen=> .cells (AU d) t frozen
 |o=>o
noncomputable def IV (h:Array Obj):Array Obj:=
 (((h.modify 2 (Ac Rows.laid_math_bits_deBruijn32tab)).modify 3 (Ac Rows.laid_math_bits_deBruijn64tab)).modify 1 (Ac Rows.laid_internal_strconv_uint64pow10)).modify 0 (Ac Rows.laid_seedcorn_token_words)
end
end Go.Proofs.YtaecpjgmcffliaaGreatDoor
