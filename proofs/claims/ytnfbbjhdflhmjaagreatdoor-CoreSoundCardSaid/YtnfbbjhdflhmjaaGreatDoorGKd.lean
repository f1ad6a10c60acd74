/- Chapter 19, the program's: statements one behind the other; a loop. -/
import Derived.Test.YtnfbbjhdflhmjaaGreatDoorGKc
set_option linter.unusedSimpArgs false
set_option linter.unusedVariables false
set_option maxRecDepth 10000
namespace Go.Proofs.YtnfbbjhdflhmjaaGreatDoor
open Go.Al
section
variable {cx : Kx} {W r w : Nat} {n : Nat}
set_option maxHeartbeats 2000000 in
theorem Wb (ih:Qh cx W r w n) (i:Nat) (l:List CS) (st:RS) (vo:AV) (H:Hp) (o:Rz (Option Int)) (hl:uE l) (hw:nU (W:Int) cx.funs i l) (hR:eX cx W r w st vo H) (h:kH cx (n+1) l st=some o):
  mM cK 36 [.ptr 7 r 0 0, .isl 6 (l.map CS.row)] H (lD cx W r w vo H kX kY o):=by
 have hfit:=hl.fit;simp only[cI]at hfit;obtain⟨HX,hHX⟩: ∃X,X=H:=⟨_,rfl⟩;refine bI 25 [.tmp 4, .tmp 5] Tryz.func36 rfl rfl rfl rfl ?_;refine aB fun _ y=>aA rfl ?_;simp only[RR,seval];apply y;clear y;refine aI ?_;refine aB fun _ y=>aA rfl ?_;simp only[aD,RR,seval];apply y;clear y;refine bM fun F1 M1 hfr hH=>?_;have g0:=hfr 0;have g1:=hfr 1;have g4:=hfr 4;have g5:=hfr 5;have g10:=hfr 10;have g11:=hfr 11
 try simp only[RR,seval]at g0 g1 g4 g5 g10 g11
 have hM:=funext hH;have f0:=g0;clear g0;have f1:=g1;clear g1;have f4:=g4;clear g4;have f5:=g5;clear g5;have f10:=g10;clear g10;have f11:=g11;clear g11;clear hfr hH;refine aM ?_;refine bZ [0,1,10] (l.length) (fun k fr M=>fr 11= .int .i64 (k:Nat)∧ ∃stk vok m,m≤n+1∧kH cx m (l.drop k) stk=some o∧eX cx W r w stk vok M∧dP r w vo vok HX M) ⟨f11,st,vo,n+1,aY _,h,(by rw[hM];exact hR),(by rw[hM,hHX];exact dP.refl _ _ _ _)⟩ ?_;rintro k F2 M2 hk0 ⟨fx,⟨stk,vok,m,hmn,hLk,hRk,hkp⟩⟩ agx K0 hK0;have f0:=(agx 0 rfl).trans f0;have f1:=(agx 1 rfl).trans f1;have f10:=(agx 10 rfl).trans f10;have f11:=fx;clear fx;have ag0:=bC.refl [0,1,10] F2;clear agx;clear h;refine aB fun _ y=>aA rfl ?_;simp only[f10,f11,RR,seval];apply y;clear y;refine aI ?_;refine aH _ rfl (fun hc=>?_) (fun hc=>?_)
 ·have hlt0:k<l.length:=by have:=aC hc;omega
  clear hc;have hg0:=aG hlt0;have hdk:l.drop k=l[k]::l.drop (k+1):=bD hlt0;generalize l[k]=a at hg0 hdk;have hg:=A3 hg0;rw[hdk]at hLk
  obtain⟨m',rfl⟩: ∃m',m=m'+1:=by
   cases m with
   |zero=>simp [kH]at hLk
   |succ m'=>exact⟨m',rfl⟩
  simp only[kH]at hLk
  obtain⟨r1,h1⟩: ∃r1,rG cx m' a stk=some r1:=by
   cases h1:rG cx m' a stk with
   |none=>rw[h1]at hLk;cases hLk
   |some r1=>exact⟨r1,rfl⟩
  rw[h1]at hLk;have hS:=ih.S i a stk vok _ r1 (hl.all _ (bN hg0)) (Em hw hg0).1 hRk (Tj (by omega) h1);refine aK ?_;try simp only[RR]
  refine aI ?_;refine aM ?_;refine aB fun _ y=>aA rfl ?_;simp only[f11,RR,seval];apply y;clear y;refine aB fun _ y=>aA rfl ?_;simp only[f0,f1,hg,RR,seval];refine eV hS (fun _=>trivial) ?_ ?_
  ·rintro e s vo1 H1 e1 hR1 hk1
   subst e1;obtain rfl:=Option.some.inj (show some (Rz.fin e s)=some o from hLk);simp only[cO,cX,cQ];have hkk:=hkp.trans hk1;rw[hHX]at hkk;exact⟨vo1,rfl,hR1,hkk⟩
  intro p s1 vo1 H1 e1 up hR1 hk1;subst e1;simp only[bindR]at hLk;have hkk:=hkp.trans hk1;simp only[kX,RR,seval];apply y;clear y;refine aB fun _ y=>aA rfl ?_;simp only[RR,seval];apply y;clear y;refine aH _ rfl (fun hc5=>?_) (fun hc5=>?_)
  ·obtain⟨x,rfl⟩:=Option.isSome_iff_exists.1 hc5
   obtain rfl:=Option.some.inj hLk;rw[hHX]at hkk;refine aB fun _ y=>aA rfl ?_;simp only[RR,seval];apply y;clear y;refine aO ?_;simp only[bB,aL,bH,RR,seval];exact aZ.run ⟨vo1,⟨rfl,up⟩,hR1,hkk⟩
  obtain rfl:p=none:=by cases p with |none=>rfl|some x=>cases hc5
  simp only at hLk;refine aK ?_;try simp only[RR]
  refine aA rfl ?_;simp only[f11,RR,seval]
  try rw[aQ _ (by omega)]
  refine hK0 _ _ hlt0 ⟨by first|rfl|(simp only[aJ,seval];rfl),s1,vo1,m',(by omega),hLk,hR1,hkk⟩ (by repeat (first|exact ag0|refine bC.upd rfl ?_))
 have hkn0:k=l.length:=by have:=aF hc;omega
 clear hc;rw[hkn0,List.drop_length]at hLk
 obtain rfl:o= .val none stk:=by
  cases m with
  |zero=>simp [kH]at hLk
  |succ m'=>
   simp only[kH,Option.some.injEq]at hLk;exact hLk.symm
 rw[hHX]at hkp;refine bF ?_;simp only[RR,seval];refine aB fun _ y=>aA rfl ?_;simp only[RR,seval];apply y;clear y;refine aO ?_;simp only[bB,aL,bH,RR,seval];exact aZ.run ⟨vok,⟨rfl,by simp [kY,dI]⟩,hRk,hkp⟩
set_option maxHeartbeats 2000000 in
theorem Jc (ih:Qh cx W r w n) (hx:Ay cx W) (i:Nat) (e:CS) (c:CE) (st:RS) (vo:AV) (H:Hp) (o:Rz (Option Int)) (he:e.ok) (hw:Mc (W:Int) cx.funs i e) (hc:e.es[0]?=some c) (hR:eX cx W r w st vo H) (h:rM cx (n+1) c e.thn st=some o):
  mM cK 98 [.ptr 7 r 0 0, .ipt e.row 0] H (lD cx W r w vo H kX kY o):=by
 obtain⟨HX,hHX⟩: ∃X,X=H:=⟨_,rfl⟩;have hg0:=lO hc;have hcok:=he.es.all _ (bN hc);have hthn:=he.thn
 obtain⟨hwc,hwt⟩:Qn (W:Int) cx.funs i c∧nU (W:Int) cx.funs i e.thn:=by
  obtain⟨k,a,z,l,t,u⟩:=e;simp only[Mc]at hw;obtain⟨_,_,_,_,wl,wt,_⟩:=hw;exact⟨(jK wl hc).1,wt⟩
 clear hw;rw[CS.row_eq];generalize e.kind=kk at *;generalize e.slot=pa at *;generalize e.size=pz at *;generalize e.es=es at *;generalize e.thn=thn at *;generalize e.els=els at *;refine bI 29 [.tmp 4, .tmp 5] Tryz.func98 rfl rfl rfl rfl ?_;refine aB fun _ y=>aA rfl ?_;simp only[RR,seval];apply y;clear y;refine bM fun F1 M1 hfr hH=>?_;have g0:=hfr 0;have g1:=hfr 1;have g4:=hfr 4;have g5:=hfr 5
 try simp only[RR,seval]at g0 g1 g4 g5
 have hM:=funext hH;have f0:=g0;clear g0;have f1:=g1;clear g1;have f4:=g4;clear g4;have f5:=g5;clear g5;clear hfr hH;refine aM ?_;refine Px [0,1] (n+1) (fun k fr M=> ∃stk vok,k≤n+1∧rM cx k c thn stk=some o∧eX cx W r w stk vok M∧dP r w vo vok HX M) ⟨st,vo,aY _,h,(by rw[hM];exact hR),(by rw[hM,hHX];exact dP.refl _ _ _ _)⟩ ?_;rintro k F2 M2 ⟨stk,vok,hmn,hLk,hRk,hkp⟩ agx K0 hK0;have f0:=(agx 0 rfl).trans f0;have f1:=(agx 1 rfl).trans f1;have ag0:=bC.refl [0,1] F2;clear agx;clear h
 obtain⟨m',rfl⟩: ∃m',k=m'+1:=by
  cases k with
  |zero=>simp [rM]at hLk
  |succ m'=>exact⟨m',rfl⟩
 simp only[rM]at hLk;have hT:=Eu hx hRk;generalize hTT:fN cx.cx stk=tt at hLk hT;refine aM ?_;refine aB fun _ y=>aA rfl ?_;simp only[f0,RR,seval];refine eV hT (fun _=>trivial) ?_ ?_
 ·rintro e s vo1 H1 e1 hR1 hk1
  subst e1;obtain rfl:=Option.some.inj (show some (Rz.fin e s)=some o from hLk);simp only[cO,cX,cQ];have hkk:=hkp.trans hk1;rw[hHX]at hkk;exact⟨vo1,rfl,hR1,hkk⟩
 intro _ s1 vo1 H1 e1 _ hR1 hk1;subst e1;simp only[bindR]at hLk
 obtain⟨r1,h1⟩: ∃r1,iX cx m' c s1=some r1:=by
  cases h1:iX cx m' c s1 with
  |none=>rw[h1]at hLk;cases hLk
  |some r1=>exact⟨r1,rfl⟩
 rw[h1]at hLk;have hE:=ih.V i c s1 vo1 H1 r1 hcok hwc hR1 (Gq (by omega) h1);simp only[RR,seval];apply y;clear y;refine aI ?_;refine aB fun _ y=>aA rfl ?_;simp only[f0,f1,hg0,RR,seval];refine eV hE (fun _=>trivial) ?_ ?_
 ·rintro e s vo2 H2 e1 hR2 hk2
  subst e1;obtain rfl:=Option.some.inj (show some (Rz.fin e s)=some o from hLk);simp only[cO,cX,cQ];have hkk:=hkp.trans (hk1.trans hk2);rw[hHX]at hkk;exact⟨vo2,rfl,hR2,hkk⟩
 intro x s2 vo2 H2 e1 ux hR2 hk2;subst e1;simp only[]at hLk;simp only[RR,seval];apply y;clear y;refine aH _ rfl (fun hc2=>?_) (fun hc2=>?_)
 ·rw[if_pos (aC hc2)]at hLk
  obtain rfl:=Option.some.inj hLk;have hkk:=hkp.trans (hk1.trans hk2);rw[hHX]at hkk;refine aB fun _ y=>aA rfl ?_;simp only[RR,seval];apply y;clear y;refine aO ?_;simp only[bB,aL,bH,RR,seval];exact aZ.run ⟨vo2,⟨rfl,by simp [kY,dI]⟩,hR2,hkk⟩
 rw[if_neg (aF hc2)]at hLk
 obtain⟨r2,h2⟩: ∃r2,kH cx m' thn s2=some r2:=by
  cases h2:kH cx m' thn s2 with
  |none=>rw[h2]at hLk;cases hLk
  |some r2=>exact⟨r2,rfl⟩
 rw[h2]at hLk;have hL:=ih.L i thn s2 vo2 H2 r2 hthn hwt hR2 (Gp (by omega) h2);refine aK ?_;try simp only[RR]
 refine aB fun _ y=>aA rfl ?_;simp only[f0,f1,RR,seval];refine eV hL (fun _=>trivial) ?_ ?_
 ·rintro e s vo3 H3 e1 hR3 hk3
  subst e1;obtain rfl:=Option.some.inj (show some (Rz.fin e s)=some o from hLk);simp only[cO,cX,cQ];have hkk:=(hkp.trans (hk1.trans hk2)).trans hk3;rw[hHX]at hkk;exact⟨vo3,rfl,hR3,hkk⟩
 intro p s3 vo3 H3 e1 up hR3 hk3;subst e1;simp only[]at hLk;have hkk:=(hkp.trans (hk1.trans hk2)).trans hk3;simp only[kX,RR,seval];apply y;clear y;refine aB fun _ y=>aA rfl ?_;simp only[RR,seval];apply y;clear y;refine aH _ rfl (fun hc5=>?_) (fun hc5=>?_)
 ·obtain⟨x,rfl⟩:=Option.isSome_iff_exists.1 hc5
  obtain rfl:=Option.some.inj hLk;rw[hHX]at hkk;refine aB fun _ y=>aA rfl ?_;simp only[RR,seval];apply y;clear y;refine aO ?_;simp only[bB,aL,bH,RR,seval];exact aZ.run ⟨vo3,⟨rfl,up⟩,hR3,hkk⟩
 obtain rfl:p=none:=by cases p with |none=>rfl|some x=>cases hc5
 simp only at hLk;refine aK ?_;try simp only[RR]
 refine hK0 (m') _ _ (by omega) ⟨s3,vo3,(by omega),hLk,hR3,hkk⟩ (by repeat (first|exact ag0|refine bC.upd rfl ?_))
end
end Go.Proofs.YtnfbbjhdflhmjaaGreatDoor
