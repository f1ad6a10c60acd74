/- Chapter 18, the judge's: an expression's value. Chapter 18, the judge's: a statement: what sets, stores, puts, calls, returns. Chapter 18, the judge's: a statement: what stores, puts; an if. -/
import Derived.Test.YtnfbbjhdflhmjaaGreatDoorMjc
import Derived.Test.YtnfbbjhdflhmjaaGreatDoorMi
import Derived.Test.YtnfbbjhdflhmjaaGreatDoorMjf
set_option linter.unusedSimpArgs false
set_option linter.unusedVariables false
set_option maxRecDepth 10000
namespace Go.Proofs.YtnfbbjhdflhmjaaGreatDoor
open Go.Al
section
variable {p : Pg} {cx : Cx} {r : Nat} {vv : AV} {abs : List Nat} {n : Nat}
set_option maxHeartbeats 4000000 in
theorem wV {en:Int} (ih:en=0→sS p cx r vv abs n) (hx:yP cx) (i:Nat) (rs:cR→Bool×Int) (ow:List Int) (e:Ex) (st:RS) (vo:AV) (H:Hp) (x:Nat) (wv:AV) (bk:Bool) (vl:Int) (o:Rz Int) (he:e.ok) (hU: ∀u∈jL e,UJ p i rs u) (z: ∀u∈dG e.kids,UJ p i rs u) (hR:dK p cx r vv abs st vo en H) (hW:eO vv abs vo wv ow H) (hu: ∀y∈ow,cC y) (hfx:H x=some (.rows 4 [[.int .i64 i,wv, .bool bk, .int .u32 vl]])) (h:oQ en st (gB cx (n+1) rs ow e st) o):
  gK cN 136 [.ptr 11 r 0 0, .ptr 4 x 0 0, .agg e.row] H (Ep p cx r vv abs vo H o):=by
 obtain⟨k,op,m,s,l⟩:=e;have hr:=hR.r;have hnum:=he.num;have hkids:=he.kids;simp only[Ex.num,Ex.kids]at hnum hkids z;have hrow:(Ex.mk k op m s l).row=[.int .i64 k, .int .i64 op, .int .u32 m, .str s, .isl 5 (l.map Ex.row)]:=Ex.row_eq _;rw[hrow];clear hrow;have nxr:x≠r:=fun e=>by rw[e,hr]at hfx;cases hfx
 have nrx:r≠x:=fun e=>nxr e.symm;rcases h with⟨rfl,h⟩|⟨hen,rfl⟩
 rotate_left
 ·have z0: ¬en=0:=hen
  refine bD 232 [.tmp 6] Tryz.func136 rfl rfl rfl rfl ?_;refine aB fun _ z=>aA rfl ?_;simp only[RR,seval];refine aO fun b5 hn5=>?_;have nb5_r:b5≠r:=fun e=>by rw[e]at hn5;simp only[hr,seval,reduceCtorEq]at hn5
  have nr_b5:r≠b5:=fun e=>nb5_r e.symm;simp only[RR,seval];apply z;clear z;refine aH ?_;refine aB fun _ z=>aA rfl ?_;simp only[hr,nr_b5,z0,RR,seval];apply z;clear z;refine aF true rfl (fun _=>?_) (fun hc=>by cases hc);refine aB fun _ z=>aA rfl ?_;simp only[RR,seval];apply z;clear z;refine aQ ?_;simp only[aX,aN,bI,RR,seval];exact aW.run ⟨0,vo,rfl,by simp [cC],(fun _ _ e=>by cases e),(fun _ _ e=>by cases e;exact hen),hR.new hn5 _,(cM.refl _ _ _ _ _).updN hn5 _⟩;skip
 have ih:=ih rfl;simp only[gB]at h;have kidok: ∀{j:Nat} {a:Ex},l[j]?=some a→a.ok:=fun hj=>hkids.all _ (aL hj);have hV:=fun(j:Nat) (a:Ex) (hj:l[j]?=some a) st vo en H o h3 h4 h5 h6=>ih.V i rs ow a st vo en H x wv bk vl o (kidok hj) (fun u hu=>z u ((dP (aL hj)).1 u hu)) (fun u hu=>z u ((dP (aL hj)).2 u hu)) h3 h4 hu h5 h6;have hpav:p.av= .agg [.isl 1 (p.vars.map bK), .isl 2 (p.arrs.map Ar.row), .isl 5 (p.funs.map Fu.row)]:=rfl;by_cases k1:k=1
 ·subst k1
  simp only[if_true]at h;cases h;refine bD 232 [.tmp 6] Tryz.func136 rfl rfl rfl rfl ?_;refine aB fun _ z=>aA rfl ?_;simp only[RR,seval];refine aO fun b5 hn5=>?_;have nb5_r:b5≠r:=fun e=>by rw[e]at hn5;simp only[hr,seval,reduceCtorEq]at hn5
  have nr_b5:r≠b5:=fun e=>nb5_r e.symm;simp only[RR,seval];apply z;clear z;refine aH ?_;refine aB fun _ z=>aA rfl ?_;simp only[hr,nr_b5,RR,seval];apply z;clear z;refine aF false rfl (fun hc=>by cases hc) (fun _=>?_);refine aM ?_;try simp only[RR]
  refine aH ?_;refine aB fun _ z=>aA rfl ?_;simp only[RR,seval];apply z;clear z;refine aI ?_;refine aB fun _ z=>aA rfl ?_;simp only[RR,seval];apply z;clear z;refine aF true rfl (fun _=>?_) (fun hc=>by cases hc);refine aB fun _ z=>aA rfl ?_;simp only[RR,seval];apply z;clear z;refine aQ ?_;simp only[aX,aN,bI,RR,seval];exact aW.run ⟨m,vo,rfl,hnum,(fun _ _ e=>by cases e;rfl),(fun _ _ e=>by cases e),hR.new hn5 _,(cM.refl _ _ _ _ _).updN hn5 _⟩;skip
 by_cases k2:k=2
 ·subst k2
  simp only[show ¬(2:Int)=1 by decide,if_false,if_true,uM]at h;have hu1:=hU ⟨s,1,0⟩ (by simp [jL,Ex.kind,Ex.name]);have hF:=hu1.f;rw[hpav]at hF;simp only at hF;have hk:=hu1.k1;generalize cK p i s=fi at hF hk;obtain⟨kk,ii⟩:=fi;simp only at hF hk;by_cases z0:0≤(rs s).2
  rotate_left
  ·rw[if_neg z0]at h;cases h
  rw[if_pos z0]at h;rcases hk with⟨rfl,hrs⟩|⟨rfl,hrs⟩
  ·rw[hrs]at h z0
   simp only[if_true,aV]at h z0;obtain⟨y,hg,rfl⟩:=h;obtain⟨bo,rfl,hbo⟩:=hW.osl hg;have hl:=(aZ.1 hg).1;have zl:ii<(ow.length:Int):=by omega
   have hgx:=fQ hg;have hux:=hu y (aL hg);have hx:=hfx;have nbo:bo≠r:=hR.nr hbo;have nbx:bo≠x:=fun e=>by rw[e,hfx]at hbo;cases hbo
   have nbo':r≠bo:=fun e=>nbo e.symm;have nbx':x≠bo:=fun e=>nbx e.symm;refine bD 232 [.tmp 6] Tryz.func136 rfl rfl rfl rfl ?_;refine aB fun _ z=>aA rfl ?_;simp only[RR,seval];refine aO fun b5 hn5=>?_;have nb5_r:b5≠r:=fun e=>by rw[e]at hn5;simp only[hr,seval,reduceCtorEq]at hn5
   have nr_b5:r≠b5:=fun e=>nb5_r e.symm;have nb5_x:b5≠x:=fun e=>by rw[e]at hn5;simp only[hx,seval,reduceCtorEq]at hn5
   have nx_b5:x≠b5:=fun e=>nb5_x e.symm;have nb5_bo:b5≠bo:=fun e=>by rw[e]at hn5;simp only[hbo,seval,reduceCtorEq]at hn5
   have nbo_b5:bo≠b5:=fun e=>nb5_bo e.symm;simp only[RR,seval];apply z;clear z;refine aH ?_;refine aB fun _ z=>aA rfl ?_;simp only[hr,nr_b5,RR,seval];apply z;clear z;refine aF false rfl (fun hc=>by cases hc) (fun _=>?_);refine aM ?_;try simp only[RR]
   refine aH ?_;refine aB fun _ z=>aA rfl ?_;simp only[RR,seval];apply z;clear z;refine aI ?_;refine aB fun _ z=>aA rfl ?_;simp only[RR,seval];apply z;clear z;refine aF false rfl (fun hc=>by cases hc) (fun _=>?_);refine aB fun _ z=>aA rfl ?_;simp only[RR,seval];apply z;clear z;refine aF true rfl (fun _=>?_) (fun hc=>by cases hc);refine aB fun K z=>?_;refine bB (fun x=>x≠r∧x≠x∧x≠bo∧x≠b5) [(0,3),(1,3),(2,3),(3,1),(4,3),(5,3),(6,3),(7,1),(8,3),(9,1),(10,1),(11,3),(12,3),(13,3),(14,3),(15,3)] [] cX (by kernel_rfl) rfl rfl ?_;simp only[cH,hr,hx,nr_b5,nx_b5,RR,seval];refine aU (hF) ?_;simp only[RR,seval];apply z;clear z;refine aH ?_;refine aB fun _ z=>aA rfl ?_;simp only[RR,seval];apply z;clear z;refine aF true rfl (fun _=>?_) (fun hc=>by cases hc);refine aB fun _ z=>aA rfl ?_;simp only[hx,hbo,nx_b5,nbo_b5,z0,zl,hgx,RR,seval];apply z;clear z;refine aQ ?_;simp only[aX,aN,bI,RR,seval];exact aW.run ⟨y,vo,rfl,hux,(fun _ _ e=>by cases e;rfl),(fun _ _ e=>by cases e),hR.new hn5 _,(cM.refl _ _ _ _ _).updN hn5 _⟩;skip
  rw[hrs]at h z0;simp only[Bool.false_eq_true,if_false,aV]at h z0;obtain⟨y,hg,rfl⟩:=h;obtain⟨bv,rfl,hbv⟩:=hR.osl hg;have hl:=(aZ.1 hg).1;have zl:ii<(st.vars.length:Int):=by omega
  have hgx:=fQ hg;have hux:=hR.uv y (aL hg);have hx:=hfx;have nbo:bv≠r:=hR.nr hbv;have nbx:bv≠x:=fun e=>by rw[e,hfx]at hbv;cases hbv
  have nbo':r≠bv:=fun e=>nbo e.symm;have nbx':x≠bv:=fun e=>nbx e.symm;refine bD 232 [.tmp 6] Tryz.func136 rfl rfl rfl rfl ?_;refine aB fun _ z=>aA rfl ?_;simp only[RR,seval];refine aO fun b5 hn5=>?_;have nb5_r:b5≠r:=fun e=>by rw[e]at hn5;simp only[hr,seval,reduceCtorEq]at hn5
  have nr_b5:r≠b5:=fun e=>nb5_r e.symm;have nb5_x:b5≠x:=fun e=>by rw[e]at hn5;simp only[hx,seval,reduceCtorEq]at hn5
  have nx_b5:x≠b5:=fun e=>nb5_x e.symm;have nb5_bv:b5≠bv:=fun e=>by rw[e]at hn5;simp only[hbv,seval,reduceCtorEq]at hn5
  have nbv_b5:bv≠b5:=fun e=>nb5_bv e.symm;simp only[RR,seval];apply z;clear z;refine aH ?_;refine aB fun _ z=>aA rfl ?_;simp only[hr,nr_b5,RR,seval];apply z;clear z;refine aF false rfl (fun hc=>by cases hc) (fun _=>?_);refine aM ?_;try simp only[RR]
  refine aH ?_;refine aB fun _ z=>aA rfl ?_;simp only[RR,seval];apply z;clear z;refine aI ?_;refine aB fun _ z=>aA rfl ?_;simp only[RR,seval];apply z;clear z;refine aF false rfl (fun hc=>by cases hc) (fun _=>?_);refine aB fun _ z=>aA rfl ?_;simp only[RR,seval];apply z;clear z;refine aF true rfl (fun _=>?_) (fun hc=>by cases hc);refine aB fun K z=>?_;refine bB (fun x=>x≠r∧x≠x∧x≠bv∧x≠b5) [(0,3),(1,3),(2,3),(3,1),(4,3),(5,3),(6,3),(7,1),(8,3),(9,1),(10,1),(11,3),(12,3),(13,3),(14,3),(15,3)] [] cX (by kernel_rfl) rfl rfl ?_;simp only[cH,hr,hx,nr_b5,nx_b5,RR,seval];refine aU (hF) ?_;simp only[RR,seval];apply z;clear z;refine aH ?_;refine aB fun _ z=>aA rfl ?_;simp only[RR,seval];apply z;clear z;refine aF false rfl (fun hc=>by cases hc) (fun _=>?_);refine aM ?_;try simp only[RR]
  refine aB fun _ z=>aA rfl ?_;simp only[hr,hbv,nr_b5,nbv_b5,z0,zl,hgx,RR,seval];apply z;clear z;refine aQ ?_;simp only[aX,aN,bI,RR,seval];exact aW.run ⟨y,vo,rfl,hux,(fun _ _ e=>by cases e;rfl),(fun _ _ e=>by cases e),hR.new hn5 _,(cM.refl _ _ _ _ _).updN hn5 _⟩;skip
 by_cases k3:k=3
 ·subst k3
  simp only[show ¬(3:Int)=1 by decide,show ¬(3:Int)=2 by decide,if_false,if_true]at h;have hu1:=hU ⟨s,3,0⟩ (by simp [jL,Ex.kind,Ex.name]);have hF:=hu1.f;rw[hpav]at hF;simp only at hF;have hk:=hu1.k3;generalize cK p i s=fi at hF hk;obtain⟨kk,ii⟩:=fi;simp only at hF hk;obtain⟨rfl,hrs⟩:=hk;rw[hrs]at h
  cases hl0:l[0]? with
  |none=>rw[hl0]at h;cases h
  |some a=>
   simp only[hl0]at h;have hg0:=nK hl0
   obtain⟨r1,h1⟩: ∃r1,gB cx n rs ow a st=some r1:=by
    cases h1:gB cx n rs ow a st with
    |none=>rw[h1]at h;cases h
    |some r1=>exact⟨r1,rfl⟩
   rw[h1]at h;have hVa:=fun H' g1 g2 g3=>hV 0 a hl0 st vo 0 H' r1 g1 g2 g3 (.inl ⟨rfl,h1⟩);rw[a.row_eq]at hVa;have hx:=hfx;obtain⟨HX,hHX⟩: ∃X,X=H:=⟨_,rfl⟩;refine bD 232 [.tmp 6] Tryz.func136 rfl rfl rfl rfl ?_;refine aB fun _ z=>aA rfl ?_;simp only[RR,seval];refine aO fun b5 hn5=>?_;have nb5_r:b5≠r:=fun e=>by rw[e]at hn5;simp only[hr,seval,reduceCtorEq]at hn5
   have nr_b5:r≠b5:=fun e=>nb5_r e.symm;have nb5_x:b5≠x:=fun e=>by rw[e]at hn5;simp only[hx,seval,reduceCtorEq]at hn5
   have nx_b5:x≠b5:=fun e=>nb5_x e.symm;simp only[RR,seval];apply z;clear z;refine aH ?_;refine aB fun _ z=>aA rfl ?_;simp only[hr,nr_b5,RR,seval];apply z;clear z;refine aF false rfl (fun hc=>by cases hc) (fun _=>?_);refine aM ?_;try simp only[RR]
   refine aH ?_;refine aB fun _ z=>aA rfl ?_;simp only[RR,seval];apply z;clear z;refine aI ?_;refine aB fun _ z=>aA rfl ?_;simp only[RR,seval];apply z;clear z;refine aF false rfl (fun hc=>by cases hc) (fun _=>?_);refine aB fun _ z=>aA rfl ?_;simp only[RR,seval];apply z;clear z;refine aF false rfl (fun hc=>by cases hc) (fun _=>?_);refine aB fun _ z=>aA rfl ?_;simp only[RR,seval];apply z;clear z;refine aF true rfl (fun _=>?_) (fun hc=>by cases hc);refine aB fun K z=>?_;refine bB (fun x=>x≠r∧x≠x∧x≠b5) [(0,3),(1,3),(2,3),(3,1),(4,3),(5,3),(6,3),(7,1),(8,3),(9,1),(10,1),(11,3),(12,3),(13,3),(14,3),(15,3)] [] cX (by kernel_rfl) rfl rfl ?_;simp only[cH,hr,hx,nr_b5,nx_b5,RR,seval];refine aU (hF) ?_;simp only[RR,seval];apply z;clear z;refine bL fun F1 M1 hfr hH=>?_;have g0:=hfr 0;have g1:=hfr 1;have g5:=hfr 5;have g6:=hfr 6;have g10:=hfr 10;have gr:=hH r;have gx:=hH x;have gb5:=hH b5
   try simp only[hr,hx,nr_b5,nx_b5,RR,seval]at g0 g1 g5 g6 g10 gr gx gb5
   have hM:=funext hH;have hR0:=(hR.new hn5 _).same hH;have hW0:=(hW.new hn5 _).same hH;have hk0:cM r vv abs vo vo H M1:=by rw[hM];exact(cM.refl _ _ _ _ _).updN hn5 _
   have f0:=g0;clear g0;have f1:=g1;clear g1;have f5:=g5;clear g5;have f6:=g6;clear g6;have f10:=g10;clear g10;have hr:=gr;clear gr;have hx:=gx;clear gx;have hb5:=gb5;clear gb5;clear hfr hH;refine aB fun _ z=>aA rfl ?_;simp only[f0,f1,f5,hb5,hg0,RR,seval];refine gV (hVa _ hR0 hW0 hx) (fun _=>trivial) fun w vo1 H1 uw hwv hne hR1 hk1=>?_;have hr:=hR1.r;have hx:=hR0.keep hx (by decide) (by decide) hk1;have hk01:=hk0.trans hk1;simp only[RR,seval];apply z;clear z;refine aH ?_;refine aB fun _ z=>aA rfl ?_;simp only[f0,hr,RR,seval];apply z;clear z;refine aF _ rfl (fun hc14=>?_) (fun hc14=>?_)
   ·obtain⟨e1,s1,rfl⟩:=mJ (o:=r1) (by simpa using hc14)
    obtain rfl:=Option.some.inj (show some (Rz.fin e1 s1)=some o from h);refine aB fun _ z=>aA rfl ?_;simp only[RR,seval];apply z;clear z;refine aQ ?_;simp only[aX,aN,bI,RR,seval];exact aW.run ⟨0,vo1,rfl,by simp [cC],(fun _ _ e=>by cases e),hne,hR1,hk01⟩
   obtain⟨x1,s1,rfl⟩:=mH (o:=r1) hne (by simpa using hc14);obtain rfl:=hwv _ _ rfl;simp only[bindR]at h;by_cases z0:0≤ii
   rotate_left
   ·rw[if_neg z0]at h;cases h
   rw[if_pos z0]at h;obtain⟨ia,rfl⟩:=Int.eq_ofNat_of_zero_le z0;simp only[Int.toNat_natCast,Oe]at h
   obtain⟨la,hla⟩: ∃la,s1.arrs[ia]?=some la:=by
    cases hla:s1.arrs[ia]? with
    |none=>rw[hla]at h;cases h
    |some la=>exact⟨la,rfl⟩
   rw[hla]at h;simp only at h;have hl:ia<abs.length:=by rw[hR1.al];exact(aZ.1 hla).1
   have hb:=aG hl;generalize abs[ia]=ba at hb;have hgar:=mK abs s1.arrs ia ba la hb hla;have hba:=hR1.a ia ba la hb hla;have hlen:=(hR1.ua la (aL hla)).1;obtain⟨m1,rfl⟩:=Int.eq_ofNat_of_zero_le uw.1;have hx2:=uw.2;have e1:IntKind.wrap .u64 (m1:Int)=(m1:Int):=by simp [IntKind.wrap,IntKind.signed,IntKind.bits];omega
   have e2:IntKind.wrap .u64 (la.length:Int)=(la.length:Int):=by simp [IntKind.wrap,IntKind.signed,IntKind.bits];omega
   rw[Int.toNat_natCast]at h;have hr:H1 r=_:=hR1.r;have hst1:(Rz.val (m1:Int) s1).st=s1:=rfl;have hen1:gZ (Rz.val (m1:Int) s1)=0:=rfl;rw[hst1,hen1]at hr;have nba:ba≠r:=hR1.nr hba;have nba':r≠ba:=fun e=>nba e.symm;refine aM ?_;try simp only[RR]
   refine aH ?_;refine aB fun _ z=>aA rfl ?_;simp only[f0,f10,hr,hgar,e1,e2,RR,seval];apply z;clear z;refine aF _ rfl (fun hc16=>?_) (fun hc16=>?_)
   ·have hf: ¬m1<la.length:=by have:=aC hc16;omega
    rw[if_neg hf]at h;cases h;refine aB fun _ z=>aA rfl ?_;simp only[f0,hr,RR,seval];apply z;clear z;refine aB fun _ z=>aA rfl ?_;simp only[RR,seval];apply z;clear z;refine aQ ?_;simp only[aX,aN,bI,RR,seval];exact aW.run ⟨0,vo1,rfl,by simp [cC],(fun _ _ e=>by cases e),(fun _ _ e=>by cases e;decide),dK.turn hR1 3 rfl rfl rfl hR1.rd hR1.tk,hk01.trans (cM.run _)⟩
   have hf:m1<la.length:=by have:=aE hc16;omega
   have zf:(m1:Int)<(la.length:Int):=by omega
   rw[if_pos hf]at h;simp only[hla,Option.bind_some,aV]at h;obtain⟨y,hy,rfl⟩:=h;have hgy:=fQ hy;have uy:=(hR1.ua la (aL hla)).2 y (aL hy);refine aM ?_;try simp only[RR]
   refine aB fun _ z=>aA rfl ?_;simp only[f0,f10,hr,hba,hgar,hgy,zf,RR,seval];apply z;clear z;refine aQ ?_;simp only[aX,aN,bI,RR,seval];exact aW.run ⟨y,vo1,rfl,uy,(fun _ _ e=>by cases e;rfl),(fun _ _ e=>by cases e),hR1,hk01⟩
 by_cases k4:k=4
 ·subst k4
  simp only[show ¬(4:Int)=1 by decide,show ¬(4:Int)=2 by decide,show ¬(4:Int)=3 by decide,if_false,if_true]at h;have hu1:=hU ⟨s,4,l.length⟩ (by simp [jL,Ex.kind,Ex.name,Ex.kids]);have hx:=hfx;have hC:=fun H' g1 g2 g3=>ih.C i rs ow s l st vo H' x wv bk vl o hkids hu1 z g1 g2 hu g3 h;obtain⟨HX,hHX⟩: ∃X,X=H:=⟨_,rfl⟩;refine bD 232 [.tmp 6] Tryz.func136 rfl rfl rfl rfl ?_;refine aB fun _ z=>aA rfl ?_;simp only[RR,seval];refine aO fun b5 hn5=>?_;have nb5_r:b5≠r:=fun e=>by rw[e]at hn5;simp only[hr,seval,reduceCtorEq]at hn5
  have nr_b5:r≠b5:=fun e=>nb5_r e.symm;have nb5_x:b5≠x:=fun e=>by rw[e]at hn5;simp only[hx,seval,reduceCtorEq]at hn5
  have nx_b5:x≠b5:=fun e=>nb5_x e.symm;simp only[RR,seval];apply z;clear z;refine aH ?_;refine aB fun _ z=>aA rfl ?_;simp only[hr,nr_b5,RR,seval];apply z;clear z;refine aF false rfl (fun hc=>by cases hc) (fun _=>?_);refine aM ?_;try simp only[RR]
  refine aH ?_;refine aB fun _ z=>aA rfl ?_;simp only[RR,seval];apply z;clear z;refine aI ?_;refine aB fun _ z=>aA rfl ?_;simp only[RR,seval];apply z;clear z;refine aF false rfl (fun hc=>by cases hc) (fun _=>?_);refine aB fun _ z=>aA rfl ?_;simp only[RR,seval];apply z;clear z;refine aF false rfl (fun hc=>by cases hc) (fun _=>?_);refine aB fun _ z=>aA rfl ?_;simp only[RR,seval];apply z;clear z;refine aF false rfl (fun hc=>by cases hc) (fun _=>?_);refine aB fun _ z=>aA rfl ?_;simp only[RR,seval];apply z;clear z;refine aF true rfl (fun _=>?_) (fun hc=>by cases hc);refine bL fun F1 M1 hfr hH=>?_;have g0:=hfr 0;have g1:=hfr 1;have g5:=hfr 5;have g6:=hfr 6;have gr:=hH r;have gx:=hH x;have gb5:=hH b5
  try simp only[hr,hx,nr_b5,nx_b5,RR,seval]at g0 g1 g5 g6 gr gx gb5
  have hM:=funext hH;have hR0:=(hR.new hn5 _).same hH;have hW0:=(hW.new hn5 _).same hH;have hk0:cM r vv abs vo vo H M1:=by rw[hM];exact(cM.refl _ _ _ _ _).updN hn5 _
  have f0:=g0;clear g0;have f1:=g1;clear g1;have f5:=g5;clear g5;have f6:=g6;clear g6;have hr:=gr;clear gr;have hx:=gx;clear gx;have hb5:=gb5;clear gb5;clear hfr hH;refine aB fun _ z=>aA rfl ?_;simp only[f0,f1,f5,hb5,RR,seval];refine gV (hC _ hR0 hW0 hx) (fun _=>trivial) fun w vo1 H1 uw hwv hne hR1 hk1=>?_;simp only[RR,seval];apply z;clear z;refine aQ ?_;simp only[aX,aN,bI,RR,seval];exact aW.run ⟨w,vo1,rfl,uw,hwv,hne,hR1,hk0.trans hk1⟩;skip
 by_cases k5:k=5
 ·subst k5
  simp only[show ¬(5:Int)=1 by decide,show ¬(5:Int)=2 by decide,show ¬(5:Int)=3 by decide,show ¬(5:Int)=4 by decide,if_false,if_true,Option.some.injEq]at h;have hrd:=hR.rd;have hin:=hx.inp;by_cases hf:cx.inp.length≤st.read
  ·have zf:(cx.inp.length:Int)≤(st.read:Int):=by omega
   have e:lW cx st= .val 256 st:=by unfold lW;rw[List.getElem?_eq_none hf]
   rw[e]at h;subst h;refine bD 232 [.tmp 6] Tryz.func136 rfl rfl rfl rfl ?_;refine aB fun _ z=>aA rfl ?_;simp only[RR,seval];refine aO fun b5 hn5=>?_;have nb5_r:b5≠r:=fun e=>by rw[e]at hn5;simp only[hr,seval,reduceCtorEq]at hn5
   have nr_b5:r≠b5:=fun e=>nb5_r e.symm;simp only[RR,seval];apply z;clear z;refine aH ?_;refine aB fun _ z=>aA rfl ?_;simp only[hr,nr_b5,RR,seval];apply z;clear z;refine aF false rfl (fun hc=>by cases hc) (fun _=>?_);refine aM ?_;try simp only[RR]
   refine aH ?_;refine aB fun _ z=>aA rfl ?_;simp only[RR,seval];apply z;clear z;refine aI ?_;refine aB fun _ z=>aA rfl ?_;simp only[RR,seval];apply z;clear z;refine aF false rfl (fun hc=>by cases hc) (fun _=>?_);refine aB fun _ z=>aA rfl ?_;simp only[RR,seval];apply z;clear z;refine aF false rfl (fun hc=>by cases hc) (fun _=>?_);refine aB fun _ z=>aA rfl ?_;simp only[RR,seval];apply z;clear z;refine aF false rfl (fun hc=>by cases hc) (fun _=>?_);refine aB fun _ z=>aA rfl ?_;simp only[RR,seval];apply z;clear z;refine aF false rfl (fun hc=>by cases hc) (fun _=>?_);refine aB fun _ z=>aA rfl ?_;simp only[RR,seval];apply z;clear z;refine aF true rfl (fun _=>?_) (fun hc=>by cases hc);refine aH ?_;refine aB fun K z=>?_;refine bB (fun x=>x≠r∧x≠b5) [(0,3),(1,3),(2,3),(3,1),(4,3),(5,3),(6,3),(7,1),(8,3),(9,3)] [] cX (by kernel_rfl) rfl rfl ?_;simp only[cH,hr,nr_b5,zf,RR,seval];apply z;clear z;refine aF true rfl (fun _=>?_) (fun hc=>by cases hc);refine aB fun _ z=>aA rfl ?_;simp only[RR,seval];apply z;clear z;refine aQ ?_;simp only[aX,aN,bI,RR,seval];exact aW.run ⟨256,vo,rfl,by simp [cC],(fun _ _ e=>by cases e;rfl),(fun _ _ e=>by cases e),hR.new hn5 _,(cM.refl _ _ _ _ _).updN hn5 _⟩;skip
  have zf: ¬(cx.inp.length:Int)≤(st.read:Int):=by omega
  have hg:=aG (show st.read<cx.inp.length by omega);generalize cx.inp[st.read]=c at hg;have e:lW cx st= .val c.toNat {st with read:=st.read+1}:=by unfold lW;rw[hg]
  rw[e]at h;subst h;have e1:IntKind.wrap .i64 ((st.read:Int)+1)=((st.read+1:Nat):Int):=by rw[aR _ (by omega)];omega
  have e3:IntKind.wrap .i64 (((st.read+1:Nat):Int)- 1)=(st.read:Int):=by rw[aR _ (by omega)];omega
  have hc:=UInt8.toNat_lt c;have hu2:cC (c.toNat:Int):=⟨by omega,by omega⟩;have e2:IntKind.wrap .u32 (c.toNat:Int)=(c.toNat:Int):=by simp [IntKind.wrap,IntKind.signed,IntKind.bits];omega
  refine bD 232 [.tmp 6] Tryz.func136 rfl rfl rfl rfl ?_;refine aB fun _ z=>aA rfl ?_;simp only[RR,seval];refine aO fun b5 hn5=>?_;have nb5_r:b5≠r:=fun e=>by rw[e]at hn5;simp only[hr,seval,reduceCtorEq]at hn5
  have nr_b5:r≠b5:=fun e=>nb5_r e.symm;simp only[RR,seval];apply z;clear z;refine aH ?_;refine aB fun _ z=>aA rfl ?_;simp only[hr,nr_b5,RR,seval];apply z;clear z;refine aF false rfl (fun hc=>by cases hc) (fun _=>?_);refine aM ?_;try simp only[RR]
  refine aH ?_;refine aB fun _ z=>aA rfl ?_;simp only[RR,seval];apply z;clear z;refine aI ?_;refine aB fun _ z=>aA rfl ?_;simp only[RR,seval];apply z;clear z;refine aF false rfl (fun hc=>by cases hc) (fun _=>?_);refine aB fun _ z=>aA rfl ?_;simp only[RR,seval];apply z;clear z;refine aF false rfl (fun hc=>by cases hc) (fun _=>?_);refine aB fun _ z=>aA rfl ?_;simp only[RR,seval];apply z;clear z;refine aF false rfl (fun hc=>by cases hc) (fun _=>?_);refine aB fun _ z=>aA rfl ?_;simp only[RR,seval];apply z;clear z;refine aF false rfl (fun hc=>by cases hc) (fun _=>?_);refine aB fun _ z=>aA rfl ?_;simp only[RR,seval];apply z;clear z;refine aF true rfl (fun _=>?_) (fun hc=>by cases hc);refine aH ?_;refine aB fun K z=>?_;refine bB (fun x=>x≠r∧x≠b5) [(0,3),(1,3),(2,3),(3,1),(4,3),(5,3),(6,3),(7,1),(8,3),(9,3)] [] cX (by kernel_rfl) rfl rfl ?_;simp only[cH,hr,nr_b5,zf,RR,seval];apply z;clear z;refine aF false rfl (fun hc=>by cases hc) (fun _=>?_);refine aM ?_;try simp only[RR]
  refine aB fun _ z=>aA rfl ?_;simp only[hr,nr_b5,e1,RR,seval];apply z;clear z;refine aB fun K z=>?_;refine bB (fun x=>x≠r∧x≠b5) [(0,3),(1,3),(2,3),(3,1),(4,3),(5,3),(6,3),(7,1),(8,3),(9,3),(10,3),(11,3)] [] cX (by kernel_rfl) rfl rfl ?_;simp only[cH,hg,e2,e3,RR,seval];apply z;clear z;refine aQ ?_;simp only[aX,aN,bI,RR,seval];exact aW.run ⟨_,vo,rfl,hu2,(fun _ _ e=>by cases e;rfl),(fun _ _ e=>by cases e),dK.turn (st':={st with read:=st.read+1}) (hR.new hn5 _) 0 rfl rfl rfl (by show st.read+1≤_;omega) hR.tk,((cM.refl _ _ _ _ _).updN hn5 _).trans (cM.run _)⟩;skip
 simp only[if_neg k1,if_neg k2,if_neg k3,if_neg k4,if_neg k5]at h
 cases hl0:l[0]? with
 |none=>rw[hl0]at h;cases h
 |some a=>
  simp only[hl0]at h;have hg0:=nK hl0;have hx:=hfx
  obtain⟨r1,h1⟩: ∃r1,gB cx n rs ow a st=some r1:=by
   cases h1:gB cx n rs ow a st with
   |none=>
    rw[h1]at h;by_cases k7:k=7
    ·rw[if_pos k7]at h;cases h
    rw[if_neg k7]at h
    cases hl1:l[1]? with
    |none=>rw[hl1]at h;cases h
    |some b=>
     simp only[hl1]at h;by_cases k6:k=6
     ·rw[if_pos k6]at h;cases h
     rw[if_neg k6]at h;cases h
   |some r1=>exact⟨r1,rfl⟩
  rw[h1]at h;have hVa:=fun H' g1 g2 g3=>hV 0 a hl0 st vo 0 H' r1 g1 g2 g3 (.inl ⟨rfl,h1⟩);rw[a.row_eq]at hVa;obtain⟨HX,hHX⟩: ∃X,X=H:=⟨_,rfl⟩;by_cases k7:k=7
  ·subst k7
   simp only[if_true]at h;refine bD 232 [.tmp 6] Tryz.func136 rfl rfl rfl rfl ?_;refine aB fun _ z=>aA rfl ?_;simp only[RR,seval];refine aO fun b5 hn5=>?_;have nb5_r:b5≠r:=fun e=>by rw[e]at hn5;simp only[hr,seval,reduceCtorEq]at hn5
   have nr_b5:r≠b5:=fun e=>nb5_r e.symm;have nb5_x:b5≠x:=fun e=>by rw[e]at hn5;simp only[hx,seval,reduceCtorEq]at hn5
   have nx_b5:x≠b5:=fun e=>nb5_x e.symm;simp only[RR,seval];apply z;clear z;refine aH ?_;refine aB fun _ z=>aA rfl ?_;simp only[hr,nr_b5,RR,seval];apply z;clear z;refine aF false rfl (fun hc=>by cases hc) (fun _=>?_);refine aM ?_;try simp only[RR]
   refine aH ?_;refine aB fun _ z=>aA rfl ?_;simp only[RR,seval];apply z;clear z;refine aI ?_;refine aB fun _ z=>aA rfl ?_;simp only[RR,seval];apply z;clear z;refine aF false rfl (fun hc=>by cases hc) (fun _=>?_);refine aB fun _ z=>aA rfl ?_;simp only[RR,seval];apply z;clear z;refine aF false rfl (fun hc=>by cases hc) (fun _=>?_);refine aB fun _ z=>aA rfl ?_;simp only[RR,seval];apply z;clear z;refine aF false rfl (fun hc=>by cases hc) (fun _=>?_);refine aB fun _ z=>aA rfl ?_;simp only[RR,seval];apply z;clear z;refine aF false rfl (fun hc=>by cases hc) (fun _=>?_);refine aB fun _ z=>aA rfl ?_;simp only[RR,seval];apply z;clear z;refine aF false rfl (fun hc=>by cases hc) (fun _=>?_);refine aB fun _ z=>aA rfl ?_;simp only[RR,seval];apply z;clear z;refine aF false rfl (fun hc=>by cases hc) (fun _=>?_);refine aB fun _ z=>aA rfl ?_;simp only[RR,seval];apply z;clear z;refine aF true rfl (fun _=>?_) (fun hc=>by cases hc);refine bL fun F1 M1 hfr hH=>?_;have g0:=hfr 0;have g1:=hfr 1;have g5:=hfr 5;have g6:=hfr 6;have gr:=hH r;have gx:=hH x;have gb5:=hH b5
   try simp only[hr,hx,nr_b5,nx_b5,RR,seval]at g0 g1 g5 g6 gr gx gb5
   have hM:=funext hH;have hR0:=(hR.new hn5 _).same hH;have hW0:=(hW.new hn5 _).same hH;have hk0:cM r vv abs vo vo H M1:=by rw[hM];exact(cM.refl _ _ _ _ _).updN hn5 _
   have f0:=g0;clear g0;have f1:=g1;clear g1;have f5:=g5;clear g5;have f6:=g6;clear g6;have hr:=gr;clear gr;have hx:=gx;clear gx;have hb5:=gb5;clear gb5;clear hfr hH;refine aB fun _ z=>aA rfl ?_;simp only[f0,f1,f5,hb5,hg0,RR,seval];refine gV (hVa _ hR0 hW0 hx) (fun _=>trivial) fun w vo1 H1 uw hwv hne hR1 hk1=>?_;simp only[RR,seval];refine aU (If _) ?_;simp only[RR,seval];apply z;clear z
   have hend: ∃w',(if decide (w=0)=true then(1:Int)else 0)=w'∧cC w'∧(∀v s,o= .val v s→w'=v)∧(∀e s,o= .fin e s→e≠0)∧gZ o=gZ r1∧o.st=r1.st:=by
    refine⟨_,rfl,by split<;>simp [cC], ?_⟩
    cases r1 with
    |fin e1 s1=>
     obtain rfl:=Option.some.inj (show some (Rz.fin e1 s1)=some o from h);exact⟨(fun _ _ e=>by cases e),hne,rfl,rfl⟩
    |val x1 s1=>
     obtain rfl:=hwv _ _ rfl;obtain rfl:=Option.some.inj (show some (Rz.val (if w=0 then(1:Int)else 0) s1)=some o from h);exact⟨(fun v s e=>by cases e;simp),(fun _ _ e=>by cases e),rfl,rfl⟩
   obtain⟨w',hw',uw',g1,g2,g3,g4⟩:=hend;rw[←g3,←g4]at hR1;refine aQ ?_;simp only[aX,aN,bI,RR,seval];exact aW.run ⟨_,vo1,by rw[hw'],uw',g1,g2,hR1,hk0.trans hk1⟩;skip
  rw[if_neg k7]at h
  cases hl1:l[1]? with
  |none=>rw[hl1]at h;cases h
  |some b=>
   simp only[hl1]at h;have hg1:=nK hl1;have hVb:=fun vo' en' st' H' r2 g1 g2 g3 g4=>hV 1 b hl1 st' vo' en' H' r2 g1 g2 g3 g4;rw[b.row_eq]at hVb;by_cases k6:k=6
   ·subst k6
    simp only[if_true]at h;refine bD 232 [.tmp 6] Tryz.func136 rfl rfl rfl rfl ?_;refine aB fun _ z=>aA rfl ?_;simp only[RR,seval];refine aO fun b5 hn5=>?_;have nb5_r:b5≠r:=fun e=>by rw[e]at hn5;simp only[hr,seval,reduceCtorEq]at hn5
    have nr_b5:r≠b5:=fun e=>nb5_r e.symm;have nb5_x:b5≠x:=fun e=>by rw[e]at hn5;simp only[hx,seval,reduceCtorEq]at hn5
    have nx_b5:x≠b5:=fun e=>nb5_x e.symm;simp only[RR,seval];apply z;clear z;refine aH ?_;refine aB fun _ z=>aA rfl ?_;simp only[hr,nr_b5,RR,seval];apply z;clear z;refine aF false rfl (fun hc=>by cases hc) (fun _=>?_);refine aM ?_;try simp only[RR]
    refine aH ?_;refine aB fun _ z=>aA rfl ?_;simp only[RR,seval];apply z;clear z;refine aI ?_;refine aB fun _ z=>aA rfl ?_;simp only[RR,seval];apply z;clear z;refine aF false rfl (fun hc=>by cases hc) (fun _=>?_);refine aB fun _ z=>aA rfl ?_;simp only[RR,seval];apply z;clear z;refine aF false rfl (fun hc=>by cases hc) (fun _=>?_);refine aB fun _ z=>aA rfl ?_;simp only[RR,seval];apply z;clear z;refine aF false rfl (fun hc=>by cases hc) (fun _=>?_);refine aB fun _ z=>aA rfl ?_;simp only[RR,seval];apply z;clear z;refine aF false rfl (fun hc=>by cases hc) (fun _=>?_);refine aB fun _ z=>aA rfl ?_;simp only[RR,seval];apply z;clear z;refine aF false rfl (fun hc=>by cases hc) (fun _=>?_);refine aB fun _ z=>aA rfl ?_;simp only[RR,seval];apply z;clear z;refine aF true rfl (fun _=>?_) (fun hc=>by cases hc);refine bL fun F1 M1 hfr hH=>?_;have g0:=hfr 0;have g1:=hfr 1;have g5:=hfr 5;have g6:=hfr 6;have gr:=hH r;have gx:=hH x;have gb5:=hH b5
    try simp only[hr,hx,nr_b5,nx_b5,RR,seval]at g0 g1 g5 g6 gr gx gb5
    have hM:=funext hH;have hR0:=(hR.new hn5 _).same hH;have hW0:=(hW.new hn5 _).same hH;have hk0:cM r vv abs vo vo H M1:=by rw[hM];exact(cM.refl _ _ _ _ _).updN hn5 _
    have f0:=g0;clear g0;have f1:=g1;clear g1;have f5:=g5;clear g5;have f6:=g6;clear g6;have hr:=gr;clear gr;have hx:=gx;clear gx;have hb5:=gb5;clear gb5;clear hfr hH;refine aB fun _ z=>aA rfl ?_;simp only[f0,f1,f5,hb5,hg0,RR,seval];refine gV (hVa _ hR0 hW0 hx) (fun _=>trivial) fun w1 vo1 H1 uw1 hwv1 hne1 hR1 hk1=>?_;obtain⟨r2,hc2,hcases⟩:=Xt hne1 h;have hr:=hR1.r;have hx:=hR0.keep hx (by decide) (by decide) hk1;have hb5:=hR0.keep hb5 (by decide) (by decide) hk1;have hW1:=hW0.keep hR0 hk1;simp only[RR,seval];apply z;clear z;refine aB fun _ z=>aA rfl ?_;simp only[f0,f1,f5,hb5,hg1,RR,seval];refine gV (hVb _ _ _ _ _ hR1 hW1 hx hc2) (fun _=>trivial) fun w2 vo2 H2 uw2 hwv2 hne2 hR2 hk2=>?_;have hr:=hR2.r;have hb5:=hR1.keep hb5 (by decide) (by decide) hk2;have hk02:=(hk0.trans hk1).trans hk2;simp only[RR,seval];apply z;clear z;refine aH ?_;refine aB fun _ z=>aA rfl ?_;simp only[f0,hr,RR,seval];apply z;clear z;refine aF _ rfl (fun hc30=>?_) (fun hc30=>?_)
    ·obtain⟨e1,s1,hr2⟩:=mJ (o:=r2) (by simpa using hc30)
     have ho:o=r2:=by
      rcases hcases with⟨x1,s1',_,_,h4⟩|⟨e2,s2,_,h3,h4⟩
      ·rw[hr2]at h4⊢
       exact(Option.some.inj (show some (Rz.fin e1 s1)=some o from h4)).symm
      rw[h3,h4]
     subst ho;refine aB fun _ z=>aA rfl ?_;simp only[RR,seval];apply z;clear z;refine aQ ?_;simp only[aX,aN,bI,RR,seval];exact aW.run ⟨0,vo2,rfl,by simp [cC],(fun _ _ e=>by rw[hr2]at e;cases e),hne2,hR2,hk02⟩
    obtain⟨x2,s2,rfl⟩:=mH (o:=r2) hne2 (by simpa using hc30);obtain rfl:=hwv2 _ _ rfl
    obtain⟨x1,s1,rfl,h2,h3⟩: ∃x s1,r1= .val x s1∧gB cx n rs ow b s1=some (.val w2 s2)∧bindR (some (.val w2 s2)) (fun y st=>if(cU op x y).2=0 then some (Rz.val (cU op x y).1 st)else some (.fin 2 st))=some o:=by
     rcases hcases with⟨x1,s1,q1,q2,q3⟩|⟨e2,s3,_,q3,_⟩
     ·exact⟨x1,s1,q1,q2,q3⟩
     cases q3
    obtain rfl:=hwv1 _ _ rfl;simp only[bindR]at h3;have hA:=Ka op uw1 uw2;have uA:=sM op uw1 uw2;generalize cU op w1 w2=q at hA uA h3;obtain⟨q1,q2⟩:=q;have hr:H2 r=_:=hR2.r;have hst1:(Rz.val w2 s2).st=s2:=rfl;have hen1:gZ (Rz.val w2 s2)=0:=rfl;rw[hst1,hen1]at hr;refine aM ?_;try simp only[RR]
    refine aB fun _ z=>aA rfl ?_;simp only[f5,hb5,RR,seval];refine aU (hA) ?_;simp only[RR,seval];apply z;clear z;refine aH ?_;refine aB fun _ z=>aA rfl ?_;simp only[RR,seval];apply z;clear z;refine aF _ rfl (fun hc33=>?_) (fun hc33=>?_)
    ·rw[if_neg (show ¬q2=0 by simpa using hc33)]at h3
     cases h3;have hfin:=And.intro (dK.turn hR2 2 rfl rfl rfl hR2.rd hR2.tk) (hk02.trans (cM.run (some (.rows 11 [[.isl 1 (p.vars.map bK), .isl 2 (p.arrs.map Ar.row), .isl 5 (p.funs.map Fu.row), .str cx.inp, .int .i64 cx.fuel,vv, .isl 1 (dL abs s2.arrs),vo2, .int .i64 s2.read, .int .i64 s2.ticks, .int .i64 2]]))));have hfv:(∀v s,(Rz.fin 2 s2:Rz Int)= .val v s→q1=v)∧ ∀e s,(Rz.fin 2 s2:Rz Int)= .fin e s→e≠0:=⟨(fun _ _ e=>by cases e),fun _ _ e=>by cases e;decide⟩;refine aA rfl ?_;simp only[f0,hr,RR,seval];refine aB fun _ z=>aA rfl ?_;simp only[RR,seval];apply z;clear z;refine aQ ?_;simp only[aX,aN,bI,RR,seval];exact aW.run ⟨q1,vo2,rfl,uA,hfv.1,hfv.2,hfin.1,hfin.2⟩
    rw[if_pos (show q2=0 by simpa using hc33)]at h3;cases h3;have hfin:=And.intro hR2 hk02;have hfv:(∀v s,(Rz.val q1 s2:Rz Int)= .val v s→q1=v)∧ ∀e s,(Rz.val q1 s2:Rz Int)= .fin e s→e≠0:=⟨(fun _ _ e=>by cases e;rfl),fun _ _ e=>by cases e⟩;refine aM ?_;try simp only[RR]
    refine aB fun _ z=>aA rfl ?_;simp only[RR,seval];apply z;clear z;refine aQ ?_;simp only[aX,aN,bI,RR,seval];exact aW.run ⟨q1,vo2,rfl,uA,hfv.1,hfv.2,hfin.1,hfin.2⟩
   rw[if_neg k6]at h;by_cases k8:k=8
   ·subst k8
    have k8:decide ((8:Int)=8)=true:=rfl;refine bD 232 [.tmp 6] Tryz.func136 rfl rfl rfl rfl ?_;refine aB fun _ z=>aA rfl ?_;simp only[RR,seval];refine aO fun b5 hn5=>?_;have nb5_r:b5≠r:=fun e=>by rw[e]at hn5;simp only[hr,seval,reduceCtorEq]at hn5
    have nr_b5:r≠b5:=fun e=>nb5_r e.symm;have nb5_x:b5≠x:=fun e=>by rw[e]at hn5;simp only[hx,seval,reduceCtorEq]at hn5
    have nx_b5:x≠b5:=fun e=>nb5_x e.symm;simp only[RR,seval];apply z;clear z;refine aH ?_;refine aB fun _ z=>aA rfl ?_;simp only[hr,nr_b5,RR,seval];apply z;clear z;refine aF false rfl (fun hc=>by cases hc) (fun _=>?_);refine aM ?_;try simp only[RR]
    refine aH ?_;refine aB fun _ z=>aA rfl ?_;simp only[RR,seval];apply z;clear z;refine aI ?_;refine aB fun _ z=>aA rfl ?_;simp only[RR,seval];apply z;clear z;refine aF false rfl (fun hc=>by cases hc) (fun _=>?_);refine aB fun _ z=>aA rfl ?_;simp only[RR,seval];apply z;clear z;refine aF false rfl (fun hc=>by cases hc) (fun _=>?_);refine aB fun _ z=>aA rfl ?_;simp only[RR,seval];apply z;clear z;refine aF false rfl (fun hc=>by cases hc) (fun _=>?_);refine aB fun _ z=>aA rfl ?_;simp only[RR,seval];apply z;clear z;refine aF false rfl (fun hc=>by cases hc) (fun _=>?_);refine aB fun _ z=>aA rfl ?_;simp only[RR,seval];apply z;clear z;refine aF false rfl (fun hc=>by cases hc) (fun _=>?_);refine aB fun _ z=>aA rfl ?_;simp only[RR,seval];apply z;clear z;refine aF false rfl (fun hc=>by cases hc) (fun _=>?_);refine aB fun _ z=>aA rfl ?_;simp only[RR,seval];apply z;clear z;refine aF false rfl (fun hc=>by cases hc) (fun _=>?_);refine aB fun _ z=>aA rfl ?_;simp only[RR,seval];apply z;clear z;refine aF true rfl (fun _=>?_) (fun hc=>by cases hc);refine aH ?_;refine bL fun F1 M1 hfr hH=>?_;have g0:=hfr 0;have g1:=hfr 1;have g5:=hfr 5;have g6:=hfr 6;have gr:=hH r;have gx:=hH x;have gb5:=hH b5
    try simp only[hr,hx,nr_b5,nx_b5,RR,seval]at g0 g1 g5 g6 gr gx gb5
    have hM:=funext hH;have hR0:=(hR.new hn5 _).same hH;have hW0:=(hW.new hn5 _).same hH;have hk0:cM r vv abs vo vo H M1:=by rw[hM];exact(cM.refl _ _ _ _ _).updN hn5 _
    have f0:=g0;clear g0;have f1:=g1;clear g1;have f5:=g5;clear g5;have f6:=g6;clear g6;have hr:=gr;clear gr;have hx:=gx;clear gx;have hb5:=gb5;clear gb5;clear hfr hH;refine aB fun _ z=>aA rfl ?_;simp only[f0,f1,f5,hb5,hg0,RR,seval];refine gV (hVa _ hR0 hW0 hx) (fun _=>trivial) fun w1 vo1 H1 uw1 hwv1 hne1 hR1 hk1=>?_;have hr:=hR1.r;have hx:=hR0.keep hx (by decide) (by decide) hk1;have hb5:=hR0.keep hb5 (by decide) (by decide) hk1;have hW1:=hW0.keep hR0 hk1;simp only[RR,seval];apply z;clear z;refine aF _ rfl (fun hc39=>?_) (fun hc39=>?_)
    ·have hw1:w1=0:=aC hc39
     have hend:(∀v s,o= .val v s→w1=v)∧(∀e s,o= .fin e s→e≠0)∧gZ o=gZ r1∧o.st=r1.st:=by
      cases r1 with
      |fin e1 s1=>
       obtain rfl:=Option.some.inj (show some (Rz.fin e1 s1)=some o from h);exact⟨(fun _ _ e=>by cases e),hne1,rfl,rfl⟩
      |val x1 s1=>
       obtain rfl:=hwv1 _ _ rfl;simp only[bindR]at h;rw[if_pos (by simp [hw1])]at h;cases h;exact⟨(fun v s e=>by cases e;rfl),(fun _ _ e=>by cases e),rfl,rfl⟩
     obtain⟨g1,g2,g3,g4⟩:=hend;rw[←g3,←g4]at hR1;subst hw1;refine aB fun _ z=>aA rfl ?_;simp only[RR,seval];apply z;clear z;refine aQ ?_;simp only[aX,aN,bI,RR,seval];exact aW.run ⟨0,vo1,rfl,uw1,g1,g2,hR1,hk0.trans hk1⟩
    have hw1: ¬w1=0:=aE hc39
    have hc2:oQ (gZ r1) r1.st (gB cx n rs ow b r1.st) o:=by
     cases r1 with
     |fin e1 s1=>
      obtain rfl:=Option.some.inj (show some (Rz.fin e1 s1)=some o from h);exact .inr ⟨hne1 _ _ rfl,rfl⟩
     |val x1 s1=>
      obtain rfl:=hwv1 _ _ rfl;simp only[bindR]at h;rw[if_neg (by simp [hw1])]at h;exact .inl ⟨rfl,h⟩
    refine aM ?_;try simp only[RR]
    refine aB fun _ z=>aA rfl ?_;simp only[f0,f1,f5,hb5,hg1,RR,seval];refine gV (hVb _ _ _ _ _ hR1 hW1 hx hc2) (fun _=>trivial) fun w2 vo2 H2 uw2 hwv2 hne2 hR2 hk2=>?_;simp only[RR,seval];apply z;clear z;refine aQ ?_;simp only[aX,aN,bI,RR,seval];exact aW.run ⟨w2,vo2,rfl,uw2,hwv2,hne2,hR2,(hk0.trans hk1).trans hk2⟩
   skip;refine bD 232 [.tmp 6] Tryz.func136 rfl rfl rfl rfl ?_;refine aB fun _ z=>aA rfl ?_;simp only[RR,seval];refine aO fun b5 hn5=>?_;have nb5_r:b5≠r:=fun e=>by rw[e]at hn5;simp only[hr,seval,reduceCtorEq]at hn5
   have nr_b5:r≠b5:=fun e=>nb5_r e.symm;have nb5_x:b5≠x:=fun e=>by rw[e]at hn5;simp only[hx,seval,reduceCtorEq]at hn5
   have nx_b5:x≠b5:=fun e=>nb5_x e.symm;simp only[RR,seval];apply z;clear z;refine aH ?_;refine aB fun _ z=>aA rfl ?_;simp only[hr,nr_b5,RR,seval];apply z;clear z;refine aF false rfl (fun hc=>by cases hc) (fun _=>?_);refine aM ?_;try simp only[RR]
   refine aH ?_;refine aB fun _ z=>aA rfl ?_;simp only[RR,seval];apply z;clear z;refine aI ?_;refine aB fun _ z=>aA rfl ?_;simp only[k1,RR,seval];apply z;clear z;refine aF false rfl (fun hc=>by cases hc) (fun _=>?_);refine aB fun _ z=>aA rfl ?_;simp only[k2,RR,seval];apply z;clear z;refine aF false rfl (fun hc=>by cases hc) (fun _=>?_);refine aB fun _ z=>aA rfl ?_;simp only[k3,RR,seval];apply z;clear z;refine aF false rfl (fun hc=>by cases hc) (fun _=>?_);refine aB fun _ z=>aA rfl ?_;simp only[k4,RR,seval];apply z;clear z;refine aF false rfl (fun hc=>by cases hc) (fun _=>?_);refine aB fun _ z=>aA rfl ?_;simp only[k5,RR,seval];apply z;clear z;refine aF false rfl (fun hc=>by cases hc) (fun _=>?_);refine aB fun _ z=>aA rfl ?_;simp only[k6,RR,seval];apply z;clear z;refine aF false rfl (fun hc=>by cases hc) (fun _=>?_);refine aB fun _ z=>aA rfl ?_;simp only[k7,RR,seval];apply z;clear z;refine aF false rfl (fun hc=>by cases hc) (fun _=>?_);refine aB fun _ z=>aA rfl ?_;simp only[k8,RR,seval];apply z;clear z;refine aF false rfl (fun hc=>by cases hc) (fun _=>?_);refine aM ?_;try simp only[RR]
   refine bL fun F1 M1 hfr hH=>?_;have g0:=hfr 0;have g1:=hfr 1;have g5:=hfr 5;have g6:=hfr 6;have gr:=hH r;have gx:=hH x;have gb5:=hH b5
   try simp only[hr,hx,nr_b5,nx_b5,RR,seval]at g0 g1 g5 g6 gr gx gb5
   have hM:=funext hH;have hR0:=(hR.new hn5 _).same hH;have hW0:=(hW.new hn5 _).same hH;have hk0:cM r vv abs vo vo H M1:=by rw[hM];exact(cM.refl _ _ _ _ _).updN hn5 _
   have f0:=g0;clear g0;have f1:=g1;clear g1;have f5:=g5;clear g5;have f6:=g6;clear g6;have hr:=gr;clear gr;have hx:=gx;clear gx;have hb5:=gb5;clear gb5;clear hfr hH;refine aB fun _ z=>aA rfl ?_;simp only[f0,f1,f5,hb5,hg0,RR,seval];refine gV (hVa _ hR0 hW0 hx) (fun _=>trivial) fun w1 vo1 H1 uw1 hwv1 hne1 hR1 hk1=>?_;have hr:=hR1.r;have hx:=hR0.keep hx (by decide) (by decide) hk1;have hb5:=hR0.keep hb5 (by decide) (by decide) hk1;have hW1:=hW0.keep hR0 hk1;simp only[RR,seval];apply z;clear z;refine aH ?_;refine aB fun _ z=>aA rfl ?_;simp only[RR,seval];apply z;clear z;refine aF _ rfl (fun hc43=>?_) (fun hc43=>?_)
   ·have hw1: ¬w1=0:=by simpa using hc43
    have hend:(∀v s,o= .val v s→w1=v)∧(∀e s,o= .fin e s→e≠0)∧gZ o=gZ r1∧o.st=r1.st:=by
     cases r1 with
     |fin e1 s1=>
      obtain rfl:=Option.some.inj (show some (Rz.fin e1 s1)=some o from h);exact⟨(fun _ _ e=>by cases e),hne1,rfl,rfl⟩
     |val x1 s1=>
      obtain rfl:=hwv1 _ _ rfl;simp only[bindR]at h;rw[if_pos (by simp [hw1,k8])]at h;cases h;exact⟨(fun v s e=>by cases e;rfl),(fun _ _ e=>by cases e),rfl,rfl⟩
    obtain⟨g1,g2,g3,g4⟩:=hend;rw[←g3,←g4]at hR1;refine aB fun _ z=>aA rfl ?_;simp only[RR,seval];apply z;clear z;refine aQ ?_;simp only[aX,aN,bI,RR,seval];exact aW.run ⟨w1,vo1,rfl,uw1,g1,g2,hR1,hk0.trans hk1⟩
   have hw1:w1=0:=by simpa using hc43
   have hc2:oQ (gZ r1) r1.st (gB cx n rs ow b r1.st) o:=by
    cases r1 with
    |fin e1 s1=>
     obtain rfl:=Option.some.inj (show some (Rz.fin e1 s1)=some o from h);exact .inr ⟨hne1 _ _ rfl,rfl⟩
    |val x1 s1=>
     obtain rfl:=hwv1 _ _ rfl;simp only[bindR]at h;rw[if_neg (by simp [hw1,k8])]at h;exact .inl ⟨rfl,h⟩
   refine aM ?_;try simp only[RR]
   refine aB fun _ z=>aA rfl ?_;simp only[f0,f1,f5,hb5,hg1,RR,seval];refine gV (hVb _ _ _ _ _ hR1 hW1 hx hc2) (fun _=>trivial) fun w2 vo2 H2 uw2 hwv2 hne2 hR2 hk2=>?_;simp only[RR,seval];apply z;clear z;refine aQ ?_;simp only[aX,aN,bI,RR,seval];exact aW.run ⟨w2,vo2,rfl,uw2,hwv2,hne2,hR2,(hk0.trans hk1).trans hk2⟩
end
end Go.Proofs.YtnfbbjhdflhmjaaGreatDoor
namespace Go.Al
section
variable {p : Pg} {cx : Cx} {r x : Nat} {vv vo vo' wv : AV} {abs : List Nat} {st : RS} {en : Int} {ow : List Int} {H H' : Hp}
theorem eO.set {b n:Nat} (h:eO vv abs vo (.osl 1 b n) ow H) (i:Nat) (v:Int):eO vv abs vo (.osl 1 b n) (ow.set i v) (upd H b (some (.rows 1 ((ow.map cZ).set i [.int .u32 v])))):=by
 refine⟨?_,h.nv,h.na,h.nf⟩;rcases h.h with⟨e,_⟩|⟨b',e,hb⟩
 ·cases e
 simp only[AV.osl.injEq,true_and]at e;obtain⟨rfl,rfl⟩:=e;exact .inr ⟨b,by simp,by rw[bO,iZ]⟩
theorem fO.words {s b n:Nat} (h:fO r vv abs vo vo' x (.osl s b n) H H') (o:Option eS):fO r vv abs vo vo' x (.osl s b n) H (upd H' b o):=fun b' o' hb h1 h2 h3 h4 h5 h6=>by
 obtain⟨g1,g2⟩:=h b' o' hb h1 h2 h3 h4 h5 h6;exact⟨by rw[bY _ _ (fun e=>h6 _ _ (by rw[e]))];exact g1,g2⟩
theorem fO.frame (h:fO r vv abs vo vo' x wv H H') (o:Option eS):fO r vv abs vo vo' x wv H (upd H' x o):=fun b' o' hb h1 h2 h3 h4 h5 h6=>by
 obtain⟨g1,g2⟩:=h b' o' hb h1 h2 h3 h4 h5 h6;exact⟨by rw[bY _ _ h5];exact g1,g2⟩
theorem eO.offv {s b n:Nat} (h:eO (.osl s b n) abs vo wv ow H):Al.off wv b:=fun s' n' e=>h.nv _ _ _ e _ _ rfl
theorem eO.offa (h:eO vv abs vo wv ow H) {b:Nat} (hb:b∈abs):Al.off wv b:=fun _ _ e=>h.na _ _ _ e hb
end
end Go.Al
namespace Go.Proofs.YtnfbbjhdflhmjaaGreatDoor
open Go.Al
section
variable {p : Pg} {cx : Cx} {r : Nat} {vv : AV} {abs : List Nat} {n : Nat}
set_option maxHeartbeats 4000000 in
theorem Nb (ih:sS p cx r vv abs n) (hj:Om p cx) (i:Nat) (rs:cR→Bool×Int) (ow:List Int) (e:Sm) (hkd:e.kind=1) (st:RS) (vo:AV) (H:Hp) (x:Nat) (wv:AV) (o:Rz (Option Int×List Int)) (he:e.ok) (hU: ∀u∈hJ e,UJ p i rs u) (hKE: ∀u∈dG e.es,UJ p i rs u) (hKT: ∀u∈cT e.thn,UJ p i rs u) (hKU: ∀u∈cT e.els,UJ p i rs u) (hR:dK p cx r vv abs st vo 0 H) (hW:eO vv abs vo wv ow H) (hu: ∀y∈ow,cC y) (hx:H x=some (.rows 4 [[.int .i64 i,wv, .bool false, .int .u32 0]])) (h:kQ cx (n+1) rs ow e st=some o):
  gK cN 107 [.ptr 11 r 0 0, .ptr 4 x 0 0, .agg e.row] H (mX p cx r vv abs vo x i wv ow.length H o):=by
 obtain⟨k,s,l,t,u⟩:=e;have hr:=hR.r;have hes:=he.es;have hth:=he.thn;have hel:=he.els;simp only[Sm.es,Sm.thn,Sm.els,Sm.kind]at hes hth hel hKE hKT hKU hkd;have hrow:(Sm.mk k s l t u).row=[.int .i64 k, .str s, .isl 5 (l.map Ex.row), .isl 5 (t.map Sm.row), .isl 5 (u.map Sm.row)]:=Sm.row_eq _;rw[hrow];clear hrow;have nxr:x≠r:=fun e=>by rw[e,hr]at hx;cases hx
 have nrx:r≠x:=fun e=>nxr e.symm;simp only[kQ]at h;have hV:=fun(j:Nat) (a:Ex) (hj:l[j]?=some a) st vo en H o h3 h4 h5 h6=>ih.V i rs ow a st vo en H x wv false 0 o (hes.all _ (aL hj)) (fun u hu=>hKE u ((dP (aL hj)).1 u hu)) (fun u hu=>hKE u ((dP (aL hj)).2 u hu)) h3 h4 hu h5 h6;have hpav:p.av= .agg [.isl 1 (p.vars.map bK), .isl 2 (p.arrs.map Ar.row), .isl 5 (p.funs.map Fu.row)]:=rfl;obtain⟨HX,hHX⟩: ∃X,X=H:=⟨_,rfl⟩;subst hkd;simp only[if_true]at h;have hu1:=hU ⟨s,1,0⟩ (by simp [hJ,Sm.kind,Sm.name]);have hF:=hu1.f;rw[hpav]at hF;simp only at hF;have hk:=hu1.k1;generalize cK p i s=fi at hF hk;obtain⟨kk,ii⟩:=fi;simp only at hF hk
 cases hl0:l[0]? with
 |none=>rw[hl0]at h;cases h
 |some a=>
  simp only[hl0]at h;have hg0:=nK hl0
  obtain⟨r1,h1⟩: ∃r1,gB cx n rs ow a st=some r1:=by
   cases h1:gB cx n rs ow a st with
   |none=>rw[h1]at h;cases h
   |some r1=>exact⟨r1,rfl⟩
  rw[h1]at h;have hVa:=fun H' g1 g2 g3=>hV 0 a hl0 st vo 0 H' r1 g1 g2 g3 (.inl ⟨rfl,h1⟩);rw[a.row_eq]at hVa;refine bD 251 [] Tryz.func107 rfl rfl rfl rfl ?_;refine aB fun _ z=>aA rfl ?_;simp only[RR,seval];refine aO fun b5 hn5=>?_;have nb5_r:b5≠r:=fun e=>by rw[e]at hn5;simp only[hr,seval,reduceCtorEq]at hn5
  have nr_b5:r≠b5:=fun e=>nb5_r e.symm;have nb5_x:b5≠x:=fun e=>by rw[e]at hn5;simp only[hx,seval,reduceCtorEq]at hn5
  have nx_b5:x≠b5:=fun e=>nb5_x e.symm;simp only[RR,seval];apply z;clear z;refine aB fun _ z=>aA rfl ?_;simp only[RR,seval];apply z;clear z;refine aI ?_;refine aB fun _ z=>aA rfl ?_;simp only[RR,seval];apply z;clear z;refine aF true rfl (fun _=>?_) (fun hc=>by cases hc);refine bL fun F1 M1 hfr hH=>?_;have g0:=hfr 0;have g1:=hfr 1;have g5:=hfr 5;have gr:=hH r;have gx:=hH x;have gb5:=hH b5
  try simp only[hr,hx,nr_b5,nx_b5,RR,seval]at g0 g1 g5 gr gx gb5
  have hM:=funext hH;have hR0:=(hR.new hn5 _).same hH;have hW0:=(hW.new hn5 _).same hH;have hk0:cM r vv abs vo vo H M1:=by rw[hM];exact(cM.refl _ _ _ _ _).updN hn5 _
  have f0:=g0;clear g0;have f1:=g1;clear g1;have f5:=g5;clear g5;have hr:=gr;clear gr;have hx:=gx;clear gx;have hb5:=gb5;clear gb5;clear hfr hH;refine aB fun _ z=>aA rfl ?_;simp only[f0,f1,f5,hb5,hg0,RR,seval];refine gV (hVa _ hR0 hW0 hx) (fun _=>trivial) fun w1 vo1 H1 uw1 hwv1 hne1 hR1 hk1=>?_;have hr:=hR1.r;have hx:=hR0.keep hx (by decide) (by decide) hk1;have hb5:=hR0.keep hb5 (by decide) (by decide) hk1;have hW1:=hW0.keep hR0 hk1;have hk01:=(hk0.trans hk1).w x wv;simp only[RR,seval];apply z;clear z;refine aH ?_;refine aB fun _ z=>aA rfl ?_;simp only[f0,hr,RR,seval];apply z;clear z;refine aF _ rfl (fun hc4=>?_) (fun hc4=>?_)
  ·obtain⟨e1,s1,rfl⟩:=mJ (o:=r1) (by simpa using hc4)
   obtain rfl:=Option.some.inj (show some (Rz.fin e1 s1)=some o from h);refine aQ ?_;simp only[aX,aN,bI,RR,seval];exact aW.run ⟨ow,false,0,vo1,rfl,rfl,hu,by simp [cC],(fun _=>rfl),(fun _ _ e=>by cases e),(fun e s h=>by cases h;exact hne1 _ _ rfl),hx,hW1,hR1,hk01⟩
  obtain⟨x1,s1,rfl⟩:=mH (o:=r1) hne1 (by simpa using hc4);obtain rfl:=hwv1 _ _ rfl;have h:(yV (rs s) w1 ow s1).map (fun p=>Rz.val ((none:Option Int),p.1) p.2)=some o:=h;unfold yV at h;by_cases z0:0≤(rs s).2
  rotate_left
  ·rw[if_neg z0]at h;cases h
  rw[if_pos z0]at h;have hR1:dK p cx r vv abs s1 vo1 0 H1:=hR1;have hr:=hR1.r;refine aM ?_;try simp only[RR]
  refine aB fun K z=>?_;refine bB (fun x=>x≠r∧x≠x∧x≠b5) [(0,3),(1,3),(2,3),(3,1),(4,3),(5,3),(6,3),(7,1),(8,3),(9,1),(10,1),(11,3),(12,3),(13,3),(14,3),(15,3)] [] cX (by kernel_rfl) rfl rfl ?_;simp only[cH,f0,f1,f5,hr,hx,hb5,RR,seval];refine aU (hF) ?_;simp only[RR,seval];apply z;clear z;refine aB fun _ z=>aA rfl ?_;simp only[RR,seval];apply z;clear z
  have hcase:(kk=1∧0≤ii∧ ∃y,ow[ii.toNat]?=some y∧ii<(ow.length:Int)∧o= .val (none,ow.set ii.toNat w1) s1)∨(kk=2∧0≤ii∧ ∃y,s1.vars[ii.toNat]?=some y∧ii<(s1.vars.length:Int)∧o= .val (none,ow) {s1 with vars:=s1.vars.set ii.toNat w1}):=by
   rcases hk with⟨h1,h2⟩|⟨h1,h2⟩
   ·rw[h2]at h z0
    simp only[if_true]at h z0;by_cases hl:ii.toNat<ow.length
    ·rw[if_pos hl]at h
     exact .inl ⟨h1,z0,_,aG hl,by omega,(Option.some.inj h).symm⟩
    rw[if_neg hl]at h;cases h
   rw[h2]at h z0;simp only[Bool.false_eq_true,if_false]at h z0;by_cases hl:ii.toNat<s1.vars.length
   ·rw[if_pos hl]at h
    exact .inr ⟨h1,z0,_,aG hl,by omega,(Option.some.inj h).symm⟩
   rw[if_neg hl]at h;cases h
  refine aF _ rfl (fun hc6=>?_) (fun hc6=>?_)
  ·rcases hcase with⟨_,z0,y,hy,zl,rfl⟩|⟨hpl,_⟩
   rotate_left
   ·rw[hpl]at hc6;cases hc6
   obtain⟨bo,rfl,hbo⟩:=hW1.osl hy;have nbo:bo≠r:=hR1.nr hbo;have nbx:bo≠x:=fun e=>by rw[e,hx]at hbo;cases hbo
   have nbo':r≠bo:=fun e=>nbo e.symm;have nbx':x≠bo:=fun e=>nbx e.symm;have hgy:=fQ hy;refine aA rfl ?_;simp only[f1,hx,hbo,z0,zl,hgy,RR,seval];have g1:=hR1.other nbo (hW1.nv _ _ _ rfl) (hW1.na _ _ _ rfl) (hW1.nf _ _ _ rfl) (some (.rows 1 ((ow.map cZ).set ii.toNat [.int .u32 w1])));have g2:=hW1.set ii.toNat w1;have g3:=hk01.words (some (.rows 1 ((ow.map cZ).set ii.toNat [.int .u32 w1])));have g4:(ow.set ii.toNat w1).length=ow.length:=by simp
   have g5: ∀y∈ow.set ii.toNat w1,cC y:=fun y hy=>by
    rcases List.mem_or_eq_of_mem_set hy with hy|rfl
    ·exact hu y hy
    exact uw1
   have hend: ∀q s,Rz.val ((none:Option Int),ow.set ii.toNat w1) s1= .val q s→ow.set ii.toNat w1=q.2∧false=q.1.isSome∧(0:Int)=q.1.getD 0:=fun q s e=>by cases e;exact⟨rfl,rfl,rfl⟩
   have hxf:=(bY H1 (some (.rows 1 ((ow.map cZ).set ii.toNat [.int .u32 w1]))) nbx').trans hx
   try simp only[aX,aN,bI,seval]
   exact aW.run ⟨_,false,0,vo1,rfl,g4,g5,by simp [cC],(fun _=>rfl),hend,(fun _ _ e=>by cases e),hxf,g2,g1,g3⟩
  rcases hcase with⟨hpl,_⟩|⟨_,z0,y,hy,zl,rfl⟩
  ·rw[hpl]at hc6;cases hc6
  obtain⟨bv,rfl,hbv⟩:=hR1.osl hy;have nbo:bv≠r:=hR1.nr hbv;have nbx:bv≠x:=fun e=>by rw[e,hx]at hbv;cases hbv
  have nbo':r≠bv:=fun e=>nbo e.symm;have nbx':x≠bv:=fun e=>nbx e.symm;have hgy:=fQ hy;refine aA rfl ?_;simp only[f0,hr,hbv,z0,zl,hgy,RR,seval];have g1:=dK.setV hR1 ii.toNat w1 uw1;have g2:=hW1.off hW1.offv (some (.rows 1 ((s1.vars.map cZ).set ii.toNat [.int .u32 w1])));have g3:=hk01.trans ((cM.vars (r:=r) (abs:=abs) (vo:=vo1) (H:=H1) rfl (some (.rows 1 ((s1.vars.map cZ).set ii.toNat [.int .u32 w1])))).w x wv);have g4:ow.length=ow.length:=rfl;have g5:=hu;have hend: ∀q s,Rz.val ((none:Option Int),ow) {s1 with vars:=s1.vars.set ii.toNat w1}= .val q s→ow=q.2∧false=q.1.isSome∧(0:Int)=q.1.getD 0:=fun q s e=>by cases e;exact⟨rfl,rfl,rfl⟩
  have hxf:=(bY H1 (some (.rows 1 ((s1.vars.map cZ).set ii.toNat [.int .u32 w1]))) nbx').trans hx
  try simp only[aX,aN,bI,seval]
  exact aW.run ⟨_,false,0,vo1,rfl,g4,g5,by simp [cC],(fun _=>rfl),hend,(fun _ _ e=>by cases e),hxf,g2,g1,g3⟩
set_option maxHeartbeats 4000000 in
theorem Fd (ih:sS p cx r vv abs n) (hj:Om p cx) (i:Nat) (rs:cR→Bool×Int) (ow:List Int) (e:Sm) (hkd:e.kind=6) (st:RS) (vo:AV) (H:Hp) (x:Nat) (wv:AV) (o:Rz (Option Int×List Int)) (he:e.ok) (hU: ∀u∈hJ e,UJ p i rs u) (hKE: ∀u∈dG e.es,UJ p i rs u) (hKT: ∀u∈cT e.thn,UJ p i rs u) (hKU: ∀u∈cT e.els,UJ p i rs u) (hR:dK p cx r vv abs st vo 0 H) (hW:eO vv abs vo wv ow H) (hu: ∀y∈ow,cC y) (hx:H x=some (.rows 4 [[.int .i64 i,wv, .bool false, .int .u32 0]])) (h:kQ cx (n+1) rs ow e st=some o):
  gK cN 107 [.ptr 11 r 0 0, .ptr 4 x 0 0, .agg e.row] H (mX p cx r vv abs vo x i wv ow.length H o):=by
 obtain⟨k,s,l,t,u⟩:=e;have hr:=hR.r;have hes:=he.es;have hth:=he.thn;have hel:=he.els;simp only[Sm.es,Sm.thn,Sm.els,Sm.kind]at hes hth hel hKE hKT hKU hkd;have hrow:(Sm.mk k s l t u).row=[.int .i64 k, .str s, .isl 5 (l.map Ex.row), .isl 5 (t.map Sm.row), .isl 5 (u.map Sm.row)]:=Sm.row_eq _;rw[hrow];clear hrow;have nxr:x≠r:=fun e=>by rw[e,hr]at hx;cases hx
 have nrx:r≠x:=fun e=>nxr e.symm;simp only[kQ]at h;have hV:=fun(j:Nat) (a:Ex) (hj:l[j]?=some a) st vo en H o h3 h4 h5 h6=>ih.V i rs ow a st vo en H x wv false 0 o (hes.all _ (aL hj)) (fun u hu=>hKE u ((dP (aL hj)).1 u hu)) (fun u hu=>hKE u ((dP (aL hj)).2 u hu)) h3 h4 hu h5 h6;have hpav:p.av= .agg [.isl 1 (p.vars.map bK), .isl 2 (p.arrs.map Ar.row), .isl 5 (p.funs.map Fu.row)]:=rfl;obtain⟨HX,hHX⟩: ∃X,X=H:=⟨_,rfl⟩;subst hkd;simp only[show ¬(6:Int)=1 by decide,show ¬(6:Int)=2 by decide,show ¬(6:Int)=3 by decide,show ¬(6:Int)=4 by decide,show ¬(6:Int)=5 by decide,if_false,if_true]at h;have hu1:=hU ⟨s,4,l.length⟩ (by simp [hJ,Sm.kind,Sm.name,Sm.es])
 obtain⟨r1,h1⟩: ∃r1,qI cx n rs ow (rs s).2 l st=some r1:=by
  cases h1:qI cx n rs ow (rs s).2 l st with
  |none=>rw[h1]at h;cases h
  |some r1=>exact⟨r1,rfl⟩
 rw[h1]at h;have hC:=fun H' g1 g2 g3=>ih.C i rs ow s l st vo H' x wv false 0 r1 hes hu1 hKE g1 g2 hu g3 h1;refine bD 251 [] Tryz.func107 rfl rfl rfl rfl ?_;refine aB fun _ z=>aA rfl ?_;simp only[RR,seval];refine aO fun b5 hn5=>?_;have nb5_r:b5≠r:=fun e=>by rw[e]at hn5;simp only[hr,seval,reduceCtorEq]at hn5
 have nr_b5:r≠b5:=fun e=>nb5_r e.symm;have nb5_x:b5≠x:=fun e=>by rw[e]at hn5;simp only[hx,seval,reduceCtorEq]at hn5
 have nx_b5:x≠b5:=fun e=>nb5_x e.symm;simp only[RR,seval];apply z;clear z;refine aB fun _ z=>aA rfl ?_;simp only[RR,seval];apply z;clear z;refine aI ?_;refine aB fun _ z=>aA rfl ?_;simp only[RR,seval];apply z;clear z;refine aF false rfl (fun hc=>by cases hc) (fun _=>?_);refine aB fun _ z=>aA rfl ?_;simp only[RR,seval];apply z;clear z;refine aF false rfl (fun hc=>by cases hc) (fun _=>?_);refine aB fun _ z=>aA rfl ?_;simp only[RR,seval];apply z;clear z;refine aF false rfl (fun hc=>by cases hc) (fun _=>?_);refine aB fun _ z=>aA rfl ?_;simp only[RR,seval];apply z;clear z;refine aF false rfl (fun hc=>by cases hc) (fun _=>?_);refine aB fun _ z=>aA rfl ?_;simp only[RR,seval];apply z;clear z;refine aF false rfl (fun hc=>by cases hc) (fun _=>?_);refine aB fun _ z=>aA rfl ?_;simp only[RR,seval];apply z;clear z;refine aF true rfl (fun _=>?_) (fun hc=>by cases hc);refine bL fun F1 M1 hfr hH=>?_;have g0:=hfr 0;have g1:=hfr 1;have g5:=hfr 5;have gr:=hH r;have gx:=hH x;have gb5:=hH b5
 try simp only[hr,hx,nr_b5,nx_b5,RR,seval]at g0 g1 g5 gr gx gb5
 have hM:=funext hH;have hR0:=(hR.new hn5 _).same hH;have hW0:=(hW.new hn5 _).same hH;have hk0:cM r vv abs vo vo H M1:=by rw[hM];exact(cM.refl _ _ _ _ _).updN hn5 _
 have f0:=g0;clear g0;have f1:=g1;clear g1;have f5:=g5;clear g5;have hr:=gr;clear gr;have hx:=gx;clear gx;have hb5:=gb5;clear gb5;clear hfr hH;refine aA rfl ?_;simp only[f0,f1,f5,hb5,RR,seval];refine gV (hC _ hR0 hW0 hx) (fun _=>trivial) fun w1 vo1 H1 uw1 hwv1 hne1 hR1 hk1=>?_;have hx:=hR0.keep hx (by decide) (by decide) hk1;have hW1:=hW0.keep hR0 hk1;have hk01:=(hk0.trans hk1).w x wv
 have hend:(∀q s,o= .val q s→ow=q.2∧false=q.1.isSome∧(0:Int)=q.1.getD 0)∧(∀e s,o= .fin e s→e≠0)∧o.st=r1.st∧gZ o=gZ r1:=by
  cases r1 with
  |fin e s=>
   obtain rfl:=Option.some.inj (show some (Rz.fin e s)=some o from h);exact⟨(fun _ _ e=>by cases e),(fun _ _ h=>by cases h;exact hne1 _ _ rfl),rfl,rfl⟩
  |val y s=>
   obtain rfl:=Option.some.inj (show some (Rz.val ((none:Option Int),ow) s)=some o from h);exact⟨(fun _ _ e=>by cases e;exact⟨rfl,rfl,rfl⟩),(fun _ _ e=>by cases e),rfl,rfl⟩
 obtain⟨q1,q2,q3,q4⟩:=hend;rw[←q3,←q4]at hR1;simp only[RR,seval]
 try simp only[aX,aN,bI,seval]
 exact aW.run ⟨ow,false,0,vo1,rfl,rfl,hu,by simp [cC],(fun _=>rfl),q1,q2,hx,hW1,hR1,hk01⟩
set_option maxHeartbeats 4000000 in
theorem Im (ih:sS p cx r vv abs n) (hj:Om p cx) (i:Nat) (rs:cR→Bool×Int) (ow:List Int) (e:Sm) (hkd:e.kind≠1∧e.kind≠2∧e.kind≠3∧e.kind≠4∧e.kind≠5∧e.kind≠6∧e.kind≠7) (st:RS) (vo:AV) (H:Hp) (x:Nat) (wv:AV) (o:Rz (Option Int×List Int)) (he:e.ok) (hU: ∀u∈hJ e,UJ p i rs u) (hKE: ∀u∈dG e.es,UJ p i rs u) (hKT: ∀u∈cT e.thn,UJ p i rs u) (hKU: ∀u∈cT e.els,UJ p i rs u) (hR:dK p cx r vv abs st vo 0 H) (hW:eO vv abs vo wv ow H) (hu: ∀y∈ow,cC y) (hx:H x=some (.rows 4 [[.int .i64 i,wv, .bool false, .int .u32 0]])) (h:kQ cx (n+1) rs ow e st=some o):
  gK cN 107 [.ptr 11 r 0 0, .ptr 4 x 0 0, .agg e.row] H (mX p cx r vv abs vo x i wv ow.length H o):=by
 obtain⟨k,s,l,t,u⟩:=e;have hr:=hR.r;have hes:=he.es;have hth:=he.thn;have hel:=he.els;simp only[Sm.es,Sm.thn,Sm.els,Sm.kind]at hes hth hel hKE hKT hKU hkd;have hrow:(Sm.mk k s l t u).row=[.int .i64 k, .str s, .isl 5 (l.map Ex.row), .isl 5 (t.map Sm.row), .isl 5 (u.map Sm.row)]:=Sm.row_eq _;rw[hrow];clear hrow;have nxr:x≠r:=fun e=>by rw[e,hr]at hx;cases hx
 have nrx:r≠x:=fun e=>nxr e.symm;simp only[kQ]at h;have hV:=fun(j:Nat) (a:Ex) (hj:l[j]?=some a) st vo en H o h3 h4 h5 h6=>ih.V i rs ow a st vo en H x wv false 0 o (hes.all _ (aL hj)) (fun u hu=>hKE u ((dP (aL hj)).1 u hu)) (fun u hu=>hKE u ((dP (aL hj)).2 u hu)) h3 h4 hu h5 h6;have hpav:p.av= .agg [.isl 1 (p.vars.map bK), .isl 2 (p.arrs.map Ar.row), .isl 5 (p.funs.map Fu.row)]:=rfl;obtain⟨HX,hHX⟩: ∃X,X=H:=⟨_,rfl⟩;obtain⟨k1,k2,k3,k4,k5,k6,k7⟩:=hkd;rw[if_neg k1,if_neg k2,if_neg k3,if_neg k4,if_neg k5,if_neg k6,if_neg k7]at h;cases h;have k1: ¬k=1:=k1;have k2: ¬k=2:=k2;have k3: ¬k=3:=k3;have k4: ¬k=4:=k4;have k5: ¬k=5:=k5;have k6: ¬k=6:=k6;have k7: ¬k=7:=k7;refine bD 251 [] Tryz.func107 rfl rfl rfl rfl ?_;refine aB fun _ z=>aA rfl ?_;simp only[RR,seval];refine aO fun b5 hn5=>?_;have nb5_r:b5≠r:=fun e=>by rw[e]at hn5;simp only[hr,seval,reduceCtorEq]at hn5
 have nr_b5:r≠b5:=fun e=>nb5_r e.symm;have nb5_x:b5≠x:=fun e=>by rw[e]at hn5;simp only[hx,seval,reduceCtorEq]at hn5
 have nx_b5:x≠b5:=fun e=>nb5_x e.symm;simp only[RR,seval];apply z;clear z;refine aB fun _ z=>aA rfl ?_;simp only[RR,seval];apply z;clear z;refine aI ?_;refine aB fun _ z=>aA rfl ?_;simp only[k1,RR,seval];apply z;clear z;refine aF false rfl (fun hc=>by cases hc) (fun _=>?_);refine aB fun _ z=>aA rfl ?_;simp only[k2,RR,seval];apply z;clear z;refine aF false rfl (fun hc=>by cases hc) (fun _=>?_);refine aB fun _ z=>aA rfl ?_;simp only[k3,RR,seval];apply z;clear z;refine aF false rfl (fun hc=>by cases hc) (fun _=>?_);refine aB fun _ z=>aA rfl ?_;simp only[k4,RR,seval];apply z;clear z;refine aF false rfl (fun hc=>by cases hc) (fun _=>?_);refine aB fun _ z=>aA rfl ?_;simp only[k5,RR,seval];apply z;clear z;refine aF false rfl (fun hc=>by cases hc) (fun _=>?_);refine aB fun _ z=>aA rfl ?_;simp only[k6,RR,seval];apply z;clear z;refine aF false rfl (fun hc=>by cases hc) (fun _=>?_);refine aB fun _ z=>aA rfl ?_;simp only[k7,RR,seval];apply z;clear z;refine aF false rfl (fun hc=>by cases hc) (fun _=>?_);refine aM ?_;try simp only[RR]
 try simp only[aX,aN,bI,seval]
 have hxf:=(bY H (some (.rows 5 [[.int .i64 k, .str s, .isl 5 (l.map Ex.row), .isl 5 (t.map Sm.row), .isl 5 (u.map Sm.row)]])) (show x≠b5 from fun e=>by rw[e,hn5]at hx;cases hx)).trans hx;exact aW.run ⟨ow,false,0,vo,rfl,rfl,hu,by simp [cC],(fun _=>rfl),(fun _ _ e=>by cases e;exact⟨rfl,rfl,rfl⟩),(fun _ _ e=>by cases e),hxf,hW.new hn5 _,hR.new hn5 _,((cM.refl _ _ _ _ _).updN hn5 _).w x wv⟩
set_option maxHeartbeats 4000000 in
theorem Nc (ih:sS p cx r vv abs n) (hj:Om p cx) (i:Nat) (rs:cR→Bool×Int) (ow:List Int) (e:Sm) (hkd:e.kind=7) (st:RS) (vo:AV) (H:Hp) (x:Nat) (wv:AV) (o:Rz (Option Int×List Int)) (he:e.ok) (hU: ∀u∈hJ e,UJ p i rs u) (hKE: ∀u∈dG e.es,UJ p i rs u) (hKT: ∀u∈cT e.thn,UJ p i rs u) (hKU: ∀u∈cT e.els,UJ p i rs u) (hR:dK p cx r vv abs st vo 0 H) (hW:eO vv abs vo wv ow H) (hu: ∀y∈ow,cC y) (hx:H x=some (.rows 4 [[.int .i64 i,wv, .bool false, .int .u32 0]])) (h:kQ cx (n+1) rs ow e st=some o):
  gK cN 107 [.ptr 11 r 0 0, .ptr 4 x 0 0, .agg e.row] H (mX p cx r vv abs vo x i wv ow.length H o):=by
 obtain⟨k,s,l,t,u⟩:=e;have hr:=hR.r;have hes:=he.es;have hth:=he.thn;have hel:=he.els;simp only[Sm.es,Sm.thn,Sm.els,Sm.kind]at hes hth hel hKE hKT hKU hkd;have hrow:(Sm.mk k s l t u).row=[.int .i64 k, .str s, .isl 5 (l.map Ex.row), .isl 5 (t.map Sm.row), .isl 5 (u.map Sm.row)]:=Sm.row_eq _;rw[hrow];clear hrow;have nxr:x≠r:=fun e=>by rw[e,hr]at hx;cases hx
 have nrx:r≠x:=fun e=>nxr e.symm;simp only[kQ]at h;have hV:=fun(j:Nat) (a:Ex) (hj:l[j]?=some a) st vo en H o h3 h4 h5 h6=>ih.V i rs ow a st vo en H x wv false 0 o (hes.all _ (aL hj)) (fun u hu=>hKE u ((dP (aL hj)).1 u hu)) (fun u hu=>hKE u ((dP (aL hj)).2 u hu)) h3 h4 hu h5 h6;have hpav:p.av= .agg [.isl 1 (p.vars.map bK), .isl 2 (p.arrs.map Ar.row), .isl 5 (p.funs.map Fu.row)]:=rfl;obtain⟨HX,hHX⟩: ∃X,X=H:=⟨_,rfl⟩;subst hkd;simp only[show ¬(7:Int)=1 by decide,show ¬(7:Int)=2 by decide,show ¬(7:Int)=3 by decide,show ¬(7:Int)=4 by decide,show ¬(7:Int)=5 by decide,show ¬(7:Int)=6 by decide,if_false,if_true]at h
 cases hl0:l[0]? with
 |none=>
  rw[hl0]at h;cases h
  have hle:l.length=0:=by
   cases l with
   |nil=>rfl
   |cons a l=>simp at hl0
  have hle':l=[]:=List.eq_nil_of_length_eq_zero hle;subst hle';refine bD 251 [] Tryz.func107 rfl rfl rfl rfl ?_;refine aB fun _ z=>aA rfl ?_;simp only[RR,seval];refine aO fun b5 hn5=>?_;have nb5_r:b5≠r:=fun e=>by rw[e]at hn5;simp only[hr,seval,reduceCtorEq]at hn5
  have nr_b5:r≠b5:=fun e=>nb5_r e.symm;have nb5_x:b5≠x:=fun e=>by rw[e]at hn5;simp only[hx,seval,reduceCtorEq]at hn5
  have nx_b5:x≠b5:=fun e=>nb5_x e.symm;simp only[RR,seval];apply z;clear z;refine aB fun _ z=>aA rfl ?_;simp only[RR,seval];apply z;clear z;refine aI ?_;refine aB fun _ z=>aA rfl ?_;simp only[RR,seval];apply z;clear z;refine aF false rfl (fun hc=>by cases hc) (fun _=>?_);refine aB fun _ z=>aA rfl ?_;simp only[RR,seval];apply z;clear z;refine aF false rfl (fun hc=>by cases hc) (fun _=>?_);refine aB fun _ z=>aA rfl ?_;simp only[RR,seval];apply z;clear z;refine aF false rfl (fun hc=>by cases hc) (fun _=>?_);refine aB fun _ z=>aA rfl ?_;simp only[RR,seval];apply z;clear z;refine aF false rfl (fun hc=>by cases hc) (fun _=>?_);refine aB fun _ z=>aA rfl ?_;simp only[RR,seval];apply z;clear z;refine aF false rfl (fun hc=>by cases hc) (fun _=>?_);refine aB fun _ z=>aA rfl ?_;simp only[RR,seval];apply z;clear z;refine aF false rfl (fun hc=>by cases hc) (fun _=>?_);refine aB fun _ z=>aA rfl ?_;simp only[RR,seval];apply z;clear z;refine aF true rfl (fun _=>?_) (fun hc=>by cases hc);refine aB fun _ z=>aA rfl ?_;simp only[RR,seval];apply z;clear z;refine aH ?_;refine aB fun _ z=>aA rfl ?_;simp only[RR,seval];apply z;clear z;refine aF false rfl (fun hc=>by cases hc) (fun _=>?_);refine aM ?_;try simp only[RR]
  refine aA rfl ?_;simp only[hx,nx_b5,RR,seval]
  try simp only[aX,aN,bI,seval]
  have nb:x≠b5:=fun e=>by rw[e,hn5]at hx;cases hx
  have hR0:=hR.new hn5 (some (.rows 5 [[.int .i64 7, .str s, .isl 5 ([].map Ex.row), .isl 5 (t.map Sm.row), .isl 5 (u.map Sm.row)]]));have hW0:=hW.new hn5 (some (.rows 5 [[.int .i64 7, .str s, .isl 5 ([].map Ex.row), .isl 5 (t.map Sm.row), .isl 5 (u.map Sm.row)]]));have hx0:=(bY H (some (.rows 5 [[.int .i64 7, .str s, .isl 5 ([].map Ex.row), .isl 5 (t.map Sm.row), .isl 5 (u.map Sm.row)]])) nb).trans hx;obtain⟨q1,q2,q3,q4⟩:=hR0.apart hx0 (by decide) (by decide);have hR1:=fun o1 o2=>(hR0.other q1 q2 q3 q4 o1).other q1 q2 q3 q4 o2;have hW1:=fun o1 o2=>(hW0.off (hW0.h.offsz hx0 (by decide)) o1).off (hW0.h.offsz hx0 (by decide)) o2;have hk1:=fun o1 o2=>((((cM.refl r vv abs vo H).updN hn5 (some (.rows 5 [[.int .i64 7, .str s, .isl 5 ([].map Ex.row), .isl 5 (t.map Sm.row), .isl 5 (u.map Sm.row)]]))).w x wv).frame o1).frame o2;exact aW.run ⟨ow,true,0,vo,rfl,rfl,hu,by simp [cC],(fun _=>rfl),(fun _ _ e=>by cases e;exact⟨rfl,rfl,rfl⟩),(fun _ _ e=>by cases e),bO _ _ _,hW1 _ _,hR1 _ _,hk1 _ _⟩
 |some a=>
  simp only[hl0]at h;have hg0:=nK hl0
  obtain⟨r1,h1⟩: ∃r1,gB cx n rs ow a st=some r1:=by
   cases h1:gB cx n rs ow a st with
   |none=>rw[h1]at h;cases h
   |some r1=>exact⟨r1,rfl⟩
  rw[h1]at h;have hVa:=fun H' g1 g2 g3=>hV 0 a hl0 st vo 0 H' r1 g1 g2 g3 (.inl ⟨rfl,h1⟩);rw[a.row_eq]at hVa;have zl:(0:Int)<(l.length:Int):=by have:=(aZ.1 hl0).1;omega
  refine bD 251 [] Tryz.func107 rfl rfl rfl rfl ?_;refine aB fun _ z=>aA rfl ?_;simp only[RR,seval];refine aO fun b5 hn5=>?_;have nb5_r:b5≠r:=fun e=>by rw[e]at hn5;simp only[hr,seval,reduceCtorEq]at hn5
  have nr_b5:r≠b5:=fun e=>nb5_r e.symm;have nb5_x:b5≠x:=fun e=>by rw[e]at hn5;simp only[hx,seval,reduceCtorEq]at hn5
  have nx_b5:x≠b5:=fun e=>nb5_x e.symm;simp only[RR,seval];apply z;clear z;refine aB fun _ z=>aA rfl ?_;simp only[RR,seval];apply z;clear z;refine aI ?_;refine aB fun _ z=>aA rfl ?_;simp only[RR,seval];apply z;clear z;refine aF false rfl (fun hc=>by cases hc) (fun _=>?_);refine aB fun _ z=>aA rfl ?_;simp only[RR,seval];apply z;clear z;refine aF false rfl (fun hc=>by cases hc) (fun _=>?_);refine aB fun _ z=>aA rfl ?_;simp only[RR,seval];apply z;clear z;refine aF false rfl (fun hc=>by cases hc) (fun _=>?_);refine aB fun _ z=>aA rfl ?_;simp only[RR,seval];apply z;clear z;refine aF false rfl (fun hc=>by cases hc) (fun _=>?_);refine aB fun _ z=>aA rfl ?_;simp only[RR,seval];apply z;clear z;refine aF false rfl (fun hc=>by cases hc) (fun _=>?_);refine aB fun _ z=>aA rfl ?_;simp only[RR,seval];apply z;clear z;refine aF false rfl (fun hc=>by cases hc) (fun _=>?_);refine aB fun _ z=>aA rfl ?_;simp only[RR,seval];apply z;clear z;refine aF true rfl (fun _=>?_) (fun hc=>by cases hc);refine aB fun _ z=>aA rfl ?_;simp only[RR,seval];apply z;clear z;refine aH ?_;refine aB fun _ z=>aA rfl ?_;simp only[zl,aD,RR,seval];apply z;clear z;refine aF true rfl (fun _=>?_) (fun hc=>by cases hc);refine bL fun F1 M1 hfr hH=>?_;have g0:=hfr 0;have g1:=hfr 1;have g5:=hfr 5;have g15:=hfr 15;have gr:=hH r;have gx:=hH x;have gb5:=hH b5
  try simp only[hr,hx,nr_b5,nx_b5,RR,seval]at g0 g1 g5 g15 gr gx gb5
  have hM:=funext hH;have hR0:=(hR.new hn5 _).same hH;have hW0:=(hW.new hn5 _).same hH;have hk0:cM r vv abs vo vo H M1:=by rw[hM];exact(cM.refl _ _ _ _ _).updN hn5 _
  have f0:=g0;clear g0;have f1:=g1;clear g1;have f5:=g5;clear g5;have f15:=g15;clear g15;have hr:=gr;clear gr;have hx:=gx;clear gx;have hb5:=gb5;clear gb5;clear hfr hH;refine aA rfl ?_;simp only[f0,f1,f5,hb5,hg0,RR,seval];refine gV (hVa _ hR0 hW0 hx) (fun _=>trivial) fun w1 vo1 H1 uw1 hwv1 hne1 hR1 hk1=>?_;have hx:=hR0.keep hx (by decide) (by decide) hk1;have hW1:=hW0.keep hR0 hk1;have hk01:=(hk0.trans hk1).w x wv
  have hend:(∀q s,o= .val q s→ow=q.2∧true=q.1.isSome∧w1=q.1.getD 0)∧(∀e s,o= .fin e s→e≠0)∧o.st=r1.st∧gZ o=gZ r1:=by
   cases r1 with
   |fin e s=>
    obtain rfl:=Option.some.inj (show some (Rz.fin e s)=some o from h);exact⟨(fun _ _ e=>by cases e),(fun _ _ h=>by cases h;exact hne1 _ _ rfl),rfl,rfl⟩
   |val y s=>
    obtain rfl:=hwv1 _ _ rfl;obtain rfl:=Option.some.inj (show some (Rz.val (some w1,ow) s)=some o from h);exact⟨(fun _ _ e=>by cases e;exact⟨rfl,rfl,rfl⟩),(fun _ _ e=>by cases e),rfl,rfl⟩
  obtain⟨q1,q2,q3,q4⟩:=hend;rw[←q3,←q4]at hR1;obtain⟨p1,p2,p3,p4⟩:=hR1.apart hx (by decide) (by decide);simp only[RR,seval];refine aA rfl ?_;simp only[f1,hx,RR,seval]
  try simp only[aX,aN,bI,seval]
  have g1:=fun o1 o2=>(hR1.other p1 p2 p3 p4 o1).other p1 p2 p3 p4 o2;have g2:=fun o1 o2=>(hW1.off (hW1.h.offsz hx (by decide)) o1).off (hW1.h.offsz hx (by decide)) o2;have g3:=fun o1 o2=>(hk01.frame o1).frame o2;exact aW.run ⟨ow,true,w1,vo1,rfl,rfl,hu,uw1,(fun h=>by cases h),q1,q2,bO _ _ _,g2 _ _,g1 _ _,g3 _ _⟩
end
end Go.Proofs.YtnfbbjhdflhmjaaGreatDoor
namespace Go.Proofs.YtnfbbjhdflhmjaaGreatDoor
open Go.Al
section
variable {p : Pg} {cx : Cx} {r : Nat} {vv : AV} {abs : List Nat} {n : Nat}
set_option maxHeartbeats 4000000 in
theorem Fc (ih:sS p cx r vv abs n) (hj:Om p cx) (i:Nat) (rs:cR→Bool×Int) (ow:List Int) (e:Sm) (hkd:e.kind=2) (st:RS) (vo:AV) (H:Hp) (x:Nat) (wv:AV) (o:Rz (Option Int×List Int)) (he:e.ok) (hU: ∀u∈hJ e,UJ p i rs u) (hKE: ∀u∈dG e.es,UJ p i rs u) (hKT: ∀u∈cT e.thn,UJ p i rs u) (hKU: ∀u∈cT e.els,UJ p i rs u) (hR:dK p cx r vv abs st vo 0 H) (hW:eO vv abs vo wv ow H) (hu: ∀y∈ow,cC y) (hx:H x=some (.rows 4 [[.int .i64 i,wv, .bool false, .int .u32 0]])) (h:kQ cx (n+1) rs ow e st=some o):
  gK cN 107 [.ptr 11 r 0 0, .ptr 4 x 0 0, .agg e.row] H (mX p cx r vv abs vo x i wv ow.length H o):=by
 obtain⟨k,s,l,t,u⟩:=e;have hr:=hR.r;have hes:=he.es;have hth:=he.thn;have hel:=he.els;simp only[Sm.es,Sm.thn,Sm.els,Sm.kind]at hes hth hel hKE hKT hKU hkd;have hrow:(Sm.mk k s l t u).row=[.int .i64 k, .str s, .isl 5 (l.map Ex.row), .isl 5 (t.map Sm.row), .isl 5 (u.map Sm.row)]:=Sm.row_eq _;rw[hrow];clear hrow;have nxr:x≠r:=fun e=>by rw[e,hr]at hx;cases hx
 have nrx:r≠x:=fun e=>nxr e.symm;simp only[kQ]at h;have hV:=fun(j:Nat) (a:Ex) (hj:l[j]?=some a) st vo en H o h3 h4 h5 h6=>ih.V i rs ow a st vo en H x wv false 0 o (hes.all _ (aL hj)) (fun u hu=>hKE u ((dP (aL hj)).1 u hu)) (fun u hu=>hKE u ((dP (aL hj)).2 u hu)) h3 h4 hu h5 h6;have hpav:p.av= .agg [.isl 1 (p.vars.map bK), .isl 2 (p.arrs.map Ar.row), .isl 5 (p.funs.map Fu.row)]:=rfl;obtain⟨HX,hHX⟩: ∃X,X=H:=⟨_,rfl⟩;subst hkd;simp only[show ¬(2:Int)=1 by decide,if_false,if_true]at h;have hu1:=hU ⟨s,3,0⟩ (by simp [hJ,Sm.kind,Sm.name]);have hF:=hu1.f;rw[hpav]at hF;simp only at hF;have hk:=hu1.k3;generalize cK p i s=fi at hF hk;obtain⟨kk,ii⟩:=fi;simp only at hF hk;obtain⟨rfl,hrs⟩:=hk;rw[hrs]at h
 cases hl0:l[0]? with
 |none=>rw[hl0]at h;cases h
 |some a=>
 cases hl1:l[1]? with
 |none=>rw[hl0,hl1]at h;cases h
 |some b=>
  simp only[hl0,hl1]at h;have hg0:=nK hl0;have hg1:=nK hl1
  obtain⟨r1,h1⟩: ∃r1,gB cx n rs ow a st=some r1:=by
   cases h1:gB cx n rs ow a st with
   |none=>rw[h1]at h;cases h
   |some r1=>exact⟨r1,rfl⟩
  rw[h1]at h;have hVa:=fun H' g1 g2 g3=>hV 0 a hl0 st vo 0 H' r1 g1 g2 g3 (.inl ⟨rfl,h1⟩);rw[a.row_eq]at hVa;have hVb:=fun vo' en' st' H' r2 g1 g2 g3 g4=>hV 1 b hl1 st' vo' en' H' r2 g1 g2 g3 g4;rw[b.row_eq]at hVb;refine bD 251 [] Tryz.func107 rfl rfl rfl rfl ?_;refine aB fun _ z=>aA rfl ?_;simp only[RR,seval];refine aO fun b5 hn5=>?_;have nb5_r:b5≠r:=fun e=>by rw[e]at hn5;simp only[hr,seval,reduceCtorEq]at hn5
  have nr_b5:r≠b5:=fun e=>nb5_r e.symm;have nb5_x:b5≠x:=fun e=>by rw[e]at hn5;simp only[hx,seval,reduceCtorEq]at hn5
  have nx_b5:x≠b5:=fun e=>nb5_x e.symm;simp only[RR,seval];apply z;clear z;refine aB fun _ z=>aA rfl ?_;simp only[RR,seval];apply z;clear z;refine aI ?_;refine aB fun _ z=>aA rfl ?_;simp only[RR,seval];apply z;clear z;refine aF false rfl (fun hc=>by cases hc) (fun _=>?_);refine aB fun _ z=>aA rfl ?_;simp only[RR,seval];apply z;clear z;refine aF true rfl (fun _=>?_) (fun hc=>by cases hc);refine aB fun K z=>?_;refine bB (fun x=>x≠r∧x≠x∧x≠b5) [(0,3),(1,3),(2,3),(3,1),(4,3),(5,3),(6,3),(7,1),(8,3),(9,1),(10,1),(11,3),(12,3),(13,3),(14,3),(15,3)] [] cX (by kernel_rfl) rfl rfl ?_;simp only[cH,hr,hx,nr_b5,nx_b5,RR,seval];refine aU (hF) ?_;simp only[RR,seval];apply z;clear z;refine bL fun F1 M1 hfr hH=>?_;have g0:=hfr 0;have g1:=hfr 1;have g5:=hfr 5;have g10:=hfr 10;have gr:=hH r;have gx:=hH x;have gb5:=hH b5
  try simp only[hr,hx,nr_b5,nx_b5,RR,seval]at g0 g1 g5 g10 gr gx gb5
  have hM:=funext hH;have hR0:=(hR.new hn5 _).same hH;have hW0:=(hW.new hn5 _).same hH;have hk0:cM r vv abs vo vo H M1:=by rw[hM];exact(cM.refl _ _ _ _ _).updN hn5 _
  have f0:=g0;clear g0;have f1:=g1;clear g1;have f5:=g5;clear g5;have f10:=g10;clear g10;have hr:=gr;clear gr;have hx:=gx;clear gx;have hb5:=gb5;clear gb5;clear hfr hH;refine aB fun _ z=>aA rfl ?_;simp only[f0,f1,f5,hb5,hg0,RR,seval];refine gV (hVa _ hR0 hW0 hx) (fun _=>trivial) fun w1 vo1 H1 uw1 hwv1 hne1 hR1 hk1=>?_;obtain⟨r2,hc2,hcases⟩:=Xt hne1 h;have hr:=hR1.r;have hx:=hR0.keep hx (by decide) (by decide) hk1;have hb5:=hR0.keep hb5 (by decide) (by decide) hk1;have hW1:=hW0.keep hR0 hk1;simp only[RR,seval];apply z;clear z;refine aB fun _ z=>aA rfl ?_;simp only[f0,f1,f5,hb5,hg1,RR,seval];refine gV (hVb _ _ _ _ _ hR1 hW1 hx hc2) (fun _=>trivial) fun w2 vo2 H2 uw2 hwv2 hne2 hR2 hk2=>?_;have hr:=hR2.r;have hx:=hR1.keep hx (by decide) (by decide) hk2;have hb5:=hR1.keep hb5 (by decide) (by decide) hk2;have hW2:=hW1.keep hR1 hk2;have hk02:=((hk0.trans hk1).trans hk2).w x wv;simp only[RR,seval];apply z;clear z;refine aH ?_;refine aB fun _ z=>aA rfl ?_;simp only[f0,hr,RR,seval];apply z;clear z;refine aF _ rfl (fun hc13=>?_) (fun hc13=>?_)
  ·obtain⟨e1,s1,hr2⟩:=mJ (o:=r2) (by simpa using hc13)
   have ho:o= .fin e1 s1:=by
    rcases hcases with⟨x1,s1',_,_,h4⟩|⟨e2,s2,_,h3,h4⟩
    ·rw[hr2]at h4
     exact(Option.some.inj (show some (Rz.fin e1 s1)=some o from h4)).symm
    rw[hr2]at h3;cases h3;exact h4
   subst ho;subst hr2;refine aQ ?_;simp only[aX,aN,bI,RR,seval];exact aW.run ⟨ow,false,0,vo2,rfl,rfl,hu,by simp [cC],(fun _=>rfl),(fun _ _ e=>by cases e),(fun e s h=>by cases h;exact hne2 _ _ rfl),hx,hW2,hR2,hk02⟩
  obtain⟨x2,s2,rfl⟩:=mH (o:=r2) hne2 (by simpa using hc13);obtain rfl:=hwv2 _ _ rfl
  obtain⟨x1,s1,rfl,h3⟩: ∃x s1,r1= .val x s1∧(if 0≤ii then bindR (Oe ii x s2) fun j st=>some (Rz.val ((none:Option Int),ow) (rA ii j w2 st))else none)=some o:=by
   rcases hcases with⟨x1,s1,q1,_,q3⟩|⟨e2,s3,_,q3,_⟩
   ·exact⟨x1,s1,q1,q3⟩
   cases q3
  obtain rfl:=hwv1 _ _ rfl;have hR2:dK p cx r vv abs s2 vo2 0 H2:=hR2;have hr:=hR2.r;by_cases z0:0≤ii
  rotate_left
  ·rw[if_neg z0]at h3;cases h3
  rw[if_pos z0]at h3;obtain⟨ia,rfl⟩:=Int.eq_ofNat_of_zero_le z0;simp only[Int.toNat_natCast,Oe]at h3
  obtain⟨la,hla⟩: ∃la,s2.arrs[ia]?=some la:=by
   cases hla:s2.arrs[ia]? with
   |none=>rw[hla]at h3;cases h3
   |some la=>exact⟨la,rfl⟩
  rw[hla]at h3;simp only at h3;have hl:ia<abs.length:=by rw[hR2.al];exact(aZ.1 hla).1
  have hb:=aG hl;generalize abs[ia]=ba at hb;have hgar:=mK abs s2.arrs ia ba la hb hla;have hba:=hR2.a ia ba la hb hla;have hlen:=(hR2.ua la (aL hla)).1;obtain⟨m1,rfl⟩:=Int.eq_ofNat_of_zero_le uw1.1;have hx2:=uw1.2;have e1:IntKind.wrap .u64 (m1:Int)=(m1:Int):=by simp [IntKind.wrap,IntKind.signed,IntKind.bits];omega
  have e2:IntKind.wrap .u64 (la.length:Int)=(la.length:Int):=by simp [IntKind.wrap,IntKind.signed,IntKind.bits];omega
  rw[Int.toNat_natCast]at h3;have nba:ba≠r:=hR2.nr hba;have nba':r≠ba:=fun e=>nba e.symm;have nbx:ba≠x:=fun e=>by rw[e,hx]at hba;cases hba
  have nbx':x≠ba:=fun e=>nbx e.symm;have hr:=hR2.r;refine aM ?_;try simp only[RR]
  refine aH ?_;refine aB fun _ z=>aA rfl ?_;simp only[f0,f10,hr,hgar,e1,e2,RR,seval];apply z;clear z;refine aF _ rfl (fun hc14=>?_) (fun hc14=>?_)
  ·have hf: ¬m1<la.length:=by have:=aC hc14;omega
   rw[if_neg hf]at h3;cases h3;refine aB fun _ z=>aA rfl ?_;simp only[f0,hr,RR,seval];apply z;clear z;have hxf:=(bY H2 (some (.rows 11 [[.isl 1 (p.vars.map bK), .isl 2 (p.arrs.map Ar.row), .isl 5 (p.funs.map Fu.row), .str cx.inp, .int .i64 cx.fuel,vv, .isl 1 (dL abs s2.arrs),vo2, .int .i64 s2.read, .int .i64 s2.ticks, .int .i64 3]])) nxr).trans hx;have hWf:=hW2.off (hW2.h.offsz hR2.r (by decide)) (some (.rows 11 [[.isl 1 (p.vars.map bK), .isl 2 (p.arrs.map Ar.row), .isl 5 (p.funs.map Fu.row), .str cx.inp, .int .i64 cx.fuel,vv, .isl 1 (dL abs s2.arrs),vo2, .int .i64 s2.read, .int .i64 s2.ticks, .int .i64 3]]));refine aQ ?_;simp only[aX,aN,bI,RR,seval];exact aW.run ⟨ow,false,0,vo2,rfl,rfl,hu,by simp [cC],(fun _=>rfl),(fun _ _ e=>by cases e),(fun e s h=>by cases h;decide),hxf,hWf,dK.turn hR2 3 rfl rfl rfl hR2.rd hR2.tk,hk02.trans ((cM.run _).w x wv)⟩
  have hf:m1<la.length:=by have:=aE hc14;omega
  have zf:(m1:Int)<(la.length:Int):=by omega
  rw[if_pos hf]at h3;simp only[bindR,Option.some.injEq]at h3;have hgy:=fQ (aG hf);refine aM ?_;try simp only[RR]
  refine aA rfl ?_;simp only[f0,f10,hr,hba,hgar,hgy,zf,RR,seval]
  try simp only[aX,aN,bI,seval]
  have hxf:=(bY H2 (some (.rows 1 ((la.map cZ).set m1 [.int .u32 w2]))) nbx').trans hx;have hWf:=hW2.off (hW2.offa (aL hb)) (some (.rows 1 ((la.map cZ).set m1 [.int .u32 w2])));have hRf:=dK.setA hR2 hb hla m1 w2 uw2;subst h3;exact aW.run ⟨ow,false,0,vo2,rfl,rfl,hu,by simp [cC],(fun _=>rfl),(fun _ _ e=>by cases e;exact⟨rfl,rfl,rfl⟩),(fun _ _ e=>by cases e),hxf,hWf,hRf,hk02.trans ((cM.arr (aL hb) _).w x wv)⟩
set_option maxHeartbeats 4000000 in
theorem Nd (ih:sS p cx r vv abs n) (hj:Om p cx) (i:Nat) (rs:cR→Bool×Int) (ow:List Int) (e:Sm) (hkd:e.kind=3) (st:RS) (vo:AV) (H:Hp) (x:Nat) (wv:AV) (o:Rz (Option Int×List Int)) (he:e.ok) (hU: ∀u∈hJ e,UJ p i rs u) (hKE: ∀u∈dG e.es,UJ p i rs u) (hKT: ∀u∈cT e.thn,UJ p i rs u) (hKU: ∀u∈cT e.els,UJ p i rs u) (hR:dK p cx r vv abs st vo 0 H) (hW:eO vv abs vo wv ow H) (hu: ∀y∈ow,cC y) (hx:H x=some (.rows 4 [[.int .i64 i,wv, .bool false, .int .u32 0]])) (h:kQ cx (n+1) rs ow e st=some o):
  gK cN 107 [.ptr 11 r 0 0, .ptr 4 x 0 0, .agg e.row] H (mX p cx r vv abs vo x i wv ow.length H o):=by
 obtain⟨k,s,l,t,u⟩:=e;have hr:=hR.r;have hes:=he.es;have hth:=he.thn;have hel:=he.els;simp only[Sm.es,Sm.thn,Sm.els,Sm.kind]at hes hth hel hKE hKT hKU hkd;have hrow:(Sm.mk k s l t u).row=[.int .i64 k, .str s, .isl 5 (l.map Ex.row), .isl 5 (t.map Sm.row), .isl 5 (u.map Sm.row)]:=Sm.row_eq _;rw[hrow];clear hrow;have nxr:x≠r:=fun e=>by rw[e,hr]at hx;cases hx
 have nrx:r≠x:=fun e=>nxr e.symm;simp only[kQ]at h;have hV:=fun(j:Nat) (a:Ex) (hj:l[j]?=some a) st vo en H o h3 h4 h5 h6=>ih.V i rs ow a st vo en H x wv false 0 o (hes.all _ (aL hj)) (fun u hu=>hKE u ((dP (aL hj)).1 u hu)) (fun u hu=>hKE u ((dP (aL hj)).2 u hu)) h3 h4 hu h5 h6;have hpav:p.av= .agg [.isl 1 (p.vars.map bK), .isl 2 (p.arrs.map Ar.row), .isl 5 (p.funs.map Fu.row)]:=rfl;obtain⟨HX,hHX⟩: ∃X,X=H:=⟨_,rfl⟩;subst hkd;simp only[show ¬(3:Int)=1 by decide,show ¬(3:Int)=2 by decide,if_false,if_true]at h
 cases hl0:l[0]? with
 |none=>rw[hl0]at h;cases h
 |some a=>
  simp only[hl0]at h;have hg0:=nK hl0
  obtain⟨r1,h1⟩: ∃r1,gB cx n rs ow a st=some r1:=by
   cases h1:gB cx n rs ow a st with
   |none=>rw[h1]at h;cases h
   |some r1=>exact⟨r1,rfl⟩
  rw[h1]at h;have hVa:=fun H' g1 g2 g3=>hV 0 a hl0 st vo 0 H' r1 g1 g2 g3 (.inl ⟨rfl,h1⟩);rw[a.row_eq]at hVa;refine bD 251 [] Tryz.func107 rfl rfl rfl rfl ?_;refine aB fun _ z=>aA rfl ?_;simp only[RR,seval];refine aO fun b5 hn5=>?_;have nb5_r:b5≠r:=fun e=>by rw[e]at hn5;simp only[hr,seval,reduceCtorEq]at hn5
  have nr_b5:r≠b5:=fun e=>nb5_r e.symm;have nb5_x:b5≠x:=fun e=>by rw[e]at hn5;simp only[hx,seval,reduceCtorEq]at hn5
  have nx_b5:x≠b5:=fun e=>nb5_x e.symm;simp only[RR,seval];apply z;clear z;refine aB fun _ z=>aA rfl ?_;simp only[RR,seval];apply z;clear z;refine aI ?_;refine aB fun _ z=>aA rfl ?_;simp only[RR,seval];apply z;clear z;refine aF false rfl (fun hc=>by cases hc) (fun _=>?_);refine aB fun _ z=>aA rfl ?_;simp only[RR,seval];apply z;clear z;refine aF false rfl (fun hc=>by cases hc) (fun _=>?_);refine aB fun _ z=>aA rfl ?_;simp only[RR,seval];apply z;clear z;refine aF true rfl (fun _=>?_) (fun hc=>by cases hc);refine bL fun F1 M1 hfr hH=>?_;have g0:=hfr 0;have g1:=hfr 1;have g5:=hfr 5;have gr:=hH r;have gx:=hH x;have gb5:=hH b5
  try simp only[hr,hx,nr_b5,nx_b5,RR,seval]at g0 g1 g5 gr gx gb5
  have hM:=funext hH;have hR0:=(hR.new hn5 _).same hH;have hW0:=(hW.new hn5 _).same hH;have hk0:cM r vv abs vo vo H M1:=by rw[hM];exact(cM.refl _ _ _ _ _).updN hn5 _
  have f0:=g0;clear g0;have f1:=g1;clear g1;have f5:=g5;clear g5;have hr:=gr;clear gr;have hx:=gx;clear gx;have hb5:=gb5;clear gb5;clear hfr hH;refine aB fun _ z=>aA rfl ?_;simp only[f0,f1,f5,hb5,hg0,RR,seval];refine gV (hVa _ hR0 hW0 hx) (fun _=>trivial) fun w1 vo1 H1 uw1 hwv1 hne1 hR1 hk1=>?_;have hr:=hR1.r;have hx:=hR0.keep hx (by decide) (by decide) hk1;have hb5:=hR0.keep hb5 (by decide) (by decide) hk1;have hW1:=hW0.keep hR0 hk1;have hk01:=(hk0.trans hk1).w x wv;simp only[RR,seval];apply z;clear z;refine aH ?_;refine aB fun _ z=>aA rfl ?_;simp only[f0,hr,RR,seval];apply z;clear z;refine aF _ rfl (fun hc19=>?_) (fun hc19=>?_)
  ·obtain⟨e1,s1,rfl⟩:=mJ (o:=r1) (by simpa using hc19)
   obtain rfl:=Option.some.inj (show some (Rz.fin e1 s1)=some o from h);refine aQ ?_;simp only[aX,aN,bI,RR,seval];exact aW.run ⟨ow,false,0,vo1,rfl,rfl,hu,by simp [cC],(fun _=>rfl),(fun _ _ e=>by cases e),(fun e s h=>by cases h;exact hne1 _ _ rfl),hx,hW1,hR1,hk01⟩
  obtain⟨x1,s1,rfl⟩:=mH (o:=r1) hne1 (by simpa using hc19);obtain rfl:=hwv1 _ _ rfl;have hR1:dK p cx r vv abs s1 vo1 0 H1:=hR1;have hr:=hR1.r;have h:bindR (some (kX w1 s1)) (fun _ st=>some (Rz.val ((none:Option Int),ow) st))=some o:=h;have hown:=hR1.o;have hub:=hR1.ub
  have hvo: ∃m,s1.out.length=m∧(vo1= .nsl∧m=0∨ ∃b,vo1= .osl 1 b m):=⟨_,rfl,by
   rcases hown with⟨h1,h2⟩|⟨b,h1,h2⟩
   ·exact .inl ⟨h1,by simpa using h2⟩
   exact .inr ⟨b,by simpa using h1⟩⟩
  obtain⟨m,hm,hvo⟩:=hvo
  have hc:((UInt8.ofNat (IntKind.wrap .u8 w1).toNat).toNat:Int)=IntKind.wrap .u8 w1:=by
   have h1:IntKind.wrap .u8 w1=w1 % 256:=by simp [IntKind.wrap,IntKind.signed,IntKind.bits]
   rw[h1];have:=Int.emod_nonneg w1 (show(256:Int)≠0 by decide);have:=Int.emod_lt_of_pos w1 (show(0:Int)<256 by decide);simp only[UInt8.toNat_ofNat'];omega
  have hrow:[AV.int .u8 (IntKind.wrap .u8 w1)]=jX (UInt8.ofNat (IntKind.wrap .u8 w1).toNat):=by unfold jX;rw[hc]
  have hx':=hx;rcases hvo with⟨rfl,rfl⟩|⟨b,rfl⟩
  all_goals
   refine aM ?_;try simp only[RR]
   refine aH ?_;refine aB fun _ z=>aA rfl ?_;simp only[f0,hr,RR,seval];apply z;clear z;refine aF _ rfl (fun hc20=>?_) (fun hc20=>?_)
   ·try (cases hc20;done)
    all_goals
     have zf:65536≤s1.out.length:=by have:=aC hc20;omega
     unfold kX at h;rw[if_pos zf]at h;cases h;refine aB fun _ z=>aA rfl ?_;simp only[f0,hr,RR,seval];apply z;clear z;have hxf:=fun o=>(bY H1 o nxr).trans hx';have hWf:=fun o=>hW1.off (hW1.h.offsz hR1.r (by decide)) o;refine aQ ?_;simp only[aX,aN,bI,RR,seval];exact aW.run ⟨ow,false,0,_,rfl,rfl,hu,by simp [cC],(fun _=>rfl),(fun _ _ e=>by cases e),(fun e s h=>by cases h;decide),hxf _,hWf _,dK.turn hR1 4 rfl rfl rfl hR1.rd hR1.tk,hk01.trans ((cM.run _).w x wv)⟩
   try (cases hc20;done)
   all_goals
    have zf: ¬65536≤s1.out.length:=by first|omega|(have:=aE hc20;omega)
    unfold kX at h;rw[if_neg zf]at h;cases h;refine aM ?_;try simp only[RR]
    refine aA rfl ?_;simp only[f0,hr,RR,seval];refine dH ?_;simp only[RR,seval];refine gT hown (by simp only[aD,bP,List.length_nil];omega) (fun _ _=>trivial) fun v' H' ho' hk' hg'=>?_;have hce:=ho'.cells;have hoe:=ho'.one1;have hr:=hk' r _ hr (hown.offsz hr (by decide) _ _);simp only[hce,hoe,Option.bind_some,List.drop,hr,RR,seval];rw[hrow]at ho';obtain⟨g1,g2⟩:=hR1.put (by omega) ho' hk' hg';have hxf:=hR1.keep hx' (by decide) (by decide) g2;have hWf:=hW1.keep hR1 g2;have hkf:=hk01.trans (g2.w x wv)
    try simp only[aX,aN,bI]
    exact aW.run ⟨ow,false,0,v',rfl,rfl,hu,by simp [cC],(fun _=>rfl),(fun _ _ e=>by cases e;exact⟨rfl,rfl,rfl⟩),(fun _ _ e=>by cases e),hxf,hWf,g1,hkf⟩
set_option maxHeartbeats 4000000 in
theorem Se (ih:sS p cx r vv abs n) (hj:Om p cx) (i:Nat) (rs:cR→Bool×Int) (ow:List Int) (e:Sm) (hkd:e.kind=4) (st:RS) (vo:AV) (H:Hp) (x:Nat) (wv:AV) (o:Rz (Option Int×List Int)) (he:e.ok) (hU: ∀u∈hJ e,UJ p i rs u) (hKE: ∀u∈dG e.es,UJ p i rs u) (hKT: ∀u∈cT e.thn,UJ p i rs u) (hKU: ∀u∈cT e.els,UJ p i rs u) (hR:dK p cx r vv abs st vo 0 H) (hW:eO vv abs vo wv ow H) (hu: ∀y∈ow,cC y) (hx:H x=some (.rows 4 [[.int .i64 i,wv, .bool false, .int .u32 0]])) (h:kQ cx (n+1) rs ow e st=some o):
  gK cN 107 [.ptr 11 r 0 0, .ptr 4 x 0 0, .agg e.row] H (mX p cx r vv abs vo x i wv ow.length H o):=by
 obtain⟨k,s,l,t,u⟩:=e;have hr:=hR.r;have hes:=he.es;have hth:=he.thn;have hel:=he.els;simp only[Sm.es,Sm.thn,Sm.els,Sm.kind]at hes hth hel hKE hKT hKU hkd;have hrow:(Sm.mk k s l t u).row=[.int .i64 k, .str s, .isl 5 (l.map Ex.row), .isl 5 (t.map Sm.row), .isl 5 (u.map Sm.row)]:=Sm.row_eq _;rw[hrow];clear hrow;have nxr:x≠r:=fun e=>by rw[e,hr]at hx;cases hx
 have nrx:r≠x:=fun e=>nxr e.symm;simp only[kQ]at h;have hV:=fun(j:Nat) (a:Ex) (hj:l[j]?=some a) st vo en H o h3 h4 h5 h6=>ih.V i rs ow a st vo en H x wv false 0 o (hes.all _ (aL hj)) (fun u hu=>hKE u ((dP (aL hj)).1 u hu)) (fun u hu=>hKE u ((dP (aL hj)).2 u hu)) h3 h4 hu h5 h6;have hpav:p.av= .agg [.isl 1 (p.vars.map bK), .isl 2 (p.arrs.map Ar.row), .isl 5 (p.funs.map Fu.row)]:=rfl;obtain⟨HX,hHX⟩: ∃X,X=H:=⟨_,rfl⟩;subst hkd;simp only[show ¬(4:Int)=1 by decide,show ¬(4:Int)=2 by decide,show ¬(4:Int)=3 by decide,if_false,if_true]at h
 cases hl0:l[0]? with
 |none=>rw[hl0]at h;cases h
 |some a=>
  simp only[hl0]at h;have hg0:=nK hl0
  obtain⟨r1,h1⟩: ∃r1,gB cx n rs ow a st=some r1:=by
   cases h1:gB cx n rs ow a st with
   |none=>rw[h1]at h;cases h
   |some r1=>exact⟨r1,rfl⟩
  rw[h1]at h;have hVa:=fun H' g1 g2 g3=>hV 0 a hl0 st vo 0 H' r1 g1 g2 g3 (.inl ⟨rfl,h1⟩);rw[a.row_eq]at hVa;refine bD 251 [] Tryz.func107 rfl rfl rfl rfl ?_;refine aB fun _ z=>aA rfl ?_;simp only[RR,seval];refine aO fun b5 hn5=>?_;have nb5_r:b5≠r:=fun e=>by rw[e]at hn5;simp only[hr,seval,reduceCtorEq]at hn5
  have nr_b5:r≠b5:=fun e=>nb5_r e.symm;have nb5_x:b5≠x:=fun e=>by rw[e]at hn5;simp only[hx,seval,reduceCtorEq]at hn5
  have nx_b5:x≠b5:=fun e=>nb5_x e.symm;simp only[RR,seval];apply z;clear z;refine aB fun _ z=>aA rfl ?_;simp only[RR,seval];apply z;clear z;refine aI ?_;refine aB fun _ z=>aA rfl ?_;simp only[RR,seval];apply z;clear z;refine aF false rfl (fun hc=>by cases hc) (fun _=>?_);refine aB fun _ z=>aA rfl ?_;simp only[RR,seval];apply z;clear z;refine aF false rfl (fun hc=>by cases hc) (fun _=>?_);refine aB fun _ z=>aA rfl ?_;simp only[RR,seval];apply z;clear z;refine aF false rfl (fun hc=>by cases hc) (fun _=>?_);refine aB fun _ z=>aA rfl ?_;simp only[RR,seval];apply z;clear z;refine aF true rfl (fun _=>?_) (fun hc=>by cases hc);refine bL fun F1 M1 hfr hH=>?_;have g0:=hfr 0;have g1:=hfr 1;have g5:=hfr 5;have gr:=hH r;have gx:=hH x;have gb5:=hH b5
  try simp only[hr,hx,nr_b5,nx_b5,RR,seval]at g0 g1 g5 gr gx gb5
  have hM:=funext hH;have hR0:=(hR.new hn5 _).same hH;have hW0:=(hW.new hn5 _).same hH;have hk0:cM r vv abs vo vo H M1:=by rw[hM];exact(cM.refl _ _ _ _ _).updN hn5 _
  have f0:=g0;clear g0;have f1:=g1;clear g1;have f5:=g5;clear g5;have hr:=gr;clear gr;have hx:=gx;clear gx;have hb5:=gb5;clear gb5;clear hfr hH;refine aB fun _ z=>aA rfl ?_;simp only[f0,f1,f5,hb5,hg0,RR,seval];refine gV (hVa _ hR0 hW0 hx) (fun _=>trivial) fun w1 vo1 H1 uw1 hwv1 hne1 hR1 hk1=>?_;have hr:=hR1.r;have hx:=hR0.keep hx (by decide) (by decide) hk1;have hb5:=hR0.keep hb5 (by decide) (by decide) hk1;have hW1:=hW0.keep hR0 hk1;have hk01:=(hk0.trans hk1).w x wv;simp only[RR,seval];apply z;clear z;refine aB fun _ z=>aA rfl ?_;simp only[RR,seval];apply z;clear z;refine aF _ rfl (fun hc25=>?_) (fun hc25=>?_)
  ·have hw1: ¬w1=0:=by simpa using hc25
   have hc2:oQ (gZ r1) r1.st (iH cx n rs ow t r1.st) o:=by
    cases r1 with
    |fin e1 s1=>
     obtain rfl:=Option.some.inj (show some (Rz.fin e1 s1)=some o from h);exact .inr ⟨hne1 _ _ rfl,rfl⟩
    |val x1 s1=>
     obtain rfl:=hwv1 _ _ rfl;simp only[bindR]at h;rw[if_neg hw1]at h;exact .inl ⟨rfl,h⟩
   refine aA rfl ?_;simp only[f0,f1,f5,hb5,RR,seval];refine yG (ih.L i rs ow t r1.st vo1 (gZ r1) _ x wv false 0 o hth hKT hR1 hW1 hu hx (by simp [cC]) (fun _=>rfl) (fun _=>rfl) hc2) (fun _=>trivial) fun ow2 bk2 vl2 vo2 H2 g1 g2 g3 g4 g5 g6 g7 g8 g9 g10=>?_;simp only[RR,seval]
   try simp only[aX,aN,bI,seval]
   exact aW.run ⟨ow2,bk2,vl2,vo2,rfl,g1,g2,g3,g4,g5,g6,g7,g8,g9,hk01.trans g10⟩
  have hw1:w1=0:=by simpa using hc25
  have hc2:oQ (gZ r1) r1.st (iH cx n rs ow u r1.st) o:=by
   cases r1 with
   |fin e1 s1=>
    obtain rfl:=Option.some.inj (show some (Rz.fin e1 s1)=some o from h);exact .inr ⟨hne1 _ _ rfl,rfl⟩
   |val x1 s1=>
    obtain rfl:=hwv1 _ _ rfl;simp only[bindR]at h;rw[if_pos hw1]at h;exact .inl ⟨rfl,h⟩
  refine aA rfl ?_;simp only[f0,f1,f5,hb5,RR,seval];refine yG (ih.L i rs ow u r1.st vo1 (gZ r1) _ x wv false 0 o hel hKU hR1 hW1 hu hx (by simp [cC]) (fun _=>rfl) (fun _=>rfl) hc2) (fun _=>trivial) fun ow2 bk2 vl2 vo2 H2 g1 g2 g3 g4 g5 g6 g7 g8 g9 g10=>?_;simp only[RR,seval]
  try simp only[aX,aN,bI,seval]
  exact aW.run ⟨ow2,bk2,vl2,vo2,rfl,g1,g2,g3,g4,g5,g6,g7,g8,g9,hk01.trans g10⟩
end
end Go.Proofs.YtnfbbjhdflhmjaaGreatDoor
