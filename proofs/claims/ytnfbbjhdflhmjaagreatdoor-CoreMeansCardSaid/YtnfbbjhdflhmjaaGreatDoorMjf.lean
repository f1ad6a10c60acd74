/- Chapter 18, the judge's: a function's body; a call. Chapter 18, the judge's: a call. Chapter 18, the judge's: statements one behind the other. -/
import Derived.Test.YtnfbbjhdflhmjaaGreatDoorMjc
import Derived.Test.YtnfbbjhdflhmjaaGreatDoorMi
set_option linter.unusedSimpArgs false
set_option linter.unusedVariables false
set_option maxRecDepth 10000
namespace Go.Al
section
variable {p : Pg} {cx : Cx} {r : Nat} {vv vo wv wv' : AV} {abs : List Nat} {st : RS} {en : Int} {ow : List Int} {ys : List (List AV)} {H H' : Hp}
theorem dK.grow (h:dK p cx r vv abs st vo en H) (hw:eO vv abs vo wv ow H) (hk: ∀b o,H b=some o→wv≠ .osl 1 b (ow.map cZ).length→H' b=some o):dK p cx r vv abs st vo en H':=by
 have own: ∀{v:AV} {rows:List (List AV)},dS 1 v rows H→(∀s b n,v= .osl s b n→Al.off wv b)→dS 1 v rows H':=fun h ho=>by
  rcases h with g|⟨b,e,hb⟩
  ·exact .inl g
  exact .inr ⟨b,e,hk b _ hb (ho _ _ _ e _ _)⟩
 refine {h with r:=hk _ _ h.r (hw.h.offsz h.r (by decide) _ _),v:=own h.v fun s b n e s' n' e'=>hw.nv _ _ _ e' _ _ e,a:=fun i b l h1 h2=>hk _ _ (h.a i b l h1 h2) fun e=>hw.na _ _ _ e (aL h1),o:=own h.o fun s b n e s' n' e'=>hw.nf _ _ _ e' _ _ e}
theorem eO.grow (hw:eO vv abs vo wv ow H) (h:dK p cx r vv abs st vo en H) {x:Int} (ho:dS 1 wv' (ow.map cZ++[[.int .u32 x]]) H') (hg: ∀b,Al.off wv b→H b≠none→Al.off wv' b):eO vv abs vo wv' (ow++[x]) H':=by
 have some': ∀{v:AV} {rows:List (List AV)} {s b n:Nat},dS 1 v rows H→v= .osl s b n→H b≠none:=fun h e=>h.there _ _ _ e;refine⟨by rw[List.map_append];exact ho,fun s b n e s' n' e'=>?_,fun s b n e hm=>?_,fun s b n e s' n' e'=>?_⟩
 ·exact hg b (fun s2 n2 e2=>hw.nv _ _ _ e2 _ _ e') (some' h.v e') _ _ e
 ·obtain⟨l,hl⟩:=h.abs_some hm
  exact hg b (fun s2 n2 e2=>hw.na _ _ _ e2 hm) (by rw[hl];exact bS _) _ _ e
 exact hg b (fun s2 n2 e2=>hw.nf _ _ _ e2 _ _ e') (some' h.o e') _ _ e
theorem eO.nil:eO vv abs vo .nsl [] H:=⟨.inl ⟨rfl,rfl⟩,(fun _ _ _ e=>by cases e),(fun _ _ _ e=>by cases e),(fun _ _ _ e=>by cases e)⟩
theorem eO.other {wv2:AV} {ow2:List Int} (h:eO vv abs vo wv2 ow2 H) (hap: ∀s b n,wv2= .osl s b n→Al.off wv b) (hk: ∀b o,H b=some o→wv≠ .osl 1 b (ow.map cZ).length→H' b=some o):eO vv abs vo wv2 ow2 H':=by
 refine {h with h:=?_};rcases h.h with g|⟨b,e,hb⟩
 ·exact .inl g
 exact .inr ⟨b,e,hk b _ hb (hap _ _ _ e _ _)⟩
end
end Go.Al
namespace Go.Proofs.YtnfbbjhdflhmjaaGreatDoor
open Go.Al
structure Om (p:Pg) (cx:Cx):Prop where
 funs:cx.funs=p.funs.map (oD (eW p))
 cx:yP cx
 uses: ∀(j:Nat) g,p.funs[j]?=some g→ ∀u∈cT g.body,UJ p j (nU (eW p) (qH g)) u
 f:p.funs.length≤10000
section
variable {p : Pg} {cx : Cx} {r : Nat} {vv : AV} {abs : List Nat} {n : Nat}
set_option maxHeartbeats 2000000 in
theorem tO (ih:sS p cx r vv abs n) (hj:Om p cx) (j:Nat) (g:Fu) (hg:p.funs[j]?=some g) (ws:List Int) (st:RS) (vo:AV) (H:Hp) (wv:AV) (ro:Rz (Option Int×List Int)) (hR:dK p cx r vv abs st vo 0 H) (hW:eO vv abs vo wv ws H) (hu: ∀y∈ws,cC y) (hl:ws.length≤3000000) (hll:g.locs.length≤3000000) (h:iH cx n (nU (eW p) (qH g)) (ws++List.replicate g.locs.length 0) g.body st=some ro):
  gK cN 40 [.ptr 11 r 0 0, .int .i64 j,wv] H (fun ae H'=> ∃w vo',ae= .ret (.int .u32 w)∧cC w∧(∀q s,ro= .val q s→w=q.1.getD 0)∧(∀e s,ro= .fin e s→e≠0)∧dK p cx r vv abs ro.st vo' (gZ ro) H'∧fO r vv abs vo vo' r wv H H'):=by
 have hr:=hR.r;have hgr:=pG hg;have hjl:=(aZ.1 hg).1
 have hbd:Af g.body:=by
  have:=hj.cx.body (oD (eW p) g) (by rw[hj.funs];exact List.mem_map.2 ⟨g,aL hg,rfl⟩);exact this
 have hus:=hj.uses j g hg;obtain⟨HX,hHX⟩: ∃X,X=H:=⟨_,rfl⟩;refine bD 46 [.tmp 6] Tryz.func40 rfl rfl rfl rfl ?_;refine aB fun _ z=>aA rfl ?_;simp only[RR,seval];apply z;clear z;refine aH ?_;refine aB fun _ z=>aA rfl ?_;simp only[RR,seval];apply z;clear z;refine bL fun F1 M1 hfr hH=>?_;have g0:=hfr 0;have g1:=hfr 1;have g2:=hfr 2;have g6:=hfr 6;have g7:=hfr 7;have gr:=hH r
 try simp only[hr,RR,seval]at g0 g1 g2 g6 g7 gr
 have hM:=funext hH;have f0:=g0;clear g0;have f1:=g1;clear g1;have f2:=g2;clear g2;have f6:=g6;clear g6;have f7:=g7;clear g7;have hr:=gr;clear gr;clear hfr hH;refine aI ?_;refine cP [0,1,6] (g.locs.length) (fun k fr M=>fr 7= .int .i64 (k:Nat)∧ ∃wk,fr 2=wk∧eO vv abs vo wk (ws++List.replicate k 0) M∧dK p cx r vv abs st vo 0 M∧(∀b o,HX b=some o→Al.off wv b→M b=some o∧Al.off wk b)) ⟨f7,wv,f2,(by rw[hM,List.replicate_zero,List.append_nil];exact hW),(by rw[hM];exact hR),(fun b o h1 h2=>⟨by rw[hM,←hHX];exact h1,h2⟩)⟩ ?_;rintro k F2 M2 hk0 ⟨fx,wk,f2,hWk,hRk,hgk⟩ agx K0 hK0;have f0:=(agx 0 rfl).trans f0;have f1:=(agx 1 rfl).trans f1;have f6:=(agx 6 rfl).trans f6;have f7:=fx;clear fx;have ag0:=bE.refl [0,1,6] F2;clear agx;have hr:=hRk.r;refine aH ?_;refine aB fun _ z=>aA rfl ?_;simp only[f0,f1,f7,hr,hgr,aD,RR,seval];apply z;clear z;refine aF _ rfl (fun hc=>?_) (fun hc=>?_)
 ·have hlt0:k<g.locs.length:=by have:=aC hc;omega
  clear hc;have hrep:List.replicate (k+1) (0:Int)=List.replicate k 0++[0]:=List.replicate_succ';have hlk:(ws++List.replicate k (0:Int)).length≤6000000:=by rw[bU,cO];omega
  refine aM ?_;try simp only[RR]
  refine aH ?_;refine aI ?_;refine aA rfl ?_;simp only[f2,RR,seval];refine dH ?_;simp only[RR,seval];refine gT hWk.h (by simp only[aD,bP,List.length_nil];omega) (fun _ _=>trivial) fun v' H' ho' hk' hg'=>?_;simp only[RR,seval];have hR':=hRk.grow hWk hk';have hW':=hWk.grow hRk ho' hg';have hr:=hR'.r;rw[List.append_assoc,←hrep]at hW'
  have hgk': ∀b o,HX b=some o→Al.off wv b→H' b=some o∧Al.off v' b:=fun b o h1 h2=>by
   obtain⟨g1,g2⟩:=hgk b o h1 h2;exact⟨hk' b _ g1 (g2 _ _),hg' b g2 (by rw[g1];exact bS _)⟩
  refine aA rfl ?_;simp only[f7,RR,seval]
  try rw[aR _ (by omega)]
  refine hK0 _ _ hlt0 ⟨by first|rfl|(simp only[aJ,seval];rfl),v',rfl,hW',hR',hgk'⟩ (by repeat (first|exact ag0|refine bE.upd rfl ?_))
 have hkn0:k=g.locs.length:=by have:=aE hc;omega
 clear hc;rw[hkn0]at hWk;have hce:=hWk.h.cells;have hoe:=hWk.h.one1;refine bH ?_;simp only[RR,seval];refine aB fun _ z=>aA rfl ?_;simp only[f1,f2,hce,Option.bind_some,List.drop,RR,seval];refine aO fun b29 hn29=>?_;have nb29_r:b29≠r:=fun e=>by rw[e]at hn29;simp only[hr,seval,reduceCtorEq]at hn29
 have nr_b29:r≠b29:=fun e=>nb29_r e.symm;simp only[RR,seval];apply z;clear z;refine bL fun F3 M3 hfr hH=>?_;have g0:=hfr 0;have g1:=hfr 1;have g6:=hfr 6;have g8:=hfr 8;have gr:=hH r;have gb29:=hH b29
 try simp only[f0,f1,f6,hr,nr_b29,RR,seval]at g0 g1 g6 g8 gr gb29
 have hM2:=funext hH;have f0:=g0;clear g0;have f1:=g1;clear g1;have f6:=g6;clear g6;have f8:=g8;clear g8;have hr:=gr;clear gr;have hb29:=gb29;clear gb29;clear hfr hH;have hR2:=(hRk.new hn29 (some (.rows 4 [[.int .i64 j,wk, .bool false, .int .u32 0]])));have hW2:=(hWk.new hn29 (some (.rows 4 [[.int .i64 j,wk, .bool false, .int .u32 0]])));rw[←hM2]at hR2 hW2
 have huw: ∀y∈ws++List.replicate g.locs.length 0,cC y:=fun y hy=>by
  rcases List.mem_append.1 hy with hy|hy
  ·exact hu y hy
  rw[(List.mem_replicate.1 hy).2];simp [cC]
 have hL:=ih.L j (nU (eW p) (qH g)) (ws++List.replicate g.locs.length 0) g.body st vo 0 M3 b29 wk false 0 ro hbd hus hR2 hW2 huw hb29 (by simp [cC]) (fun _=>rfl) (fun _=>rfl) (.inl ⟨rfl,h⟩);refine aB fun _ z=>aA rfl ?_;simp only[f0,f1,f8,hr,hgr,Option.bind_some,List.drop,RR,seval];refine yG hL (fun _=>trivial) fun ow' bk' vl' vo' H' g1 g2 g3 g4 g5 g6 g7 g8 g9 g10=>?_;have hb29:=g7;simp only[RR,seval];apply z;clear z;refine aB fun _ z=>aA rfl ?_;simp only[f8,hb29,Option.bind_some,List.drop,RR,seval];apply z;clear z;refine aQ ?_;simp only[aX,aN,bI,RR,seval];refine aW.run ⟨vl',vo',rfl,g3,(fun q s e=>(g5 q s e).2.2),g6,g9,fun b o hb h1 h2 h3 h4 _ h5=>?_⟩;rw[←hHX]at hb;obtain⟨q1,q2⟩:=hgk b o hb h5;have q3:b≠b29:=fun e=>by rw[e,hn29]at q1;cases q1
 exact g10 b o (by rw[hM2,bY _ _ q3];exact q1) h1 h2 h3 h4 q3 q2
end
end Go.Proofs.YtnfbbjhdflhmjaaGreatDoor
namespace Go.Proofs.YtnfbbjhdflhmjaaGreatDoor
open Go.Al
section
variable {p : Pg} {cx : Cx} {r : Nat} {vv : AV} {abs : List Nat} {n : Nat}
set_option maxHeartbeats 4000000 in
theorem Io (ih:sS p cx r vv abs n) (hj:Om p cx) (i:Nat) (rs:cR→Bool×Int) (ow:List Int) (s:cR) (l:List Ex) (st:RS) (vo:AV) (H:Hp) (x:Nat) (wv:AV) (bk:Bool) (vl:Int) (o:Rz Int) (hl:Cw l) (hU:UJ p i rs ⟨s,4,l.length⟩) (z: ∀u∈dG l,UJ p i rs u) (hR:dK p cx r vv abs st vo 0 H) (hW:eO vv abs vo wv ow H) (hu: ∀y∈ow,cC y) (hx:H x=some (.rows 4 [[.int .i64 i,wv, .bool bk, .int .u32 vl]])) (h:qI cx (n+1) rs ow (rs s).2 l st=some o):
  gK cN 138 [.ptr 11 r 0 0, .ptr 4 x 0 0, .str s, .isl 5 (l.map Ex.row)] H (Ep p cx r vv abs vo H o):=by
 have hr:=hR.r;have hfit:=hl.fit;simp only[cY]at hfit;have nxr:x≠r:=fun e=>by rw[e,hr]at hx;cases hx
 have nrx:r≠x:=fun e=>nxr e.symm;have hpav:p.av= .agg [.isl 1 (p.vars.map bK), .isl 2 (p.arrs.map Ar.row), .isl 5 (p.funs.map Fu.row)]:=rfl;have hF:=hU.f;rw[hpav]at hF;simp only at hF;obtain⟨hk1,hk2,g,hg,hgl⟩:=hU.k4;generalize cK p i s=fi at hF hk1 hk2 hg;obtain⟨kk,ii⟩:=fi;simp only at hF hk1 hk2 hg;subst hk1;rw[hk2]at h;simp only[qI]at h;by_cases z0:ii<0
 ·rw[if_pos z0]at h;cases h
 rw[if_neg z0]at h;obtain⟨j,rfl⟩:=Int.eq_ofNat_of_zero_le (show 0≤ii by omega);rw[Int.toNat_natCast]at h hg;have hcf:cx.funs[j]?=some (oD (eW p) g):=by rw[hj.funs,bN,hg];rfl
 rw[hcf]at h;simp only at h;have hfw:(oD (eW p) g).words=g.params.length+g.locs.length:=rfl;have hfr:(oD (eW p) g).res=nU (eW p) (qH g):=rfl;have hfb:(oD (eW p) g).body=g.body:=rfl;have hwords:=hj.cx.words (oD (eW p) g) (aL hcf);have hgl':g.params.length=l.length:=by omega
 by_cases hw:(oD (eW p) g).words<l.length
 ·rw[if_pos hw]at h;cases h
 rw[if_neg hw]at h
 obtain⟨ra,hA,h⟩: ∃ra,mF cx n rs ow l st=some ra∧bindR (some ra) (fun vs s=>pC cx n (oD (eW p) g) l.length vs s)=some o:=by
  cases hA:mF cx n rs ow l st with
  |none=>rw[hA]at h;cases h
  |some ra=>rw[hA]at h;exact⟨ra,rfl,h⟩
 obtain⟨HX,hHX⟩: ∃X,X=H:=⟨_,rfl⟩;generalize hfeq:oD (eW p) g=f at *;refine bD 58 [.tmp 8] Tryz.func138 rfl rfl rfl rfl ?_;refine aB fun _ z=>aA rfl ?_;simp only[RR,seval];apply z;clear z;refine aB fun K z=>?_;refine bB (fun x=>x≠r∧x≠x) [(0,3),(1,3),(2,3),(3,1),(4,3),(5,3),(6,3),(7,1),(8,3),(9,1),(10,3),(11,3),(12,3),(13,3),(14,3)] [] cX (by kernel_rfl) rfl rfl ?_;simp only[cH,hr,hx,RR,seval];refine aU (hF) ?_;simp only[RR,seval];apply z;clear z;refine aB fun _ z=>aA rfl ?_;simp only[RR,seval];apply z;clear z;refine aH ?_;refine aB fun _ z=>aA rfl ?_;simp only[RR,seval];apply z;clear z;refine bL fun F1 M1 hfr hH=>?_;have g0:=hfr 0;have g1:=hfr 1;have g3:=hfr 3;have g8:=hfr 8;have g10:=hfr 10;have g11:=hfr 11;have g12:=hfr 12;have gr:=hH r;have gx:=hH x
 try simp only[hr,hx,RR,seval]at g0 g1 g3 g8 g10 g11 g12 gr gx
 have hM:=funext hH;have f0:=g0;clear g0;have f1:=g1;clear g1;have f3:=g3;clear g3;have f8:=g8;clear g8;have f10:=g10;clear g10;have f11:=g11;clear g11;have f12:=g12;clear g12;have hr:=gr;clear gr;have hx:=gx;clear gx;clear hfr hH;refine aI ?_;refine cP [0,1,3,8,10] (l.length) (fun k fr M=>fr 12= .int .i64 (k:Nat)∧ ∃stk vok enk wk vs,fr 11=wk∧vs.length=k∧(∀y∈vs,cC y)∧eO vv abs vok wk vs M∧dK p cx r vv abs stk vok enk M∧eO vv abs vok wv ow M∧(∀s b n,wv= .osl s b n→Al.off wk b)∧M x=some (.rows 4 [[.int .i64 i,wv, .bool bk, .int .u32 vl]])∧(∀b o,HX b=some o→b≠r→Al.off vv b→b∉abs→Al.off vo b→M b=some o∧Al.off vok b∧Al.off wk b)∧((enk=0∧ ∃m rk,m≤n∧mF cx m rs ow (l.drop k) stk=some rk∧bindR (some rk) (fun vs' s=>pC cx n f l.length (vs++vs') s)=some o)∨(enk≠0∧o= .fin enk stk))) ⟨f12,st,vo,0, .nsl,[],f11,rfl,(fun y hy=>by cases hy),eO.nil,(by rw[hM];exact hR),(by rw[hM];exact hW),(fun _ _ _ _ _ _ e=>by cases e),hx,(fun b o h1 _ _ _ h2=>⟨by rw[hM,←hHX];exact h1,h2,fun _ _ e=>by cases e⟩), .inl ⟨rfl,n,ra,aY _,hA,by simpa using h⟩⟩ ?_;rintro k F2 M2 hk0 ⟨fx,stk,vok,enk,wk,vs,f11,hvs,huv,hOw,hRk,hOo,hap,hx,hkk,hcase⟩ agx K0 hK0;have f0:=(agx 0 rfl).trans f0;have f1:=(agx 1 rfl).trans f1;have f3:=(agx 3 rfl).trans f3;have f8:=(agx 8 rfl).trans f8;have f10:=(agx 10 rfl).trans f10;have f12:=fx;clear fx;have ag0:=bE.refl [0,1,3,8,10] F2;clear agx;have hr:=hRk.r;clear h hA;refine aH ?_;refine aB fun _ z=>aA rfl ?_;simp only[f3,f12,aD,RR,seval];apply z;clear z;refine aF _ rfl (fun hc=>?_) (fun hc=>?_)
 ·have hlt0:k<l.length:=by have:=aC hc;omega
  clear hc;have hg0:=aG hlt0;have hdk:l.drop k=l[k]::l.drop (k+1):=bC hlt0;generalize l[k]=a at hg0 hdk;have hge:=nK hg0;rw[hdk]at hcase
  obtain⟨r1,hcont,hnext⟩: ∃r1,oQ enk stk (gB cx n rs ow a stk) r1∧ ∀w,(∀v s,r1= .val v s→w=v)→(∀e s,r1= .fin e s→e≠0)→((gZ r1=0∧ ∃m rk,m≤n∧mF cx m rs ow (l.drop (k+1)) r1.st=some rk∧bindR (some rk) (fun vs' s=>pC cx n f l.length ((vs++[w])++vs') s)=some o)∨(gZ r1≠0∧o= .fin (gZ r1) r1.st)):=by
   rcases hcase with⟨he,m,rk,hmn,hAk,hk⟩|⟨he,ho⟩
   rotate_left
   ·exact⟨.fin enk stk, .inr ⟨he,rfl⟩,fun _ _ _=> .inr ⟨he,ho⟩⟩
   obtain⟨m',rfl⟩: ∃m',m=m'+1:=by
    cases m with
    |zero=>simp [mF]at hAk
    |succ m'=>exact⟨m',rfl⟩
   simp only[mF]at hAk
   obtain⟨r1,h1⟩: ∃r1,gB cx m' rs ow a stk=some r1:=by
    cases h1:gB cx m' rs ow a stk with
    |none=>rw[h1]at hAk;cases hAk
    |some r1=>exact⟨r1,rfl⟩
   rw[h1]at hAk;refine⟨r1, .inl ⟨he,sE (by omega) h1⟩,fun w hwv hne=>?_⟩
   cases r1 with
   |fin e s=>
    obtain rfl:=Option.some.inj (show some (Rz.fin e s)=some rk from hAk);exact .inr ⟨hne _ _ rfl,(Option.some.inj (show some (Rz.fin e s)=some o from hk)).symm⟩
   |val x1 s1=>
    obtain rfl:=hwv _ _ rfl;simp only[bindR]at hAk
    obtain⟨r',h2⟩: ∃r',mF cx m' rs ow (l.drop (k+1)) s1=some r':=by
     cases h2:mF cx m' rs ow (l.drop (k+1)) s1 with
     |none=>rw[h2]at hAk;cases hAk
     |some r'=>exact⟨r',rfl⟩
    rw[h2]at hAk;refine .inl ⟨rfl,m',r',by omega,h2, ?_⟩
    cases r' with
    |fin e s=>
     obtain rfl:=Option.some.inj (show some (Rz.fin e s)=some rk from hAk);exact hk
    |val vs' s=>
     obtain rfl:=Option.some.inj (show some (Rz.val (w::vs') s)=some rk from hAk);simpa [bindR]using hk
  have ham:=aL hg0;have hV:=ih.V i rs ow a stk vok enk M2 x wv bk vl r1 (hl.all _ ham) (fun u hu=>z u ((dP ham).1 u hu)) (fun u hu=>z u ((dP ham).2 u hu)) hRk hOo hu hx hcont;rw[a.row_eq]at hV;refine aM ?_;try simp only[RR]
  refine aH ?_;refine aI ?_;refine aA rfl ?_;simp only[f0,f1,f3,f12,f11,hge,RR,seval];refine gV hV (fun _=>trivial) fun w vo1 H1 uw hwv hne hR1 hk1=>?_;have hOw1:=hOw.keep hRk hk1;have hOo1:=hOo.keep hRk hk1;have hx1:=hRk.keep hx (by decide) (by decide) hk1;simp only[RR,seval];refine dH ?_;simp only[RR,seval];refine gT hOw1.h (by simp only[aD,bP,List.length_nil];omega) (fun _ _=>trivial) fun v' H2 ho' hk' hg'=>?_;simp only[RR,seval];have hR2:=hR1.grow hOw1 hk';have hW2:=hOw1.grow hR1 ho' hg';have hOo2:=hOo1.other hap hk';have hx2:=hk' x _ hx1 (hOw1.h.offsz hx1 (by decide) _ _);have hap2: ∀s b n,wv= .osl s b n→Al.off v' b:=fun s b n e=>hg' b (hap s b n e) (hOo1.h.there _ _ _ e)
  have hkk2: ∀b o,HX b=some o→b≠r→Al.off vv b→b∉abs→Al.off vo b→H2 b=some o∧Al.off vo1 b∧Al.off v' b:=fun b o hb h1 h2 h3 h4=>by
   obtain⟨q1,q2,q3⟩:=hkk b o hb h1 h2 h3 h4;obtain⟨q4,q5⟩:=hk1 b o q1 h1 h2 h3 q2;exact⟨hk' b o q4 (q3 _ _),q5,hg' b q3 (by rw[q4];exact bS _)⟩
  refine aA rfl ?_;simp only[f12,RR,seval]
  try rw[aR _ (by omega)]
  refine hK0 _ _ hlt0 ⟨by first|rfl|(simp only[aJ,seval];rfl),r1.st,vo1,gZ r1,v',vs++[w],rfl,(by simp [hvs]),(fun y hy=>by rcases List.mem_append.1 hy with hy|hy;exact huv y hy;rw[List.mem_singleton.1 hy];exact uw),hW2,hR2,hOo2,hap2,hx2,hkk2,hnext w hwv hne⟩ (by repeat (first|exact ag0|refine bE.upd rfl ?_))
 have hkn0:k=l.length:=by have:=aE hc;omega
 clear hc;rw[hkn0,List.drop_length]at hcase;rw[hkn0]at hvs
 have hcase:(enk=0∧pC cx n f l.length vs stk=some o)∨(enk≠0∧o= .fin enk stk):=by
  rcases hcase with⟨he,m,rk,_,hAk,hk⟩|hc
  ·refine .inl ⟨he, ?_⟩
   cases m with
   |zero=>simp [mF]at hAk
   |succ m'=>
    simp only[mF,Option.some.injEq]at hAk;subst hAk;simpa [bindR]using hk
  exact .inr hc
 refine bH ?_;simp only[RR,seval];refine aH ?_;refine aB fun _ z=>aA rfl ?_;simp only[f0,hr,RR,seval];apply z;clear z;refine aF _ rfl (fun hc7=>?_) (fun hc7=>?_)
 ·have he0:enk=0:=by simpa using hc7
  subst he0
  have hk2:pC cx n f l.length vs stk=some o:=by
   rcases hcase with⟨_,h⟩|⟨h,_⟩
   ·exact h
   exact absurd rfl h
  have hT:=tN hj.cx hRk;unfold pC at hk2;generalize hTT:eQ cx stk=tt at hk2 hT
  have hend:(∃e s,tt= .fin e s∧o= .fin e s)∨ ∃s ro,tt= .val () s∧iH cx n f.res (vs++List.replicate (f.words-l.length) 0) f.body s=some ro∧bindR (some ro) (fun r st=>some (Rz.val (r.1.getD 0) st))=some o:=by
   cases tt with
   |fin e s=>exact .inl ⟨e,s,rfl,(Option.some.inj (show some (Rz.fin e s)=some o from hk2)).symm⟩
   |val q s=>
    simp only[bindR]at hk2
    cases hL:iH cx n f.res (vs++List.replicate (f.words-l.length) 0) f.body s with
    |none=>rw[hL]at hk2;cases hk2
    |some ro=>rw[hL]at hk2;exact .inr ⟨s,ro,rfl,hL,hk2⟩
  refine aA rfl ?_;simp only[f0,RR,seval];refine tU hT (fun _=>trivial) fun H1 hne1 hR1 hk1=>?_;have hr:=hR1.r;have hOw:=hOw.keep hRk hk1
  have hkk: ∀b o,HX b=some o→b≠r→Al.off vv b→b∉abs→Al.off vo b→H1 b=some o∧Al.off vok b∧Al.off wk b:=fun b o hb h1 h2 h3 h4=>by
   obtain⟨q1,q2,q3⟩:=hkk b o hb h1 h2 h3 h4;obtain⟨q4,q5⟩:=hk1 b o q1 h1 h2 h3 q2;exact⟨q4,q5,q3⟩
  simp only[RR,seval];refine aH ?_;refine aB fun _ z=>aA rfl ?_;simp only[f0,hr,RR,seval];apply z;clear z;refine aF _ rfl (fun hc9=>?_) (fun hc9=>?_)
  ·obtain⟨e1,s1,rfl⟩:=mJ (o:=tt) (by simpa using hc9)
   obtain ho:o= .fin e1 s1:=by
    rcases hend with⟨e,s,h1,h2⟩|⟨_,_,h1,_⟩
    ·cases h1;exact h2
    cases h1
   subst ho;refine aB fun _ z=>aA rfl ?_;simp only[RR,seval];apply z;clear z;refine aQ ?_;simp only[aX,aN,bI,RR,seval];exact aW.run ⟨0,vok,rfl,by simp [cC],(fun _ _ e=>by cases e),(fun e s h=>by cases h;exact hne1 _ _ rfl),hR1,fun b o hb h1 h2 h3 h4=>by obtain⟨q1,q2,_⟩:=hkk b o (by rw[hHX];exact hb) h1 h2 h3 h4;exact⟨q1,q2⟩⟩
  obtain⟨_,s1,rfl⟩:=mH (o:=tt) hne1 (by simpa using hc9)
  obtain⟨ro,hL,hro⟩: ∃ro,iH cx n f.res (vs++List.replicate (f.words-l.length) 0) f.body s1=some ro∧bindR (some ro) (fun r st=>some (Rz.val (r.1.getD 0) st))=some o:=by
   rcases hend with⟨e,s,h1,h2⟩|⟨s,ro,h1,h2,h3⟩
   ·cases h1
   cases h1;exact⟨ro,h2,h3⟩
  rw[hfr,hfb,hfw,←hgl',Nat.add_sub_cancel_left]at hL;have hB:=tO ih hj j g hg vs s1 vok _ wk ro hR1 hOw huv (by omega) (by omega) hL;refine aM ?_;try simp only[RR]
  refine aB fun _ z=>aA rfl ?_;simp only[f0,f10,f11,RR,seval];refine jK hB (fun _=>trivial) fun ae H2 ⟨w,vo2,g1,g2,g3,g4,g5,g6⟩=>?_;subst g1
  have hfin:(∀v s,o= .val v s→w=v)∧(∀e s,o= .fin e s→e≠0)∧gZ o=gZ ro∧o.st=ro.st:=by
   cases ro with
   |fin e s=>
    obtain rfl:=Option.some.inj (show some (Rz.fin e s)=some o from hro);exact⟨(fun _ _ e=>by cases e),(fun e' s' h=>by cases h;exact g4 _ _ rfl),rfl,rfl⟩
   |val q s=>
    obtain rfl:=Option.some.inj (show some (Rz.val (q.1.getD 0) s)=some o from hro);exact⟨(fun v s' h=>by cases h;exact g3 _ _ rfl),(fun _ _ e=>by cases e),rfl,rfl⟩
  obtain⟨q1,q2,q3,q4⟩:=hfin;rw[←q3,←q4]at g5;simp only[RR,seval];apply z;clear z;refine aQ ?_;simp only[aX,aN,bI,RR,seval];refine aW.run ⟨w,vo2,rfl,g2,q1,q2,g5,fun b o hb h1 h2 h3 h4=>?_⟩;obtain⟨p1,p2,p3⟩:=hkk b o (by rw[hHX];exact hb) h1 h2 h3 h4;exact g6 b o p1 h1 h2 h3 p2 h1 p3
 have he0: ¬enk=0:=by simpa using hc7
 obtain⟨tt,htt⟩: ∃tt:Rz Unit,tt= .fin enk stk:=⟨_,rfl⟩
 have hend:(∃e s,tt= .fin e s∧o= .fin e s)∨ ∃s ro,tt= .val () s∧iH cx n f.res (vs++List.replicate (f.words-l.length) 0) f.body s=some ro∧bindR (some ro) (fun r st=>some (Rz.val (r.1.getD 0) st))=some o:=by
  rcases hcase with⟨h,_⟩|⟨_,h⟩
  ·exact absurd h he0
  exact .inl ⟨enk,stk,htt,h⟩
 have hne1: ∀e s,tt= .fin e s→e≠0:=fun e s h=>by rw[htt]at h;cases h;exact he0
 have hR1:dK p cx r vv abs tt.st vok (gZ tt) M2:=by rw[htt];exact hRk
 have hr:=hR1.r;refine aM ?_;try simp only[RR]
 refine aH ?_;refine aB fun _ z=>aA rfl ?_;simp only[f0,hr,RR,seval];apply z;clear z;refine aF _ rfl (fun hc9=>?_) (fun hc9=>?_)
 ·obtain⟨e1,s1,rfl⟩:=mJ (o:=tt) (by simpa using hc9)
  obtain ho:o= .fin e1 s1:=by
   rcases hend with⟨e,s,h1,h2⟩|⟨_,_,h1,_⟩
   ·cases h1;exact h2
   cases h1
  subst ho;refine aB fun _ z=>aA rfl ?_;simp only[RR,seval];apply z;clear z;refine aQ ?_;simp only[aX,aN,bI,RR,seval];exact aW.run ⟨0,vok,rfl,by simp [cC],(fun _ _ e=>by cases e),(fun e s h=>by cases h;exact hne1 _ _ rfl),hR1,fun b o hb h1 h2 h3 h4=>by obtain⟨q1,q2,_⟩:=hkk b o (by rw[hHX];exact hb) h1 h2 h3 h4;exact⟨q1,q2⟩⟩
 obtain⟨_,s1,rfl⟩:=mH (o:=tt) hne1 (by simpa using hc9)
 obtain⟨ro,hL,hro⟩: ∃ro,iH cx n f.res (vs++List.replicate (f.words-l.length) 0) f.body s1=some ro∧bindR (some ro) (fun r st=>some (Rz.val (r.1.getD 0) st))=some o:=by
  rcases hend with⟨e,s,h1,h2⟩|⟨s,ro,h1,h2,h3⟩
  ·cases h1
  cases h1;exact⟨ro,h2,h3⟩
 rw[hfr,hfb,hfw,←hgl',Nat.add_sub_cancel_left]at hL;have hB:=tO ih hj j g hg vs s1 vok _ wk ro hR1 hOw huv (by omega) (by omega) hL;refine aM ?_;try simp only[RR]
 refine aB fun _ z=>aA rfl ?_;simp only[f0,f10,f11,RR,seval];refine jK hB (fun _=>trivial) fun ae H2 ⟨w,vo2,g1,g2,g3,g4,g5,g6⟩=>?_;subst g1
 have hfin:(∀v s,o= .val v s→w=v)∧(∀e s,o= .fin e s→e≠0)∧gZ o=gZ ro∧o.st=ro.st:=by
  cases ro with
  |fin e s=>
   obtain rfl:=Option.some.inj (show some (Rz.fin e s)=some o from hro);exact⟨(fun _ _ e=>by cases e),(fun e' s' h=>by cases h;exact g4 _ _ rfl),rfl,rfl⟩
  |val q s=>
   obtain rfl:=Option.some.inj (show some (Rz.val (q.1.getD 0) s)=some o from hro);exact⟨(fun v s' h=>by cases h;exact g3 _ _ rfl),(fun _ _ e=>by cases e),rfl,rfl⟩
 obtain⟨q1,q2,q3,q4⟩:=hfin;rw[←q3,←q4]at g5;simp only[RR,seval];apply z;clear z;refine aQ ?_;simp only[aX,aN,bI,RR,seval];refine aW.run ⟨w,vo2,rfl,g2,q1,q2,g5,fun b o hb h1 h2 h3 h4=>?_⟩;obtain⟨p1,p2,p3⟩:=hkk b o (by rw[hHX];exact hb) h1 h2 h3 h4;exact g6 b o p1 h1 h2 h3 p2 h1 p3
end
end Go.Proofs.YtnfbbjhdflhmjaaGreatDoor
namespace Go.Proofs.YtnfbbjhdflhmjaaGreatDoor
open Go.Al
section
variable {p : Pg} {cx : Cx} {r : Nat} {vv : AV} {abs : List Nat} {n : Nat}
set_option maxHeartbeats 4000000 in
theorem uN {en:Int} (ih:en=0→sS p cx r vv abs n) (i:Nat) (rs:cR→Bool×Int) (ow:List Int) (l:List Sm) (st:RS) (vo:AV) (H:Hp) (x:Nat) (wv:AV) (bk:Bool) (vl:Int) (o:Rz (Option Int×List Int)) (hl:Af l) (hU: ∀u∈cT l,UJ p i rs u) (hR:dK p cx r vv abs st vo en H) (hW:eO vv abs vo wv ow H) (hu: ∀y∈ow,cC y) (hx:H x=some (.rows 4 [[.int .i64 i,wv, .bool bk, .int .u32 vl]])) (uvl:cC vl) (hbv:bk=false→vl=0) (hb0:en=0→bk=false) (h:oQ en st (iH cx (n+1) rs ow l st) o):
  gK cN 66 [.ptr 11 r 0 0, .ptr 4 x 0 0, .isl 5 (l.map Sm.row)] H (mX p cx r vv abs vo x i wv ow.length H o):=by
 have hr:=hR.r;have hfit:=hl.fit;simp only[cY]at hfit;have nxr:x≠r:=fun e=>by rw[e,hr]at hx;cases hx
 have nrx:r≠x:=fun e=>nxr e.symm;obtain⟨HX,hHX⟩: ∃X,X=H:=⟨_,rfl⟩;obtain⟨w,hw⟩: ∃w,w=ow.length:=⟨_,rfl⟩;rw[←hw];refine bD 34 [] Tryz.func66 rfl rfl rfl rfl ?_;refine aB fun _ z=>aA rfl ?_;simp only[RR,seval];apply z;clear z;refine bL fun F1 M1 hfr hH=>?_;have g0:=hfr 0;have g1:=hfr 1;have g2:=hfr 2;have g6:=hfr 6;have gr:=hH r;have gx:=hH x
 try simp only[hr,hx,RR,seval]at g0 g1 g2 g6 gr gx
 have hM:=funext hH;have f0:=g0;clear g0;have f1:=g1;clear g1;have f2:=g2;clear g2;have f6:=g6;clear g6;have hr:=gr;clear gr;have hx:=gx;clear gx;clear hfr hH;refine aI ?_;refine jQ [0,1,2] (l.length) (fun m fr M=> ∃k stk vok enk owk bkk vlk,m+k=l.length∧fr 6= .int .i64 (k:Nat)∧owk.length=w∧(∀y∈owk,cC y)∧cC vlk∧(bkk=false→vlk=0)∧dK p cx r vv abs stk vok enk M∧eO vv abs vok wv owk M∧M x=some (.rows 4 [[.int .i64 i,wv, .bool bkk, .int .u32 vlk]])∧fO r vv abs vo vok x wv HX M∧(¬en=0→ ¬enk=0)∧((enk=0∧bkk=false∧ ∃mm,mm≤n+1∧iH cx mm rs owk (l.drop k) stk=some o)∨(enk=0∧bkk=true∧o= .val (some vlk,owk) stk)∨(enk≠0∧o= .fin enk stk))) ⟨0,st,vo,en,ow,bk,vl,rfl,f6,hw.symm,hu,uvl,hbv,(by rw[hM];exact hR),(by rw[hM];exact hW),hx,(by rw[hM,hHX];exact(cM.refl _ _ _ _ _).w _ _),(fun h=>h),(by rcases h with⟨h1,h2⟩|⟨h1,h2⟩;exact .inl ⟨h1,hb0 h1,n+1,aY _,h2⟩;exact .inr (.inr ⟨h1,h2⟩))⟩ ?_;rintro m F2 M2 ⟨k,stk,vok,enk,owk,bkk,vlk,hmk,f6,hwk,huk,uvl,hbv,hRk,hOk,hx,hkk,hen0,hcase⟩ agx K0 hK0;have f0:=(agx 0 rfl).trans f0;have f1:=(agx 1 rfl).trans f1;have f2:=(agx 2 rfl).trans f2;have ag0:=bE.refl [0,1,2] F2;clear agx;have hr:=hRk.r;clear h hb0;have hen:enk=0∨ ¬enk=0:=by by_cases h:enk=0;exact .inl h;exact .inr h
 have hzk:(k:Int)<(l.length:Int)∨ ¬(k:Int)<(l.length:Int):=by omega
 rcases hen with hen|hen<;>rcases hzk with zk|zk<;>rcases Bool.eq_false_or_eq_true bkk with hbk|hbk
 all_goals
  refine aH ?_;refine aB fun _ z=>aA rfl ?_;simp only[f0,f1,f2,f6,hr,hx,aD,hen,zk,hbk,RR,seval]
  repeat' ((first|refine bA (fun h=>?_) (fun h=>?_)|refine bG (fun h=>?_) (fun h=>?_))<;>simp only[h,f0,f1,f2,f6,hr,hx,nxr,nrx,aD,hen,zk,hbk,RR,seval])
  all_goals
   apply z;clear z;refine aF _ rfl (fun hc=>?_) (fun hc=>?_)
   ·try (cases hc;done)
    all_goals
     have hw0:=hc;clear hc;have hlt:k<l.length:=by omega
     have hen0:en=0:=by
      by_cases he:en=0
      ·exact he
      exact absurd hen (hen0 he)
     have ih:=ih hen0
     have hLk: ∃mm,mm≤n+1∧iH cx mm rs owk (l.drop k) stk=some o:=by
      rcases hcase with⟨_,_,h⟩|⟨_,h,_⟩|⟨h,_⟩
      ·exact h
      ·rw[hbk]at h;cases h
      exact absurd hen h
     clear hcase;have hx0:=hx;obtain⟨mm,hmn,hLk⟩:=hLk;rw[hbk,hbv hbk]at hx0;have hRk0:=hRk;rw[hen]at hRk0;have hg0:=aG hlt;have hdk:l.drop k=l[k]::l.drop (k+1):=bC hlt;generalize l[k]=a at hg0 hdk;have hgs:=Fi hg0;rw[hdk]at hLk
     obtain⟨m',rfl⟩: ∃m',mm=m'+1:=by
      cases mm with
      |zero=>simp [iH]at hLk
      |succ m'=>exact⟨m',rfl⟩
     simp only[iH]at hLk
     obtain⟨r1,h1⟩: ∃r1,kQ cx m' rs owk a stk=some r1:=by
      cases h1:kQ cx m' rs owk a stk with
      |none=>rw[h1]at hLk;cases hLk
      |some r1=>exact⟨r1,rfl⟩
     rw[h1]at hLk;have ham:=aL hg0;have hus:=zL ham;have hS:=ih.S i rs owk a stk vok _ x wv r1 (hl.all _ ham) (fun u hu=>hU u (hus.1 u hu)) (fun u hu=>hU u (hus.2.1 u hu)) (fun u hu=>hU u (hus.2.2.1 u hu)) (fun u hu=>hU u (hus.2.2.2 u hu)) hRk0 hOk huk hx0 (Fl (by omega) h1);rw[hwk,a.row_eq]at hS;refine aM ?_;try simp only[RR]
     refine aH ?_;refine aI ?_;refine aA rfl ?_;simp only[f0,f1,f2,f6,hgs,RR,seval];refine yG hS (fun _=>trivial) fun ow1 bk1 vl1 vo1 H1 g1 g2 g3 g4 g5 g6 g7 g8 g9 g10=>?_;have hkk1:=hkk.trans g10
     have hcase1:(gZ r1=0∧bk1=false∧ ∃mm,mm≤n+1∧iH cx mm rs ow1 (l.drop (k+1)) r1.st=some o)∨(gZ r1=0∧bk1=true∧o= .val (some vl1,ow1) r1.st)∨(gZ r1≠0∧o= .fin (gZ r1) r1.st):=by
      cases r1 with
      |fin e s=>exact .inr (.inr ⟨g6 _ _ rfl,(Option.some.inj (show some (Rz.fin e s)=some o from hLk)).symm⟩)
      |val q s=>
       obtain⟨q1,q2⟩:=q;obtain⟨h1,h2,h3⟩:=g5 _ _ rfl;simp only at h1 h2 h3;subst h1
       cases q1 with
       |none=>exact .inl ⟨rfl,h2,m',by omega,hLk⟩
       |some v=>
        simp only[Option.getD_some]at h3;subst h3;exact .inr (.inl ⟨rfl,h2,(Option.some.inj hLk).symm⟩)
     have ek:IntKind.wrap .i64 ((k:Int)+1)=((k+1:Nat):Int):=by rw[aR _ (by omega)];omega
     simp only[RR,seval];refine aA rfl ?_;simp only[f6,ek,RR,seval];refine hK0 (m- 1) _ _ (by omega) ⟨k+1,r1.st,vo1,gZ r1,ow1,bk1,vl1,(by omega),rfl,g1,g2,g3,g4,g9,g8,g7,hkk1,(fun h=>absurd hen0 h),hcase1⟩ (by repeat (first|exact ag0|refine bE.upd rfl ?_))
   try (cases hc;done)
   all_goals
    have hw0:=hc;clear hc
    have hfin:(∀q s,o= .val q s→owk=q.2∧bkk=q.1.isSome∧vlk=q.1.getD 0)∧(∀e s,o= .fin e s→e≠0)∧o.st=stk∧gZ o=enk:=by
     rcases hcase with⟨h1,h2,mm,h3,h4⟩|⟨h1,h2,h3⟩|⟨h1,h2⟩
     ·obtain hkl:k=l.length:=by first|omega|(exfalso;exact hen h1)|(exfalso;rw[hbk]at h2;cases h2)
      rw[hkl,List.drop_length]at h4
      cases mm with
      |zero=>simp [iH]at h4
      |succ m'=>
       simp only[iH,Option.some.injEq]at h4;subst h4;exact⟨(fun q s e=>by cases e;exact⟨rfl,h2,hbv h2⟩),(fun _ _ e=>by cases e),rfl,h1.symm⟩
     ·subst h3
      exact⟨(fun q s e=>by cases e;exact⟨rfl,h2,rfl⟩),(fun _ _ e=>by cases e),rfl,h1.symm⟩
     subst h2;exact⟨(fun _ _ e=>by cases e),(fun _ _ e=>by cases e;exact h1),rfl,rfl⟩
    obtain⟨e1,e2,e3,e4⟩:=hfin;rw[←e3,←e4]at hRk;rw[hHX]at hkk;refine bH ?_;simp only[RR,seval]
    try simp only[aX,aN,bI,seval]
    exact aW.run ⟨owk,bkk,vlk,vok,rfl,hwk,huk,uvl,hbv,e1,e2,hx,hOk,hRk,hkk⟩
end
end Go.Proofs.YtnfbbjhdflhmjaaGreatDoor
