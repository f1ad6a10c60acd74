/- Chapter 19, the program's: a call; all at a depth. -/
import Derived.Test.YtnfbbjhdflhmjaaGreatDoorGKe
set_option linter.unusedSimpArgs false
set_option linter.unusedVariables false
set_option maxRecDepth 10000
namespace Go.Proofs.YtnfbbjhdflhmjaaGreatDoor
open Go.Al
def Gb (cx:Kx) (n:Nat) (f:CF) (vs:List Int) (st:RS):Option (Rz Int):=
 bindR (some (fN cx.cx st)) fun _ st=>(mB f vs st).bind fun st=>bindR (kH cx n f.body st) fun r st=>some (.val (r.getD 0) st)
def uB (vs:List Int):List AV:=vs.map (AV.int .u32)++List.replicate (6 -vs.length) (.int .u32 0)
theorem Of {α:Type} (f:Nat→α) (b:Nat) (x y:α):upd (upd f b x) b y=upd f b y:=by
 funext j;unfold upd;split<;>rfl
theorem Fw {vs:List Int} (h:vs.length≤6):(uB vs).length=6:=by
 simp only[uB,bP,aD,fB];omega
theorem Sv (vs:List Int):(uB vs).all one=true:=by
 simp only[uB,List.all_append,aS,List.all_eq_true];refine⟨fun x hx=>?_,fun x hx=>?_⟩
 ·obtain⟨y,_,rfl⟩:=List.mem_map.1 hx;rfl
 rw[List.eq_of_mem_replicate hx];rfl
theorem Su {vs:List Int} (h:vs.length<6) (x:Int):(uB vs).take vs.length++[AV.int .u32 x]++(uB vs).drop (vs.length+1)=uB (vs++[x]):=by
 have e1:(vs.map (AV.int .u32)).length=vs.length:=aD ..
 have e2:List.replicate (6 -vs.length) (AV.int .u32 0)=AV.int .u32 0::List.replicate (6 -(vs.length+1)) (.int .u32 0):=by
  rw[show 6 -vs.length=(6 -(vs.length+1))+1 by omega];rfl
 unfold uB;rw[List.take_left' e1,e2,List.drop_append,e1,List.drop_eq_nil_of_le (by omega),List.nil_append,show vs.length+1 -vs.length=1 by omega,List.drop_succ_cons,List.drop_zero];simp
section
variable {cx : Kx} {W r w : Nat} {n : Nat}
set_option maxHeartbeats 4000000 in
theorem Pu (ih:Qh cx W r w n) (hx:Ay cx W) (i:Nat) (a:Int) (f:CF) (l:List CE) (st:RS) (vo:AV) (H:Hp) (o:Rz Int) (hl:pH l) (hwl:mN (W:Int) cx.funs i l) (h0:0≤a) (hf:cx.funs[a.toNat]?=some f) (hp:f.params=l.length) (hR:eX cx W r w st vo H) (h:rN cx (n+1) a l st=some o):
  mM cK 99 [.ptr 7 r 0 0, .int .i64 a, .isl 6 (l.map CE.row)] H (lD cx W r w vo H (fun x=> .int .u32 x) dI o):=by
 simp only[rN,if_neg (show ¬a<0 by omega),hf]at h;obtain⟨p0,p1,p2,p3,p4⟩:=hx.funs.head _ _ hf;have hfw:=hx.funs.body _ _ hf;have hfb:=hx.body f (bN hf);have hwW:=hx.wl;have hl6:l.length≤6:=by omega
 have hfit:=hl.fit;simp only[cI]at hfit;obtain⟨al,rfl⟩:=Int.eq_ofNat_of_zero_le h0;rw[Int.toNat_natCast]at hf hfw;have zal:al<cx.funs.length:=(bW.1 hf).1;have zal':(al:Int)<(cx.funs.length:Int):=by omega
 have hfr:(cx.funs.map CF.row)[al]?=some f.row:=by rw[cC,hf];rfl
 have hA: ∃ra,lW cx n l st=some ra∧bindR (some ra) (fun vs s=>Gb cx n f vs s)=some o:=by
  cases hA:lW cx n l st with
  |none=>rw[hA]at h;cases h
  |some ra=>rw[hA]at h;exact⟨ra,rfl,h⟩
 clear h;obtain⟨ra,hA,h⟩:=hA;obtain⟨HX,hHX⟩: ∃X,X=H:=⟨_,rfl⟩;obtain⟨fi,hfi⟩: ∃fi:Nat,f.first=fi:=⟨f.first.toNat,by omega⟩;obtain⟨sl,hsl⟩: ∃sl:Nat,f.slots=sl:=⟨f.slots.toNat,by omega⟩;have hrow:f.row=[.int .i64 (l.length:Int), .int .i64 (sl:Int), .int .i64 (fi:Int), .bool f.word, .isl 6 (f.body.map CS.row)]:=by unfold CF.row;rw[hp,hfi,hsl]
 rw[hrow]at hfr;rw[hp,hsl]at p2;rw[hfi,hsl]at p4;have e1:IntKind.wrap .i64 ((fi:Int)+(sl:Int))=((fi+sl:Nat):Int):=by rw[aQ _ (by omega)];omega
 have zlo:(fi:Int)≤((fi+sl:Nat):Int):=by omega
 have z6:(l.length:Int)≤6:=by omega
 have hmin:min l.length sl=l.length:=by omega
 refine bI 70 [.tmp 6] Tryz.func99 rfl rfl rfl rfl ?_;refine aB fun _ z=>aA rfl ?_;simp only[RR,seval];apply z;clear z;refine aB fun _ z=>aA rfl ?_;simp only[RR,seval];refine aP fun b7 hn7=>?_;simp only[RR,seval];apply z;clear z;refine aI ?_;refine aB fun _ z=>aA rfl ?_;simp only[aD,RR,seval];apply z;clear z;refine bM fun F1 M1 hfr hH=>?_;have g0:=hfr 0;have g1:=hfr 1;have g2:=hfr 2;have g6:=hfr 6;have g7:=hfr 7;have g14:=hfr 14;have g15:=hfr 15;have gb7:=hH b7
 try simp only[RR,seval]at g0 g1 g2 g6 g7 g14 g15 gb7
 have hM:=funext hH;have hn:=hn7;have hRM:eX cx W r w st vo M1:=by rw[hM];exact hR.new hn7 _
 have nr7:b7≠r:=fun e=>by have:=hR.r;rw[←e,hn]at this;cases this
 have nw7:b7≠w:=fun e=>by have:=hR.v;rw[←e,hn]at this;cases this
 have no7:off vo b7:=hR.o.new hn;have hbM:M1 b7=some (.rows 6 [uB []]):=by rw[hM,bO];rfl
 have hkM:dP r w vo vo HX M1:=by rw[hM,hHX];exact(dP.refl _ _ _ _).updN hn _
 have f0:=g0;clear g0;have f1:=g1;clear g1;have f2:=g2;clear g2;have f6:=g6;clear g6;have f7:=g7;clear g7;have f14:=g14;clear g14;have f15:=g15;clear g15;have hb7:=gb7;clear gb7;clear hfr hH;refine aM ?_;refine bZ [0,1,2,6,7,14] (l.length) (fun k fr M=>fr 15= .int .i64 (k:Nat)∧ ∃stk vok vs m rk,m≤n∧vs.length=k∧(∀x∈vs,dI x)∧lW cx m (l.drop k) stk=some rk∧bindR (some rk) (fun vs' s=>Gb cx n f (vs++vs') s)=some o∧eX cx W r w stk vok M∧M b7=some (.rows 6 [uB vs])∧off vok b7∧dP r w vo vok HX M) ⟨f15,st,vo,[],n,ra,aY _,rfl,(fun x hx=>by simp at hx),hA,(by simpa using h),hRM,hbM,no7,hkM⟩ ?_;rintro k F2 M2 hk0 ⟨fx,⟨stk,vok,vs,m,rk,hmn,hvs,huv,hAk,hk,hRk,hb7,hok,hkp⟩⟩ agx K0 hK0;have f0:=(agx 0 rfl).trans f0;have f1:=(agx 1 rfl).trans f1;have f2:=(agx 2 rfl).trans f2;have f6:=(agx 6 rfl).trans f6;have f7:=(agx 7 rfl).trans f7;have f14:=(agx 14 rfl).trans f14;have f15:=fx;clear fx;have ag0:=bC.refl [0,1,2,6,7,14] F2;clear agx;clear h hA;refine aB fun _ z=>aA rfl ?_;simp only[f14,f15,RR,seval];apply z;clear z;refine aI ?_;refine aH _ rfl (fun hc=>?_) (fun hc=>?_)
 ·have hlt0:k<l.length:=by have:=aC hc;omega
  clear hc;have hg0:=aG hlt0;have hdk:l.drop k=l[k]::l.drop (k+1):=bD hlt0;generalize l[k]=b at hg0 hdk;have hg:=lO hg0;rw[hdk]at hAk
  obtain⟨m',rfl⟩: ∃m',m=m'+1:=by
   cases m with
   |zero=>simp [lW]at hAk
   |succ m'=>exact⟨m',rfl⟩
  simp only[lW]at hAk
  obtain⟨r1,h1⟩: ∃r1,iX cx m' b stk=some r1:=by
   cases h1:iX cx m' b stk with
   |none=>rw[h1]at hAk;cases hAk
   |some r1=>exact⟨r1,rfl⟩
  rw[h1]at hAk;have zk:(k:Int)<6:=by omega
  have zk1:k+1≤6:=by omega
  have hlr:=Fw (vs:=vs) (by omega);have hset:=Su (vs:=vs) (by omega);rw[hvs]at hset;have hV:=ih.V i b stk vok _ r1 (hl.all _ (bN hg0)) (jK hwl hg0).1 hRk (Gq (by omega) h1);generalize hrw:uB vs=rw0 at hset hlr hb7;refine aK ?_;try simp only[RR]
  refine aI ?_;refine aM ?_;refine aB fun _ z=>aA rfl ?_;simp only[f15,RR,seval];apply z;clear z;refine aA rfl ?_;simp only[f0,f2,hg,RR,seval];refine eV hV (fun _=>trivial) ?_ ?_
  ·rintro e s vo1 H1 e1 hR1 hk1
   subst e1;obtain rfl:=Option.some.inj (show some (Rz.fin e s)=some rk from hAk);obtain rfl:=Option.some.inj (show some (Rz.fin e s)=some o from hk);simp only[cO,cX,cQ];have hkk:=hkp.trans hk1;rw[hHX]at hkk;exact⟨vo1,rfl,hR1,hkk⟩
  intro x s1 vo1 H1 e1 ux hR1 hk1;subst e1;simp only[bindR]at hAk;obtain⟨hb7,hok1⟩:=hk1 b7 _ hb7 nr7 nw7 hok
  obtain⟨r',h2⟩: ∃r',lW cx m' (l.drop (k+1)) s1=some r':=by
   cases h2:lW cx m' (l.drop (k+1)) s1 with
   |none=>rw[h2]at hAk;cases hAk
   |some r'=>exact⟨r',rfl⟩
  rw[h2]at hAk
  have hk':bindR (some r') (fun vs' s=>Gb cx n f ((vs++[x])++vs') s)=some o:=by
   cases r' with
   |fin e s=>
    obtain rfl:=Option.some.inj (show some (Rz.fin e s)=some rk from hAk);exact hk
   |val vs' s=>
    obtain rfl:=Option.some.inj (show some (Rz.val (x::vs') s)=some rk from hAk);simpa [bindR]using hk
  simp only[f7,hb7,zk,zk1,hlr,RR,seval];have hst:=hset x;refine aA rfl ?_;simp only[f15,RR,seval]
  try rw[aQ _ (by omega)]
  refine hK0 _ _ hlt0 ⟨by first|rfl|(simp only[aJ,seval];rfl),s1,vo1,vs++[x],m',r',(by omega),(by simp [hvs]),(fun y hy=>by rcases List.mem_append.1 hy with hy|hy;exact huv y hy;rw[List.mem_singleton.1 hy];exact ux),h2,hk',hR1.other nr7 nw7 hok1 _,(by rw[←hst];exact bO _ _ _),hok1,(hkp.trans hk1).updN (by rw[hHX];exact hn) _⟩ (by repeat (first|exact ag0|refine bC.upd rfl ?_))
 have hkn0:k=l.length:=by have:=aF hc;omega
 clear hc;rw[hkn0,List.drop_length]at hAk;rw[hkn0]at hvs
 have hk2:Gb cx n f vs stk=some o:=by
  cases m with
  |zero=>simp [lW]at hAk
  |succ m'=>
   simp only[lW,Option.some.injEq]at hAk;subst hAk;simpa [bindR]using hk
 clear hk hAk;unfold Gb at hk2;have hT:=Eu hx hRk;generalize hTT:fN cx.cx stk=tt at hk2 hT;refine bF ?_;simp only[RR,seval];refine aB fun _ z=>aA rfl ?_;simp only[f0,RR,seval];refine eV hT (fun _=>trivial) ?_ ?_
 ·rintro e s vo1 H1 e1 hR1 hk1
  subst e1;obtain rfl:=Option.some.inj (show some (Rz.fin e s)=some o from hk2);simp only[cO,cQ];have hkk:=hkp.trans hk1;rw[hHX]at hkk;exact⟨vo1,rfl,hR1,hkk⟩
 intro _ s1 vo1 H1 e1 _ hR1 hk1;subst e1;simp only[bindR]at hk2;have hr:=hR1.r;have hw:=hR1.v;have nr:=hR1.bwr;have nr':r≠w:=Ne.symm nr;obtain⟨hb7,hok1⟩:=hk1 b7 _ hb7 nr7 nw7 hok
 obtain⟨s2,he2,hk3⟩: ∃s2,mB f vs s1=some s2∧bindR (kH cx n f.body s2) (fun r st=>some (.val (r.getD 0) st))=some o:=by
  cases he2:mB f vs s1 with
  |none=>rw[he2]at hk2;cases hk2
  |some s2=>rw[he2]at hk2;exact⟨s2,rfl,hk2⟩
 have hs2:s2={s1 with vars:=s1.vars.take fi++(vs++List.replicate (sl-vs.length) 0)++s1.vars.drop (fi+sl)}:=by
  unfold mB at he2;rw[hfi,hsl]at he2;split at he2
  ·cases he2
   rw[show((fi:Int)+(sl:Int)).toNat=fi+sl by omega];rfl
  cases he2
 have hlw1:=hR1.lw;have zc:fi+sl≤s1.vars.length:=by omega
 have zh:((fi+sl:Nat):Int)≤(s1.vars.length:Int):=by omega
 have hlr:=Fw (vs:=vs) (by omega);have hone:=Sv vs;have her:=Ky s1.vars vs fi sl zc (by omega) (List.replicate (6 -vs.length) (.int .u32 0));rw[show vs.map (AV.int .u32)++List.replicate (6 -vs.length) (.int .u32 0)=uB vs from rfl,hvs]at her;rw[hvs]at hs2
 have hu2: ∀x∈s1.vars.take fi++(vs++List.replicate (sl-l.length) 0)++s1.vars.drop (fi+sl),dI x:=fun x hx=>by
  simp only[List.mem_append]at hx;rcases hx with(hx|hx|hx)|hx
  ·exact hR1.uv x (List.mem_of_mem_take hx)
  ·exact huv x hx
  ·rw[List.eq_of_mem_replicate hx];exact rI
  exact hR1.uv x (List.mem_of_mem_drop hx)
 have hl2:(s1.vars.take fi++(vs++List.replicate (sl-l.length) 0)++s1.vars.drop (fi+sl)).length=s1.vars.length:=by
  simp only[bP,cU,List.length_drop,fB,hvs];omega
 have hR2:=hR1.setAll hl2 hu2;have hk2':=hk1.trans (dP.vars (br:=r) (bw:=w) (vo:=vo1) (some (.rows 1 ((s1.vars.take fi++(vs++List.replicate (sl-l.length) 0)++s1.vars.drop (fi+sl)).map jV))));rw[←hs2]at hR2
 have hL1:((s1.vars.map jV).take fi++List.replicate sl [AV.int .u32 0]++(s1.vars.map jV).drop (fi+sl)).length=s1.vars.length:=by
  simp only[bP,cU,List.length_drop,fB,aD];omega
 clear hk2;generalize uB vs=ra0 at hb7 hlr hone her;simp only[RR,seval];apply z;clear z;refine aB fun _ z=>aA rfl ?_;simp only[f0,f1,hr,hfr,RR,seval];apply z;clear z;refine aB fun K z=>?_;refine bJ (fun x=>x≠b7∧x≠r∧x≠w) [(0,3),(1,3),(2,3),(3,1),(4,3),(5,3),(6,3),(7,1),(8,3),(9,3),(10,3),(11,1),(12,3),(13,3),(14,3),(15,1),(16,3),(17,3),(18,3)] [] dG (by kernel_rfl) rfl rfl ?_;simp only[cF,f0,hr,e1,zlo,zh,Nat.add_sub_cancel_left,RR,seval];apply z;clear z;refine aB fun _ z=>aA rfl ?_;simp only[hw,aD,zc,RR,seval];apply z;clear z;refine aB fun _ z=>aA rfl ?_;simp only[f7,hb7,nw7,zc,hL1,z6,hl6,hlr,hone,hmin,Nat.sub_zero,RR,seval];apply z;clear z;refine aB fun _ z=>aA rfl ?_;simp only[f0,RR,seval];rw[Of,her]
 obtain⟨r3,h3⟩: ∃r3,kH cx n f.body s2=some r3:=by
  cases h3:kH cx n f.body s2 with
  |none=>rw[h3]at hk3;cases hk3
  |some r3=>exact⟨r3,rfl⟩
 rw[h3]at hk3;refine eV (ih.L al f.body s2 vo1 _ r3 hfb hfw hR2 h3) (fun _=>trivial) ?_ ?_
 ·rintro e s vo2 H2 e1 hR3 hk4
  subst e1;obtain rfl:=Option.some.inj (show some (Rz.fin e s)=some o from hk3);simp only[cO,cQ];have hkk:=(hkp.trans hk2').trans hk4;rw[hHX]at hkk;exact⟨vo2,rfl,hR3,hkk⟩
 intro p s3 vo2 H2 e1 up hR3 hk4;subst e1;obtain rfl:=Option.some.inj (show some (Rz.val (p.getD 0) s3)=some o from hk3);have hkk:=(hkp.trans hk2').trans hk4;rw[hHX]at hkk;simp only[kX,RR,seval];apply z;clear z;refine aB fun _ z=>aA rfl ?_;simp only[RR,seval];apply z;clear z;refine aO ?_;simp only[bB,aL,bH,RR,seval];exact aZ.run ⟨vo2,⟨rfl,up⟩,hR3,hkk⟩;skip
theorem P1 (hx:Ay cx W) (r w:Nat) (n:Nat):Qh cx W r w n:=by
 induction n with
 |zero=>
  constructor
  ·intro i e st vo H o _ _ _ h;simp [iX]at h
  ·intro i a f l st vo H o _ _ _ _ _ _ h;simp [rN]at h
  ·intro i e st vo H o _ _ _ h;simp [rG]at h
  ·intro i l st vo H o _ _ _ h;simp [kH]at h
  intro i e c st vo H o _ _ _ _ h;simp [rM]at h
 |succ n ih=>
  exact⟨fun i e st vo H o h1 h2 h3 h4=>Jf ih hx i e st vo H o h1 h2 h3 h4,fun i a f l st vo H o h1 h2 h3 h4 h5 h6 h7=>Pu ih hx i a f l st vo H o h1 h2 h3 h4 h5 h6 h7,
   fun i e st vo H o h1 h2 h3 h4=>Ta ih hx i e st vo H o h1 h2 h3 h4,fun i l st vo H o h1 h2 h3 h4=>Wb ih i l st vo H o h1 h2 h3 h4,fun i e c st vo H o h1 h2 h3 h4 h5=>Jc ih hx i e c st vo H o h1 h2 h3 h4 h5⟩
end
end Go.Proofs.YtnfbbjhdflhmjaaGreatDoor
