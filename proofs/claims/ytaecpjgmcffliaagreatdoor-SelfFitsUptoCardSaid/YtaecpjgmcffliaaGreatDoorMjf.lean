/- Mjf -/
import Derived.Test.YtaecpjgmcffliaaGreatDoorMja
import Derived.Test.YtaecpjgmcffliaaGreatDoorQe
set_option linter.unusedSimpArgs false
set_option linter.unusedVariables false
set_option maxRecDepth 10000
set_option maxHeartbeats 4000000
namespace Go.Al
section
variable {p : Pg} {cx : Cx} {r : Nat} {vv vo wv wv' : AV} {abs : List Nat} {st : RS} {en : Int} {ow : List Int} {ys : List (List AV)} {H H' : Hp}
theorem fM.grow (h:fM p cx r vv abs st vo en H) (c:hJ vv abs vo wv ow H) (f: ∀b o,H b=some o→wv≠ .osl 1 b (ow.map iH).length→H' b=some o):fM p cx r vv abs st vo en H':=by
 have own: ∀{v:AV} {rows:List (List AV)},dW 1 v rows H→(∀s b n,v= .osl s b n→Al.off wv b)→dW 1 v rows H':=fun h u=>by
  rcases h with g|⟨b,e,t⟩
  ·exact .inl g
  exact .inr ⟨b,e,f b _ t (u _ _ _ e _ _)⟩
 refine {h with r:=f _ _ h.r (c.h.offsz h.r (by decide) _ _),v:=own h.v fun s b n e y x d=>c.nv _ _ _ d _ _ e,a:=fun i b l j k=>f _ _ (h.a i b l j k) fun e=>c.na _ _ _ e (aW j),o:=own h.o fun s b n e y x d=>c.nf _ _ _ d _ _ e}
theorem hJ.grow (f:hJ vv abs vo wv ow H) (h:fM p cx r vv abs st vo en H) {x:Int} (u:dW 1 wv' (ow.map iH++[[.int .u32 x]]) H') (d: ∀b,Al.off wv b→H b≠none→Al.off wv' b):hJ vv abs vo wv' (ow++[x]) H':=by
 have k: ∀{v:AV} {rows:List (List AV)} {s b n:Nat},dW 1 v rows H→v= .osl s b n→H b≠none:=fun h e=>h.there _ _ _ e;refine⟨by rw[cK];exact u,fun s b n e z y a=>?_,fun s b n e g=>?_,fun s b n e z y a=>?_⟩
 ·exact d b (fun j i c=>f.nv _ _ _ c _ _ a) (k h.v a) _ _ e
 ·obtain⟨l,t⟩:=h.abs_some g
  exact d b (fun j i c=>f.na _ _ _ c g) (by rw[t];exact bY _) _ _ e
 exact d b (fun j i c=>f.nf _ _ _ c _ _ a) (k h.o a) _ _ e
theorem hJ.nil:hJ vv abs vo .nsl [] H:=⟨.inl ⟨rfl,rfl⟩,(fun _ _ _ e=>by cases e),(fun _ _ _ e=>by cases e),(fun _ _ _ e=>by cases e)⟩
theorem hJ.other {a:AV} {c:List Int} (h:hJ vv abs vo a c H) (d: ∀s b n,a= .osl s b n→Al.off wv b) (i: ∀b o,H b=some o→wv≠ .osl 1 b (ow.map iH).length→H' b=some o):hJ vv abs vo a c H':=by
 refine {h with h:=?_};rcases h.h with g|⟨b,e,f⟩
 ·exact .inl g
 exact .inr ⟨b,e,i b _ f (d _ _ _ e _ _)⟩
end
section
variable {p : Pg} {cx : Cx} {r x : Nat} {vv vo vo' wv : AV} {abs : List Nat} {st : RS} {en : Int} {ow : List Int} {H H' : Hp}
theorem hJ.set {b n:Nat} (h:hJ vv abs vo (.osl 1 b n) ow H) (i:Nat) (v:Int):hJ vv abs vo (.osl 1 b n) (ow.set i v) (upd H b (some (.rows 1 ((ow.map iH).set i [.int .u32 v])))):=by
 refine⟨?_,h.nv,h.na,h.nf⟩;rcases h.h with⟨e,_⟩|⟨a,e,c⟩
 ·cases e
 simp only[AV.osl.injEq,true_and]at e;obtain⟨rfl,rfl⟩:=e;exact .inr ⟨b,by simp,by rw[bG,qN]⟩
theorem kC.words {s b n:Nat} (h:kC r vv abs vo vo' x (.osl s b n) H H') (o:Option gY):kC r vv abs vo vo' x (.osl s b n) H (upd H' b o):=fun c u t g i j k l a=>by
 obtain⟨d,f⟩:=h c u t g i j k l a;exact⟨by rw[cR _ _ (fun e=>a _ _ (by rw[e]))];exact d,f⟩
theorem kC.frame (h:kC r vv abs vo vo' x wv H H') (o:Option gY):kC r vv abs vo vo' x wv H (upd H' x o):=fun b l k e f g i a j=>by
 obtain⟨c,d⟩:=h b l k e f g i a j;exact⟨by rw[cR _ _ a];exact c,d⟩
theorem hJ.offv {s b n:Nat} (h:hJ (.osl s b n) abs vo wv ow H):Al.off wv b:=fun c a e=>h.nv _ _ _ e _ _ rfl
theorem hJ.offa (h:hJ vv abs vo wv ow H) {b:Nat} (a:b∈abs):Al.off wv b:=fun _ _ e=>h.na _ _ _ e a
end
end Go.Al
namespace Go.Proofs.YtaecpjgmcffliaaGreatDoor
open Go.Al Go.Proofs.Tryz
structure Y5 (p:Pg) (cx:Cx):Prop where
 funs:cx.funs=p.funs.map (Sl (oD p))
 cx:NH cx
 uses: ∀(j:Nat) g,p.funs[j]?=some g→ ∀u∈dY g.body,UJ p j (FD (oD p) (HL g)) u
 f:p.funs.length≤10000
section
variable {p : Pg} {cx : Cx} {r : Nat} {vv : AV} {abs : List Nat} {n : Nat}
theorem Bg (ih:Ab p cx r vv abs n) (V:Y5 p cx) (j:Nat) (g:Fu) (N:p.funs[j]?=some g) (ws:List Int) (st:RS) (vo:AV) (H:Hp) (wv:AV) (x:Rz (Option Int×List Int)) (hR:fM p cx r vv abs st vo 0 H) (hW:hJ vv abs vo wv ws H) (hu: ∀y∈ws,eB y) (hl:ws.length≤3000000) (c9:g.locs.length≤3000000) (h:oS cx n (FD (oD p) (HL g)) (ws++List.replicate g.locs.length 0) g.body st=some x):
  pK dN 39 [.ptr 11 r 0 0, .int .i64 j,wv] H (fun ae H'=> ∃w P,ae= .ret (.int .u32 w)∧eB w∧(∀q s,x= .val q s→w=q.1.getD 0)∧(∀e s,x= .fin e s→e≠0)∧fM p cx r vv abs x.st P (mN x) H'∧kC r vv abs vo P r wv H H'):=by
 have d:=hR.r;have a8:=qH N;have c6:=(bC.1 N).1
 have b3:xH g.body:=by
  have:=V.cx.body (Sl (oD p) g) (by rw[V.funs];exact kQ.2 ⟨g,aW N,rfl⟩);exact this
 have c0:=V.uses j g N;obtain⟨Y,a0⟩: ∃X,X=H:=⟨_,rfl⟩;refine bX 46 [.tmp 6] func39 ?_;refine aA fun K a=>?_;simp only[RR,seval];refine a _ _ (aI (aA fun K a=>?_));simp only[RR,seval];refine a _ _ (bT fun F1 M1 c v=>?_);have i:=c 0;have f:=c 1;have z:=c 2;have A:=c 6;have B:=c 7;have C:=v r;simp only[d,RR,seval]at i f z A B C;have T:=funext v;have d:=C;refine aN (eT [0,1,6] (g.locs.length) (fun k Z M=>Z 7= .int .i64 (k:Nat)∧ ∃t,Z 2=t∧hJ vv abs vo t (ws++List.replicate k 0) M∧fM p cx r vv abs st vo 0 M∧(∀b o,Y b=some o→Al.off wv b→M b=some o∧Al.off t b)) ⟨B,wv,z,(by rw[T,List.replicate_zero,dO];exact hW),(by rw[T];exact hR),(fun b o D E=>⟨by rw[T,←a0];exact D,E⟩)⟩ ?_);rintro k F2 M2 c7 ⟨fx,t,z,l,I,a7⟩ F K0 b2;have i:=(F 0 rfl).trans i;have f:=(F 1 rfl).trans f;have A:=(F 6 rfl).trans A;have B:=fx;clear fx;have b0:=bB.refl [0,1,6] F2;clear F;have d:=I.r;refine aI (aA fun K a=>?_);simp only[i,f,B,d,a8,aE,RR,seval];refine a _ _ (aX ?_ ?_)<;>intro U
 ·have b7:k<g.locs.length:=by have:=aF U;omega
  clear U;have b9:List.replicate (k+1) (0:Int)=List.replicate k 0++[0]:=List.replicate_succ';have c8:(ws++List.replicate k (0:Int)).length≤6000000:=by rw[aB,lP];omega
  refine aL ?_;simp only[RR];refine aI (aN (aG ?_));simp only[z,RR,seval];refine dK ?_;simp only[RR,seval];refine jA l.h (by simp only[aE,aJ,aS];omega) (fun _ _=>trivial) fun v' H' b8 a9 a6=>?_;simp only[RR,seval];have a2:=I.grow l a9;have a4:=l.grow I b8 a6;have d:=a2.r;rw[bQ,←b9]at a4
  have b5: ∀b o,Y b=some o→Al.off wv b→H' b=some o∧Al.off v' b:=fun b o D E=>by
   obtain⟨u,S⟩:=a7 b o D E;exact⟨a9 b _ u (S _ _),a6 b S (by rw[u];exact bY _)⟩
  refine aG ?_;simp only[B,RR,seval];rw[aT _ (by omega)];refine b2 _ _ b7 ⟨by rfl,v',rfl,a4,a2,b5⟩ (by repeat (first|exact b0|refine bB.upd rfl ?_))
 have b6:k=g.locs.length:=by have:=aH U;omega
 rw[b6]at l;have b4:=l.h.cells;have d0:=l.h.one1;refine cC ?_;simp only[RR,seval];refine aA fun K a=>?_;simp only[f,z,b4,cA,List.drop,RR,seval];refine aQ fun Q O=>?_;have c2:=dG O d;have c3:=c2.symm;simp only[RR,seval];refine a _ _ (bT fun F3 M3 c v=>?_);have g0:=c 0;have u:=c 1;have G:=c 6;have R:=c 8;have C:=v r;have J:=v Q;simp only[i,f,A,d,c3,RR,seval]at g0 u G R C J;have a1:=funext v;have i:=g0;have f:=u;have A:=G;have d:=C;have a3:=(I.new O (some (.rows 4 [[.int .i64 j,t, .bool false, .int .u32 0]])));have a5:=(l.new O (some (.rows 4 [[.int .i64 j,t, .bool false, .int .u32 0]])));rw[←a1]at a3 a5
 have c1: ∀y∈ws++List.replicate g.locs.length 0,eB y:=fun y hy=>by
  rcases eR.1 hy with hy|hy
  ·exact hu y hy
  rw[(Ad.1 hy).2];simp [eB]
 have hL:=ih.L j (FD (oD p) (HL g)) (ws++List.replicate g.locs.length 0) g.body st vo 0 M3 Q t false 0 x b3 c0 a3 a5 c1 J (by simp [eB]) (fun _=>rfl) (fun _=>rfl) (.inl ⟨rfl,h⟩);refine aA fun K a=>?_;simp only[i,f,R,d,a8,cA,List.drop,RR,seval];refine Jh hL (fun _=>trivial) fun d1 c5 c4 P H' u S g3 g4 g5 G g7 g8 g9 b1=>?_;have J:=g7;simp only[RR,seval];refine a _ _ (aA fun K a=>?_);simp only[R,J,cA,List.drop,RR,seval];apply a;refine aO ?_;simp only[aY,aK,bR,RR,seval];refine aZ.run ⟨c4,P,rfl,g3,(fun q s e=>(g5 q s e).2.2),G,g9,fun b o hb D E h3 h4 _ h5=>?_⟩;rw[←a0]at hb;obtain⟨W,q2⟩:=a7 b o hb h5;have q3:b≠Q:=fun e=>by rw[e,O]at W;cases W
 exact b1 b o (by rw[a1,cR _ _ q3];exact W) D E h3 h4 q3 q2
end
section
variable {p : Pg} {cx : Cx} {r : Nat} {vv : AV} {abs : List Nat} {n : Nat}
theorem B7 (ih:Ab p cx r vv abs n) (hj:Y5 p cx) (i:Nat) (G:dC→Bool×Int) (ow:List Int) (s:dC) (l:List Ex) (st:RS) (vo:AV) (H:Hp) (x:Nat) (wv:AV) (bk:Bool) (vl:Int) (o:Rz Int) (hl:Ae l) (hU:UJ p i G ⟨s,4,l.length⟩) (d: ∀u∈fE l,UJ p i G u) (hR:fM p cx r vv abs st vo 0 H) (hW:hJ vv abs vo wv ow H) (hu: ∀y∈ow,eB y) (hx:H x=some (.rows 4 [[.int .i64 i,wv, .bool bk, .int .u32 vl]])) (h:Rr cx (n+1) G ow (G s).2 l st=some o):
  pK dN 155 [.ptr 11 r 0 0, .ptr 4 x 0 0, .str s, .isl 5 (l.map Ex.row)] H (Vo p cx r vv abs vo H o):=by
 have W:=hR.r;have e8:=hl.fit;simp only[eV]at e8;have f9:x≠r:=fun e=>by rw[e,W]at hx;cases hx
 have h6:=f9.symm;have f6:p.av= .agg [.isl 1 (p.vars.map bH), .isl 2 (p.arrs.map Ar.row), .isl 5 (p.funs.map Fu.row)]:=rfl;have hF:=hU.f;rw[f6]at hF;simp only at hF;obtain⟨Q,I,g,hg,g8⟩:=hU.k4;generalize eL p i s=fi at hF Q I hg;obtain⟨kk,ii⟩:=fi;simp only at hF Q I hg;subst Q;rw[I]at h;simp only[Rr]at h;by_cases z0:ii<0
 ·rw[bP z0]at h;cases h
 rw[aM z0]at h;obtain⟨j,rfl⟩:=iM (show 0≤ii by omega);rw[dU]at h hg;have d1:cx.funs[j]?=some (Sl (oD p) g):=by rw[hj.funs,dH,hg];rfl
 rw[d1]at h;simp only at h;have d4:(Sl (oD p) g).words=g.params.length+g.locs.length:=rfl;have P:(Sl (oD p) g).res=FD (oD p) (HL g):=rfl;have d3:(Sl (oD p) g).body=g.body:=rfl;have h5:=hj.cx.words (Sl (oD p) g) (aW d1);have d5:g.params.length=l.length:=by omega
 by_cases hw:(Sl (oD p) g).words<l.length
 ·rw[bP hw]at h;cases h
 rw[aM hw]at h
 obtain⟨ra,hA,h⟩: ∃ra,Dn cx n G ow l st=some ra∧bindR (some ra) (fun vs s=>Nx cx n (Sl (oD p) g) l.length vs s)=some o:=by
  cases hA:Dn cx n G ow l st with
  |none=>rw[hA]at h;cases h
  |some ra=>rw[hA]at h;exact⟨ra,rfl,h⟩
 obtain⟨HX,a7⟩: ∃X,X=H:=⟨_,rfl⟩;generalize g7:Sl (oD p) g=f at *;refine bX 58 [.tmp 8] func155 ?_;refine aA fun K d=>?_;simp only[RR,seval];apply d;clear d K;refine aC fun K d=>?_;refine bF (fun x=>x≠r∧x≠x) [(0,3),(1,3),(2,3),(3,1),(4,3),(5,3),(6,3),(7,1),(8,3),(9,1),(10,3),(11,3),(12,3),(13,3),(14,3)] [] eP (by kernel_rfl) rfl rfl ?_;simp only[eM,W,hx,RR,seval];refine aP (hF) ?_;simp only[RR,seval];apply d;clear d K;refine aA fun K d=>?_;simp only[RR,seval];apply d;clear d K;refine aI ?_;refine aA fun K d=>?_;simp only[RR,seval];apply d;clear d K;refine bT fun F1 M1 P hH=>?_;have T:=P 0;have f1:=P 1;have f3:=P 3;have f8:=P 8;have a6:=P 10;have a4:=P 11;have a5:=P 12;have gr:=hH r;have gx:=hH x;simp only[W,hx,RR,seval]at T f1 f3 f8 a6 a4 a5 gr gx;have hM:=funext hH;have W:=gr;clear gr;have hx:=gx;clear gx;clear P hH;refine aN ?_;refine eT [0,1,3,8,10] (l.length) (fun k fr M=>fr 12= .int .i64 (k:Nat)∧ ∃D L E wk vs,fr 11=wk∧vs.length=k∧(∀y∈vs,eB y)∧hJ vv abs L wk vs M∧fM p cx r vv abs D L E M∧hJ vv abs L wv ow M∧(∀s b n,wv= .osl s b n→Al.off wk b)∧M x=some (.rows 4 [[.int .i64 i,wv, .bool bk, .int .u32 vl]])∧(∀b o,HX b=some o→b≠r→Al.off vv b→b∉abs→Al.off vo b→M b=some o∧Al.off L b∧Al.off wk b)∧((E=0∧ ∃m Z,m≤n∧Dn cx m G ow (l.drop k) D=some Z∧bindR (some Z) (fun b3 s=>Nx cx n f l.length (vs++b3) s)=some o)∨(E≠0∧o= .fin E D))) ⟨a5,st,vo,0, .nsl,[],a4,rfl,(fun y hy=>by cases hy),hJ.nil,(by rw[hM];exact hR),(by rw[hM];exact hW),(fun _ _ _ _ _ _ e=>by cases e),hx,(fun b o c _ _ _ t=>⟨by rw[hM,←a7];exact c,t,fun _ _ e=>by cases e⟩), .inl ⟨rfl,n,ra,bE _,hA,by simpa using h⟩⟩ ?_;rintro k F2 M2 g9 ⟨fx,D,L,E,wk,vs,a4,d7,c4,a8,a0,c7,c9,hx,a2,a1⟩ a3 K0 e2;have T:=(a3 0 rfl).trans T;have f1:=(a3 1 rfl).trans f1;have f3:=(a3 3 rfl).trans f3;have f8:=(a3 8 rfl).trans f8;have a6:=(a3 10 rfl).trans a6;have a5:=fx;clear fx;have e0:=bB.refl [0,1,3,8,10] F2;clear a3;have W:=a0.r;clear h hA;refine aI ?_;refine aA fun K d=>?_;simp only[f3,a5,aE,RR,seval];apply d;clear d K;refine aX ?_ ?_<;>intro hc
 ·have c1:k<l.length:=by have:=aF hc;omega
  clear hc;have c0:=aD c1;have d2:l.drop k=l[k]::l.drop (k+1):=bJ c1;generalize l[k]=a at c0 d2;have e9:=pR c0;rw[d2]at a1
  obtain⟨B,e7,f4⟩: ∃B,uN E D (nH cx n G ow a D) B∧ ∀w,(∀v s,B= .val v s→w=v)→(∀e s,B= .fin e s→e≠0)→((mN B=0∧ ∃m Z,m≤n∧Dn cx m G ow (l.drop (k+1)) B.st=some Z∧bindR (some Z) (fun b3 s=>Nx cx n f l.length ((vs++[w])++b3) s)=some o)∨(mN B≠0∧o= .fin (mN B) B.st)):=by
   rcases a1 with⟨he,m,Z,h0,C,hk⟩|⟨he,ho⟩
   rotate_left
   ·exact⟨.fin E D, .inr ⟨he,rfl⟩,fun _ _ _=> .inr ⟨he,ho⟩⟩
   obtain⟨Y,rfl⟩: ∃Y,m=Y+1:=by
    cases m with
    |zero=>simp [Dn]at C
    |succ Y=>exact⟨Y,rfl⟩
   simp only[Dn]at C
   obtain⟨B,c⟩: ∃B,nH cx Y G ow a D=some B:=by
    cases c:nH cx Y G ow a D with
    |none=>rw[c]at C;cases C
    |some B=>exact⟨B,rfl⟩
   rw[c]at C;refine⟨B, .inl ⟨he,Xb (by omega) c⟩,fun w c5 c2=>?_⟩
   cases B with
   |fin e s=>
    obtain rfl:=Option.some.inj (show some (Rz.fin e s)=some Z from C);exact .inr ⟨c2 _ _ rfl,(Option.some.inj (show some (Rz.fin e s)=some o from hk)).symm⟩
   |val x1 J=>
    obtain rfl:=c5 _ _ rfl;simp only[bindR]at C
    obtain⟨r',t⟩: ∃r',Dn cx Y G ow (l.drop (k+1)) J=some r':=by
     cases t:Dn cx Y G ow (l.drop (k+1)) J with
     |none=>rw[t]at C;cases C
     |some r'=>exact⟨r',rfl⟩
    rw[t]at C;refine .inl ⟨rfl,Y,r',by omega,t, ?_⟩
    cases r' with
    |fin e s=>
     obtain rfl:=Option.some.inj (show some (Rz.fin e s)=some Z from C);exact hk
    |val b3 s=>
     obtain rfl:=Option.some.inj (show some (Rz.val (w::b3) s)=some Z from C);simpa [bindR]using hk
  have b7:=aW c0;have hV:=ih.V i G ow a D L E M2 x wv bk vl B (hl.all _ b7) (fun u hu=>d u ((fU b7).1 u hu)) (fun u hu=>d u ((fU b7).2 u hu)) a0 c7 hu hx e7;rw[a.row_eq]at hV;refine aL ?_;simp only[RR];refine aI ?_;refine aN ?_;refine aG ?_;simp only[T,f1,f3,a5,a4,e9,RR,seval];refine lV hV (fun _=>trivial) fun w d9 H1 uw c5 c2 U Q=>?_;have b4:=a8.keep a0 Q;have c8:=c7.keep a0 Q;have d8:=a0.keep hx (by decide) (by decide) Q;simp only[RR,seval];refine dK ?_;simp only[RR,seval];refine jA b4.h (by simp only[aE,aJ,aS];omega) (fun _ _=>trivial) fun v' H2 f5 b6 b9=>?_;simp only[RR,seval];have e4:=U.grow b4 b6;have e5:=b4.grow U f5 b9;have e3:=c8.other c9 b6;have f7:=b6 x _ d8 (b4.h.offsz d8 (by decide) _ _);have e6: ∀s b n,wv= .osl s b n→Al.off v' b:=fun s b n e=>b9 b (c9 s b n e) (c8.h.there _ _ _ e)
  have f2: ∀b o,HX b=some o→b≠r→Al.off vv b→b∉abs→Al.off vo b→H2 b=some o∧Al.off d9 b∧Al.off v' b:=fun b o O c t A N=>by
   obtain⟨R,S,q3⟩:=a2 b o O c t A N;obtain⟨q4,q5⟩:=Q b o R c t A S;exact⟨b6 b o q4 (q3 _ _),q5,b9 b q3 (by rw[q4];exact bY _)⟩
  refine aG ?_;simp only[a5,RR,seval];rw[aT _ (by omega)];refine e2 _ _ c1 ⟨by rfl,B.st,d9,mN B,v',vs++[w],rfl,(by simp [d7]),(fun y hy=>by rcases eR.1 hy with hy|hy;exact c4 y hy;rw[bA.1 hy];exact uw),e5,e4,e3,e6,f7,f2,f4 w c5 c2⟩ (by repeat (first|exact e0|refine bB.upd rfl ?_))
 have d6:k=l.length:=by have:=aH hc;omega
 clear hc;rw[d6,dA]at a1;rw[d6]at d7
 have a1:(E=0∧Nx cx n f l.length vs D=some o)∨(E≠0∧o= .fin E D):=by
  rcases a1 with⟨he,m,Z,_,C,hk⟩|hc
  ·refine .inl ⟨he, ?_⟩
   cases m with
   |zero=>simp [Dn]at C
   |succ Y=>
    simp only[Dn,Option.some.injEq]at C;subst C;simpa [bindR]using hk
  exact .inr hc
 refine cC ?_;simp only[RR,seval];refine aI ?_;refine aA fun K d=>?_;simp only[T,W,RR,seval];apply d;clear d K;refine aX ?_ ?_<;>intro d0
 ·have b5:E=0:=by simpa using d0
  subst b5
  have I:Nx cx n f l.length vs D=some o:=by
   rcases a1 with⟨_,h⟩|⟨h,_⟩
   ·exact h
   exact absurd rfl h
  have hT:=Bd hj.cx a0;unfold Nx at I;generalize g0:nF cx D=F at I hT
  have b0:(∃e s,F= .fin e s∧o= .fin e s)∨ ∃s z,F= .val () s∧oS cx n f.res (vs++List.replicate (f.words-l.length) 0) f.body s=some z∧bindR (some z) (fun r st=>some (Rz.val (r.1.getD 0) st))=some o:=by
   cases F with
   |fin e s=>exact .inl ⟨e,s,rfl,(Option.some.inj (show some (Rz.fin e s)=some o from I)).symm⟩
   |val q s=>
    simp only[bindR]at I
    cases hL:oS cx n f.res (vs++List.replicate (f.words-l.length) 0) f.body s with
    |none=>rw[hL]at I;cases I
    |some z=>rw[hL]at I;exact .inr ⟨s,z,rfl,hL,I⟩
  refine aG ?_;simp only[T,RR,seval];refine Bn hT (fun _=>trivial) fun H1 b1 U Q=>?_;have W:=U.r;have a8:=a8.keep a0 Q
  have a2: ∀b o,HX b=some o→b≠r→Al.off vv b→b∉abs→Al.off vo b→H1 b=some o∧Al.off L b∧Al.off wk b:=fun b o O c t A N=>by
   obtain⟨R,S,q3⟩:=a2 b o O c t A N;obtain⟨q4,q5⟩:=Q b o R c t A S;exact⟨q4,q5,q3⟩
  simp only[RR,seval];refine aI ?_;refine aA fun K d=>?_;simp only[T,W,RR,seval];apply d;clear d K;refine aX ?_ ?_<;>intro a9
  ·obtain⟨e1,J,rfl⟩:=rX (o:=F) (by simpa using a9)
   obtain ho:o= .fin e1 J:=by
    rcases b0 with⟨e,s,c,t⟩|⟨_,_,c,_⟩
    ·cases c;exact t
    cases c
   subst ho;refine aA fun K d=>?_;simp only[RR,seval];apply d;clear d K;refine aO ?_;simp only[aY,aK,bR,RR,seval];exact aZ.run ⟨0,L,rfl,by simp [eB],(fun _ _ e=>by cases e),(fun e s h=>by cases h;exact b1 _ _ rfl),U,fun b o O c t A N=>by obtain⟨R,S,_⟩:=a2 b o (by rw[a7];exact O) c t A N;exact⟨R,S⟩⟩
  obtain⟨_,J,rfl⟩:=rW (o:=F) b1 (by simpa using a9)
  obtain⟨z,hL,b2⟩: ∃z,oS cx n f.res (vs++List.replicate (f.words-l.length) 0) f.body J=some z∧bindR (some z) (fun r st=>some (Rz.val (r.1.getD 0) st))=some o:=by
   rcases b0 with⟨e,s,c,t⟩|⟨s,z,c,t,A⟩
   ·cases c
   cases c;exact⟨z,t,A⟩
  rw[P,d3,d4,←d5,gO]at hL;have hB:=Bg ih hj j g hg vs J L _ wk z U a8 c4 (by omega) (by omega) hL;refine aL ?_;simp only[RR];refine aA fun K d=>?_;simp only[T,a6,a4,RR,seval];refine tA hB (fun _=>trivial) fun ae H2 ⟨w,c6,g1,g2,g3,g4,g5,g6⟩=>?_;subst g1
  have b8:(∀v s,o= .val v s→w=v)∧(∀e s,o= .fin e s→e≠0)∧mN o=mN z∧o.st=z.st:=by
   cases z with
   |fin e s=>
    obtain rfl:=Option.some.inj (show some (Rz.fin e s)=some o from b2);exact⟨(fun _ _ e=>by cases e),(fun e' s' h=>by cases h;exact g4 _ _ rfl),rfl,rfl⟩
   |val q s=>
    obtain rfl:=Option.some.inj (show some (Rz.val (q.1.getD 0) s)=some o from b2);exact⟨(fun v s' h=>by cases h;exact g3 _ _ rfl),(fun _ _ e=>by cases e),rfl,rfl⟩
  obtain⟨R,S,q3,q4⟩:=b8;rw[←q3,←q4]at g5;simp only[RR,seval];apply d;clear d K;refine aO ?_;simp only[aY,aK,bR,RR,seval];refine aZ.run ⟨w,c6,rfl,g2,R,S,g5,fun b o O c t A N=>?_⟩;obtain⟨p1,p2,p3⟩:=a2 b o (by rw[a7];exact O) c t A N;exact g6 b o p1 c t A p2 c p3
 have b5: ¬E=0:=by simpa using d0
 obtain⟨F,c3⟩: ∃F:Rz Unit,F= .fin E D:=⟨_,rfl⟩
 have b0:(∃e s,F= .fin e s∧o= .fin e s)∨ ∃s z,F= .val () s∧oS cx n f.res (vs++List.replicate (f.words-l.length) 0) f.body s=some z∧bindR (some z) (fun r st=>some (Rz.val (r.1.getD 0) st))=some o:=by
  rcases a1 with⟨h,_⟩|⟨_,h⟩
  ·exact absurd h b5
  exact .inl ⟨E,D,c3,h⟩
 have b1: ∀e s,F= .fin e s→e≠0:=fun e s h=>by rw[c3]at h;cases h;exact b5
 have U:fM p cx r vv abs F.st L (mN F) M2:=by rw[c3];exact a0
 have W:=U.r;refine aL ?_;simp only[RR];refine aI ?_;refine aA fun K d=>?_;simp only[T,W,RR,seval];apply d;clear d K;refine aX ?_ ?_<;>intro a9
 ·obtain⟨e1,J,rfl⟩:=rX (o:=F) (by simpa using a9)
  obtain ho:o= .fin e1 J:=by
   rcases b0 with⟨e,s,c,t⟩|⟨_,_,c,_⟩
   ·cases c;exact t
   cases c
  subst ho;refine aA fun K d=>?_;simp only[RR,seval];apply d;clear d K;refine aO ?_;simp only[aY,aK,bR,RR,seval];exact aZ.run ⟨0,L,rfl,by simp [eB],(fun _ _ e=>by cases e),(fun e s h=>by cases h;exact b1 _ _ rfl),U,fun b o O c t A N=>by obtain⟨R,S,_⟩:=a2 b o (by rw[a7];exact O) c t A N;exact⟨R,S⟩⟩
 obtain⟨_,J,rfl⟩:=rW (o:=F) b1 (by simpa using a9)
 obtain⟨z,hL,b2⟩: ∃z,oS cx n f.res (vs++List.replicate (f.words-l.length) 0) f.body J=some z∧bindR (some z) (fun r st=>some (Rz.val (r.1.getD 0) st))=some o:=by
  rcases b0 with⟨e,s,c,t⟩|⟨s,z,c,t,A⟩
  ·cases c
  cases c;exact⟨z,t,A⟩
 rw[P,d3,d4,←d5,gO]at hL;have hB:=Bg ih hj j g hg vs J L _ wk z U a8 c4 (by omega) (by omega) hL;refine aL ?_;simp only[RR];refine aA fun K d=>?_;simp only[T,a6,a4,RR,seval];refine tA hB (fun _=>trivial) fun ae H2 ⟨w,c6,g1,g2,g3,g4,g5,g6⟩=>?_;subst g1
 have b8:(∀v s,o= .val v s→w=v)∧(∀e s,o= .fin e s→e≠0)∧mN o=mN z∧o.st=z.st:=by
  cases z with
  |fin e s=>
   obtain rfl:=Option.some.inj (show some (Rz.fin e s)=some o from b2);exact⟨(fun _ _ e=>by cases e),(fun e' s' h=>by cases h;exact g4 _ _ rfl),rfl,rfl⟩
  |val q s=>
   obtain rfl:=Option.some.inj (show some (Rz.val (q.1.getD 0) s)=some o from b2);exact⟨(fun v s' h=>by cases h;exact g3 _ _ rfl),(fun _ _ e=>by cases e),rfl,rfl⟩
 obtain⟨R,S,q3,q4⟩:=b8;rw[←q3,←q4]at g5;simp only[RR,seval];apply d;clear d K;refine aO ?_;simp only[aY,aK,bR,RR,seval];refine aZ.run ⟨w,c6,rfl,g2,R,S,g5,fun b o O c t A N=>?_⟩;obtain⟨p1,p2,p3⟩:=a2 b o (by rw[a7];exact O) c t A N;exact g6 b o p1 c t A p2 c p3
end
section
variable {p : Pg} {cx : Cx} {r : Nat} {vv : AV} {abs : List Nat} {n : Nat}
theorem Dc {en:Int} (ih:en=0→Ab p cx r vv abs n) (i:Nat) (E:dC→Bool×Int) (ow:List Int) (l:List Sm) (st:RS) (vo:AV) (H:Hp) (x:Nat) (wv:AV) (O:Bool) (Z:Int) (o:Rz (Option Int×List Int)) (hl:xH l) (T: ∀u∈dY l,UJ p i E u) (hR:fM p cx r vv abs st vo en H) (hW:hJ vv abs vo wv ow H) (A: ∀y∈ow,eB y) (C:H x=some (.rows 4 [[.int .i64 i,wv, .bool O, .int .u32 Z]])) (a5:eB Z) (J:O=false→Z=0) (b0:en=0→O=false) (h:uN en st (oS cx (n+1) E ow l st) o):
  pK dN 67 [.ptr 11 r 0 0, .ptr 4 x 0 0, .isl 5 (l.map Sm.row)] H (sS p cx r vv abs vo x i wv ow.length H o):=by
 have W:=hR.r;have c2:=hl.fit;simp only[eV]at c2;have c7:x≠r:=fun e=>by rw[e,W]at C;cases C
 have d2:=c7.symm;obtain⟨HX,a6⟩: ∃X,X=H:=⟨_,rfl⟩;obtain⟨w,hw⟩: ∃w,w=ow.length:=⟨_,rfl⟩;rw[←hw];refine bX 34 [] func67 ?_;refine aA fun K hK=>?_;simp only[RR,seval];refine hK _ _ (bT fun F1 M1 V hH=>?_);have f0:=V 0;have f1:=V 1;have f2:=V 2;have P:=V 6;have gr:=hH r;have gx:=hH x;simp only[W,C,RR,seval]at f0 f1 f2 P gr gx;have hM:=funext hH;have W:=gr;have C:=gx;refine aN ?_;refine iP [0,1,2] (l.length) (fun m fr M=> ∃k z I j g B F,m+k=l.length∧fr 6= .int .i64 (k:Nat)∧g.length=w∧(∀y∈g,eB y)∧eB F∧(B=false→F=0)∧fM p cx r vv abs z I j M∧hJ vv abs I wv g M∧M x=some (.rows 4 [[.int .i64 i,wv, .bool B, .int .u32 F]])∧kC r vv abs vo I x wv HX M∧(¬en=0→ ¬j=0)∧((j=0∧B=false∧ ∃f,f≤n+1∧oS cx f E g (l.drop k) z=some o)∨(j=0∧B=true∧o= .val (some F,g) z)∨(j≠0∧o= .fin j z))) ⟨0,st,vo,en,ow,O,Z,rfl,P,hw.symm,A,a5,J,(by rw[hM];exact hR),(by rw[hM];exact hW),C,(by rw[hM,a6];exact(dV.refl _ _ _ _ _).w _ _),(fun h=>h),(by rcases h with⟨b,c⟩|⟨b,c⟩;exact .inl ⟨b,b0 b,n+1,bE _,c⟩;exact .inr (.inr ⟨b,c⟩))⟩ ?_;rintro m F2 M2 ⟨k,z,I,j,g,B,F,d0,P,b4,b3,a5,J,R,a7,C,a3,U,a1⟩ N K0 b9;have f0:=(N 0 rfl).trans f0;have f1:=(N 1 rfl).trans f1;have f2:=(N 2 rfl).trans f2;have b7:=bB.refl [0,1,2] F2;clear N;have W:=R.r;clear h b0;have hen:j=0∨ ¬j=0:=by by_cases h:j=0;exact .inl h;exact .inr h
 have c6:(k:Int)<(l.length:Int)∨ ¬(k:Int)<(l.length:Int):=by omega
 rcases hen with hen|hen<;>rcases c6 with zk|zk<;>rcases Bool.eq_false_or_eq_true B with hbk|hbk
 all_goals
  refine aI (aA fun K hK=>?_);simp only[*,aE,zk,RR,seval]
  repeat' ((refine cQ (fun h=>?_) (fun h=>?_))<;>simp only[*,aE,zk,RR,seval])
  all_goals
   refine hK _ _ (aX ?_ ?_)<;>intro L
   ·try (cases L;done)
    all_goals
     have c5:=L;clear L;have b2:k<l.length:=by omega
     have U:en=0:=by
      by_cases he:en=0
      ·exact he
      exact absurd hen (U he)
     have ih:=ih U
     have t: ∃f,f≤n+1∧oS cx f E g (l.drop k) z=some o:=by
      rcases a1 with⟨_,_,h⟩|⟨_,h,_⟩|⟨h,_⟩
      ·exact h
      ·rw[hbk]at h;cases h
      exact absurd hen h
     clear a1;have b5:=C;obtain⟨f,d1,t⟩:=t;rw[hbk,J hbk]at b5;have a8:=R;rw[hen]at a8;have a2:=aD b2;have b1:l.drop k=l[k]::l.drop (k+1):=bJ b2;generalize l[k]=a at a2 b1;have c9:=Hr a2;rw[b1]at t
     obtain⟨D,rfl⟩: ∃D,f=D+1:=by
      cases f with
      |zero=>simp [oS]at t
      |succ D=>exact⟨D,rfl⟩
     simp only[oS]at t
     obtain⟨d,b⟩: ∃d,rA cx D E g a z=some d:=by
      cases b:rA cx D E g a z with
      |none=>rw[b]at t;cases t
      |some d=>exact⟨d,rfl⟩
     rw[b]at t;have a9:=aW a2;have Y:=Ly a9;have hS:=ih.S i E g a z I _ x wv d (hl.all _ a9) (fun u A=>T u (Y.1 u A)) (fun u A=>T u (Y.2.1 u A)) (fun u A=>T u (Y.2.2.1 u A)) (fun u A=>T u (Y.2.2.2 u A)) a8 a7 b3 b5 (IK (by omega) b);rw[b4,a.row_eq]at hS;refine aL ?_;simp only[RR];refine aI (aN (aG ?_));simp only[*,RR,seval];refine Jh hS (fun _=>trivial) fun a4 a0 b6 c8 H1 g1 g2 g3 g4 g5 g6 g7 g8 g9 b8=>?_;have c3:=a3.trans b8
     have c0:(mN d=0∧a0=false∧ ∃f,f≤n+1∧oS cx f E a4 (l.drop (k+1)) d.st=some o)∨(mN d=0∧a0=true∧o= .val (some b6,a4) d.st)∨(mN d≠0∧o= .fin (mN d) d.st):=by
      cases d with
      |fin e s=>exact .inr (.inr ⟨g6 _ _ rfl,(Option.some.inj (show some (Rz.fin e s)=some o from t)).symm⟩)
      |val q s=>
       obtain⟨q1,q2⟩:=q;obtain⟨b,c,G⟩:=g5 _ _ rfl;simp only at b c G;subst b
       cases q1 with
       |none=>exact .inl ⟨rfl,c,D,by omega,t⟩
       |some v=>
        simp only[iW]at G;subst G;exact .inr (.inl ⟨rfl,c,(Option.some.inj t).symm⟩)
     have ek:IntKind.wrap .i64 ((k:Int)+1)=((k+1:Nat):Int):=by rw[aT _ (by omega)];omega
     simp only[RR,seval];refine aG ?_;simp only[P,ek,RR,seval];refine b9 (m- 1) _ _ (by omega) ⟨k+1,d.st,c8,mN d,a4,a0,b6,(by omega),rfl,g1,g2,g3,g4,g9,g8,g7,c3,(fun h=>absurd U h),c0⟩ (by repeat (first|exact b7|refine bB.upd rfl ?_))
   try (cases L;done)
   all_goals
    have c5:=L
    have c1:(∀q s,o= .val q s→g=q.2∧B=q.1.isSome∧F=q.1.getD 0)∧(∀e s,o= .fin e s→e≠0)∧o.st=z∧mN o=j:=by
     rcases a1 with⟨b,c,f,G,Q⟩|⟨b,c,G⟩|⟨b,c⟩
     ·obtain c4:k=l.length:=by first|omega|(exfalso;exact hen b)|(exfalso;rw[hbk]at c;cases c)
      rw[c4,dA]at Q
      cases f with
      |zero=>simp [oS]at Q
      |succ D=>
       simp only[oS,Option.some.injEq]at Q;subst Q;exact⟨(fun q s e=>by cases e;exact⟨rfl,c,J c⟩),(fun _ _ e=>by cases e),rfl,b.symm⟩
     ·subst G
      exact⟨(fun q s e=>by cases e;exact⟨rfl,c,rfl⟩),(fun _ _ e=>by cases e),rfl,b.symm⟩
     subst c;exact⟨(fun _ _ e=>by cases e),(fun _ _ e=>by cases e;exact b),rfl,rfl⟩
    obtain⟨e1,e2,e3,e4⟩:=c1;rw[←e3,←e4]at R;rw[a6]at a3;refine cC ?_;simp only[RR,seval];simp only[aY,aK,bR,seval];exact aZ.run ⟨g,B,F,I,rfl,b4,b3,a5,J,e1,e2,C,a7,R,a3⟩
end
section
variable {p : Pg} {cx : Cx} {r : Nat} {vv : AV} {abs : List Nat} {n : Nat}
theorem Df {en:Int} (ih:en=0→Ab p cx r vv abs n) (z:NH cx) (i:Nat) (rs:dC→Bool×Int) (ow:List Int) (e:Ex) (st:RS) (vo:AV) (H:Hp) (x:Nat) (wv:AV) (bk:Bool) (vl:Int) (o:Rz Int) (he:e.ok) (hU: ∀u∈mO e,UJ p i rs u) (d: ∀u∈fE e.kids,UJ p i rs u) (R:fM p cx r vv abs st vo en H) (hW:hJ vv abs vo wv ow H) (hu: ∀y∈ow,eB y) (a3:H x=some (.rows 4 [[.int .i64 i,wv, .bool bk, .int .u32 vl]])) (h:uN en st (nH cx (n+1) rs ow e st) o):
  pK dN 153 [.ptr 11 r 0 0, .ptr 4 x 0 0, .agg e.row] H (Vo p cx r vv abs vo H o):=by
 obtain⟨k,op,m,s,l⟩:=e;have t:=R.r;have f8:=he.num;have d5:=he.kids;simp only[Ex.num,Ex.kids]at f8 d5 d;have g5:(Ex.mk k op m s l).row=[.int .i64 k, .int .i64 op, .int .u32 m, .str s, .isl 5 (l.map Ex.row)]:=Ex.row_eq _;rw[g5];clear g5;have i4:x≠r:=fun e=>by rw[e,t]at a3;cases a3
 have j1:=i4.symm;rcases h with⟨rfl,h⟩|⟨f4,rfl⟩
 rotate_left
 ·have z0: ¬en=0:=f4
  refine bX 232 [.tmp 6] func153 ?_;refine aA fun K d=>?_;simp only[RR,seval];refine aQ fun L g=>?_;have N:=dG g t;have B:=N.symm;simp only[RR,seval];refine d _ _ (aI (aA fun K d=>?_));simp only[t,B,z0,RR,seval];refine d _ _ (cL (aA fun K d=>?_));simp only[RR,seval];apply d;refine aO ?_;simp only[aY,aK,bR,RR,seval];exact aZ.run ⟨0,vo,rfl,by simp [eB],(fun _ _ e=>by cases e),(fun _ _ e=>by cases e;exact f4),R.new g _,(dV.refl _ _ _ _ _).updN g _⟩
 have ih:=ih rfl;simp only[nH]at h;have h0: ∀{j:Nat} {a:Ex},l[j]?=some a→a.ok:=fun hj=>d5.all _ (aW hj);have hV:=fun(j:Nat) (a:Ex) (hj:l[j]?=some a) st vo en H o h3 h4 h5 h6=>ih.V i rs ow a st vo en H x wv bk vl o (h0 hj) (fun u hu=>d u ((fU (aW hj)).1 u hu)) (fun u hu=>d u ((fU (aW hj)).2 u hu)) h3 h4 hu h5 h6;have f9:p.av= .agg [.isl 1 (p.vars.map bH), .isl 2 (p.arrs.map Ar.row), .isl 5 (p.funs.map Fu.row)]:=rfl;by_cases k1:k=1
 ·subst k1
  simp only[cT]at h;cases h;refine bX 232 [.tmp 6] func153 ?_;refine aA fun K d=>?_;simp only[RR,seval];refine aQ fun L g=>?_;have N:=dG g t;have B:=N.symm;simp only[RR,seval];refine d _ _ (aI (aA fun K d=>?_));simp only[t,B,RR,seval];refine d _ _ (bN ?_);refine aL ?_;simp only[RR];refine aI (aA fun K d=>?_);simp only[RR,seval];refine d _ _ (aN (aA fun K d=>?_));simp only[RR,seval];refine d _ _ (cL (aA fun K d=>?_));simp only[RR,seval];apply d;refine aO ?_;simp only[aY,aK,bR,RR,seval];exact aZ.run ⟨m,vo,rfl,f8,(fun _ _ e=>by cases e;rfl),(fun _ _ e=>by cases e),R.new g _,(dV.refl _ _ _ _ _).updN g _⟩
 by_cases k2:k=2
 ·subst k2
  simp only[show ¬(2:Int)=1 by decide,dP,cT,Vx]at h;have a9:=hU ⟨s,1,0⟩ (by simp [mO,Ex.kind,Ex.name]);have hF:=a9.f;rw[f9]at hF;simp only at hF;have hk:=a9.k1;generalize eL p i s=fi at hF hk;obtain⟨kk,ii⟩:=fi;simp only at hF hk;by_cases z0:0≤(rs s).2
  rotate_left
  ·rw[aM z0]at h;cases h
  rw[bP z0]at h;rcases hk with⟨rfl,c5⟩|⟨rfl,c5⟩
  ·rw[c5]at h z0
   simp only[cT,bI]at h z0;obtain⟨y,hg,rfl⟩:=h;obtain⟨bo,rfl,b9⟩:=hW.osl hg;have hl:=(bC.1 hg).1;have zl:ii<(ow.length:Int):=by omega
   have d2:=sO hg;have d7:=hu y (aW hg);have z:=a3;have d8:bo≠r:=R.nr b9;have d9:bo≠x:=fun e=>by rw[e,a3]at b9;cases b9
   have i0:r≠bo:=fun e=>d8 e.symm;have i3:x≠bo:=fun e=>d9 e.symm;refine bX 232 [.tmp 6] func153 ?_;refine aA fun K d=>?_;simp only[RR,seval];refine aQ fun L g=>?_;have N:=dG g t;have B:=N.symm;have Y:=dG g z;have W:=Y.symm;have h7:=dG g b9;have i1:=h7.symm;simp only[RR,seval];refine d _ _ (aI (aA fun K d=>?_));simp only[t,B,RR,seval];refine d _ _ (bN ?_);refine aL ?_;simp only[RR];refine aI (aA fun K d=>?_);simp only[RR,seval];refine d _ _ (aN (aA fun K d=>?_));simp only[RR,seval];refine d _ _ (bN (aA fun K d=>?_));simp only[RR,seval];refine d _ _ (cL (aC fun K d=>?_));refine bF (fun x=>x≠r∧x≠x∧x≠bo∧x≠L) [(0,3),(1,3),(2,3),(3,1),(4,3),(5,3),(6,3),(7,1),(8,3),(9,1),(10,1),(11,3),(12,3),(13,3),(14,3),(15,3)] [] eP (by kernel_rfl) rfl rfl ?_;simp only[eM,t,z,B,W,RR,seval];refine aP (hF) ?_;simp only[RR,seval];refine d _ _ (aI (aA fun K d=>?_));simp only[RR,seval];refine d _ _ (cL (aA fun K d=>?_));simp only[z,b9,W,i1,z0,zl,d2,RR,seval];apply d;refine aO ?_;simp only[aY,aK,bR,RR,seval];exact aZ.run ⟨y,vo,rfl,d7,(fun _ _ e=>by cases e;rfl),(fun _ _ e=>by cases e),R.new g _,(dV.refl _ _ _ _ _).updN g _⟩
  rw[c5]at h z0;simp only[cF,dP,bI]at h z0;obtain⟨y,hg,rfl⟩:=h;obtain⟨bv,rfl,c0⟩:=R.osl hg;have hl:=(bC.1 hg).1;have zl:ii<(st.vars.length:Int):=by omega
  have d2:=sO hg;have d7:=R.uv y (aW hg);have z:=a3;have d8:bv≠r:=R.nr c0;have d9:bv≠x:=fun e=>by rw[e,a3]at c0;cases c0
  have i0:r≠bv:=fun e=>d8 e.symm;have i3:x≠bv:=fun e=>d9 e.symm;refine bX 232 [.tmp 6] func153 ?_;refine aA fun K d=>?_;simp only[RR,seval];refine aQ fun L g=>?_;have N:=dG g t;have B:=N.symm;have Y:=dG g z;have W:=Y.symm;have h8:=dG g c0;have i2:=h8.symm;simp only[RR,seval];refine d _ _ (aI (aA fun K d=>?_));simp only[t,B,RR,seval];refine d _ _ (bN ?_);refine aL ?_;simp only[RR];refine aI (aA fun K d=>?_);simp only[RR,seval];refine d _ _ (aN (aA fun K d=>?_));simp only[RR,seval];refine d _ _ (bN (aA fun K d=>?_));simp only[RR,seval];refine d _ _ (cL (aC fun K d=>?_));refine bF (fun x=>x≠r∧x≠x∧x≠bv∧x≠L) [(0,3),(1,3),(2,3),(3,1),(4,3),(5,3),(6,3),(7,1),(8,3),(9,1),(10,1),(11,3),(12,3),(13,3),(14,3),(15,3)] [] eP (by kernel_rfl) rfl rfl ?_;simp only[eM,t,z,B,W,RR,seval];refine aP (hF) ?_;simp only[RR,seval];refine d _ _ (aI (aA fun K d=>?_));simp only[RR,seval];refine d _ _ (bN ?_);refine aL ?_;simp only[RR];refine aA fun K d=>?_;simp only[t,c0,B,i2,z0,zl,d2,RR,seval];apply d;refine aO ?_;simp only[aY,aK,bR,RR,seval];exact aZ.run ⟨y,vo,rfl,d7,(fun _ _ e=>by cases e;rfl),(fun _ _ e=>by cases e),R.new g _,(dV.refl _ _ _ _ _).updN g _⟩
 by_cases k3:k=3
 ·subst k3
  simp only[show ¬(3:Int)=1 by decide,show ¬(3:Int)=2 by decide,dP,cT]at h;have a9:=hU ⟨s,3,0⟩ (by simp [mO,Ex.kind,Ex.name]);have hF:=a9.f;rw[f9]at hF;simp only at hF;have hk:=a9.k3;generalize eL p i s=fi at hF hk;obtain⟨kk,ii⟩:=fi;simp only at hF hk;obtain⟨rfl,c5⟩:=hk;rw[c5]at h
  cases hl0:l[0]? with
  |none=>rw[hl0]at h;cases h
  |some a=>
   simp only[hl0]at h;have b1:=pR hl0
   obtain⟨F,h1⟩: ∃F,nH cx n rs ow a st=some F:=by
    cases h1:nH cx n rs ow a st with
    |none=>rw[h1]at h;cases h
    |some F=>exact⟨F,rfl⟩
   rw[h1]at h;have a5:=fun H' g1 g2 g3=>hV 0 a hl0 st vo 0 H' F g1 g2 g3 (.inl ⟨rfl,h1⟩);rw[a.row_eq]at a5;have z:=a3;obtain⟨HX,e0⟩: ∃X,X=H:=⟨_,rfl⟩;refine bX 232 [.tmp 6] func153 ?_;refine aA fun K d=>?_;simp only[RR,seval];refine aQ fun L g=>?_;have N:=dG g t;have B:=N.symm;have Y:=dG g z;have W:=Y.symm;simp only[RR,seval];refine d _ _ (aI (aA fun K d=>?_));simp only[t,B,RR,seval];refine d _ _ (bN ?_);refine aL ?_;simp only[RR];refine aI (aA fun K d=>?_);simp only[RR,seval];refine d _ _ (aN (aA fun K d=>?_));simp only[RR,seval];refine d _ _ (bN (aA fun K d=>?_));simp only[RR,seval];refine d _ _ (bN (aA fun K d=>?_));simp only[RR,seval];refine d _ _ (cL (aC fun K d=>?_));refine bF (fun x=>x≠r∧x≠x∧x≠L) [(0,3),(1,3),(2,3),(3,1),(4,3),(5,3),(6,3),(7,1),(8,3),(9,1),(10,1),(11,3),(12,3),(13,3),(14,3),(15,3)] [] eP (by kernel_rfl) rfl rfl ?_;simp only[eM,t,z,B,W,RR,seval];refine aP (hF) ?_;simp only[RR,seval];refine d _ _ (bT fun F1 M1 G A=>?_);have J:=G 0;have Q:=G 1;have O:=G 5;have f6:=G 6;have c9:=G 10;have T:=A r;have U:=A x;have I:=A L;simp only[t,z,B,W,RR,seval]at J Q O f6 c9 T U I;have hM:=funext A;have P:=(R.new g _).same A;have Z:=(hW.new g _).same A;have a0:dV r vv abs vo vo H M1:=by rw[hM];exact(dV.refl _ _ _ _ _).updN g _
   have t:=T;have z:=U;refine aA fun K d=>?_;simp only[J,Q,O,I,b1,RR,seval];refine lV (a5 _ P Z z) (fun _=>trivial) fun w a1 H1 uw c6 b3 E M=>?_;have t:=E.r;have z:=P.keep z (by decide) (by decide) M;have d3:=a0.trans M;simp only[RR,seval];refine d _ _ (aI (aA fun K d=>?_));simp only[J,t,RR,seval];refine d _ _ (aX ?_ ?_)<;>intro e5
   ·obtain⟨S,D,rfl⟩:=rX (o:=F) (by simpa using e5)
    obtain rfl:=Option.some.inj (show some (Rz.fin S D)=some o from h);refine aA fun K d=>?_;simp only[RR,seval];apply d;refine aO ?_;simp only[aY,aK,bR,RR,seval];exact aZ.run ⟨0,a1,rfl,by simp [eB],(fun _ _ e=>by cases e),b3,E,d3⟩
   obtain⟨x1,D,rfl⟩:=rW (o:=F) b3 (by simpa using e5);obtain rfl:=c6 _ _ rfl;simp only[bindR]at h;by_cases z0:0≤ii
   rotate_left
   ·rw[aM z0]at h;cases h
   rw[bP z0]at h;obtain⟨ia,rfl⟩:=iM z0;simp only[dU,Z2]at h
   obtain⟨la,a4⟩: ∃la,D.arrs[ia]?=some la:=by
    cases a4:D.arrs[ia]? with
    |none=>rw[a4]at h;cases h
    |some la=>exact⟨la,rfl⟩
   rw[a4]at h;simp only at h;have hl:ia<abs.length:=by rw[E.al];exact(bC.1 a4).1
   have hb:=aD hl;generalize abs[ia]=ba at hb;have f7:=wA abs D.arrs ia ba la hb a4;have e4:=E.a ia ba la hb a4;have i7:=(E.ua la (aW a4)).1;obtain⟨m1,rfl⟩:=iM uw.1;have i9:=uw.2;have S:IntKind.wrap .u64 (m1:Int)=(m1:Int):=by simp [IntKind.wrap,IntKind.signed,IntKind.bits];omega
   have e2:IntKind.wrap .u64 (la.length:Int)=(la.length:Int):=by simp [IntKind.wrap,IntKind.signed,IntKind.bits];omega
   rw[dU]at h;have t:H1 r=_:=E.r;have d6:(Rz.val (m1:Int) D).st=D:=rfl;have d0:mN (Rz.val (m1:Int) D)=0:=rfl;rw[d6,d0]at t;have h9:ba≠r:=E.nr e4;have j0:r≠ba:=fun e=>h9 e.symm;refine aL ?_;simp only[RR];refine aI (aA fun K d=>?_);simp only[J,c9,t,f7,S,e2,RR,seval];refine d _ _ (aX ?_ ?_)<;>intro e6
   ·have hf: ¬m1<la.length:=by have:=aF e6;omega
    rw[aM hf]at h;cases h;refine aA fun K d=>?_;simp only[J,t,RR,seval];refine d _ _ (aA fun K d=>?_);simp only[RR,seval];apply d;refine aO ?_;simp only[aY,aK,bR,RR,seval];exact aZ.run ⟨0,a1,rfl,by simp [eB],(fun _ _ e=>by cases e),(fun _ _ e=>by cases e;decide),fM.turn E 3 rfl rfl rfl E.rd E.tk,d3.trans (dV.run _)⟩
   have hf:m1<la.length:=by have:=aH e6;omega
   have zf:(m1:Int)<(la.length:Int):=by omega
   rw[bP hf]at h;simp only[a4,cA,bI]at h;obtain⟨y,hy,rfl⟩:=h;have g7:=sO hy;have uy:=(E.ua la (aW a4)).2 y (aW hy);refine aL ?_;simp only[RR];refine aA fun K d=>?_;simp only[J,c9,t,e4,f7,g7,zf,RR,seval];apply d;refine aO ?_;simp only[aY,aK,bR,RR,seval];exact aZ.run ⟨y,a1,rfl,uy,(fun _ _ e=>by cases e;rfl),(fun _ _ e=>by cases e),E,d3⟩
 by_cases k4:k=4
 ·subst k4
  simp only[show ¬(4:Int)=1 by decide,show ¬(4:Int)=2 by decide,show ¬(4:Int)=3 by decide,dP,cT]at h;have a9:=hU ⟨s,4,l.length⟩ (by simp [mO,Ex.kind,Ex.name,Ex.kids]);have z:=a3;have hC:=fun H' g1 g2 g3=>ih.C i rs ow s l st vo H' x wv bk vl o d5 a9 d g1 g2 hu g3 h;obtain⟨HX,e0⟩: ∃X,X=H:=⟨_,rfl⟩;refine bX 232 [.tmp 6] func153 ?_;refine aA fun K d=>?_;simp only[RR,seval];refine aQ fun L g=>?_;have N:=dG g t;have B:=N.symm;have Y:=dG g z;have W:=Y.symm;simp only[RR,seval];refine d _ _ (aI (aA fun K d=>?_));simp only[t,B,RR,seval];refine d _ _ (bN ?_);refine aL ?_;simp only[RR];refine aI (aA fun K d=>?_);simp only[RR,seval];refine d _ _ (aN (aA fun K d=>?_));simp only[RR,seval];refine d _ _ (bN (aA fun K d=>?_));simp only[RR,seval];refine d _ _ (bN (aA fun K d=>?_));simp only[RR,seval];refine d _ _ (bN (aA fun K d=>?_));simp only[RR,seval];refine d _ _ (cL (bT fun F1 M1 G A=>?_));have J:=G 0;have Q:=G 1;have O:=G 5;have f6:=G 6;have T:=A r;have U:=A x;have I:=A L;simp only[t,z,B,W,RR,seval]at J Q O f6 T U I;have hM:=funext A;have P:=(R.new g _).same A;have Z:=(hW.new g _).same A;have a0:dV r vv abs vo vo H M1:=by rw[hM];exact(dV.refl _ _ _ _ _).updN g _
  have t:=T;have z:=U;refine aA fun K d=>?_;simp only[J,Q,O,I,RR,seval];refine lV (hC _ P Z z) (fun _=>trivial) fun w a1 H1 uw c6 b3 E M=>?_;simp only[RR,seval];apply d;refine aO ?_;simp only[aY,aK,bR,RR,seval];exact aZ.run ⟨w,a1,rfl,uw,c6,b3,E,a0.trans M⟩
 by_cases k5:k=5
 ·subst k5
  simp only[show ¬(5:Int)=1 by decide,show ¬(5:Int)=2 by decide,show ¬(5:Int)=3 by decide,show ¬(5:Int)=4 by decide,dP,cT,Option.some.injEq]at h;have i8:=R.rd;have i6:=z.inp;by_cases hf:cx.inp.length≤st.read
  ·have zf:(cx.inp.length:Int)≤(st.read:Int):=by omega
   have e:zH cx st= .val 256 st:=by unfold zH;rw[dM hf]
   rw[e]at h;subst h;refine bX 232 [.tmp 6] func153 ?_;refine aA fun K d=>?_;simp only[RR,seval];refine aQ fun L g=>?_;have N:=dG g t;have B:=N.symm;simp only[RR,seval];refine d _ _ (aI (aA fun K d=>?_));simp only[t,B,RR,seval];refine d _ _ (bN ?_);refine aL ?_;simp only[RR];refine aI (aA fun K d=>?_);simp only[RR,seval];refine d _ _ (aN (aA fun K d=>?_));simp only[RR,seval];refine d _ _ (bN (aA fun K d=>?_));simp only[RR,seval];refine d _ _ (bN (aA fun K d=>?_));simp only[RR,seval];refine d _ _ (bN (aA fun K d=>?_));simp only[RR,seval];refine d _ _ (bN (aA fun K d=>?_));simp only[RR,seval];refine d _ _ (cL (aI (aC fun K d=>?_)));refine bF (fun x=>x≠r∧x≠L) [(0,3),(1,3),(2,3),(3,1),(4,3),(5,3),(6,3),(7,1),(8,3),(9,3)] [] eP (by kernel_rfl) rfl rfl ?_;simp only[eM,t,B,zf,RR,seval];refine d _ _ (cL (aA fun K d=>?_));simp only[RR,seval];apply d;refine aO ?_;simp only[aY,aK,bR,RR,seval];exact aZ.run ⟨256,vo,rfl,by simp [eB],(fun _ _ e=>by cases e;rfl),(fun _ _ e=>by cases e),R.new g _,(dV.refl _ _ _ _ _).updN g _⟩
  have zf: ¬(cx.inp.length:Int)≤(st.read:Int):=by omega
  have hg:=aD (show st.read<cx.inp.length by omega);generalize cx.inp[st.read]=c at hg;have e:zH cx st= .val c.toNat {st with read:=st.read+1}:=by unfold zH;rw[hg]
  rw[e]at h;subst h;have S:IntKind.wrap .i64 ((st.read:Int)+1)=((st.read+1:Nat):Int):=by rw[aT _ (by omega)];omega
  have e3:IntKind.wrap .i64 (((st.read+1:Nat):Int)- 1)=(st.read:Int):=by rw[aT _ (by omega)];omega
  have hc:=UInt8.toNat_lt c;have g8:eB (c.toNat:Int):=⟨by omega,by omega⟩;have e2:IntKind.wrap .u32 (c.toNat:Int)=(c.toNat:Int):=by simp [IntKind.wrap,IntKind.signed,IntKind.bits];omega
  refine bX 232 [.tmp 6] func153 ?_;refine aA fun K d=>?_;simp only[RR,seval];refine aQ fun L g=>?_;have N:=dG g t;have B:=N.symm;simp only[RR,seval];refine d _ _ (aI (aA fun K d=>?_));simp only[t,B,RR,seval];refine d _ _ (bN ?_);refine aL ?_;simp only[RR];refine aI (aA fun K d=>?_);simp only[RR,seval];refine d _ _ (aN (aA fun K d=>?_));simp only[RR,seval];refine d _ _ (bN (aA fun K d=>?_));simp only[RR,seval];refine d _ _ (bN (aA fun K d=>?_));simp only[RR,seval];refine d _ _ (bN (aA fun K d=>?_));simp only[RR,seval];refine d _ _ (bN (aA fun K d=>?_));simp only[RR,seval];refine d _ _ (cL (aI (aC fun K d=>?_)));refine bF (fun x=>x≠r∧x≠L) [(0,3),(1,3),(2,3),(3,1),(4,3),(5,3),(6,3),(7,1),(8,3),(9,3)] [] eP (by kernel_rfl) rfl rfl ?_;simp only[eM,t,B,zf,RR,seval];refine d _ _ (bN ?_);refine aL ?_;simp only[RR];refine aA fun K d=>?_;simp only[t,B,S,RR,seval];refine d _ _ (aC fun K d=>?_);refine bF (fun x=>x≠r∧x≠L) [(0,3),(1,3),(2,3),(3,1),(4,3),(5,3),(6,3),(7,1),(8,3),(9,3),(10,3),(11,3)] [] eP (by kernel_rfl) rfl rfl ?_;simp only[eM,hg,e2,e3,RR,seval];apply d;refine aO ?_;simp only[aY,aK,bR,RR,seval];exact aZ.run ⟨_,vo,rfl,g8,(fun _ _ e=>by cases e;rfl),(fun _ _ e=>by cases e),fM.turn (st':={st with read:=st.read+1}) (R.new g _) 0 rfl rfl rfl (by show st.read+1≤_;omega) R.tk,((dV.refl _ _ _ _ _).updN g _).trans (dV.run _)⟩
 simp only[aM k1,aM k2,aM k3,aM k4,aM k5]at h
 cases hl0:l[0]? with
 |none=>rw[hl0]at h;cases h
 |some a=>
  simp only[hl0]at h;have b1:=pR hl0;have z:=a3
  obtain⟨F,h1⟩: ∃F,nH cx n rs ow a st=some F:=by
   cases h1:nH cx n rs ow a st with
   |none=>
    rw[h1]at h;by_cases k7:k=7
    ·rw[bP k7]at h;cases h
    rw[aM k7]at h
    cases hl1:l[1]? with
    |none=>rw[hl1]at h;cases h
    |some b=>
     simp only[hl1]at h;by_cases k6:k=6
     ·rw[bP k6]at h;cases h
     rw[aM k6]at h;cases h
   |some F=>exact⟨F,rfl⟩
  rw[h1]at h;have a5:=fun H' g1 g2 g3=>hV 0 a hl0 st vo 0 H' F g1 g2 g3 (.inl ⟨rfl,h1⟩);rw[a.row_eq]at a5;obtain⟨HX,e0⟩: ∃X,X=H:=⟨_,rfl⟩;by_cases k7:k=7
  ·subst k7
   simp only[cT]at h;refine bX 232 [.tmp 6] func153 ?_;refine aA fun K d=>?_;simp only[RR,seval];refine aQ fun L g=>?_;have N:=dG g t;have B:=N.symm;have Y:=dG g z;have W:=Y.symm;simp only[RR,seval];refine d _ _ (aI (aA fun K d=>?_));simp only[t,B,RR,seval];refine d _ _ (bN ?_);refine aL ?_;simp only[RR];refine aI (aA fun K d=>?_);simp only[RR,seval];refine d _ _ (aN (aA fun K d=>?_));simp only[RR,seval];refine d _ _ (bN (aA fun K d=>?_));simp only[RR,seval];refine d _ _ (bN (aA fun K d=>?_));simp only[RR,seval];refine d _ _ (bN (aA fun K d=>?_));simp only[RR,seval];refine d _ _ (bN (aA fun K d=>?_));simp only[RR,seval];refine d _ _ (bN (aA fun K d=>?_));simp only[RR,seval];refine d _ _ (bN (aA fun K d=>?_));simp only[RR,seval];refine d _ _ (cL (bT fun F1 M1 G A=>?_));have J:=G 0;have Q:=G 1;have O:=G 5;have f6:=G 6;have T:=A r;have U:=A x;have I:=A L;simp only[t,z,B,W,RR,seval]at J Q O f6 T U I;have hM:=funext A;have P:=(R.new g _).same A;have Z:=(hW.new g _).same A;have a0:dV r vv abs vo vo H M1:=by rw[hM];exact(dV.refl _ _ _ _ _).updN g _
   have t:=T;have z:=U;refine aA fun K d=>?_;simp only[J,Q,O,I,b1,RR,seval];refine lV (a5 _ P Z z) (fun _=>trivial) fun w a1 H1 uw c6 b3 E M=>?_;simp only[RR,seval];refine aP (Q4 _) ?_;simp only[RR,seval];apply d
   have c2: ∃w',(if decide (w=0)=true then(1:Int)else 0)=w'∧eB w'∧(∀v s,o= .val v s→w'=v)∧(∀e s,o= .fin e s→e≠0)∧mN o=mN F∧o.st=F.st:=by
    refine⟨_,rfl,by split<;>simp [eB], ?_⟩
    cases F with
    |fin S D=>
     obtain rfl:=Option.some.inj (show some (Rz.fin S D)=some o from h);exact⟨(fun _ _ e=>by cases e),b3,rfl,rfl⟩
    |val x1 D=>
     obtain rfl:=c6 _ _ rfl;obtain rfl:=Option.some.inj (show some (Rz.val (if w=0 then(1:Int)else 0) D)=some o from h);exact⟨(fun v s e=>by cases e;simp),(fun _ _ e=>by cases e),rfl,rfl⟩
   obtain⟨w',g9,i5,g1,g2,g3,g4⟩:=c2;rw[←g3,←g4]at E;refine aO ?_;simp only[aY,aK,bR,RR,seval];exact aZ.run ⟨_,a1,by rw[g9],i5,g1,g2,E,a0.trans M⟩
  rw[aM k7]at h
  cases hl1:l[1]? with
  |none=>rw[hl1]at h;cases h
  |some b=>
   simp only[hl1]at h;have d1:=pR hl1;have c8:=fun vo' g6 st' H' r2 g1 g2 g3 g4=>hV 1 b hl1 st' vo' g6 H' r2 g1 g2 g3 g4;rw[b.row_eq]at c8;by_cases k6:k=6
   ·subst k6
    simp only[cT]at h;refine bX 232 [.tmp 6] func153 ?_;refine aA fun K d=>?_;simp only[RR,seval];refine aQ fun L g=>?_;have N:=dG g t;have B:=N.symm;have Y:=dG g z;have W:=Y.symm;simp only[RR,seval];refine d _ _ (aI (aA fun K d=>?_));simp only[t,B,RR,seval];refine d _ _ (bN ?_);refine aL ?_;simp only[RR];refine aI (aA fun K d=>?_);simp only[RR,seval];refine d _ _ (aN (aA fun K d=>?_));simp only[RR,seval];refine d _ _ (bN (aA fun K d=>?_));simp only[RR,seval];refine d _ _ (bN (aA fun K d=>?_));simp only[RR,seval];refine d _ _ (bN (aA fun K d=>?_));simp only[RR,seval];refine d _ _ (bN (aA fun K d=>?_));simp only[RR,seval];refine d _ _ (bN (aA fun K d=>?_));simp only[RR,seval];refine d _ _ (cL (bT fun F1 M1 G A=>?_));have J:=G 0;have Q:=G 1;have O:=G 5;have f6:=G 6;have T:=A r;have U:=A x;have I:=A L;simp only[t,z,B,W,RR,seval]at J Q O f6 T U I;have hM:=funext A;have P:=(R.new g _).same A;have Z:=(hW.new g _).same A;have a0:dV r vv abs vo vo H M1:=by rw[hM];exact(dV.refl _ _ _ _ _).updN g _
    have t:=T;have z:=U;refine aA fun K d=>?_;simp only[J,Q,O,I,b1,RR,seval];refine lV (a5 _ P Z z) (fun _=>trivial) fun w1 a1 H1 b6 b0 a8 E M=>?_;obtain⟨r2,c1,f3⟩:=PE a8 h;have t:=E.r;have z:=P.keep z (by decide) (by decide) M;have I:=P.keep I (by decide) (by decide) M;have b8:=Z.keep P M;simp only[RR,seval];refine d _ _ (aA fun K d=>?_);simp only[J,Q,O,I,d1,RR,seval];refine lV (c8 _ _ _ _ _ E b8 z c1) (fun _=>trivial) fun w2 a7 H2 b7 c7 b4 a2 b2=>?_;have t:=a2.r;have I:=E.keep I (by decide) (by decide) b2;have d4:=(a0.trans M).trans b2;simp only[RR,seval];refine d _ _ (aI (aA fun K d=>?_));simp only[J,t,RR,seval];refine d _ _ (aX ?_ ?_)<;>intro e7
    ·obtain⟨S,D,g0⟩:=rX (o:=r2) (by simpa using e7)
     have ho:o=r2:=by
      rcases f3 with⟨x1,j2,_,_,h4⟩|⟨e2,s2,_,h3,h4⟩
      ·rw[g0]at h4⊢
       exact(Option.some.inj (show some (Rz.fin S D)=some o from h4)).symm
      rw[h3,h4]
     subst ho;refine aA fun K d=>?_;simp only[RR,seval];apply d;refine aO ?_;simp only[aY,aK,bR,RR,seval];exact aZ.run ⟨0,a7,rfl,by simp [eB],(fun _ _ e=>by rw[g0]at e;cases e),b4,a2,d4⟩
    obtain⟨x2,s2,rfl⟩:=rW (o:=r2) b4 (by simpa using e7);obtain rfl:=c7 _ _ rfl
    obtain⟨x1,D,rfl,h2,h3⟩: ∃x D,F= .val x D∧nH cx n rs ow b D=some (.val w2 s2)∧bindR (some (.val w2 s2)) (fun y st=>if(eX op x y).2=0 then some (Rz.val (eX op x y).1 st)else some (.fin 2 st))=some o:=by
     rcases f3 with⟨x1,D,q1,q2,q3⟩|⟨e2,s3,_,q3,_⟩
     ·exact⟨x1,D,q1,q2,q3⟩
     cases q3
    obtain rfl:=b0 _ _ rfl;simp only[bindR]at h3;have hA:=G0 op b6 b7;have uA:=JJ op b6 b7;generalize eX op w1 w2=q at hA uA h3;obtain⟨q1,q2⟩:=q;have t:H2 r=_:=a2.r;have d6:(Rz.val w2 s2).st=s2:=rfl;have d0:mN (Rz.val w2 s2)=0:=rfl;rw[d6,d0]at t;refine aL ?_;simp only[RR];refine aA fun K d=>?_;simp only[O,I,RR,seval];refine aP (hA) ?_;simp only[RR,seval];refine d _ _ (aI (aA fun K d=>?_));simp only[RR,seval];refine d _ _ (aX ?_ ?_)<;>intro e8
    ·rw[aM (show ¬q2=0 by simpa using e8)]at h3
     cases h3;have c3:=And.intro (fM.turn a2 2 rfl rfl rfl a2.rd a2.tk) (d4.trans (dV.run (some (.rows 11 [[.isl 1 (p.vars.map bH), .isl 2 (p.arrs.map Ar.row), .isl 5 (p.funs.map Fu.row), .str cx.inp, .int .i64 cx.fuel,vv, .isl 1 (fN abs s2.arrs),a7, .int .i64 s2.read, .int .i64 s2.ticks, .int .i64 2]]))));have c4:(∀v s,(Rz.fin 2 s2:Rz Int)= .val v s→q1=v)∧ ∀e s,(Rz.fin 2 s2:Rz Int)= .fin e s→e≠0:=⟨(fun _ _ e=>by cases e),fun _ _ e=>by cases e;decide⟩;refine aG ?_;simp only[J,t,RR,seval];refine aA fun K d=>?_;simp only[RR,seval];apply d;refine aO ?_;simp only[aY,aK,bR,RR,seval];exact aZ.run ⟨q1,a7,rfl,uA,c4.1,c4.2,c3.1,c3.2⟩
    rw[bP (show q2=0 by simpa using e8)]at h3;cases h3;have c3:=And.intro a2 d4;have c4:(∀v s,(Rz.val q1 s2:Rz Int)= .val v s→q1=v)∧ ∀e s,(Rz.val q1 s2:Rz Int)= .fin e s→e≠0:=⟨(fun _ _ e=>by cases e;rfl),fun _ _ e=>by cases e⟩;refine aL ?_;simp only[RR];refine aA fun K d=>?_;simp only[RR,seval];apply d;refine aO ?_;simp only[aY,aK,bR,RR,seval];exact aZ.run ⟨q1,a7,rfl,uA,c4.1,c4.2,c3.1,c3.2⟩
   rw[aM k6]at h;by_cases k8:k=8
   ·subst k8
    have k8:decide ((8:Int)=8)=true:=rfl;refine bX 232 [.tmp 6] func153 ?_;refine aA fun K d=>?_;simp only[RR,seval];refine aQ fun L g=>?_;have N:=dG g t;have B:=N.symm;have Y:=dG g z;have W:=Y.symm;simp only[RR,seval];refine d _ _ (aI (aA fun K d=>?_));simp only[t,B,RR,seval];refine d _ _ (bN ?_);refine aL ?_;simp only[RR];refine aI (aA fun K d=>?_);simp only[RR,seval];refine d _ _ (aN (aA fun K d=>?_));simp only[RR,seval];refine d _ _ (bN (aA fun K d=>?_));simp only[RR,seval];refine d _ _ (bN (aA fun K d=>?_));simp only[RR,seval];refine d _ _ (bN (aA fun K d=>?_));simp only[RR,seval];refine d _ _ (bN (aA fun K d=>?_));simp only[RR,seval];refine d _ _ (bN (aA fun K d=>?_));simp only[RR,seval];refine d _ _ (bN (aA fun K d=>?_));simp only[RR,seval];refine d _ _ (bN (aA fun K d=>?_));simp only[RR,seval];refine d _ _ (cL (aI (bT fun F1 M1 G A=>?_)));have J:=G 0;have Q:=G 1;have O:=G 5;have f6:=G 6;have T:=A r;have U:=A x;have I:=A L;simp only[t,z,B,W,RR,seval]at J Q O f6 T U I;have hM:=funext A;have P:=(R.new g _).same A;have Z:=(hW.new g _).same A;have a0:dV r vv abs vo vo H M1:=by rw[hM];exact(dV.refl _ _ _ _ _).updN g _
    have t:=T;have z:=U;refine aA fun K d=>?_;simp only[J,Q,O,I,b1,RR,seval];refine lV (a5 _ P Z z) (fun _=>trivial) fun w1 a1 H1 b6 b0 a8 E M=>?_;have t:=E.r;have z:=P.keep z (by decide) (by decide) M;have I:=P.keep I (by decide) (by decide) M;have b8:=Z.keep P M;simp only[RR,seval];refine d _ _ (aX ?_ ?_)<;>intro e9
    ·have a6:w1=0:=aF e9
     have c2:(∀v s,o= .val v s→w1=v)∧(∀e s,o= .fin e s→e≠0)∧mN o=mN F∧o.st=F.st:=by
      cases F with
      |fin S D=>
       obtain rfl:=Option.some.inj (show some (Rz.fin S D)=some o from h);exact⟨(fun _ _ e=>by cases e),a8,rfl,rfl⟩
      |val x1 D=>
       obtain rfl:=b0 _ _ rfl;simp only[bindR]at h;rw[bP (by simp [a6])]at h;cases h;exact⟨(fun v s e=>by cases e;rfl),(fun _ _ e=>by cases e),rfl,rfl⟩
     obtain⟨g1,g2,g3,g4⟩:=c2;rw[←g3,←g4]at E;subst a6;refine aA fun K d=>?_;simp only[RR,seval];apply d;refine aO ?_;simp only[aY,aK,bR,RR,seval];exact aZ.run ⟨0,a1,rfl,b6,g1,g2,E,a0.trans M⟩
    have a6: ¬w1=0:=aH e9
    have c1:uN (mN F) F.st (nH cx n rs ow b F.st) o:=by
     cases F with
     |fin S D=>
      obtain rfl:=Option.some.inj (show some (Rz.fin S D)=some o from h);exact .inr ⟨a8 _ _ rfl,rfl⟩
     |val x1 D=>
      obtain rfl:=b0 _ _ rfl;simp only[bindR]at h;rw[aM (by simp [a6])]at h;exact .inl ⟨rfl,h⟩
    refine aL ?_;simp only[RR];refine aA fun K d=>?_;simp only[J,Q,O,I,d1,RR,seval];refine lV (c8 _ _ _ _ _ E b8 z c1) (fun _=>trivial) fun w2 a7 H2 b7 c7 b4 a2 b2=>?_;simp only[RR,seval];apply d;refine aO ?_;simp only[aY,aK,bR,RR,seval];exact aZ.run ⟨w2,a7,rfl,b7,c7,b4,a2,(a0.trans M).trans b2⟩
   skip;refine bX 232 [.tmp 6] func153 ?_;refine aA fun K d=>?_;simp only[RR,seval];refine aQ fun L g=>?_;have N:=dG g t;have B:=N.symm;have Y:=dG g z;have W:=Y.symm;simp only[RR,seval];refine d _ _ (aI (aA fun K d=>?_));simp only[t,B,RR,seval];refine d _ _ (bN ?_);refine aL ?_;simp only[RR];refine aI (aA fun K d=>?_);simp only[RR,seval];refine d _ _ (aN (aA fun K d=>?_));simp only[k1,RR,seval];refine d _ _ (bN (aA fun K d=>?_));simp only[k2,RR,seval];refine d _ _ (bN (aA fun K d=>?_));simp only[k3,RR,seval];refine d _ _ (bN (aA fun K d=>?_));simp only[k4,RR,seval];refine d _ _ (bN (aA fun K d=>?_));simp only[k5,RR,seval];refine d _ _ (bN (aA fun K d=>?_));simp only[k6,RR,seval];refine d _ _ (bN (aA fun K d=>?_));simp only[k7,RR,seval];refine d _ _ (bN (aA fun K d=>?_));simp only[k8,RR,seval];refine d _ _ (bN ?_);refine aL ?_;simp only[RR];refine bT fun F1 M1 G A=>?_;have J:=G 0;have Q:=G 1;have O:=G 5;have f6:=G 6;have T:=A r;have U:=A x;have I:=A L;simp only[t,z,B,W,RR,seval]at J Q O f6 T U I;have hM:=funext A;have P:=(R.new g _).same A;have Z:=(hW.new g _).same A;have a0:dV r vv abs vo vo H M1:=by rw[hM];exact(dV.refl _ _ _ _ _).updN g _
   have t:=T;have z:=U;refine aA fun K d=>?_;simp only[J,Q,O,I,b1,RR,seval];refine lV (a5 _ P Z z) (fun _=>trivial) fun w1 a1 H1 b6 b0 a8 E M=>?_;have t:=E.r;have z:=P.keep z (by decide) (by decide) M;have I:=P.keep I (by decide) (by decide) M;have b8:=Z.keep P M;simp only[RR,seval];refine d _ _ (aI (aA fun K d=>?_));simp only[RR,seval];refine d _ _ (aX ?_ ?_)<;>intro f2
   ·have a6: ¬w1=0:=by simpa using f2
    have c2:(∀v s,o= .val v s→w1=v)∧(∀e s,o= .fin e s→e≠0)∧mN o=mN F∧o.st=F.st:=by
     cases F with
     |fin S D=>
      obtain rfl:=Option.some.inj (show some (Rz.fin S D)=some o from h);exact⟨(fun _ _ e=>by cases e),a8,rfl,rfl⟩
     |val x1 D=>
      obtain rfl:=b0 _ _ rfl;simp only[bindR]at h;rw[bP (by simp [a6,k8])]at h;cases h;exact⟨(fun v s e=>by cases e;rfl),(fun _ _ e=>by cases e),rfl,rfl⟩
    obtain⟨g1,g2,g3,g4⟩:=c2;rw[←g3,←g4]at E;refine aA fun K d=>?_;simp only[RR,seval];apply d;refine aO ?_;simp only[aY,aK,bR,RR,seval];exact aZ.run ⟨w1,a1,rfl,b6,g1,g2,E,a0.trans M⟩
   have a6:w1=0:=by simpa using f2
   have c1:uN (mN F) F.st (nH cx n rs ow b F.st) o:=by
    cases F with
    |fin S D=>
     obtain rfl:=Option.some.inj (show some (Rz.fin S D)=some o from h);exact .inr ⟨a8 _ _ rfl,rfl⟩
    |val x1 D=>
     obtain rfl:=b0 _ _ rfl;simp only[bindR]at h;rw[aM (by simp [a6,k8])]at h;exact .inl ⟨rfl,h⟩
   refine aL ?_;simp only[RR];refine aA fun K d=>?_;simp only[J,Q,O,I,d1,RR,seval];refine lV (c8 _ _ _ _ _ E b8 z c1) (fun _=>trivial) fun w2 a7 H2 b7 c7 b4 a2 b2=>?_;simp only[RR,seval];apply d;refine aO ?_;simp only[aY,aK,bR,RR,seval];exact aZ.run ⟨w2,a7,rfl,b7,c7,b4,a2,(a0.trans M).trans b2⟩
end
section
variable {p : Pg} {cx : Cx} {r : Nat} {vv : AV} {abs : List Nat} {n : Nat}
theorem U7 (ih:Ab p cx r vv abs n) (hj:Y5 p cx) (i:Nat) (B:dC→Bool×Int) (ow:List Int) (e:Sm) (c0:e.kind=1) (st:RS) (vo:AV) (H:Hp) (x:Nat) (wv:AV) (o:Rz (Option Int×List Int)) (he:e.ok) (hU: ∀u∈kI e,UJ p i B u) (a5: ∀u∈fE e.es,UJ p i B u) (c5: ∀u∈dY e.thn,UJ p i B u) (c6: ∀u∈dY e.els,UJ p i B u) (hR:fM p cx r vv abs st vo 0 H) (hW:hJ vv abs vo wv ow H) (G: ∀y∈ow,eB y) (g:H x=some (.rows 4 [[.int .i64 i,wv, .bool false, .int .u32 0]])) (h:rA cx (n+1) B ow e st=some o):
  pK dN 104 [.ptr 11 r 0 0, .ptr 4 x 0 0, .agg e.row] H (sS p cx r vv abs vo x i wv ow.length H o):=by
 obtain⟨k,s,l,t,u⟩:=e;have C:=hR.r;have b9:=he.es;have d1:=he.thn;have c7:=he.els;simp only[Sm.es,Sm.thn,Sm.els,Sm.kind]at b9 d1 c7 a5 c5 c6 c0;have c2:(Sm.mk k s l t u).row=[.int .i64 k, .str s, .isl 5 (l.map Ex.row), .isl 5 (t.map Sm.row), .isl 5 (u.map Sm.row)]:=Sm.row_eq _;rw[c2];clear c2;have d8:x≠r:=fun e=>by rw[e,C]at g;cases g
 have e0:=d8.symm;simp only[rA]at h;have hV:=fun(j:Nat) (a:Ex) (hj:l[j]?=some a) st vo en H o h3 h4 h5 h6=>ih.V i B ow a st vo en H x wv false 0 o (b9.all _ (aW hj)) (fun u G=>a5 u ((fU (aW hj)).1 u G)) (fun u G=>a5 u ((fU (aW hj)).2 u G)) h3 h4 G h5 h6;have d0:p.av= .agg [.isl 1 (p.vars.map bH), .isl 2 (p.arrs.map Ar.row), .isl 5 (p.funs.map Fu.row)]:=rfl;obtain⟨HX,d9⟩: ∃X,X=H:=⟨_,rfl⟩;subst c0;simp only[cT]at h;have c3:=hU ⟨s,1,0⟩ (by simp [kI,Sm.kind,Sm.name]);have Q:=c3.f;rw[d0]at Q;simp only at Q;have hk:=c3.k1;generalize eL p i s=fi at Q hk;obtain⟨kk,b⟩:=fi;simp only at Q hk
 cases hl0:l[0]? with
 |none=>rw[hl0]at h;cases h
 |some a=>
  simp only[hl0]at h;have c8:=pR hl0
  obtain⟨J,E⟩: ∃J,nH cx n B ow a st=some J:=by
   cases E:nH cx n B ow a st with
   |none=>rw[E]at h;cases h
   |some J=>exact⟨J,rfl⟩
  rw[E]at h;have b4:=fun H' N O P=>hV 0 a hl0 st vo 0 H' J N O P (.inl ⟨rfl,E⟩);rw[a.row_eq]at b4;refine bX 251 [] func104 ?_;refine aA fun K v=>?_;simp only[RR,seval];refine aQ fun b5 S=>?_;have d3:=dG S C;have d6:=d3.symm;have d4:=dG S g;have d7:=d4.symm;simp only[RR,seval];refine v _ _ (aA fun K v=>?_);simp only[RR,seval];refine v _ _ (aN (aA fun K v=>?_));simp only[RR,seval];refine v _ _ (cL (bT fun F1 M1 a7 L=>?_));have M:=a7 0;have Y:=a7 1;have f5:=a7 5;have gr:=L r;have gx:=L x;have R:=L b5;simp only[C,g,d6,d7,RR,seval]at M Y f5 gr gx R;have hM:=funext L;have Z:=(hR.new S _).same L;have b6:=(hW.new S _).same L;have c9:dV r vv abs vo vo H M1:=by rw[hM];exact(dV.refl _ _ _ _ _).updN S _
  have C:=gr;have g:=gx;refine aA fun K v=>?_;simp only[M,Y,f5,R,c8,RR,seval];refine lV (b4 _ Z b6 g) (fun _=>trivial) fun d T H1 c4 d2 c1 A a3=>?_;have C:=A.r;have g:=Z.keep g (by decide) (by decide) a3;have R:=Z.keep R (by decide) (by decide) a3;have F:=b6.keep Z a3;have a9:=(c9.trans a3).w x wv;simp only[RR,seval];refine v _ _ (aI (aA fun K v=>?_));simp only[M,C,RR,seval];refine v _ _ (aX ?_ ?_)<;>intro b7
  ·obtain⟨e1,c,rfl⟩:=rX (o:=J) (by simpa using b7)
   obtain rfl:=Option.some.inj (show some (Rz.fin e1 c)=some o from h);refine aO ?_;simp only[aY,aK,bR,RR,seval];exact aZ.run ⟨ow,false,0,T,rfl,rfl,G,by simp [eB],(fun _=>rfl),(fun _ _ e=>by cases e),(fun e s h=>by cases h;exact c1 _ _ rfl),g,F,A,a9⟩
  obtain⟨x1,c,rfl⟩:=rW (o:=J) c1 (by simpa using b7);obtain rfl:=d2 _ _ rfl;have h:(Vf (B s) d ow c).map (fun p=>Rz.val ((none:Option Int),p.1) p.2)=some o:=h;unfold Vf at h;by_cases z:0≤(B s).2
  rotate_left
  ·rw[aM z]at h;cases h
  rw[bP z]at h;have A:fM p cx r vv abs c T 0 H1:=A;have C:=A.r;refine aL ?_;simp only[RR];refine aC fun K v=>?_;refine bF (fun x=>x≠r∧x≠x∧x≠b5) [(0,3),(1,3),(2,3),(3,1),(4,3),(5,3),(6,3),(7,1),(8,3),(9,1),(10,1),(11,3),(12,3),(13,3),(14,3),(15,3)] [] eP (by kernel_rfl) rfl rfl ?_;simp only[eM,M,Y,f5,C,g,R,RR,seval];refine aP (Q) ?_;simp only[RR,seval];refine v _ _ (aA fun K v=>?_);simp only[RR,seval];apply v
  have b8:(kk=1∧0≤b∧ ∃y,ow[b.toNat]?=some y∧b<(ow.length:Int)∧o= .val (none,ow.set b.toNat d) c)∨(kk=2∧0≤b∧ ∃y,c.vars[b.toNat]?=some y∧b<(c.vars.length:Int)∧o= .val (none,ow) {c with vars:=c.vars.set b.toNat d}):=by
   rcases hk with⟨E,h2⟩|⟨E,h2⟩
   ·rw[h2]at h z
    simp only[cT]at h z;by_cases I:b.toNat<ow.length
    ·rw[bP I]at h
     exact .inl ⟨E,z,_,aD I,by omega,(Option.some.inj h).symm⟩
    rw[aM I]at h;cases h
   rw[h2]at h z;simp only[cF,dP]at h z;by_cases I:b.toNat<c.vars.length
   ·rw[bP I]at h
    exact .inr ⟨E,z,_,aD I,by omega,(Option.some.inj h).symm⟩
   rw[aM I]at h;cases h
  refine aX ?_ ?_<;>intro a2
  ·rcases b8 with⟨_,z,y,D,zl,rfl⟩|⟨b0,_⟩
   rotate_left
   ·rw[b0]at a2;cases a2
   obtain⟨U,rfl,a0⟩:=F.osl D;have a4:U≠r:=A.nr a0;have b2:U≠x:=fun e=>by rw[e,g]at a0;cases a0
   have d5:r≠U:=fun e=>a4 e.symm;have b3:x≠U:=fun e=>b2 e.symm;have a8:=sO D;refine aG ?_;simp only[Y,g,a0,z,zl,a8,RR,seval];have N:=A.other a4 (F.nv _ _ _ rfl) (F.na _ _ _ rfl) (F.nf _ _ _ rfl) (some (.rows 1 ((ow.map iH).set b.toNat [.int .u32 d])));have O:=F.set b.toNat d;have P:=a9.words (some (.rows 1 ((ow.map iH).set b.toNat [.int .u32 d])));have g4:(ow.set b.toNat d).length=ow.length:=by simp
   have g5: ∀y∈ow.set b.toNat d,eB y:=fun y D=>by
    rcases oU D with D|rfl
    ·exact G y D
    exact c4
   have a6: ∀q s,Rz.val ((none:Option Int),ow.set b.toNat d) c= .val q s→ow.set b.toNat d=q.2∧false=q.1.isSome∧(0:Int)=q.1.getD 0:=fun q s e=>by cases e;exact⟨rfl,rfl,rfl⟩
   have b1:=(cR H1 (some (.rows 1 ((ow.map iH).set b.toNat [.int .u32 d]))) b3).trans g;simp only[aY,aK,bR,seval];exact aZ.run ⟨_,false,0,T,rfl,g4,g5,by simp [eB],(fun _=>rfl),a6,(fun _ _ e=>by cases e),b1,O,N,P⟩
  rcases b8 with⟨b0,_⟩|⟨_,z,y,D,zl,rfl⟩
  ·rw[b0]at a2;cases a2
  obtain⟨W,rfl,a1⟩:=A.osl D;have a4:W≠r:=A.nr a1;have b2:W≠x:=fun e=>by rw[e,g]at a1;cases a1
  have d5:r≠W:=fun e=>a4 e.symm;have b3:x≠W:=fun e=>b2 e.symm;have a8:=sO D;refine aG ?_;simp only[M,C,a1,z,zl,a8,RR,seval];have N:=fM.setV A b.toNat d c4;have O:=F.off F.offv (some (.rows 1 ((c.vars.map iH).set b.toNat [.int .u32 d])));have P:=a9.trans ((dV.vars (r:=r) (abs:=abs) (vo:=T) (H:=H1) rfl (some (.rows 1 ((c.vars.map iH).set b.toNat [.int .u32 d])))).w x wv);have g4:ow.length=ow.length:=rfl;have g5:=G;have a6: ∀q s,Rz.val ((none:Option Int),ow) {c with vars:=c.vars.set b.toNat d}= .val q s→ow=q.2∧false=q.1.isSome∧(0:Int)=q.1.getD 0:=fun q s e=>by cases e;exact⟨rfl,rfl,rfl⟩
  have b1:=(cR H1 (some (.rows 1 ((c.vars.map iH).set b.toNat [.int .u32 d]))) b3).trans g;simp only[aY,aK,bR,seval];exact aZ.run ⟨_,false,0,T,rfl,g4,g5,by simp [eB],(fun _=>rfl),a6,(fun _ _ e=>by cases e),b1,O,N,P⟩
theorem Wj (Z:Ab p cx r vv abs n) (D:Y5 p cx) (i:Nat) (c:dC→Bool×Int) (ow:List Int) (e:Sm) (W:e.kind=6) (st:RS) (vo:AV) (H:Hp) (x:Nat) (wv:AV) (o:Rz (Option Int×List Int)) (G:e.ok) (hU: ∀u∈kI e,UJ p i c u) (B: ∀u∈fE e.es,UJ p i c u) (a0: ∀u∈dY e.thn,UJ p i c u) (a1: ∀u∈dY e.els,UJ p i c u) (R:fM p cx r vv abs st vo 0 H) (hW:hJ vv abs vo wv ow H) (g: ∀y∈ow,eB y) (d:H x=some (.rows 4 [[.int .i64 i,wv, .bool false, .int .u32 0]])) (h:rA cx (n+1) c ow e st=some o):
  pK dN 104 [.ptr 11 r 0 0, .ptr 4 x 0 0, .agg e.row] H (sS p cx r vv abs vo x i wv ow.length H o):=by
 obtain⟨k,s,l,t,u⟩:=e;have E:=R.r;have I:=G.es;have a8:=G.thn;have a3:=G.els;simp only[Sm.es,Sm.thn,Sm.els,Sm.kind]at I a8 a3 B a0 a1 W;have Y:(Sm.mk k s l t u).row=[.int .i64 k, .str s, .isl 5 (l.map Ex.row), .isl 5 (t.map Sm.row), .isl 5 (u.map Sm.row)]:=Sm.row_eq _;rw[Y];clear Y;have b4:x≠r:=fun e=>by rw[e,E]at d;cases d
 have c0:=b4.symm;simp only[rA]at h;have hV:=fun(j:Nat) (a:Ex) (D:l[j]?=some a) st vo en H o h3 h4 h5 h6=>Z.V i c ow a st vo en H x wv false 0 o (I.all _ (aW D)) (fun u g=>B u ((fU (aW D)).1 u g)) (fun u g=>B u ((fU (aW D)).2 u g)) h3 h4 g h5 h6;have b8:p.av= .agg [.isl 1 (p.vars.map bH), .isl 2 (p.arrs.map Ar.row), .isl 5 (p.funs.map Fu.row)]:=rfl;obtain⟨HX,b7⟩: ∃X,X=H:=⟨_,rfl⟩;subst W;simp only[show ¬(6:Int)=1 by decide,show ¬(6:Int)=2 by decide,show ¬(6:Int)=3 by decide,show ¬(6:Int)=4 by decide,show ¬(6:Int)=5 by decide,dP,cT]at h;have a9:=hU ⟨s,4,l.length⟩ (by simp [kI,Sm.kind,Sm.name,Sm.es])
 obtain⟨f,A⟩: ∃f,Rr cx n c ow (c s).2 l st=some f:=by
  cases A:Rr cx n c ow (c s).2 l st with
  |none=>rw[A]at h;cases h
  |some f=>exact⟨f,rfl⟩
 rw[A]at h;have hC:=fun H' g1 g2 g3=>Z.C i c ow s l st vo H' x wv false 0 f I a9 B g1 g2 g g3 A;refine bX 251 [] func104 ?_;refine aA fun K b=>?_;simp only[RR,seval];refine aQ fun b5 z=>?_;have b0:=dG z E;have b2:=b0.symm;have b1:=dG z d;have b3:=b1.symm;simp only[RR,seval];refine b _ _ (aA fun K b=>?_);simp only[RR,seval];refine b _ _ (aN (aA fun K b=>?_));simp only[RR,seval];refine b _ _ (bN (aA fun K b=>?_));simp only[RR,seval];refine b _ _ (bN (aA fun K b=>?_));simp only[RR,seval];refine b _ _ (bN (aA fun K b=>?_));simp only[RR,seval];refine b _ _ (bN (aA fun K b=>?_));simp only[RR,seval];refine b _ _ (bN (aA fun K b=>?_));simp only[RR,seval];refine b _ _ (cL (bT fun F1 M1 J v=>?_));have M:=J 0;have N:=J 1;have O:=J 5;have P:=v r;have Q:=v x;have U:=v b5;simp only[E,d,b2,b3,RR,seval]at M N O P Q U;have hM:=funext v;have F:=(R.new z _).same v;have T:=(hW.new z _).same v;have a5:dV r vv abs vo vo H M1:=by rw[hM];exact(dV.refl _ _ _ _ _).updN z _
 have E:=P;have d:=Q;refine aG ?_;simp only[M,N,O,U,RR,seval];refine lV (hC _ F T d) (fun _=>trivial) fun w1 b6 H1 c1 b9 a7 S L=>?_;have d:=F.keep d (by decide) (by decide) L;have a2:=T.keep F L;have a6:=(a5.trans L).w x wv
 have a4:(∀q s,o= .val q s→ow=q.2∧false=q.1.isSome∧(0:Int)=q.1.getD 0)∧(∀e s,o= .fin e s→e≠0)∧o.st=f.st∧mN o=mN f:=by
  cases f with
  |fin e s=>
   obtain rfl:=Option.some.inj (show some (Rz.fin e s)=some o from h);exact⟨(fun _ _ e=>by cases e),(fun _ _ h=>by cases h;exact a7 _ _ rfl),rfl,rfl⟩
  |val y s=>
   obtain rfl:=Option.some.inj (show some (Rz.val ((none:Option Int),ow) s)=some o from h);exact⟨(fun _ _ e=>by cases e;exact⟨rfl,rfl,rfl⟩),(fun _ _ e=>by cases e),rfl,rfl⟩
 obtain⟨q1,q2,q3,q4⟩:=a4;rw[←q3,←q4]at S;simp only[RR,seval];simp only[aY,aK,bR,seval];exact aZ.run ⟨ow,false,0,b6,rfl,rfl,g,by simp [eB],(fun _=>rfl),q1,q2,d,a2,S,a6⟩
theorem B1 (Z:Ab p cx r vv abs n) (v:Y5 p cx) (i:Nat) (g:dC→Bool×Int) (ow:List Int) (e:Sm) (I:e.kind≠1∧e.kind≠2∧e.kind≠3∧e.kind≠4∧e.kind≠5∧e.kind≠6∧e.kind≠7) (st:RS) (vo:AV) (H:Hp) (x:Nat) (wv:AV) (o:Rz (Option Int×List Int)) (E:e.ok) (hU: ∀u∈kI e,UJ p i g u) (D: ∀u∈fE e.es,UJ p i g u) (R: ∀u∈dY e.thn,UJ p i g u) (S: ∀u∈dY e.els,UJ p i g u) (F:fM p cx r vv abs st vo 0 H) (T:hJ vv abs vo wv ow H) (d: ∀y∈ow,eB y) (f:H x=some (.rows 4 [[.int .i64 i,wv, .bool false, .int .u32 0]])) (h:rA cx (n+1) g ow e st=some o):
  pK dN 104 [.ptr 11 r 0 0, .ptr 4 x 0 0, .agg e.row] H (sS p cx r vv abs vo x i wv ow.length H o):=by
 obtain⟨k,s,l,t,u⟩:=e;have J:=F.r;have G:=E.es;have W:=E.thn;have U:=E.els;simp only[Sm.es,Sm.thn,Sm.els,Sm.kind]at G W U D R S I;have L:(Sm.mk k s l t u).row=[.int .i64 k, .str s, .isl 5 (l.map Ex.row), .isl 5 (t.map Sm.row), .isl 5 (u.map Sm.row)]:=Sm.row_eq _;rw[L];clear L;have a2:x≠r:=fun e=>by rw[e,J]at f;cases f
 have a6:=a2.symm;simp only[rA]at h;have hV:=fun(j:Nat) (a:Ex) (v:l[j]?=some a) st vo en H o N O P Q=>Z.V i g ow a st vo en H x wv false 0 o (G.all _ (aW v)) (fun u d=>D u ((fU (aW v)).1 u d)) (fun u d=>D u ((fU (aW v)).2 u d)) N O d P Q;have a4:p.av= .agg [.isl 1 (p.vars.map bH), .isl 2 (p.arrs.map Ar.row), .isl 5 (p.funs.map Fu.row)]:=rfl;obtain⟨HX,a3⟩: ∃X,X=H:=⟨_,rfl⟩;obtain⟨k1,z,k3,k4,A,B,C⟩:=I;rw[aM k1,aM z,aM k3,aM k4,aM A,aM B,aM C]at h;cases h;have k1: ¬k=1:=k1;have z: ¬k=2:=z;have k3: ¬k=3:=k3;have k4: ¬k=4:=k4;have A: ¬k=5:=A;have B: ¬k=6:=B;have C: ¬k=7:=C;refine bX 251 [] func104 ?_;refine aA fun K b=>?_;simp only[RR,seval];refine aQ fun M c=>?_;have a0:=dG c J;have a5:=a0.symm;have a1:=dG c f;have a7:=a1.symm;simp only[RR,seval];refine b _ _ (aA fun K b=>?_);simp only[RR,seval];refine b _ _ (aN (aA fun K b=>?_));simp only[k1,RR,seval];refine b _ _ (bN (aA fun K b=>?_));simp only[z,RR,seval];refine b _ _ (bN (aA fun K b=>?_));simp only[k3,RR,seval];refine b _ _ (bN (aA fun K b=>?_));simp only[k4,RR,seval];refine b _ _ (bN (aA fun K b=>?_));simp only[A,RR,seval];refine b _ _ (bN (aA fun K b=>?_));simp only[B,RR,seval];refine b _ _ (bN (aA fun K b=>?_));simp only[C,RR,seval];refine b _ _ (bN ?_);refine aL ?_;simp only[RR];simp only[aY,aK,bR,seval];have Y:=(cR H (some (.rows 5 [[.int .i64 k, .str s, .isl 5 (l.map Ex.row), .isl 5 (t.map Sm.row), .isl 5 (u.map Sm.row)]])) (show x≠M from fun e=>by rw[e,c]at f;cases f)).trans f;exact aZ.run ⟨ow,false,0,vo,rfl,rfl,d,by simp [eB],(fun _=>rfl),(fun _ _ e=>by cases e;exact⟨rfl,rfl,rfl⟩),(fun _ _ e=>by cases e),Y,T.new c _,F.new c _,((dV.refl _ _ _ _ _).updN c _).w x wv⟩
theorem U8 (ih:Ab p cx r vv abs n) (M:Y5 p cx) (i:Nat) (z:dC→Bool×Int) (ow:List Int) (e:Sm) (a7:e.kind=7) (st:RS) (vo:AV) (H:Hp) (x:Nat) (wv:AV) (o:Rz (Option Int×List Int)) (he:e.ok) (hU: ∀u∈kI e,UJ p i z u) (Y: ∀u∈fE e.es,UJ p i z u) (b1: ∀u∈dY e.thn,UJ p i z u) (b2: ∀u∈dY e.els,UJ p i z u) (Z:fM p cx r vv abs st vo 0 H) (hW:hJ vv abs vo wv ow H) (A: ∀y∈ow,eB y) (c:H x=some (.rows 4 [[.int .i64 i,wv, .bool false, .int .u32 0]])) (h:rA cx (n+1) z ow e st=some o):
  pK dN 104 [.ptr 11 r 0 0, .ptr 4 x 0 0, .agg e.row] H (sS p cx r vv abs vo x i wv ow.length H o):=by
 obtain⟨k,s,l,t,u⟩:=e;have I:=Z.r;have a6:=he.es;have c2:=he.thn;have b3:=he.els;simp only[Sm.es,Sm.thn,Sm.els,Sm.kind]at a6 c2 b3 Y b1 b2 a7;have a8:(Sm.mk k s l t u).row=[.int .i64 k, .str s, .isl 5 (l.map Ex.row), .isl 5 (t.map Sm.row), .isl 5 (u.map Sm.row)]:=Sm.row_eq _;rw[a8];clear a8;have c4:x≠r:=fun e=>by rw[e,I]at c;cases c
 have c9:=c4.symm;simp only[rA]at h;have hV:=fun(j:Nat) (a:Ex) (M:l[j]?=some a) st vo en H o h3 h4 h5 h6=>ih.V i z ow a st vo en H x wv false 0 o (a6.all _ (aW M)) (fun u A=>Y u ((fU (aW M)).1 u A)) (fun u A=>Y u ((fU (aW M)).2 u A)) h3 h4 A h5 h6;have c8:p.av= .agg [.isl 1 (p.vars.map bH), .isl 2 (p.arrs.map Ar.row), .isl 5 (p.funs.map Fu.row)]:=rfl;obtain⟨HX,c7⟩: ∃X,X=H:=⟨_,rfl⟩;subst a7;simp only[show ¬(7:Int)=1 by decide,show ¬(7:Int)=2 by decide,show ¬(7:Int)=3 by decide,show ¬(7:Int)=4 by decide,show ¬(7:Int)=5 by decide,show ¬(7:Int)=6 by decide,dP,cT]at h
 cases hl0:l[0]? with
 |none=>
  rw[hl0]at h;cases h
  have b9:l.length=0:=by
   cases l with
   |nil=>rfl
   |cons a l=>simp at hl0
  have c0:l=[]:=gV b9;subst c0;refine bX 251 [] func104 ?_;refine aA fun K b=>?_;simp only[RR,seval];refine aQ fun R d=>?_;have a1:=dG d I;have a9:=a1.symm;have a2:=dG d c;have a3:=a2.symm;simp only[RR,seval];refine b _ _ (aA fun K b=>?_);simp only[RR,seval];refine b _ _ (aN (aA fun K b=>?_));simp only[RR,seval];refine b _ _ (bN (aA fun K b=>?_));simp only[RR,seval];refine b _ _ (bN (aA fun K b=>?_));simp only[RR,seval];refine b _ _ (bN (aA fun K b=>?_));simp only[RR,seval];refine b _ _ (bN (aA fun K b=>?_));simp only[RR,seval];refine b _ _ (bN (aA fun K b=>?_));simp only[RR,seval];refine b _ _ (bN (aA fun K b=>?_));simp only[RR,seval];refine b _ _ (cL (aA fun K b=>?_));simp only[RR,seval];refine b _ _ (aI (aA fun K b=>?_));simp only[RR,seval];refine b _ _ (bN ?_);refine aL ?_;simp only[RR];refine aG ?_;simp only[c,a3,RR,seval];simp only[aY,aK,bR,seval];have nb:x≠R:=fun e=>by rw[e,d]at c;cases c
  have C:=Z.new d (some (.rows 5 [[.int .i64 7, .str s, .isl 5 ([].map Ex.row), .isl 5 (t.map Sm.row), .isl 5 (u.map Sm.row)]]));have D:=hW.new d (some (.rows 5 [[.int .i64 7, .str s, .isl 5 ([].map Ex.row), .isl 5 (t.map Sm.row), .isl 5 (u.map Sm.row)]]));have a0:=(cR H (some (.rows 5 [[.int .i64 7, .str s, .isl 5 ([].map Ex.row), .isl 5 (t.map Sm.row), .isl 5 (u.map Sm.row)]])) nb).trans c;obtain⟨N,O,P,Q⟩:=C.apart a0 (by decide) (by decide);have E:=fun f g=>(C.other N O P Q f).other N O P Q g;have F:=fun f g=>(D.off (D.h.offsz a0 (by decide)) f).off (D.h.offsz a0 (by decide)) g;have G:=fun f g=>((((dV.refl r vv abs vo H).updN d (some (.rows 5 [[.int .i64 7, .str s, .isl 5 ([].map Ex.row), .isl 5 (t.map Sm.row), .isl 5 (u.map Sm.row)]]))).w x wv).frame f).frame g;exact aZ.run ⟨ow,true,0,vo,rfl,rfl,A,by simp [eB],(fun _=>rfl),(fun _ _ e=>by cases e;exact⟨rfl,rfl,rfl⟩),(fun _ _ e=>by cases e),bG _ _ _,F _ _,E _ _,G _ _⟩
 |some a=>
  simp only[hl0]at h;have b6:=pR hl0
  obtain⟨v,J⟩: ∃v,nH cx n z ow a st=some v:=by
   cases J:nH cx n z ow a st with
   |none=>rw[J]at h;cases h
   |some v=>exact⟨v,rfl⟩
  rw[J]at h;have a4:=fun H' T U W=>hV 0 a hl0 st vo 0 H' v T U W (.inl ⟨rfl,J⟩);rw[a.row_eq]at a4;have zl:(0:Int)<(l.length:Int):=by have:=(bC.1 hl0).1;omega
  refine bX 251 [] func104 ?_;refine aA fun K b=>?_;simp only[RR,seval];refine aQ fun R d=>?_;have a1:=dG d I;have a9:=a1.symm;have a2:=dG d c;have a3:=a2.symm;simp only[RR,seval];refine b _ _ (aA fun K b=>?_);simp only[RR,seval];refine b _ _ (aN (aA fun K b=>?_));simp only[RR,seval];refine b _ _ (bN (aA fun K b=>?_));simp only[RR,seval];refine b _ _ (bN (aA fun K b=>?_));simp only[RR,seval];refine b _ _ (bN (aA fun K b=>?_));simp only[RR,seval];refine b _ _ (bN (aA fun K b=>?_));simp only[RR,seval];refine b _ _ (bN (aA fun K b=>?_));simp only[RR,seval];refine b _ _ (bN (aA fun K b=>?_));simp only[RR,seval];refine b _ _ (cL (aA fun K b=>?_));simp only[RR,seval];refine b _ _ (aI (aA fun K b=>?_));simp only[zl,aE,RR,seval];refine b _ _ (cL (bT fun F1 M1 L B=>?_));have f0:=L 0;have S:=L 1;have f5:=L 5;have b0:=L 15;have gr:=B r;have gx:=B x;have a5:=B R;simp only[I,c,a9,a3,RR,seval]at f0 S f5 b0 gr gx a5;have hM:=funext B;have C:=(Z.new d _).same B;have D:=(hW.new d _).same B;have b7:dV r vv abs vo vo H M1:=by rw[hM];exact(dV.refl _ _ _ _ _).updN d _
  have I:=gr;have c:=gx;refine aG ?_;simp only[f0,S,f5,a5,b6,RR,seval];refine lV (a4 _ C D c) (fun _=>trivial) fun w1 c6 H1 c5 c3 c1 E G=>?_;have c:=C.keep c (by decide) (by decide) G;have F:=D.keep C G;have b8:=(b7.trans G).w x wv
  have b4:(∀q s,o= .val q s→ow=q.2∧true=q.1.isSome∧w1=q.1.getD 0)∧(∀e s,o= .fin e s→e≠0)∧o.st=v.st∧mN o=mN v:=by
   cases v with
   |fin e s=>
    obtain rfl:=Option.some.inj (show some (Rz.fin e s)=some o from h);exact⟨(fun _ _ e=>by cases e),(fun _ _ h=>by cases h;exact c1 _ _ rfl),rfl,rfl⟩
   |val y s=>
    obtain rfl:=c3 _ _ rfl;obtain rfl:=Option.some.inj (show some (Rz.val (some w1,ow) s)=some o from h);exact⟨(fun _ _ e=>by cases e;exact⟨rfl,rfl,rfl⟩),(fun _ _ e=>by cases e),rfl,rfl⟩
  obtain⟨N,O,P,Q⟩:=b4;rw[←P,←Q]at E;obtain⟨p1,p2,p3,p4⟩:=E.apart c (by decide) (by decide);simp only[RR,seval];refine aG ?_;simp only[S,c,RR,seval];simp only[aY,aK,bR,seval];have T:=fun f g=>(E.other p1 p2 p3 p4 f).other p1 p2 p3 p4 g;have U:=fun f g=>(F.off (F.h.offsz c (by decide)) f).off (F.h.offsz c (by decide)) g;have W:=fun f g=>(b8.frame f).frame g;exact aZ.run ⟨ow,true,w1,c6,rfl,rfl,A,c5,(fun h=>by cases h),N,O,bG _ _ _,U _ _,T _ _,W _ _⟩
end
section
variable {p : Pg} {cx : Cx} {r : Nat} {vv : AV} {abs : List Nat} {n : Nat}
theorem We (ih:Ab p cx r vv abs n) (hj:Y5 p cx) (i:Nat) (F:dC→Bool×Int) (ow:List Int) (e:Sm) (c1:e.kind=2) (st:RS) (vo:AV) (H:Hp) (x:Nat) (wv:AV) (o:Rz (Option Int×List Int)) (he:e.ok) (hU: ∀u∈kI e,UJ p i F u) (a6: ∀u∈fE e.es,UJ p i F u) (d0: ∀u∈dY e.thn,UJ p i F u) (d1: ∀u∈dY e.els,UJ p i F u) (hR:fM p cx r vv abs st vo 0 H) (hW:hJ vv abs vo wv ow H) (D: ∀y∈ow,eB y) (g:H x=some (.rows 4 [[.int .i64 i,wv, .bool false, .int .u32 0]])) (h:rA cx (n+1) F ow e st=some o):
  pK dN 104 [.ptr 11 r 0 0, .ptr 4 x 0 0, .agg e.row] H (sS p cx r vv abs vo x i wv ow.length H o):=by
 obtain⟨k,s,l,t,u⟩:=e;have A:=hR.r;have b9:=he.es;have e4:=he.thn;have d4:=he.els;simp only[Sm.es,Sm.thn,Sm.els,Sm.kind]at b9 e4 d4 a6 d0 d1 c1;have c3:(Sm.mk k s l t u).row=[.int .i64 k, .str s, .isl 5 (l.map Ex.row), .isl 5 (t.map Sm.row), .isl 5 (u.map Sm.row)]:=Sm.row_eq _;rw[c3];clear c3;have c7:x≠r:=fun e=>by rw[e,A]at g;cases g
 have g5:=c7.symm;simp only[rA]at h;have hV:=fun(j:Nat) (a:Ex) (hj:l[j]?=some a) st vo en H o c M h5 h6=>ih.V i F ow a st vo en H x wv false 0 o (b9.all _ (aW hj)) (fun u D=>a6 u ((fU (aW hj)).1 u D)) (fun u D=>a6 u ((fU (aW hj)).2 u D)) c M D h5 h6;have e0:p.av= .agg [.isl 1 (p.vars.map bH), .isl 2 (p.arrs.map Ar.row), .isl 5 (p.funs.map Fu.row)]:=rfl;obtain⟨HX,f7⟩: ∃X,X=H:=⟨_,rfl⟩;subst c1;simp only[show ¬(2:Int)=1 by decide,dP,cT]at h;have c4:=hU ⟨s,3,0⟩ (by simp [kI,Sm.kind,Sm.name]);have S:=c4.f;rw[e0]at S;simp only at S;have hk:=c4.k3;generalize eL p i s=fi at S hk;obtain⟨kk,ii⟩:=fi;simp only at S hk;obtain⟨rfl,e3⟩:=hk;rw[e3]at h
 cases hl0:l[0]? with
 |none=>rw[hl0]at h;cases h
 |some a=>
 cases hl1:l[1]? with
 |none=>rw[hl0,hl1]at h;cases h
 |some b=>
  simp only[hl0,hl1]at h;have d5:=pR hl0;have d6:=pR hl1
  obtain⟨Q,Z⟩: ∃Q,nH cx n F ow a st=some Q:=by
   cases Z:nH cx n F ow a st with
   |none=>rw[Z]at h;cases h
   |some Q=>exact⟨Q,rfl⟩
  rw[Z]at h;have b1:=fun H' g1 g2 g3=>hV 0 a hl0 st vo 0 H' Q g1 g2 g3 (.inl ⟨rfl,Z⟩);rw[a.row_eq]at b1;have b2:=fun vo' c9 f4 H' r2 g1 g2 g3 g4=>hV 1 b hl1 f4 vo' c9 H' r2 g1 g2 g3 g4;rw[b.row_eq]at b2;refine bX 251 [] func104 ?_;refine aA fun K d=>?_;simp only[RR,seval];refine aQ fun b5 W=>?_;have e7:=dG W A;have c5:=e7.symm;have e8:=dG W g;have c6:=e8.symm;simp only[RR,seval];refine d _ _ (aA fun K d=>?_);simp only[RR,seval];refine d _ _ (aN (aA fun K d=>?_));simp only[RR,seval];refine d _ _ (bN (aA fun K d=>?_));simp only[RR,seval];refine d _ _ (cL (aC fun K d=>?_));refine bF (fun x=>x≠r∧x≠x∧x≠b5) [(0,3),(1,3),(2,3),(3,1),(4,3),(5,3),(6,3),(7,1),(8,3),(9,1),(10,1),(11,3),(12,3),(13,3),(14,3),(15,3)] [] eP (by kernel_rfl) rfl rfl ?_;simp only[eM,A,g,c5,c6,RR,seval];refine aP (S) ?_;simp only[RR,seval];refine d _ _ (bT fun F1 M1 a2 N=>?_);have G:=a2 0;have f1:=a2 1;have f5:=a2 5;have a5:=a2 10;have gr:=N r;have gx:=N x;have I:=N b5;simp only[A,g,c5,c6,RR,seval]at G f1 f5 a5 gr gx I;have hM:=funext N;have a0:=(hR.new W _).same N;have b3:=(hW.new W _).same N;have d8:dV r vv abs vo vo H M1:=by rw[hM];exact(dV.refl _ _ _ _ _).updN W _
  have A:=gr;have g:=gx;refine aA fun K d=>?_;simp only[G,f1,f5,I,d5,RR,seval];refine lV (b1 _ a0 b3 g) (fun _=>trivial) fun w1 g7 H1 c8 e5 d9 T a3=>?_;obtain⟨r2,d3,b8⟩:=PE d9 h;have A:=T.r;have g:=a0.keep g (by decide) (by decide) a3;have I:=a0.keep I (by decide) (by decide) a3;have b4:=b3.keep a0 a3;simp only[RR,seval];refine d _ _ (aA fun K d=>?_);simp only[G,f1,f5,I,d6,RR,seval];refine lV (b2 _ _ _ _ _ T b4 g d3) (fun _=>trivial) fun w2 R H2 f6 e6 c2 v a4=>?_;have A:=v.r;have g:=T.keep g (by decide) (by decide) a4;have I:=T.keep I (by decide) (by decide) a4;have U:=b4.keep T a4;have a8:=((d8.trans a3).trans a4).w x wv;simp only[RR,seval];refine d _ _ (aI (aA fun K d=>?_));simp only[G,A,RR,seval];refine d _ _ (aX ?_ ?_)<;>intro b6
  ·obtain⟨Y,J,a9⟩:=rX (o:=r2) (by simpa using b6)
   have ho:o= .fin Y J:=by
    rcases b8 with⟨x1,g6,_,_,M⟩|⟨e2,B,_,c,M⟩
    ·rw[a9]at M
     exact(Option.some.inj (show some (Rz.fin Y J)=some o from M)).symm
    rw[a9]at c;cases c;exact M
   subst ho;subst a9;refine aO ?_;simp only[aY,aK,bR,RR,seval];exact aZ.run ⟨ow,false,0,R,rfl,rfl,D,by simp [eB],(fun _=>rfl),(fun _ _ e=>by cases e),(fun e s h=>by cases h;exact c2 _ _ rfl),g,U,v,a8⟩
  obtain⟨x2,B,rfl⟩:=rW (o:=r2) c2 (by simpa using b6);obtain rfl:=e6 _ _ rfl
  obtain⟨x1,J,rfl,c⟩: ∃x J,Q= .val x J∧(if 0≤ii then bindR (Z2 ii x B) fun j st=>some (Rz.val ((none:Option Int),ow) (Zn ii j w2 st))else none)=some o:=by
   rcases b8 with⟨x1,J,q1,_,q3⟩|⟨e2,s3,_,q3,_⟩
   ·exact⟨x1,J,q1,q3⟩
   cases q3
  obtain rfl:=e5 _ _ rfl;have v:fM p cx r vv abs B R 0 H2:=v;have A:=v.r;by_cases z0:0≤ii
  rotate_left
  ·rw[aM z0]at c;cases c
  rw[bP z0]at c;obtain⟨P,rfl⟩:=iM z0;simp only[dU,Z2]at c
  obtain⟨z,C⟩: ∃z,B.arrs[P]?=some z:=by
   cases C:B.arrs[P]? with
   |none=>rw[C]at c;cases c
   |some z=>exact⟨z,rfl⟩
  rw[C]at c;simp only at c;have hl:P<abs.length:=by rw[v.al];exact(bC.1 C).1
  have O:=aD hl;generalize abs[P]=L at O;have c0:=wA abs B.arrs P L z O C;have a1:=v.a P L z O C;have f8:=(v.ua z (aW C)).1;obtain⟨E,rfl⟩:=iM c8.1;have f9:=c8.2;have Y:IntKind.wrap .u64 (E:Int)=(E:Int):=by simp [IntKind.wrap,IntKind.signed,IntKind.bits];omega
  have e2:IntKind.wrap .u64 (z.length:Int)=(z.length:Int):=by simp [IntKind.wrap,IntKind.signed,IntKind.bits];omega
  rw[dU]at c;have e9:L≠r:=v.nr a1;have g0:r≠L:=fun e=>e9 e.symm;have f2:L≠x:=fun e=>by rw[e,g]at a1;cases a1
  have f3:x≠L:=fun e=>f2 e.symm;have A:=v.r;refine aL ?_;simp only[RR];refine aI (aA fun K d=>?_);simp only[G,a5,A,c0,Y,e2,RR,seval];refine d _ _ (aX ?_ ?_)<;>intro b7
  ·have hf: ¬E<z.length:=by have:=aF b7;omega
   rw[aM hf]at c;cases c;refine aA fun K d=>?_;simp only[G,A,RR,seval];apply d;have b0:=(cR H2 (some (.rows 11 [[.isl 1 (p.vars.map bH), .isl 2 (p.arrs.map Ar.row), .isl 5 (p.funs.map Fu.row), .str cx.inp, .int .i64 cx.fuel,vv, .isl 1 (fN abs B.arrs),R, .int .i64 B.read, .int .i64 B.ticks, .int .i64 3]])) c7).trans g;have a7:=U.off (U.h.offsz v.r (by decide)) (some (.rows 11 [[.isl 1 (p.vars.map bH), .isl 2 (p.arrs.map Ar.row), .isl 5 (p.funs.map Fu.row), .str cx.inp, .int .i64 cx.fuel,vv, .isl 1 (fN abs B.arrs),R, .int .i64 B.read, .int .i64 B.ticks, .int .i64 3]]));refine aO ?_;simp only[aY,aK,bR,RR,seval];exact aZ.run ⟨ow,false,0,R,rfl,rfl,D,by simp [eB],(fun _=>rfl),(fun _ _ e=>by cases e),(fun e s h=>by cases h;decide),b0,a7,fM.turn v 3 rfl rfl rfl v.rd v.tk,a8.trans ((dV.run _).w x wv)⟩
  have hf:E<z.length:=by have:=aH b7;omega
  have zf:(E:Int)<(z.length:Int):=by omega
  rw[bP hf]at c;simp only[bindR,Option.some.injEq]at c;have d7:=sO (aD hf);refine aL ?_;simp only[RR];refine aG ?_;simp only[G,a5,A,a1,c0,d7,zf,RR,seval];simp only[aY,aK,bR,seval];have b0:=(cR H2 (some (.rows 1 ((z.map iH).set E [.int .u32 w2]))) f3).trans g;have a7:=U.off (U.offa (aW O)) (some (.rows 1 ((z.map iH).set E [.int .u32 w2])));have d2:=fM.setA v O C E w2 f6;subst c;exact aZ.run ⟨ow,false,0,R,rfl,rfl,D,by simp [eB],(fun _=>rfl),(fun _ _ e=>by cases e;exact⟨rfl,rfl,rfl⟩),(fun _ _ e=>by cases e),b0,a7,d2,a8.trans ((dV.arr (aW O) _).w x wv)⟩
theorem U9 (ih:Ab p cx r vv abs n) (O:Y5 p cx) (i:Nat) (B:dC→Bool×Int) (ow:List Int) (e:Sm) (a9:e.kind=3) (st:RS) (vo:AV) (H:Hp) (x:Nat) (wv:AV) (o:Rz (Option Int×List Int)) (Y:e.ok) (hU: ∀u∈kI e,UJ p i B u) (U: ∀u∈fE e.es,UJ p i B u) (b3: ∀u∈dY e.thn,UJ p i B u) (b4: ∀u∈dY e.els,UJ p i B u) (hR:fM p cx r vv abs st vo 0 H) (hW:hJ vv abs vo wv ow H) (A: ∀y∈ow,eB y) (v:H x=some (.rows 4 [[.int .i64 i,wv, .bool false, .int .u32 0]])) (h:rA cx (n+1) B ow e st=some o):
  pK dN 104 [.ptr 11 r 0 0, .ptr 4 x 0 0, .agg e.row] H (sS p cx r vv abs vo x i wv ow.length H o):=by
 obtain⟨k,s,l,t,u⟩:=e;have f:=hR.r;have a7:=Y.es;have c3:=Y.thn;have b7:=Y.els;simp only[Sm.es,Sm.thn,Sm.els,Sm.kind]at a7 c3 b7 U b3 b4 a9;have R:(Sm.mk k s l t u).row=[.int .i64 k, .str s, .isl 5 (l.map Ex.row), .isl 5 (t.map Sm.row), .isl 5 (u.map Sm.row)]:=Sm.row_eq _;rw[R];clear R;have b2:x≠r:=fun e=>by rw[e,f]at v;cases v
 have d2:=b2.symm;simp only[rA]at h;have hV:=fun(j:Nat) (a:Ex) (O:l[j]?=some a) st vo en H o h3 h4 h5 h6=>ih.V i B ow a st vo en H x wv false 0 o (a7.all _ (aW O)) (fun u A=>U u ((fU (aW O)).1 u A)) (fun u A=>U u ((fU (aW O)).2 u A)) h3 h4 A h5 h6;have d0:p.av= .agg [.isl 1 (p.vars.map bH), .isl 2 (p.arrs.map Ar.row), .isl 5 (p.funs.map Fu.row)]:=rfl;obtain⟨HX,c9⟩: ∃X,X=H:=⟨_,rfl⟩;subst a9;simp only[show ¬(3:Int)=1 by decide,show ¬(3:Int)=2 by decide,dP,cT]at h
 cases hl0:l[0]? with
 |none=>rw[hl0]at h;cases h
 |some a=>
  simp only[hl0]at h;have b9:=pR hl0
  obtain⟨C,g⟩: ∃C,nH cx n B ow a st=some C:=by
   cases g:nH cx n B ow a st with
   |none=>rw[g]at h;cases h
   |some C=>exact⟨C,rfl⟩
  rw[g]at h;have a4:=fun H' T G g3=>hV 0 a hl0 st vo 0 H' C T G g3 (.inl ⟨rfl,g⟩);rw[a.row_eq]at a4;refine bX 251 [] func104 ?_;refine aA fun K c=>?_;simp only[RR,seval];refine aQ fun b5 I=>?_;have c5:=dG I f;have c7:=c5.symm;have c6:=dG I v;have c8:=c6.symm;simp only[RR,seval];refine c _ _ (aA fun K c=>?_);simp only[RR,seval];refine c _ _ (aN (aA fun K c=>?_));simp only[RR,seval];refine c _ _ (bN (aA fun K c=>?_));simp only[RR,seval];refine c _ _ (bN (aA fun K c=>?_));simp only[RR,seval];refine c _ _ (cL (bT fun F1 M1 Z F=>?_));have E:=Z 0;have f1:=Z 1;have f5:=Z 5;have gr:=F r;have gx:=F x;have M:=F b5;simp only[f,v,c7,c8,RR,seval]at E f1 f5 gr gx M;have hM:=funext F;have J:=(hR.new I _).same F;have a5:=(hW.new I _).same F;have c0:dV r vv abs vo vo H M1:=by rw[hM];exact(dV.refl _ _ _ _ _).updN I _
  have f:=gr;have v:=gx;refine aA fun K c=>?_;simp only[E,f1,f5,M,b9,RR,seval];refine lV (a4 _ J a5 v) (fun _=>trivial) fun z S H1 d3 c4 b0 d P=>?_;have f:=d.r;have v:=J.keep v (by decide) (by decide) P;have M:=J.keep M (by decide) (by decide) P;have L:=a5.keep J P;have a0:=(c0.trans P).w x wv;simp only[RR,seval];refine c _ _ (aI (aA fun K c=>?_));simp only[E,f,RR,seval];refine c _ _ (aX ?_ ?_)<;>intro a6
  ·obtain⟨e1,D,rfl⟩:=rX (o:=C) (by simpa using a6)
   obtain rfl:=Option.some.inj (show some (Rz.fin e1 D)=some o from h);refine aO ?_;simp only[aY,aK,bR,RR,seval];exact aZ.run ⟨ow,false,0,S,rfl,rfl,A,by simp [eB],(fun _=>rfl),(fun _ _ e=>by cases e),(fun e s h=>by cases h;exact b0 _ _ rfl),v,L,d,a0⟩
  obtain⟨x1,D,rfl⟩:=rW (o:=C) b0 (by simpa using a6);obtain rfl:=c4 _ _ rfl;have d:fM p cx r vv abs D S 0 H1:=d;have f:=d.r;have h:bindR (some (Le z D)) (fun _ st=>some (Rz.val ((none:Option Int),ow) st))=some o:=h;have a1:=d.o;have d1:=d.ub
  have a2: ∃m,D.out.length=m∧(S= .nsl∧m=0∨ ∃b,S= .osl 1 b m):=⟨_,rfl,by
   rcases a1 with⟨g,h2⟩|⟨b,g,h2⟩
   ·exact .inl ⟨g,by simpa using h2⟩
   exact .inr ⟨b,by simpa using g⟩⟩
  obtain⟨m,hm,a2⟩:=a2
  have hc:((UInt8.ofNat (IntKind.wrap .u8 z).toNat).toNat:Int)=IntKind.wrap .u8 z:=by
   have g:IntKind.wrap .u8 z=z % 256:=by simp [IntKind.wrap,IntKind.signed,IntKind.bits]
   rw[g];have:=Int.emod_nonneg z (show(256:Int)≠0 by decide);have:=Int.emod_lt_of_pos z (show(0:Int)<256 by decide);simp only[UInt8.toNat_ofNat'];omega
  have R:[AV.int .u8 (IntKind.wrap .u8 z)]=sB (UInt8.ofNat (IntKind.wrap .u8 z).toNat):=by unfold sB;rw[hc]
  have b1:=v;rcases a2 with⟨rfl,rfl⟩|⟨b,rfl⟩
  all_goals
   refine aL ?_;simp only[RR];refine aI (aA fun K c=>?_);simp only[E,f,RR,seval];refine c _ _ (aX ?_ ?_)<;>intro N
   ·try (cases N;done)
    all_goals
     have zf:65536≤D.out.length:=by have:=aF N;omega
     unfold Le at h;rw[bP zf]at h;cases h;refine aA fun K c=>?_;simp only[E,f,RR,seval];apply c;have a3:=fun o=>(cR H1 o b2).trans b1;have W:=fun o=>L.off (L.h.offsz d.r (by decide)) o;refine aO ?_;simp only[aY,aK,bR,RR,seval];exact aZ.run ⟨ow,false,0,_,rfl,rfl,A,by simp [eB],(fun _=>rfl),(fun _ _ e=>by cases e),(fun e s h=>by cases h;decide),a3 _,W _,fM.turn d 4 rfl rfl rfl d.rd d.tk,a0.trans ((dV.run _).w x wv)⟩
   try (cases N;done)
   all_goals
    have zf: ¬65536≤D.out.length:=by first|omega|(have:=aH N;omega)
    unfold Le at h;rw[aM zf]at h;cases h;refine aL ?_;simp only[RR];refine aG ?_;simp only[E,f,RR,seval];refine dK ?_;simp only[RR,seval];refine jA a1 (by simp only[aE,aJ,aS];omega) (fun _ _=>trivial) fun v' H' Q a8 b8=>?_;have b6:=Q.cells;have c2:=Q.one1;have f:=a8 r _ f (a1.offsz f (by decide) _ _);simp only[b6,c2,cA,List.drop,f,RR,seval];rw[R]at Q;obtain⟨T,G⟩:=d.put (by omega) Q a8 b8;have a3:=d.keep b1 (by decide) (by decide) G;have W:=L.keep d G;have c1:=a0.trans (G.w x wv);simp only[aY,aK,bR];exact aZ.run ⟨ow,false,0,v',rfl,rfl,A,by simp [eB],(fun _=>rfl),(fun _ _ e=>by cases e;exact⟨rfl,rfl,rfl⟩),(fun _ _ e=>by cases e),a3,W,T,c1⟩
theorem HI (ih:Ab p cx r vv abs n) (N:Y5 p cx) (i:Nat) (d:dC→Bool×Int) (ow:List Int) (e:Sm) (b7:e.kind=4) (st:RS) (vo:AV) (H:Hp) (x:Nat) (wv:AV) (o:Rz (Option Int×List Int)) (he:e.ok) (hU: ∀u∈kI e,UJ p i d u) (Z: ∀u∈fE e.es,UJ p i d u) (a7: ∀u∈dY e.thn,UJ p i d u) (a8: ∀u∈dY e.els,UJ p i d u) (hR:fM p cx r vv abs st vo 0 H) (hW:hJ vv abs vo wv ow H) (g: ∀y∈ow,eB y) (f:H x=some (.rows 4 [[.int .i64 i,wv, .bool false, .int .u32 0]])) (h:rA cx (n+1) d ow e st=some o):
  pK dN 104 [.ptr 11 r 0 0, .ptr 4 x 0 0, .agg e.row] H (sS p cx r vv abs vo x i wv ow.length H o):=by
 obtain⟨k,s,l,t,u⟩:=e;have E:=hR.r;have b4:=he.es;have c0:=he.thn;have b3:=he.els;simp only[Sm.es,Sm.thn,Sm.els,Sm.kind]at b4 c0 b3 Z a7 a8 b7;have b9:(Sm.mk k s l t u).row=[.int .i64 k, .str s, .isl 5 (l.map Ex.row), .isl 5 (t.map Sm.row), .isl 5 (u.map Sm.row)]:=Sm.row_eq _;rw[b9];clear b9;have c9:x≠r:=fun e=>by rw[e,E]at f;cases f
 have d2:=c9.symm;simp only[rA]at h;have hV:=fun(j:Nat) (a:Ex) (N:l[j]?=some a) st vo en H o h3 h4 h5 h6=>ih.V i d ow a st vo en H x wv false 0 o (b4.all _ (aW N)) (fun u g=>Z u ((fU (aW N)).1 u g)) (fun u g=>Z u ((fU (aW N)).2 u g)) h3 h4 g h5 h6;have d1:p.av= .agg [.isl 1 (p.vars.map bH), .isl 2 (p.arrs.map Ar.row), .isl 5 (p.funs.map Fu.row)]:=rfl;obtain⟨HX,d0⟩: ∃X,X=H:=⟨_,rfl⟩;subst b7;simp only[show ¬(4:Int)=1 by decide,show ¬(4:Int)=2 by decide,show ¬(4:Int)=3 by decide,dP,cT]at h
 cases hl0:l[0]? with
 |none=>rw[hl0]at h;cases h
 |some a=>
  simp only[hl0]at h;have c3:=pR hl0
  obtain⟨b,J⟩: ∃b,nH cx n d ow a st=some b:=by
   cases J:nH cx n d ow a st with
   |none=>rw[J]at h;cases h
   |some b=>exact⟨b,rfl⟩
  rw[J]at h;have a9:=fun H' A B C=>hV 0 a hl0 st vo 0 H' b A B C (.inl ⟨rfl,J⟩);rw[a.row_eq]at a9;refine bX 251 [] func104 ?_;refine aA fun K c=>?_;simp only[RR,seval];refine aQ fun b5 D=>?_;have c5:=dG D E;have c7:=c5.symm;have c6:=dG D f;have c8:=c6.symm;simp only[RR,seval];refine c _ _ (aA fun K c=>?_);simp only[RR,seval];refine c _ _ (aN (aA fun K c=>?_));simp only[RR,seval];refine c _ _ (bN (aA fun K c=>?_));simp only[RR,seval];refine c _ _ (bN (aA fun K c=>?_));simp only[RR,seval];refine c _ _ (bN (aA fun K c=>?_));simp only[RR,seval];refine c _ _ (cL (bT fun F1 M1 a2 v=>?_));have F:=a2 0;have G:=a2 1;have I:=a2 5;have gr:=v r;have gx:=v x;have z:=v b5;simp only[E,f,c7,c8,RR,seval]at F G I gr gx z;have hM:=funext v;have M:=(hR.new D _).same v;have b0:=(hW.new D _).same v;have c4:dV r vv abs vo vo H M1:=by rw[hM];exact(dV.refl _ _ _ _ _).updN D _
  have E:=gr;have f:=gx;refine aA fun K c=>?_;simp only[F,G,I,z,c3,RR,seval];refine lV (a9 _ M b0 f) (fun _=>trivial) fun w1 c2 H1 d3 c1 b8 a0 O=>?_;have E:=a0.r;have f:=M.keep f (by decide) (by decide) O;have z:=M.keep z (by decide) (by decide) O;have b1:=b0.keep M O;have b6:=(c4.trans O).w x wv;simp only[RR,seval];refine c _ _ (aA fun K c=>?_);simp only[RR,seval];refine c _ _ (aX ?_ ?_)<;>intro b2
  ·have a3: ¬w1=0:=by simpa using b2
   have a1:uN (mN b) b.st (oS cx n d ow t b.st) o:=by
    cases b with
    |fin e1 s1=>
     obtain rfl:=Option.some.inj (show some (Rz.fin e1 s1)=some o from h);exact .inr ⟨b8 _ _ rfl,rfl⟩
    |val x1 s1=>
     obtain rfl:=c1 _ _ rfl;simp only[bindR]at h;rw[aM a3]at h;exact .inl ⟨rfl,h⟩
   refine aG ?_;simp only[F,G,I,z,RR,seval];refine Jh (ih.L i d ow t b.st c2 (mN b) _ x wv false 0 o c0 a7 a0 b1 g f (by simp [eB]) (fun _=>rfl) (fun _=>rfl) a1) (fun _=>trivial) fun a4 P a5 a6 H2 A B C R S T U W Y Q=>?_;simp only[RR,seval];simp only[aY,aK,bR,seval];exact aZ.run ⟨a4,P,a5,a6,rfl,A,B,C,R,S,T,U,W,Y,b6.trans Q⟩
  have a3:w1=0:=by simpa using b2
  have a1:uN (mN b) b.st (oS cx n d ow u b.st) o:=by
   cases b with
   |fin e1 s1=>
    obtain rfl:=Option.some.inj (show some (Rz.fin e1 s1)=some o from h);exact .inr ⟨b8 _ _ rfl,rfl⟩
   |val x1 s1=>
    obtain rfl:=c1 _ _ rfl;simp only[bindR]at h;rw[bP a3]at h;exact .inl ⟨rfl,h⟩
  refine aG ?_;simp only[F,G,I,z,RR,seval];refine Jh (ih.L i d ow u b.st c2 (mN b) _ x wv false 0 o b3 a8 a0 b1 g f (by simp [eB]) (fun _=>rfl) (fun _=>rfl) a1) (fun _=>trivial) fun a4 P a5 a6 H2 A B C R S T U W Y Q=>?_;simp only[RR,seval];simp only[aY,aK,bR,seval];exact aZ.run ⟨a4,P,a5,a6,rfl,A,B,C,R,S,T,U,W,Y,b6.trans Q⟩
end
end Go.Proofs.YtaecpjgmcffliaaGreatDoor
