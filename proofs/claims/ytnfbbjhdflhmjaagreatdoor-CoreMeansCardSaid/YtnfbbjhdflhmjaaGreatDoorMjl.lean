/- Chapter 18, the judge's: a loop; a statement; all at a depth. Chapter 18, the judge's: Run. -/
import Derived.Test.YtnfbbjhdflhmjaaGreatDoorMje
import Derived.Test.YtnfbbjhdflhmjaaGreatDoorMjf
import Derived.Test.YtnfbbjhdflhmjaaGreatDoorMx
import Derived.Test.YtnfbbjhdflhmjaaGreatDoorGZi
import Derived.Test.YtnfbbjhdflhmjaaGreatDoorGZh
import Derived.Test.YtnfbbjhdflhmjaaGreatDoorSy2
import Derived.Test.YtnfbbjhdflhmjaaGreatDoorAl3
set_option linter.unusedSimpArgs false
set_option linter.unusedVariables false
set_option maxRecDepth 10000
namespace Go.Al
def wF (cx:Cx) (d:Nat) (rs:cR→Bool×Int) (c:Ex) (t:List Sm) (ow:List Int) (st:RS):Option (Rz (Option Int×List Int)):=
 bindR (gB cx d rs ow c st) fun x st=>if x=0 then some (.val (none,ow) st)else bindR (iH cx d rs ow t st) fun r st=>match r.1 with
  |some v=>some (.val (some v,r.2) st)
  |none=>rL cx d rs r.2 c t st
theorem Fk (cx:Cx) (d:Nat) (rs:cR→Bool×Int) (c:Ex) (t:List Sm) (ow:List Int) (st:RS):rL cx (d+1) rs ow c t st=bindR (some (eQ cx st)) fun _ st=>wF cx d rs c t ow st:=by
 simp only[rL,wF]<;>rfl
end Go.Al
namespace Go.Proofs.YtnfbbjhdflhmjaaGreatDoor
open Go.Al
section
variable {p : Pg} {cx : Cx} {r : Nat} {vv : AV} {abs : List Nat} {n : Nat}
theorem D6 {r1:Rz Int} {o:Rz (Option Int×List Int)} {w1:Int} {ow:List Int} {bk:Bool} {vl:Int} {K:Int→RS→Option (Rz (Option Int×List Int))} {x i:Nat} {wv vo1:AV} {H HX:Hp} {vo:AV} (hwv1: ∀v s,r1= .val v s→w1=v) (hne1: ∀e s,r1= .fin e s→e≠0) (h2:bindR (some r1) (fun x st=>if x=0 then some (Rz.val ((none:Option Int),ow) st)else K x st)=some o) (hbk:bk=false) (hvl:vl=0) (hz:w1=0)
  (hx:H x=some (.rows 4 [[.int .i64 i,wv, .bool bk, .int .u32 vl]])) (hW:eO vv abs vo1 wv ow H) (hR:dK p cx r vv abs r1.st vo1 (gZ r1) H) (hk:fO r vv abs vo vo1 x wv HX H):
  (∀q s,o= .val q s→ow=q.2∧bk=q.1.isSome∧vl=q.1.getD 0)∧(∀e s,o= .fin e s→e≠0)∧H x=some (.rows 4 [[.int .i64 i,wv, .bool bk, .int .u32 vl]])∧eO vv abs vo1 wv ow H∧dK p cx r vv abs o.st vo1 (gZ o) H∧fO r vv abs vo vo1 x wv HX H:=by
 cases r1 with
 |fin e s=>
  obtain rfl:=Option.some.inj (show some (Rz.fin e s)=some o from h2);exact⟨(fun _ _ e=>by cases e),(fun _ _ h=>by cases h;exact hne1 _ _ rfl),hx,hW,hR,hk⟩
 |val y s=>
  obtain rfl:=hwv1 _ _ rfl;simp only[bindR]at h2;rw[if_pos hz]at h2;cases h2;exact⟨(fun _ _ e=>by cases e;exact⟨rfl,hbk,hvl⟩),(fun _ _ e=>by cases e),hx,hW,hR,hk⟩
set_option maxHeartbeats 4000000 in
theorem Fb (ih:sS p cx r vv abs n) (hj:Om p cx) (i:Nat) (rs:cR→Bool×Int) (ow:List Int) (e:Sm) (hkd:e.kind=5) (st:RS) (vo:AV) (H:Hp) (x:Nat) (wv:AV) (o:Rz (Option Int×List Int)) (he:e.ok) (hU: ∀u∈hJ e,UJ p i rs u) (hKE: ∀u∈dG e.es,UJ p i rs u) (hKT: ∀u∈cT e.thn,UJ p i rs u) (hKU: ∀u∈cT e.els,UJ p i rs u) (hR:dK p cx r vv abs st vo 0 H) (hW:eO vv abs vo wv ow H) (hu: ∀y∈ow,cC y) (hx:H x=some (.rows 4 [[.int .i64 i,wv, .bool false, .int .u32 0]])) (h:kQ cx (n+1) rs ow e st=some o):
  gK cN 107 [.ptr 11 r 0 0, .ptr 4 x 0 0, .agg e.row] H (mX p cx r vv abs vo x i wv ow.length H o):=by
 obtain⟨k,s,l,t,u⟩:=e;have hr:=hR.r;have hes:=he.es;have hth:=he.thn;have hel:=he.els;simp only[Sm.es,Sm.thn,Sm.els,Sm.kind]at hes hth hel hKE hKT hKU hkd;have hrow:(Sm.mk k s l t u).row=[.int .i64 k, .str s, .isl 5 (l.map Ex.row), .isl 5 (t.map Sm.row), .isl 5 (u.map Sm.row)]:=Sm.row_eq _;rw[hrow];clear hrow;have nxr:x≠r:=fun e=>by rw[e,hr]at hx;cases hx
 have nrx:r≠x:=fun e=>nxr e.symm;simp only[kQ]at h;have hV:=fun(j:Nat) (a:Ex) (hj:l[j]?=some a) st vo en H o h3 h4 h5 h6=>ih.V i rs ow a st vo en H x wv false 0 o (hes.all _ (aL hj)) (fun u hu=>hKE u ((dP (aL hj)).1 u hu)) (fun u hu=>hKE u ((dP (aL hj)).2 u hu)) h3 h4 hu h5 h6;have hpav:p.av= .agg [.isl 1 (p.vars.map bK), .isl 2 (p.arrs.map Ar.row), .isl 5 (p.funs.map Fu.row)]:=rfl;obtain⟨HX,hHX⟩: ∃X,X=H:=⟨_,rfl⟩;subst hkd;simp only[show ¬(5:Int)=1 by decide,show ¬(5:Int)=2 by decide,show ¬(5:Int)=3 by decide,show ¬(5:Int)=4 by decide,if_false,if_true]at h
 cases hl0:l[0]? with
 |none=>rw[hl0]at h;cases h
 |some c=>
  simp only[hl0]at h;have hg0:=nK hl0
  obtain⟨n',rfl⟩: ∃n',n=n'+1:=by
   cases n with
   |zero=>simp [rL]at h
   |succ n'=>exact⟨n',rfl⟩
  rw[Fk]at h;have hcm:=aL hl0;have hVc:=fun(ow:List Int) (hu: ∀y∈ow,cC y) st vo en H o bk vl h3 h4 h5 h6=>ih.V i rs ow c st vo en H x wv bk vl o (hes.all _ hcm) (fun u hu=>hKE u ((dP hcm).1 u hu)) (fun u hu=>hKE u ((dP hcm).2 u hu)) h3 h4 hu h5 h6;rw[c.row_eq]at hVc;obtain⟨w,hw⟩: ∃w,w=ow.length:=⟨_,rfl⟩;rw[←hw];refine bD 251 [] Tryz.func107 rfl rfl rfl rfl ?_;refine aB fun _ Y=>aA rfl ?_;simp only[RR,seval];refine aO fun b5 hn5=>?_;have nb5_r:b5≠r:=fun e=>by rw[e]at hn5;simp only[hr,seval,reduceCtorEq]at hn5
  have nr_b5:r≠b5:=fun e=>nb5_r e.symm;have nb5_x:b5≠x:=fun e=>by rw[e]at hn5;simp only[hx,seval,reduceCtorEq]at hn5
  have nx_b5:x≠b5:=fun e=>nb5_x e.symm;simp only[RR,seval];apply Y;clear Y;refine aB fun _ Y=>aA rfl ?_;simp only[RR,seval];apply Y;clear Y;refine aI ?_;refine aB fun _ Y=>aA rfl ?_;simp only[RR,seval];apply Y;clear Y;refine aF false rfl (fun hc=>by cases hc) (fun _=>?_);refine aB fun _ Y=>aA rfl ?_;simp only[RR,seval];apply Y;clear Y;refine aF false rfl (fun hc=>by cases hc) (fun _=>?_);refine aB fun _ Y=>aA rfl ?_;simp only[RR,seval];apply Y;clear Y;refine aF false rfl (fun hc=>by cases hc) (fun _=>?_);refine aB fun _ Y=>aA rfl ?_;simp only[RR,seval];apply Y;clear Y;refine aF false rfl (fun hc=>by cases hc) (fun _=>?_);refine aB fun _ Y=>aA rfl ?_;simp only[RR,seval];apply Y;clear Y;refine aF true rfl (fun _=>?_) (fun hc=>by cases hc);refine bL fun F1 M1 hfr hH=>?_;have g0:=hfr 0;have g1:=hfr 1;have g5:=hfr 5;have gr:=hH r;have gx:=hH x;have gb5:=hH b5
  try simp only[hr,hx,nr_b5,nx_b5,RR,seval]at g0 g1 g5 gr gx gb5
  have hM:=funext hH;have hR0:=(hR.new hn5 _).same hH;have hW0:=(hW.new hn5 _).same hH;have hk0:cM r vv abs vo vo H M1:=by rw[hM];exact(cM.refl _ _ _ _ _).updN hn5 _
  have f0:=g0;clear g0;have f1:=g1;clear g1;have f5:=g5;clear g5;have hr:=gr;clear gr;have hx:=gx;clear gx;have hb5:=gb5;clear gb5;clear hfr hH;have hT:=tN hj.cx hR0;generalize hTT:eQ cx st=tt at h hT;refine aB fun _ Y=>aA rfl ?_;simp only[f0,RR,seval];refine tU hT (fun _=>trivial) fun H1 hne1 hR1 hk1=>?_;have hr:=hR1.r;have hx:=hR0.keep hx (by decide) (by decide) hk1;have hb5:=hR0.keep hb5 (by decide) (by decide) hk1;have hW1:=hW0.keep hR0 hk1;have hk01:=(hk0.trans hk1).w x wv
  have hc0:(gZ tt=0∧false=false∧wF cx n' rs c t ow tt.st=some o)∨(gZ tt=0∧false=true∧o= .val (some 0,ow) tt.st)∨(gZ tt≠0∧o= .fin (gZ tt) tt.st):=by
   cases tt with
   |fin e s=>exact .inr (.inr ⟨hne1 _ _ rfl,(Option.some.inj (show some (Rz.fin e s)=some o from h)).symm⟩)
   |val q s=>exact .inl ⟨rfl,rfl,h⟩
  simp only[RR,seval];apply Y;clear Y;refine bL fun F2 M2 hfr hH=>?_;have g0:=hfr 0;have g1:=hfr 1;have g5:=hfr 5;have gr:=hH r;have gx:=hH x;have gb5:=hH b5
  try simp only[f0,f1,f5,hr,hx,hb5,RR,seval]at g0 g1 g5 gr gx gb5
  have hM1:=funext hH;have f0:=g0;clear g0;have f1:=g1;clear g1;have f5:=g5;clear g5;have hr:=gr;clear gr;have hx:=gx;clear gx;have hb5:=gb5;clear gb5;clear hfr hH;refine aI ?_;refine jQ [0,1,5] (n') (fun d fr M=> ∃stk vok enk owk bkk vlk,d≤n'∧owk.length=w∧(∀y∈owk,cC y)∧cC vlk∧(bkk=false→vlk=0)∧dK p cx r vv abs stk vok enk M∧eO vv abs vok wv owk M∧M x=some (.rows 4 [[.int .i64 i,wv, .bool bkk, .int .u32 vlk]])∧M b5=some (.rows 5 [[.int .i64 5, .str s, .isl 5 (l.map Ex.row), .isl 5 (t.map Sm.row), .isl 5 (u.map Sm.row)]])∧fO r vv abs vo vok x wv HX M∧((enk=0∧bkk=false∧wF cx d rs c t owk stk=some o)∨(enk=0∧bkk=true∧o= .val (some vlk,owk) stk)∨(enk≠0∧o= .fin enk stk))) ⟨tt.st,vo,gZ tt,ow,false,0,aY _,hw.symm,hu,(by simp [cC]),(fun _=>rfl),(by rw[hM1];exact hR1),(by rw[hM1];exact hW1),hx,hb5,(by rw[hM1,hHX];exact hk01),hc0⟩ ?_;rintro d F3 M3 ⟨stk,vok,enk,owk,bkk,vlk,hdn,hwk,huk,uvl,hbv,hRk,hOk,hx,hb5,hkk,hcase⟩ agx K1 hK1;have f0:=(agx 0 rfl).trans f0;have f1:=(agx 1 rfl).trans f1;have f5:=(agx 5 rfl).trans f5;have ag1:=bE.refl [0,1,5] F3;clear agx;have hr:=hRk.r;clear h hc0
  have hA:enk=0∧bkk=false→ ∃r1,gB cx d rs owk c stk=some r1∧bindR (some r1) (fun x st=>if x=0 then some (Rz.val ((none:Option Int),owk) st)else bindR (iH cx d rs owk t st) fun r st=>match r.1 with |some v=>some (.val (some v,r.2) st)|none=>rL cx d rs r.2 c t st)=some o:=fun⟨z1,z2⟩=>by
   rcases hcase with⟨_,_,h⟩|⟨_,h,_⟩|⟨h,_⟩
   ·unfold wF at h
    cases h1:gB cx d rs owk c stk with
    |none=>rw[h1]at h;cases h
    |some r1=>rw[h1]at h;exact⟨r1,rfl,h⟩
   ·rw[z2]at h;cases h
   exact absurd z1 h
  have hVk:=fun r1 (h1:gB cx d rs owk c stk=some r1) (hen:enk=0)=>hVc owk huk stk vok enk _ r1 bkk vlk hRk hOk hx (.inl ⟨hen,sE (Nat.le_succ_of_le hdn) h1⟩);have hen:enk=0∨ ¬enk=0:=by by_cases h:enk=0;exact .inl h;exact .inr h
  rcases hen with hen|hen<;>rcases Bool.eq_false_or_eq_true bkk with hbk|hbk
  all_goals
   refine aH ?_;refine aB fun _ Y=>aA rfl ?_;simp only[f0,f1,f5,hr,hx,hb5,hg0,hen,hbk,RR,seval]
   all_goals try ((first|refine bA (fun h=>?_) (fun h=>?_)|refine bG (fun h=>?_) (fun h=>?_))<;>simp only[h,f0,f1,f5,hr,hx,hb5,nxr,nrx,nb5_r,nr_b5,nb5_x,nx_b5,hg0,hen,hbk,RR,seval])
   all_goals try ((first|refine bA (fun h=>?_) (fun h=>?_)|refine bG (fun h=>?_) (fun h=>?_))<;>simp only[h,f0,f1,f5,hr,hx,hb5,nxr,nrx,nb5_r,nr_b5,nb5_x,nx_b5,hg0,hen,hbk,RR,seval])
   all_goals try (obtain⟨r1,h1,h2⟩:=hA ⟨hen,hbk⟩;refine gV (hVk r1 h1 hen) (fun _=>trivial) fun w1 vo1 H1 uw1 hwv1 hne1 hR1 hk1=>?_;have hr:=hR1.r;have hx1:=hRk.keep hx (by decide) (by decide) hk1;have hx:=hx1;have hb51:=hRk.keep hb5 (by decide) (by decide) hk1;have hb5:=hb51;have hW1:=hOk.keep hRk hk1;have hkk1:=hkk.trans (hk1.w x wv);simp only[RR,seval])
   all_goals
    apply Y;clear Y;refine aF _ rfl (fun hc=>?_) (fun hc=>?_)
    ·try (cases hc;done)
     all_goals
      have hw1:=hc;clear hc;have hnz: ¬w1=0:=by simpa using hw1
      obtain⟨r2,hc2,hcases⟩: ∃r2,oQ (gZ r1) r1.st (iH cx d rs owk t r1.st) r2∧((∃x s1,r1= .val x s1∧bindR (some r2) (fun r st=>match r.1 with |some v=>some (Rz.val (some v,r.2) st)|none=>rL cx d rs r.2 c t st)=some o)∨(∃e s,r1= .fin e s∧r2= .fin e s∧o= .fin e s)):=by
       cases r1 with
       |fin e s=>exact⟨.fin e s, .inr ⟨hne1 e s rfl,rfl⟩, .inr ⟨e,s,rfl,rfl,(Option.some.inj (show some (Rz.fin e s)=some o from h2)).symm⟩⟩
       |val y s=>
        obtain rfl:=hwv1 _ _ rfl;simp only[bindR]at h2;rw[if_neg hnz]at h2
        cases h3:iH cx d rs owk t s with
        |none=>rw[h3]at h2;cases h2
        |some r2=>rw[h3]at h2;exact⟨r2, .inl ⟨rfl,h3⟩, .inl ⟨_,s,rfl,h2⟩⟩
      have hd1:1≤d:=by
       cases d with
       |zero=>simp [gB]at h1
       |succ d=>omega
      have hc2':oQ (gZ r1) r1.st (iH cx (n'+1) rs owk t r1.st) r2:=by
       rcases hc2 with⟨z1,z2⟩|z
       ·exact .inl ⟨z1,Fo (Nat.le_succ_of_le hdn) z2⟩
       exact .inr z
      have hL:=ih.L i rs owk t r1.st vo1 (gZ r1) _ x wv bkk vlk r2 hth hKT hR1 hW1 huk hx uvl hbv (fun _=>hbk) hc2';rw[hwk]at hL;refine aM ?_;try simp only[RR]
      refine aI ?_;refine aB fun _ Y=>aA rfl ?_;simp only[f0,f1,f5,hb5,RR,seval];refine yG hL (fun _=>trivial) fun ow2 bk2 vl2 vo2 H2 g1 g2 g3 g4 g5 g6 g7 g8 g9 g10=>?_;have hr:=g9.r;have hb52:H2 b5=_:=hR1.keepW hW1 hb5 (by decide) (by decide) nb5_x g10;have hx:=g7;have hb5:=hb52;have hkk2:=hkk1.trans g10
      have hcase2:(gZ r2=0∧bk2=false∧rL cx d rs ow2 c t r2.st=some o)∨(gZ r2=0∧bk2=true∧o= .val (some vl2,ow2) r2.st)∨(gZ r2≠0∧o= .fin (gZ r2) r2.st):=by
       rcases hcases with⟨y,s1,rfl,h3⟩|⟨e,s,rfl,rfl,h4⟩
       ·cases r2 with
        |fin e s=>exact .inr (.inr ⟨g6 _ _ rfl,(Option.some.inj (show some (Rz.fin e s)=some o from h3)).symm⟩)
        |val q s=>
         obtain⟨q1,q2⟩:=q;obtain⟨z1,z2,z3⟩:=g5 _ _ rfl;simp only at z1 z2 z3;subst z1
         cases q1 with
         |none=>exact .inl ⟨rfl,z2,h3⟩
         |some v=>
          simp only[Option.getD_some]at z3;subst z3;exact .inr (.inl ⟨rfl,z2,(Option.some.inj h3).symm⟩)
       exact .inr (.inr ⟨g6 _ _ rfl,h4⟩)
      simp only[RR,seval];apply Y;clear Y;have hen2:gZ r2=0∨ ¬gZ r2=0:=by by_cases h:gZ r2=0;exact .inl h;exact .inr h
      rcases hen2 with hen2|hen2<;>rcases Bool.eq_false_or_eq_true bk2 with hbk2|hbk2
      all_goals
       refine aB fun _ Y=>aA rfl ?_;simp only[f0,f1,hr,hx,hen2,hbk2,RR,seval]
       repeat' ((first|refine bA (fun h=>?_) (fun h=>?_)|refine bG (fun h=>?_) (fun h=>?_))<;>simp only[h,f0,f1,f5,hr,hx,hb5,nxr,nrx,nb5_r,nr_b5,nb5_x,nx_b5,hg0,hen,hbk,hen2,hbk2,RR,seval])
       all_goals
        apply Y;clear Y;refine aF _ rfl (fun hc32=>?_) (fun hc32=>?_)
        ·try (cases hc32;done)
         all_goals
          have hE:rL cx d rs ow2 c t r2.st=some o:=by
           rcases hcase2 with⟨_,_,h⟩|⟨_,h,_⟩|⟨h,_⟩
           ·exact h
           ·rw[hbk2]at h;cases h
           exact absurd hen2 h
          obtain⟨d',hd'⟩: ∃d',d=d'+1:=⟨d- 1,by omega⟩;have hd2:d- 1=d':=by omega
          rw[hd',Fk]at hE;have g9':=g9;rw[hen2]at g9';have hT2:=tN hj.cx g9';generalize hTT2:eQ cx r2.st=tt2 at hE hT2;refine aA rfl ?_;simp only[f0,RR,seval];refine tU hT2 (fun _=>trivial) fun H3 hne3 hR3 hk3=>?_;have hx3:=g9'.keep hx (by decide) (by decide) hk3;have hb53:=g9'.keep hb5 (by decide) (by decide) hk3;have hW3:=g8.keep g9' hk3;have hkk3:=hkk2.trans (hk3.w x wv)
          have hcase3:(gZ tt2=0∧bk2=false∧wF cx (d- 1) rs c t ow2 tt2.st=some o)∨(gZ tt2=0∧bk2=true∧o= .val (some vl2,ow2) tt2.st)∨(gZ tt2≠0∧o= .fin (gZ tt2) tt2.st):=by
           rw[hd2]
           cases tt2 with
           |fin e s=>exact .inr (.inr ⟨hne3 _ _ rfl,(Option.some.inj (show some (Rz.fin e s)=some o from hE)).symm⟩)
           |val q s=>exact .inl ⟨rfl,hbk2,hE⟩
          obtain⟨st3,hst3⟩: ∃s,s=tt2.st:=⟨_,rfl⟩;obtain⟨en3,hen3⟩: ∃e,e=gZ tt2:=⟨_,rfl⟩;rw[←hst3,←hen3]at hR3 hcase3;simp only[RR,seval];refine hK1 (d- 1) _ _ (by omega) ⟨st3,vo2,en3,ow2,bk2,vl2,(by omega),g1,g2,g3,g4,hR3,hW3,hx3,hb53,hkk3,hcase3⟩ (by repeat (first|exact ag1|refine bE.upd rfl ?_))
        try (cases hc32;done)
        all_goals
         have hx3:=hx;have hb53:=hb5;have hW3:=g8;have hR3:=g9;have hkk3:=hkk2
         have hcase3:(gZ r2=0∧bk2=false∧wF cx (d- 1) rs c t ow2 r2.st=some o)∨(gZ r2=0∧bk2=true∧o= .val (some vl2,ow2) r2.st)∨(gZ r2≠0∧o= .fin (gZ r2) r2.st):=by
          rcases hcase2 with⟨z1,z2,_⟩|z|z
          ·exfalso
           first|exact hen2 z1|(rw[hbk2]at z2;cases z2)|(rw[hen2,hbk2]at *;simp_all)
          ·exact .inr (.inl z)
          exact .inr (.inr z)
         obtain⟨st3,hst3⟩: ∃s,s=r2.st:=⟨_,rfl⟩;obtain⟨en3,hen3⟩: ∃e,e=gZ r2:=⟨_,rfl⟩;rw[←hst3,←hen3]at hR3 hcase3;refine aM ?_;try simp only[RR]
         refine hK1 (d- 1) _ _ (by omega) ⟨st3,vo2,en3,ow2,bk2,vl2,(by omega),g1,g2,g3,g4,hR3,hW3,hx3,hb53,hkk3,hcase3⟩ (by repeat (first|exact ag1|refine bE.upd rfl ?_))
    try (cases hc;done)
    all_goals
     have hw1:=hc;clear hc;rw[hHX]at hkk
     try rw[hHX]at hkk1
     refine bH ?_;simp only[RR,seval]
     try simp only[aX,aN,bI,seval]
     first
      |(have hz:w1=0:=by simpa using hw1
        have hj2:=D6 hwv1 hne1 h2 hbk (hbv hbk) hz hx1 hW1 hR1 hkk1
        exact aW.run ⟨owk,bkk,vlk,vo1,rfl,hwk,huk,uvl,hbv,hj2⟩)
      |(rcases hcase with⟨z1,z2,_⟩|⟨z1,z2,z3⟩|⟨z1,z2⟩
        ·exfalso
         first|exact hen z1|(rw[hbk]at z2;cases z2)
        ·subst z3;exact aW.run ⟨owk,bkk,vlk,vok,rfl,hwk,huk,uvl,hbv,(fun _ _ e=>by cases e;exact⟨rfl,z2,rfl⟩),(fun _ _ e=>by cases e),hx,hOk,(by rw[z1]at hRk;exact hRk),hkk⟩
        subst z2;exact aW.run ⟨owk,bkk,vlk,vok,rfl,hwk,huk,uvl,hbv,(fun _ _ e=>by cases e),(fun _ _ h=>by cases h;exact z1),hx,hOk,hRk,hkk⟩)
theorem Il (ih:sS p cx r vv abs n) (hj:Om p cx) (i:Nat) (rs:cR→Bool×Int) (ow:List Int) (e:Sm) (st:RS) (vo:AV) (H:Hp) (x:Nat) (wv:AV) (o:Rz (Option Int×List Int)) (he:e.ok) (hU: ∀u∈hJ e,UJ p i rs u) (hKE: ∀u∈dG e.es,UJ p i rs u) (hKT: ∀u∈cT e.thn,UJ p i rs u) (hKU: ∀u∈cT e.els,UJ p i rs u) (hR:dK p cx r vv abs st vo 0 H) (hW:eO vv abs vo wv ow H) (hu: ∀y∈ow,cC y) (hx:H x=some (.rows 4 [[.int .i64 i,wv, .bool false, .int .u32 0]])) (h:kQ cx (n+1) rs ow e st=some o):
  gK cN 107 [.ptr 11 r 0 0, .ptr 4 x 0 0, .agg e.row] H (mX p cx r vv abs vo x i wv ow.length H o):=by
 by_cases k1:e.kind=1
 ·exact Nb ih hj i rs ow e k1 st vo H x wv o he hU hKE hKT hKU hR hW hu hx h
 by_cases k2:e.kind=2
 ·exact Fc ih hj i rs ow e k2 st vo H x wv o he hU hKE hKT hKU hR hW hu hx h
 by_cases k3:e.kind=3
 ·exact Nd ih hj i rs ow e k3 st vo H x wv o he hU hKE hKT hKU hR hW hu hx h
 by_cases k4:e.kind=4
 ·exact Se ih hj i rs ow e k4 st vo H x wv o he hU hKE hKT hKU hR hW hu hx h
 by_cases k5:e.kind=5
 ·exact Fb ih hj i rs ow e k5 st vo H x wv o he hU hKE hKT hKU hR hW hu hx h
 by_cases k6:e.kind=6
 ·exact Fd ih hj i rs ow e k6 st vo H x wv o he hU hKE hKT hKU hR hW hu hx h
 by_cases k7:e.kind=7
 ·exact Nc ih hj i rs ow e k7 st vo H x wv o he hU hKE hKT hKU hR hW hu hx h
 exact Im ih hj i rs ow e ⟨k1,k2,k3,k4,k5,k6,k7⟩ st vo H x wv o he hU hKE hKT hKU hR hW hu hx h
theorem C6 (hj:Om p cx): ∀n:Nat,sS p cx r vv abs n
 |0=>by
  refine⟨?_, ?_, ?_, ?_⟩
  ·intro i rs ow e st vo en H x wv bk vl o he hU Y hR hW hu hx h
   rcases h with⟨_,h⟩|⟨h1,h2⟩
   ·simp [gB]at h
   exact wV (n:=0) (fun h=>absurd h h1) hj.cx i rs ow e st vo H x wv bk vl o he hU Y hR hW hu hx (.inr ⟨h1,h2⟩)
  ·intro i rs ow s l st vo H x wv bk vl o hl hU Y hR hW hu hx h
   simp [qI]at h
  ·intro i rs ow e st vo H x wv o he hU h1 h2 h3 hR hW hu hx h
   simp [kQ]at h
  intro i rs ow l st vo en H x wv bk vl o hl hU hR hW hu hx uvl hbv hb0 h;rcases h with⟨_,h⟩|⟨h1,h2⟩
  ·simp [iH]at h
  exact uN (n:=0) (fun h=>absurd h h1) i rs ow l st vo H x wv bk vl o hl hU hR hW hu hx uvl hbv hb0 (.inr ⟨h1,h2⟩)
 |n+1=>by
  have ih:=C6 hj n;refine⟨?_, ?_, ?_, ?_⟩
  ·intro i rs ow e st vo en H x wv bk vl o he hU Y hR hW hu hx h
   exact wV (fun _=>ih) hj.cx i rs ow e st vo H x wv bk vl o he hU Y hR hW hu hx h
  ·intro i rs ow s l st vo H x wv bk vl o hl hU Y hR hW hu hx h
   exact Io ih hj i rs ow s l st vo H x wv bk vl o hl hU Y hR hW hu hx h
  ·intro i rs ow e st vo H x wv o he hU h1 h2 h3 hR hW hu hx h
   exact Il ih hj i rs ow e st vo H x wv o he hU h1 h2 h3 hR hW hu hx h
  intro i rs ow l st vo en H x wv bk vl o hl hU hR hW hu hx uvl hbv hb0 h;exact uN (fun _=>ih) i rs ow l st vo H x wv bk vl o hl hU hR hW hu hx uvl hbv hb0 h
end
end Go.Proofs.YtnfbbjhdflhmjaaGreatDoor
namespace Go.Al
theorem dK.seal {p:Pg} {cx:Cx} {r:Nat} {vv vo:AV} {abs:List Nat} {st:RS} {en:Int} {H:Hp} {E:fY} {N:Nat} {Q:dI} {c:Code} {fr:Fr} (hR:dK p cx r vv abs st vo en H)
  (h: ∀fr' H',(∀j,xB (fr j)=true→fr' j=fr j)→H' r=some (.rows 11 [[.isl 1 (p.vars.map bK), .isl 2 (p.arrs.map Ar.row), .isl 5 (p.funs.map Fu.row), .str cx.inp, .int .i64 cx.fuel,vv, .isl 1 (dL abs st.arrs), .isl 1 (st.out.map jX), .int .i64 st.read, .int .i64 st.ticks, .int .i64 en]])→
   (∀b s l,b≠r→off vo b→(∀r∈l, ∀x∈r,xB x=true)→H b=some (.rows s l)→H' b=some (.rows s l))→jD E N c Q fr' H'):jD E N c Q fr H:=by
 have h0:H r=some (.rows 11 [[AV.isl 1 (p.vars.map bK), .isl 2 (p.arrs.map Ar.row), .isl 5 (p.funs.map Fu.row), .str cx.inp, .int .i64 cx.fuel,vv, .isl 1 (dL abs st.arrs)]++vo::[.int .i64 st.read, .int .i64 st.ticks, .int .i64 en]]):=hR.r;refine kS hR.o h0 (fun x hx=>?_) (fun x hx=>?_) (hR.o.offsz hR.r (by decide)) fun fr' H' h1 h2 h3=>h fr' H' (fun j hj=>h1 j (cJ hj)) h2 fun b s l g1 g2 g3 g4=>h3 b s l g1 g2 (fun r hr x hx=>cJ (g3 r hr x hx)) g4
 ·simp only[List.mem_cons,List.not_mem_nil,or_false]at hx
  rcases hx with rfl|rfl|rfl|rfl|rfl|rfl|rfl
  ·exact cJ rfl
  ·exact cJ rfl
  ·exact cJ rfl
  ·exact cJ rfl
  ·exact cJ rfl
  ·exact fun s b n e=>hR.ov s b n e
  exact cJ rfl
 simp only[List.mem_cons,List.not_mem_nil,or_false]at hx;rcases hx with rfl|rfl|rfl<;>exact cJ rfl
end Go.Al
namespace Go.Proofs.YtnfbbjhdflhmjaaGreatDoor
open Go.Al
theorem Hy {p:Pg} (hp:p.few) (h:eM p=0) (j:Nat) (g:Fu) (hg:p.funs[j]?=some g) (u:Us) (hu:u∈cT g.body):UJ p j (nU (eW p) (qH g)) u:=by
 obtain⟨hr,hgl,hn,hm⟩:=pY h;simp only[fW,aK]at hn;simp only[nA,aK]at hm;have g1:=(eP p p.funs 0 hn.2 j g hg).2;have g2:=tG p p.funs 0 hm.1 j g hg;rw[Nat.zero_add,List.all_eq_true]at g1 g2;exact⟨Tx p hp j (aZ.1 hg).1 u.name,(rS hg u.name).1,g1 u hu,g2 u hu⟩
theorem Hz {p:Pg} (h:eM p=0) (g:Fu) (hg:p.funs[p.funs.length- 1]?=some g):g.params.length=0:=by
 obtain⟨_,_,_,hm⟩:=pY h;simp only[nA,aK,Ey]at hm;have:=hm.2;rw[hg]at this;simp only[aK,aP]at this;exact this.1.2
theorem E2 {p:Pg} (hp:Ma p) (inp:cR) (hin:inp.length≤2000000) (fu:Int) (hfu:dA fu):yP (vG p inp fu):=by
 have hfl:((vG p inp fu).fuel:Int)=if fu<0 then 0 else fu:=by
  show(((if fu<0 then 0 else fu).toNat:Nat):Int)=_;split<;>omega
 refine⟨hin,by have:=hfu.2;split at hfl<;>omega,fun f hf=>?_,fun f hf=>?_⟩
 ·obtain⟨g,hg,rfl⟩:=List.mem_map.1 hf
  have:=hp.fs g hg;show g.params.length+g.locs.length≤_;omega
 obtain⟨g,hg,rfl⟩:=List.mem_map.1 hf;exact(hp.ok.funs g hg).body
set_option maxHeartbeats 8000000 in
theorem Tv (p:Pg) (hp:Ma p) (huse: ∀(j:Nat) g,p.funs[j]?=some g→ ∀u∈cT g.body,UJ p j (nU (eW p) (qH g)) u) (hlst: ∀g,p.funs[p.funs.length- 1]?=some g→g.params.length=0) (inp:cR) (hin:inp.length≤2000000) (fu:Int) (hfu:dA fu) {n:Nat} {e:Int} {out:cR} {t:Nat} (hrun:Br (vG p inp fu) n p.vars.length (p.arrs.map fun a=>a.size.toNat)=some (e,out,t)):
  dD cN 20 [p.av, .str inp, .int .i64 fu] (uL e out t):=by
 have hfl:((vG p inp fu).fuel:Int)=if fu<0 then 0 else fu:=by
  show(((if fu<0 then 0 else fu).toNat:Nat):Int)=_;split<;>omega
 have hx:=E2 hp inp hin fu hfu;have hj:Om p (vG p inp fu):=⟨rfl,hx,huse,hp.f⟩;have hlast:p.funs.length- 1<p.funs.length:=by have:=hp.f1;omega
 have hg0:=aG hlast;have hgs:=hp.fs _ (bJ hlast);have hpar:=hlst _ hg0;generalize p.funs[p.funs.length- 1]=g at hg0 hgs hpar
 have hmain:(vG p inp fu).main=some (oD (eW p) g):=by
  show(p.funs.map (oD (eW p)))[(p.funs.map (oD (eW p))).length- 1]?=_;rw[aD,bN,hg0];rfl
 obtain⟨ro,hev,hend⟩: ∃o,iH (vG p inp fu) n (nU (eW p) (qH g)) ([]++List.replicate g.locs.length 0) g.body (RS.init p.vars.length (p.arrs.map fun a=>a.size.toNat))=some o∧sF o=(e,out,t):=by
  unfold Br at hrun;rw[hmain]at hrun;simp only[Option.bind_some,aV]at hrun;have hw:(oD (eW p) g).words=g.locs.length:=by show g.params.length+g.locs.length=_;omega
  rw[hw]at hrun;exact hrun
 clear hrun hmain;have hinit:RS.init p.vars.length (p.arrs.map fun a=>a.size.toNat)=⟨List.replicate p.vars.length 0,p.arrs.map zz,0,[],0⟩:=by simp [RS.init,zz,List.map_map]
 rw[hinit]at hev;have hB:=fun(r:Nat) (vv:AV) abs H hR=>tO (vv:=vv) (abs:=abs) (C6 (r:=r) hj n) hj (p.funs.length- 1) g hg0 [] _ .nsl H .nsl ro hR eO.nil (fun y hy=>by cases hy) (by simp) (by omega) hev;have hsz:=hp.sz;have hvl:=hp.v;have hal:=hp.a;have hffl:=hp.f;have hff1:=hp.f1;have e2:IntKind.wrap .i64 ((p.funs.length:Int)- 1)=((p.funs.length- 1:Nat):Int):=by rw[aR _ (by omega)];omega
 have e3:decide ((p.funs.length:Int)=0)=false:=bF (by omega);have e4:(4:Int) *(p.vars.length:Int)≤281474976710656:=by omega
 obtain⟨vs,aa,fs⟩:=p;simp only at *;obtain⟨cx,hcx⟩: ∃cx,cx=vG ⟨vs,aa,fs⟩ inp fu:=⟨_,rfl⟩;have hci:cx.inp=inp:=by rw[hcx];rfl
 rw[←hcx]at hev hB hfl hx;have hav:Pg.av ⟨vs,aa,fs⟩= .agg [.isl 1 (vs.map bK), .isl 2 (aa.map Ar.row), .isl 5 (fs.map Fu.row)]:=rfl;rw[hav];have hin2:=hx.inp;refine bD 76 [.cell 6 43] Tryz.func20 rfl rfl rfl rfl ?_;refine aB fun _ Y=>aA rfl ?_;simp only[RR,seval];refine aO fun b3 hn3=>?_;simp only[RR,seval];refine aO fun b6 hn6=>?_;have nb6_b3:b6≠b3:=fun e=>by rw[e]at hn6;simp only[RR,seval,reduceCtorEq]at hn6
 have nb3_b6:b3≠b6:=fun e=>nb6_b3 e.symm;simp only[RR,seval];apply Y;clear Y;refine aH ?_;refine aB fun _ Y=>aA rfl ?_;simp only[nb3_b6,e3,aD,RR,seval];apply Y;clear Y;refine aF false rfl (fun hc=>by cases hc) (fun _=>?_);refine aM ?_;try simp only[RR]
 refine aH ?_;refine aB fun _ Y=>aA rfl ?_;simp only[RR,seval];apply Y;clear Y;refine bL fun F1 M1 hfr hH=>?_;have g1:=hfr 1;have g2:=hfr 2;have g3:=hfr 3;have g6:=hfr 6;have g15:=hfr 15;have gb3:=hH b3;have gb6:=hH b6
 try simp only[nb3_b6,RR,seval]at g1 g2 g3 g6 g15 gb3 gb6
 have f1:=g1;clear g1;have f2:=g2;clear g2;have f3:=g3;clear g3;have f6:=g6;clear g6;have f15:=g15;clear g15;have hb3:=gb3;clear gb3;have hb6:=gb6;clear gb6;clear hfr hH;refine gP (fun fr M=>bE [1,3,6] F1 fr∧M b3=M1 b3∧M b6=M1 b6∧fr 2= .int .i64 (cx.fuel:Int)) (fun KC3 hKC3=>?_) ?_
 ·have agC3:=bE.refl [1,3,6] F1
  have eC3_b3:M1 b3=M1 b3:=rfl;have eC3_b6:M1 b6=M1 b6:=rfl;refine aF _ (by first|rfl|exact f15) (fun hc3=>?_) (fun hc3=>?_)
  ·have hfz:(cx.fuel:Int)=0:=by rw[hfl,if_pos (aC hc3)]
   refine aA rfl ?_;simp only[RR,seval];refine hKC3 _ _ ⟨(by repeat (first|exact agC3|refine bE.upd rfl ?_)),(by first|exact eC3_b3|(simp only[nb6_b3,nb3_b6,aJ,seval];first|done|exact eC3_b3)),(by first|exact eC3_b6|(simp only[nb6_b3,nb3_b6,aJ,seval];first|done|exact eC3_b6)),(by rw[hfz];first|rfl|exact f2)⟩
  have hfz:(cx.fuel:Int)=fu:=by rw[hfl,if_neg (aE hc3)]
  refine aM ?_;try simp only[RR]
  refine hKC3 _ _ ⟨(by repeat (first|exact agC3|refine bE.upd rfl ?_)),(by first|exact eC3_b3|(simp only[nb6_b3,nb3_b6,aJ,seval];first|done|exact eC3_b3)),(by first|exact eC3_b6|(simp only[nb6_b3,nb3_b6,aJ,seval];first|done|exact eC3_b6)),(by rw[hfz];first|rfl|exact f2)⟩
 rintro F2 M2 ⟨agx,gb3,gb6,f2⟩;have f1:=(agx 1 rfl).trans f1;have f3:=(agx 3 rfl).trans f3;have f6:=(agx 6 rfl).trans f6;have hb3:=gb3.trans hb3;have hb6:=gb6.trans hb6;clear agx;clear gb3;clear gb6;simp only[RR,seval];refine aB fun K Y=>?_;refine bB (fun x=>x≠b3∧x≠b6) [(0,0),(1,3),(2,3),(3,3),(4,1),(5,3),(6,1),(7,3),(8,1),(9,3)] [] cX (by kernel_rfl) rfl rfl ?_;simp only[cH,dY,f1,f3,f2,hb3,nb3_b6,e4,aD,RR,seval];refine aO fun b22 hn22=>?_;have nb22_b3:b22≠b3:=fun e=>by rw[e]at hn22;simp only[hb3,seval,reduceCtorEq]at hn22
 have nb3_b22:b3≠b22:=fun e=>nb22_b3 e.symm;have nb22_b6:b22≠b6:=fun e=>by rw[e]at hn22;simp only[hb6,seval,reduceCtorEq]at hn22
 have nb6_b22:b6≠b22:=fun e=>nb22_b6 e.symm;simp only[RR,seval];refine aO fun b24 hn24=>?_;have nb24_b3:b24≠b3:=fun e=>by rw[e]at hn24;simp only[hb3,nb3_b22,RR,seval,reduceCtorEq]at hn24
 have nb3_b24:b3≠b24:=fun e=>nb24_b3 e.symm;have nb24_b6:b24≠b6:=fun e=>by rw[e]at hn24;simp only[hb6,nb6_b22,RR,seval,reduceCtorEq]at hn24
 have nb6_b24:b6≠b24:=fun e=>nb24_b6 e.symm;have nb24_b22:b24≠b22:=fun e=>by rw[e]at hn24;simp only[RR,seval,reduceCtorEq]at hn24
 have nb22_b24:b22≠b24:=fun e=>nb24_b22 e.symm;simp only[RR,seval];apply Y;clear Y;refine aH ?_;refine aB fun _ Y=>aA rfl ?_;simp only[RR,seval];apply Y;clear Y;refine bL fun F3 M3 hfr hH=>?_;have g3:=hfr 3;have g6:=hfr 6;have g7:=hfr 7;have g8:=hfr 8;have gb3:=hH b3;have gb6:=hH b6;have gb22:=hH b22;have gb24:=hH b24
 try simp only[f3,f6,hb3,hb6,nb3_b22,nb6_b22,nb3_b24,nb6_b24,nb22_b24,RR,seval]at g3 g6 g7 g8 gb3 gb6 gb22 gb24
 have f3:=g3;clear g3;have f6:=g6;clear g6;have f7:=g7;clear g7;have f8:=g8;clear g8;have hb3:=gb3;clear gb3;have hb6:=gb6;clear gb6;have hb22:=gb22;clear gb22;have hb24:=gb24;clear gb24;clear hfr hH;refine aI ?_;refine cP [3,6,7] (aa.length) (fun k fr M=>fr 8= .int .i64 (k:Nat)∧M b3=M3 b3∧M b6=M3 b6∧M b22=M3 b22∧ ∃va bs,M b24=some (.rows 11 [[.isl 1 (vs.map bK), .isl 2 (aa.map Ar.row), .isl 5 (fs.map Fu.row), .str inp, .int .i64 cx.fuel, .osl 1 b22 vs.length,va, .nsl, .int .i64 0, .int .i64 0, .int .i64 0]])∧zK b3 b22 bs ((aa.take k).map zz) va M) ⟨f8,rfl,rfl,rfl, .nsl,[],hb24,⟨rfl, .inl ⟨rfl,rfl⟩,(fun i b l h=>by simp at h),List.nodup_nil,(by simp),(by simp),(fun _ _ h=>by cases h),(fun _ _ h=>by cases h),(fun b hb=>by simp at hb)⟩⟩ ?_;rintro k F4 M4 hk0 ⟨fx,gb3,gb6,gb22,va,bs,hb24,hA⟩ agx K0 hK0;have f3:=(agx 3 rfl).trans f3;have f6:=(agx 6 rfl).trans f6;have f7:=(agx 7 rfl).trans f7;have f8:=fx;clear fx;have hb3:=gb3.trans hb3;have hb6:=gb6.trans hb6;have hb22:=gb22.trans hb22;have ag0:=bE.refl [3,6,7] F4;have e0_b3:=gb3;clear gb3;have e0_b6:=gb6;clear gb6;have e0_b22:=gb22;clear gb22;clear agx;refine aH ?_;refine aB fun _ Y=>aA rfl ?_;simp only[f3,f8,hb3,aD,RR,seval];apply Y;clear Y;refine aF _ rfl (fun hc=>?_) (fun hc=>?_)
 ·have hlt0:k<aa.length:=by have:=aC hc;omega
  clear hc;have hga:=aG hlt0;have htk:aa.take (k+1)=aa.take k++[aa[k]]:=bQ hlt0;have hsa:=hsz _ (bJ hlt0);have hlen:bs.length≤10000:=by rw[hA.l,aD,cF];omega
  generalize aa[k]=a at hga htk hsa;have hg:=Bx hga;have z0:=hsa.1;have z1:(4:Int) *a.size≤281474976710656:=by omega
  refine aM ?_;try simp only[RR]
  refine aH ?_;refine aI ?_;have hown:=hA.o;have ho3:=hA.o7;have ho22:=hA.ov;refine bB (fun x=>x≠b3∧x≠b24) [(0,3),(1,3),(2,3),(3,3),(4,0),(5,3),(6,1),(7,3),(8,3),(9,3),(10,1),(11,1),(12,2),(13,1),(14,3),(15,3)] [(16,1)] cX (by kernel_rfl) rfl rfl ?_;simp only[cH,dY,f3,f7,f8,hb3,hb24,nb24_b3,hg,z0,z1,RR,seval];refine aO fun b43 hn43=>?_;have n24:b24≠b43:=fun e=>by rw[e,hn43]at hb24;cases hb24
  have n3:b3≠b43:=fun e=>by rw[e,hn43]at hb3;cases hb3
  simp only[RR,seval];have hzr:List.replicate a.size.toNat [AV.int .u32 0]=(zz a).map cZ:=by simp [zz,cZ]
  have hzl:(zz a).length=a.size.toNat:=by simp [zz]
  rw[hzr];refine gT (hown.upd hn43 _) (by have:=pS bs ((aa.take k).map zz) hA.l;rw[this,aD,cF];simp only[bP,List.length_nil];omega) (fun b e=>⟨fun c=>?_,fun c=>?_⟩) fun v' H' own' hk' hg'=>?_
  ·subst c;exact hown.offsz hb3 (by decide) _ _ e
  ·subst c;exact hown.offsz hb24 (by decide) _ _ e
  have hce:=own'.cells;have hoe:=own'.one1;have hb24':=hk' b24 _ (by rw[bY _ _ n24];exact hb24) (hown.offsz hb24 (by decide) _ _);have hb3':=hk' b3 _ (by rw[bY _ _ n3];exact hb3) (hown.offsz hb3 (by decide) _ _);have hb6':=hk' b6 _ (by rw[bY _ _ (fun e=>by rw[e,hn43]at hb6;cases hb6)];exact hb6) (hown.offsz hb6 (by decide) _ _);have hb22':=hk' b22 _ (by rw[bY _ _ (fun e=>by rw[e,hn43]at hb22;cases hb22)];exact hb22) (ho22 _ _);have e0_b3:=(hb3'.trans hb3.symm).trans e0_b3;have e0_b6:=(hb6'.trans hb6.symm).trans e0_b6;have e0_b22:=(hb22'.trans hb22.symm).trans e0_b22;rw[←hzl]at own';have hA':=hA.snoc (l:=zz a) hn43 (by rw[hb3];exact bS _) (by rw[hb22];exact bS _) own' hk' hg' hb24' (.rows 11 [[.isl 1 (vs.map bK), .isl 2 (aa.map Ar.row), .isl 5 (fs.map Fu.row), .str inp, .int .i64 cx.fuel, .osl 1 b22 vs.length,v', .nsl, .int .i64 0, .int .i64 0, .int .i64 0]]);simp only[hce,hoe,Option.bind_some,List.drop,hb24',RR,seval];refine aA rfl ?_;simp only[f8,RR,seval]
  try rw[aR _ (by omega)]
  refine hK0 _ _ hlt0 ⟨by first|rfl|(simp only[aJ,seval];rfl),(by first|exact e0_b3|(simp only[nb3_b24,aJ,seval];first|done|exact e0_b3)),(by first|exact e0_b6|(simp only[nb6_b24,aJ,seval];first|done|exact e0_b6)),(by first|exact e0_b22|(simp only[nb22_b24,aJ,seval];first|done|exact e0_b22)),v',bs++[b43],bO _ _ _,(by rw[htk,List.map_append];exact hA')⟩ (by repeat (first|exact ag0|refine bE.upd rfl ?_))
 have hkn0:k=aa.length:=by have:=aE hc;omega
 clear hc;rw[hkn0,List.take_length]at hA;refine bH ?_;simp only[RR,seval];refine bL fun F5 M5 hfr hH=>?_;have g3:=hfr 3;have g6:=hfr 6;have g7:=hfr 7;have gb3:=hH b3;have gb6:=hH b6;have gb22:=hH b22;have gb24:=hH b24
 try simp only[f3,f6,f7,hb3,hb6,hb22,hb24,RR,seval]at g3 g6 g7 gb3 gb6 gb22 gb24
 have hA:=hA.keep (H':=M5) (fun b o hb=>by rw[hH];exact hb);have f3:=g3;clear g3;have f6:=g6;clear g6;have f7:=g7;clear g7;have hb3:=gb3;clear gb3;have hb6:=gb6;clear gb6;have hb22:=gb22;clear gb22;have hb24:=gb24;clear gb24;clear hfr hH;have h0:M5 b24=some (.rows 11 [[AV.isl 1 (vs.map bK), .isl 2 (aa.map Ar.row), .isl 5 (fs.map Fu.row), .str inp, .int .i64 cx.fuel, .osl 1 b22 vs.length]++va::[.nsl, .int .i64 0, .int .i64 0, .int .i64 0]]):=hb24;refine kS hA.o h0 (fun x hx=>?_) (fun x hx=>?_) (hA.o.offsz hb24 (by decide)) fun FS HS hfr hb24 hkp=>?_
 ·simp only[List.mem_cons,List.not_mem_nil,or_false]at hx
  rcases hx with rfl|rfl|rfl|rfl|rfl|rfl
  ·exact cJ rfl
  ·exact cJ rfl
  ·exact cJ rfl
  ·exact cJ rfl
  ·exact cJ rfl
  intro s b n' e';cases e';exact hA.ov
 ·simp only[List.mem_cons,List.not_mem_nil,or_false]at hx
  rcases hx with rfl|rfl|rfl|rfl<;>exact cJ rfl
 have f3:FS 3= .ptr 3 b3 0 0:=(hfr 3 (by rw[f3];exact cJ rfl)).trans f3;have f6:FS 6= .ptr 3 b6 0 0:=(hfr 6 (by rw[f6];exact cJ rfl)).trans f6;have f7:FS 7= .ptr 11 b24 0 0:=(hfr 7 (by rw[f7];exact cJ rfl)).trans f7;have hb3:=hkp b3 _ _ nb3_b24 (hA.o.offsz hb3 (by decide)) (fun r hr x hx=>by simp only[List.mem_singleton]at hr;subst hr;simp only[List.mem_cons,List.not_mem_nil,or_false]at hx;rcases hx with rfl|rfl|rfl<;>exact cJ rfl) hb3;have hb6:=hkp b6 _ _ nb6_b24 (hA.o.offsz hb6 (by decide)) (fun r hr x hx=>by simp only[List.mem_singleton]at hr;subst hr;simp only[List.mem_cons,List.not_mem_nil,or_false]at hx;rcases hx with rfl|rfl|rfl<;>exact cJ rfl) hb6;have hb22:=hkp b22 _ _ nb22_b24 hA.ov (fun r hr x hx=>by rw[(List.mem_replicate.1 hr).2]at hx;simp only[List.mem_singleton]at hx;subst hx;exact cJ rfl) hb22
 have hR:dK ⟨vs,aa,fs⟩ cx b24 (.osl 1 b22 vs.length) bs ⟨List.replicate vs.length 0,aa.map zz,0,[],0⟩ .nsl 0 HS:=by
  refine⟨by rw[hci];exact hb24, .inr ⟨b22,by simp,by simpa [cZ]using hb22⟩,hA.l,fun i b l h1 h2=>?_,hA.nd,(fun b hb s n' h=>by cases h;exact hA.nv hb), .inl ⟨rfl,rfl⟩,(fun _ _ _ _ _ _ h=>by cases h),(fun b hb s n' h=>by cases h),fun x hx=>?_,fun l hl=>?_,by simp,Nat.zero_le _,Nat.zero_le _⟩
  ·have hbx:=hA.a i b l h1 h2
   exact hkp b _ _ (fun e'=>by rw[e',h0]at hbx;cases hbx) (hA.ob b (aL h1)) (fun r hr x hx=>by obtain⟨y,_,rfl⟩:=List.mem_map.1 hr;simp only[cZ,List.mem_singleton]at hx;subst hx;exact cJ rfl) hbx
  ·rw[(List.mem_replicate.1 hx).2];simp [cC]
  obtain⟨a,ha',rfl⟩:=List.mem_map.1 hl;have:=hsz a ha';refine⟨by simp only[zz,cO];omega,fun x hx=>?_⟩;rw[(List.mem_replicate.1 hx).2];simp [cC]
 have hB:=hB _ _ _ _ hR;clear hkp hfr h0 hb22 hb24;refine aB fun _ Y=>aA rfl ?_;simp only[f3,f7,hb3,e2,aD,RR,seval];refine jK hB (fun _=>trivial) fun ae H2 ⟨w,vo2,g1,g2,g3,g4,g5,g6⟩=>?_;subst g1;have hb6:=hR.keepW eO.nil hb6 (by decide) (by decide) nb6_b24 g6;have hb24:=g5.r;simp only[RR,seval];apply Y;clear Y;refine aH ?_;refine aB fun _ Y=>aA rfl ?_;simp only[f7,hb24,RR,seval];apply Y;clear Y;refine aF _ rfl (fun hc11=>?_) (fun hc11=>?_)
 ·have hz:gZ ro=0:=by simpa using hc11
  obtain⟨v0,s0,hro⟩:=mH (o:=ro) g4 hz;have he1:e=1∧out=ro.st.out∧t=ro.st.ticks:=by rw[hro]at hend⊢;simp only[sF,Prod.mk.injEq]at hend;exact⟨hend.1.symm,hend.2.1.symm,hend.2.2.symm⟩
  refine aA rfl ?_;simp only[f7,hb24,RR,seval];have hRF:=dK.turn (st':=ro.st) g5 1 rfl rfl rfl g5.rd g5.tk;have hb6f:=(bY H2 (some (.rows 11 [[.isl 1 (vs.map bK), .isl 2 (aa.map Ar.row), .isl 5 (fs.map Fu.row), .str cx.inp, .int .i64 cx.fuel, .osl 1 b22 vs.length, .isl 1 (dL bs ro.st.arrs),vo2, .int .i64 ro.st.read, .int .i64 ro.st.ticks, .int .i64 1]])) nb6_b24).trans hb6;have hene:(1:Int)=e:=he1.1.symm;obtain⟨_,ho1,ho2⟩:=he1;refine dK.seal hRF fun FT HT hft hb24 hk2=>?_;have f6:FT 6= .ptr 3 b6 0 0:=(hft 6 (by simp only[aJ,f6,seval];rfl)).trans (by simp only[aJ,f6,seval]);have f7:FT 7= .ptr 11 b24 0 0:=(hft 7 (by simp only[aJ,f7,seval];rfl)).trans (by simp only[aJ,f7,seval]);have hb6:=hk2 b6 _ _ nb6_b24 (hRF.o.offsz hb6f (by decide)) (fun r hr x hx=>by simp only[List.mem_singleton]at hr;subst hr;simp only[List.mem_cons,List.not_mem_nil,or_false]at hx;rcases hx with rfl|rfl|rfl<;>rfl) hb6f;have hbb:=nD ro.st.out;refine aB fun K Y=>?_;refine bB (fun _=>True) [(0,3),(1,3),(2,3),(3,1),(4,3),(5,3),(6,3),(7,1),(8,3),(9,3),(10,3),(11,3),(12,1),(13,3)] [(14,1)] cX (by kernel_rfl) rfl rfl ?_;simp only[cH,f6,f7,hb6,hb24,hbb,RR,seval];apply Y;clear Y;refine aQ ?_;simp only[aX,aN,bI,f6,RR,seval];refine aW.pure ?_;rw[ho1,ho2,←hene];rfl
 obtain⟨e0,s0,hro⟩:=mJ (o:=ro) (by simpa using hc11);have he1:e=gZ ro∧out=ro.st.out∧t=ro.st.ticks:=by rw[hro]at hend⊢;simp only[sF,Prod.mk.injEq]at hend;exact⟨hend.1.symm,hend.2.1.symm,hend.2.2.symm⟩
 have hRF:=g5;have hb6f:=hb6;have hene:gZ ro=e:=he1.1.symm;refine aM ?_;try simp only[RR]
 obtain⟨_,ho1,ho2⟩:=he1;refine dK.seal hRF fun FT HT hft hb24 hk2=>?_;have f6:FT 6= .ptr 3 b6 0 0:=(hft 6 (by simp only[aJ,f6,seval];rfl)).trans (by simp only[aJ,f6,seval]);have f7:FT 7= .ptr 11 b24 0 0:=(hft 7 (by simp only[aJ,f7,seval];rfl)).trans (by simp only[aJ,f7,seval]);have hb6:=hk2 b6 _ _ nb6_b24 (hRF.o.offsz hb6f (by decide)) (fun r hr x hx=>by simp only[List.mem_singleton]at hr;subst hr;simp only[List.mem_cons,List.not_mem_nil,or_false]at hx;rcases hx with rfl|rfl|rfl<;>rfl) hb6f;have hbb:=nD ro.st.out;refine aB fun K Y=>?_;refine bB (fun _=>True) [(0,3),(1,3),(2,3),(3,1),(4,3),(5,3),(6,3),(7,1),(8,3),(9,3),(10,3),(11,3),(12,1),(13,3)] [(14,1)] cX (by kernel_rfl) rfl rfl ?_;simp only[cH,f6,f7,hb6,hb24,hbb,RR,seval];apply Y;clear Y;refine aQ ?_;simp only[aX,aN,bI,f6,RR,seval];refine aW.pure ?_;rw[ho1,ho2,←hene];rfl
end Go.Proofs.YtnfbbjhdflhmjaaGreatDoor
namespace Go.Proofs.YtnfbbjhdflhmjaaGreatDoor
open Go.Al
set_option maxHeartbeats 4000000 in
theorem zJ (p:Pg) (hp:p.ok) (inp:cR) (fu:Int) (hfu:dA fu):dD cN 5 [p.av, .str inp, .int .i64 fu] (.bool true):=by
 have hf:=Np p hp;have hav:p.av= .agg [.isl 1 (p.vars.map bK), .isl 2 (p.arrs.map Ar.row), .isl 5 (p.funs.map Fu.row)]:=rfl;by_cases hq:Aq p=true∧inp.length≤60∧fu≤300
 rotate_left
 ·generalize Aq p=q0 at *
  rw[hav]at *;refine bD 49 [.tmp 6] Tryz.func5 rfl rfl rfl rfl ?_;refine aB fun _ Y=>aA rfl ?_;simp only[RR,seval];refine aO fun b3 hn3=>?_;simp only[RR,seval];apply Y;clear Y;refine aH ?_;refine aB fun _ Y=>aA rfl ?_;simp only[RR,seval];refine aU (uC) ?_;simp only[RR,seval];apply Y;clear Y;refine aF false rfl (fun hc=>by cases hc) (fun _=>?_);refine aM ?_;try simp only[RR]
  refine aH ?_;refine bL fun F1 M1 hfr hH=>?_;have g1:=hfr 1;have g2:=hfr 2;have g3:=hfr 3;have g6:=hfr 6;have gb3:=hH b3
  try simp only[RR,seval]at g1 g2 g3 g6 gb3
  have f1:=g1;clear g1;have f2:=g2;clear g2;have f3:=g3;clear g3;have f6:=g6;clear g6;have hb3:=gb3;clear gb3;clear hfr hH;refine gP (fun fr M=>bE [1,2,3] F1 fr∧M b3=M1 b3∧False) (fun KS3 hKS3=>?_) ?_
  ·have agS3:=bE.refl [1,2,3] F1
   have eS3_b3:M1 b3=M1 b3:=rfl;refine aB fun _ Y=>aA rfl ?_;simp only[f3,hb3,RR,seval]
   all_goals try (refine aU (hf) ?_;simp only[RR,seval])
   all_goals try ((first|refine bA (fun h=>?_) (fun h=>?_)|refine bG (fun h=>?_) (fun h=>?_))<;>simp only[h,f1,RR,seval])
   all_goals try ((first|refine bA (fun h=>?_) (fun h=>?_)|refine bG (fun h=>?_) (fun h=>?_))<;>simp only[h,f2,RR,seval])
   all_goals
    apply Y;clear Y;refine aF _ rfl (fun hc3=>?_) (fun hc3=>?_)
    ·try (cases hc3;done)
     all_goals
      refine aB fun _ Y=>aA rfl ?_;simp only[RR,seval];apply Y;clear Y;refine aQ ?_;simp only[aX,aN,bI,RR,seval];refine aW.pure ?_;rfl
    try (cases hc3;done)
    all_goals
     refine aM ?_;try simp only[RR]
     refine hKS3 _ _ ⟨(by repeat (first|exact agS3|refine bE.upd rfl ?_)),(by first|exact eS3_b3|(simp only[aJ,seval];first|done|exact eS3_b3)), ?_⟩;exact hq ⟨by simpa using ‹(!q0)=false›,by have:=aE ‹decide ((60:Int)<(inp.length:Int))=false›;omega,by have:=aE ‹decide ((300:Int)<fu)=false›;omega⟩
  rintro F2 M2 ⟨agx,gb3,hx⟩;have f1:=(agx 1 rfl).trans f1;have f2:=(agx 2 rfl).trans f2;have f3:=(agx 3 rfl).trans f3;have hb3:=gb3.trans hb3;clear agx;clear gb3;simp only[RR,seval];exact hx.elim
 obtain⟨hq1,hin,hfu3⟩:=hq;rw[hq1]at hf;obtain⟨hfew,h1,hsz⟩:=Nn p hp hq1;have hO:=Tt p hfew;have hok:=Uy hfew hsz;have hz:=Yq hfew;have hav2:(uJ p).1.av= .agg [.int .i64 (uJ p).1.words, .isl 5 ((uJ p).1.funs.map CF.row)]:=rfl;have z0:decide ((60:Int)<(inp.length:Int))=false:=bF (by omega);have z1:decide ((300:Int)<fu)=false:=bF (by omega);by_cases he:(uJ p).2=0
 rotate_left
 ·rw[hav2]at hO
  clear hz hok hq1 hfew hsz hav2;generalize(uJ p).2=e at *;generalize(uJ p).1.words=w1 at *;generalize(uJ p).1.funs.map CF.row=fs1 at *;rw[hav]at *;refine bD 49 [.tmp 6] Tryz.func5 rfl rfl rfl rfl ?_;refine aB fun _ Y=>aA rfl ?_;simp only[RR,seval];refine aO fun b3 hn3=>?_;simp only[RR,seval];apply Y;clear Y;refine aH ?_;refine aB fun _ Y=>aA rfl ?_;simp only[RR,seval];refine aU (uC) ?_;simp only[RR,seval];apply Y;clear Y;refine aF false rfl (fun hc=>by cases hc) (fun _=>?_);refine aM ?_;try simp only[RR]
  refine aH ?_;refine aB fun _ Y=>aA rfl ?_;simp only[RR,seval];refine aU (hf) ?_;simp only[z0,z1,RR,seval];apply Y;clear Y;refine aF false rfl (fun hc=>by cases hc) (fun _=>?_);refine aM ?_;try simp only[RR]
  refine aB fun _ Y=>aA rfl ?_;simp only[RR,seval];refine aU (hO) ?_;simp only[RR,seval];refine aO fun b7 hn7=>?_;have nb7_b3:b7≠b3:=fun e=>by rw[e]at hn7;simp only[RR,seval,reduceCtorEq]at hn7
  have nb3_b7:b3≠b7:=fun e=>nb7_b3 e.symm;simp only[RR,seval];apply Y;clear Y;refine aH ?_;refine aB fun _ Y=>aA rfl ?_;simp only[he,RR,seval];apply Y;clear Y;refine aF true rfl (fun _=>?_) (fun hc=>by cases hc);refine aB fun _ Y=>aA rfl ?_;simp only[RR,seval];apply Y;clear Y;refine aQ ?_;simp only[aX,aN,bI,RR,seval];refine aW.pure ?_;rfl
 obtain⟨_,_,h0,hw⟩:=hz he;have hco:=Xu hok (Jk h0 hw);have hro:=Qr hfew h0;obtain⟨k1,⟨x1,o1,t1⟩,r1⟩:=Mk h0 inp fu;have c1:=Rk p hro inp (by omega) fu hfu r1;have c2:=Tv p hro (fun j g hg u hu=>Hy hfew h0 j g hg u hu) (Hz h0) inp (by omega) fu hfu r1;have c3:=Lz _ hco.words.1 (Xn hco) hco.len.1 (by have:=hco.len.2;omega) inp (by omega) fu hfu (Sz h0 hp hw inp fu r1);have c4:=Ac x1 x1 o1 o1 t1 t1;have hr:Ra (x1,o1,t1) (x1,o1,t1)=true:=by simp [Ra]
 rw[hr]at c4;simp only[uL,Em]at c1 c2 c3;rw[he]at hO;rw[hav2]at hO c3;clear hr r1 hro hco hw h0 he hz hok hq1 hfew hsz hav2;generalize(uJ p).1.words=w1 at *;generalize(uJ p).1.funs.map CF.row=fs1 at *;rw[hav]at *;refine bD 49 [.tmp 6] Tryz.func5 rfl rfl rfl rfl ?_;refine aB fun _ Y=>aA rfl ?_;simp only[RR,seval];refine aO fun b3 hn3=>?_;simp only[RR,seval];apply Y;clear Y;refine aH ?_;refine aB fun _ Y=>aA rfl ?_;simp only[RR,seval];refine aU (uC) ?_;simp only[RR,seval];apply Y;clear Y;refine aF false rfl (fun hc=>by cases hc) (fun _=>?_);refine aM ?_;try simp only[RR]
 refine aH ?_;refine aB fun _ Y=>aA rfl ?_;simp only[RR,seval];refine aU (hf) ?_;simp only[z0,z1,RR,seval];apply Y;clear Y;refine aF false rfl (fun hc=>by cases hc) (fun _=>?_);refine aM ?_;try simp only[RR]
 refine aB fun _ Y=>aA rfl ?_;simp only[RR,seval];refine aU (hO) ?_;simp only[RR,seval];refine aO fun b7 hn7=>?_;have nb7_b3:b7≠b3:=fun e=>by rw[e]at hn7;simp only[RR,seval,reduceCtorEq]at hn7
 have nb3_b7:b3≠b7:=fun e=>nb7_b3 e.symm;simp only[RR,seval];apply Y;clear Y;refine aH ?_;refine aB fun _ Y=>aA rfl ?_;simp only[RR,seval];apply Y;clear Y;refine aF false rfl (fun hc=>by cases hc) (fun _=>?_);refine aM ?_;try simp only[RR]
 refine aB fun _ Y=>aA rfl ?_;simp only[RR,seval];refine aU (c3) ?_;simp only[RR,seval];refine aO fun b9 hn9=>?_;have nb9_b3:b9≠b3:=fun e=>by rw[e]at hn9;simp only[nb3_b7,RR,seval,reduceCtorEq]at hn9
 have nb3_b9:b3≠b9:=fun e=>nb9_b3 e.symm;have nb9_b7:b9≠b7:=fun e=>by rw[e]at hn9;simp only[RR,seval,reduceCtorEq]at hn9
 have nb7_b9:b7≠b9:=fun e=>nb9_b7 e.symm;simp only[RR,seval];apply Y;clear Y;refine aB fun K Y=>?_;refine bB (fun x=>x≠b3∧x≠b7∧x≠b9) [(0,0),(1,1),(2,3),(3,3),(4,1),(5,1),(6,3),(7,0),(8,1),(9,3),(10,3),(11,1),(12,1),(13,3),(14,3)] [] cX (by kernel_rfl) rfl rfl ?_;simp only[cH,dY,nb3_b7,nb9_b3,nb3_b9,nb9_b7,RR,seval];refine aU (c1) ?_;simp only[RR,seval];refine aU (c4) ?_;simp only[nb3_b7,nb9_b3,nb3_b9,nb9_b7,RR,seval];refine aU (c2) ?_;simp only[RR,seval];refine aU (c4) ?_;simp only[RR,seval];apply Y;clear Y;refine aQ ?_;simp only[aX,aN,bI,RR,seval];refine aW.pure ?_;rfl
end Go.Proofs.YtnfbbjhdflhmjaaGreatDoor
namespace Go.Proofs.YtnfbbjhdflhmjaaGreatDoor
open Go.Al
theorem Is:Tryz.prog.globalNamed "seedcorn/token.words" =some 0:=by kernel_rfl
theorem Vh:(Tryz.prog.globals[0]?).map (·.type)=some 221:=by kernel_rfl
theorem J7:Tryz.prog.underlying 221=some (.array 10 9):=by kernel_rfl
theorem uStr:Tryz.prog.underlying 9=some .string:=by kernel_rfl
theorem J0:Tryz.prog.cellsOf 9=1:=by kernel_rfl
theorem K3:Tryz.prog.cellsOf 221=10:=by kernel_rfl
theorem Ee {S:dV} {w:World} {b:Nat}: ∀(ws:List (List UInt8)) (off:Nat),(∀(i:Nat) s,ws[i]?=some s→w.cell? ⟨b,off+i,none⟩=some (.string ⟨s.toArray⟩))→cW S w b off (ws.map .str)
 |[],_,_=>by simp only[List.map_nil,cW]
 |s::ws,off,h=>by
  simp only[List.map_cons,cW];refine⟨⟨_,by simpa using h 0 s rfl,by simp only[bM]⟩,Ee ws (off+1) fun i s' hs=>?_⟩;rw[show off+1+i=off+(i+1)by omega];exact h (i+1) s' (by simpa using hs)
theorem Hx {W:World} (hL:laidMet Tryz.prog [("seedcorn/token.words",Rows.laid_seedcorn_token_words)] W):St cN ⟨W,Sw oV,old W,[],fun _=>Go.undef⟩ (old W) oV W:=by
 obtain⟨ps,hv,_⟩:=hL;have v1:W.var? Tryz.prog "seedcorn/token.words" =some (dO.map fun s=>Value.string ⟨s.toArray⟩).toArray:=rQ Is Vh J7 uStr J0 K3 hv (List.mem_cons_self)
 have lt: ∀{n:String} {g:Nat} {cs:Array Value},Tryz.prog.globalNamed n=some g→W.var? Tryz.prog n=some cs→g<W.heap.size:=fun {n g cs} hg h=>by
  simp only[World.var?,hg,Option.bind_some]at h;split at h
  ·rename_i e;exact(Array.getElem?_eq_some_iff.1 e).1
  cases h
 refine⟨fun k hk=>hk,fun _ h=>h,fun k hk=> .inl hk,fun b o h=>(by cases h),lQ.refl _ _,fun g row h=>?_⟩
 have key: ∀{n:String} {g:Nat} {ws:List (List UInt8)},Tryz.prog.globalNamed n=some g→W.var? Tryz.prog n=some (ws.map fun s=>Value.string ⟨s.toArray⟩).toArray→cW (old W) W g 0 (ws.map .str):=fun {n g ws} hg h=>
  Ee ws 0 fun i s hs=>by
   rw[World.var?_cell hg h];simp [hs]
 simp only[Zf,Vf]at h;split at h
 ·cases h;exact⟨lt Is v1,key Is v1⟩
 cases h
end Go.Proofs.YtnfbbjhdflhmjaaGreatDoor
