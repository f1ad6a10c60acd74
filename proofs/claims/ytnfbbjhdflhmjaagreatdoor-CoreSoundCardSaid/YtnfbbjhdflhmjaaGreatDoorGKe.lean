/- Chapter 19, the program's: a statement. -/
import Derived.Test.YtnfbbjhdflhmjaaGreatDoorGKd
import Derived.Test.YtnfbbjhdflhmjaaGreatDoorGDf
set_option linter.unusedSimpArgs false
set_option linter.unusedVariables false
set_option maxRecDepth 10000
namespace Go.Proofs.YtnfbbjhdflhmjaaGreatDoor
open Go.Al
theorem uC {a v:Int} {st s':RS} (h:xN a v st=some s'):0≤a∧a<(st.vars.length:Int)∧s'={st with vars:=st.vars.set a.toNat v}∧ ∃y,st.vars[a.toNat]?=some y:=by
 unfold xN at h;by_cases h0:0≤a∧a<st.vars.length
 ·rw[if_pos h0]at h
  cases h;exact⟨h0.1,h0.2,rfl,_,aG (by omega)⟩
 rw[if_neg h0]at h;cases h
section
variable {cx : Kx} {W r w : Nat} {n : Nat}
set_option maxHeartbeats 4000000 in
theorem Ta (ih:Qh cx W r w n) (hx:Ay cx W) (i:Nat) (e:CS) (st:RS) (vo:AV) (H:Hp) (o:Rz (Option Int)) (he:e.ok) (hw:Mc (W:Int) cx.funs i e) (hR:eX cx W r w st vo H) (h:rG cx (n+1) e st=some o):
  mM cK 63 [.ptr 7 r 0 0, .ipt e.row 0] H (lD cx W r w vo H kX kY o):=by
 obtain⟨k,a,z,l,t,u⟩:=e;have hr:=hR.r;have hes:=he.es;have hth:=he.thn;have hel:=he.els;simp only[CS.es,CS.thn,CS.els]at hes hth hel;have hWW:=fun c (hg:l[0]?=some c) (hh:rM cx n c t st=some o)=>ih.W i (.mk k a z l t u) c st vo H o he hw hg hR hh;simp only[Mc]at hw;obtain⟨w1,w2,w6,wk,wl,wt,wu⟩:=hw;simp only[rG]at h;have kidw: ∀{j:Nat} {b:CE},l[j]?=some b→Qn (W:Int) cx.funs i b:=fun hj=>(jK wl hj).1;have kidok: ∀{j:Nat} {b:CE},l[j]?=some b→b.ok:=fun hj=>hes.all _ (bN hj);rw[CS.row_eq]at hWW⊢;simp only[CS.kind,CS.slot,CS.size,CS.es,CS.thn,CS.els]at hWW⊢;have hW:=hx.wl;clear he;obtain⟨HX,hHX⟩: ∃X,X=H:=⟨_,rfl⟩;by_cases k1:k=1
 ·subst k1
  simp only[if_true]at h;clear hWW
  cases hl0:l[0]? with
  |none=>rw[hl0]at h;cases h
  |some b=>
   simp only[hl0]at h;have hg0:=lO hl0;obtain⟨z0,zW⟩:=w1 rfl
   cases h1:iX cx n b st with
   |none=>rw[h1]at h;cases h
   |some r1=>
    rw[h1]at h;have hV:=ih.V i b st vo H r1 (kidok hl0) (kidw hl0) hR h1;have hw:=hR.v;have zl:a<(st.vars.length:Int):=by rw[hR.lw];exact zW
    have hgy:=mX (aG (show a.toNat<st.vars.length by omega));refine bI 134 [.tmp 4, .tmp 5] Tryz.func63 rfl rfl rfl rfl ?_;refine aB fun _ g=>aA rfl ?_;simp only[RR,seval];apply g;clear g;refine aI ?_;refine aB fun _ g=>aA rfl ?_;simp only[RR,seval];apply g;clear g;refine aM ?_;refine aB fun _ g=>aA rfl ?_;simp only[RR,seval];apply g;clear g;refine aH true rfl (fun _=>?_) (fun hc=>by cases hc);refine dS (fun fr M=> ∃s2 vo2,o= .val none s2∧eX cx W r w s2 vo2 M∧dP r w vo vo2 HX M) (fun KR3 hKR3=>?_) ?_
    ·refine iE (fun _=>True) dG (by kernel_rfl) fun hd=>?_
     refine eO [(0,3),(1,3),(2,3),(4,3),(5,3),(6,3),(7,0),(8,3),(9,3),(10,3),(11,3),(12,0),(13,3)] hd (m:=4) rfl (by kernel_rfl) rfl rfl ?_;simp only[cF,dM,hg0,RR,seval];refine⟨fun _ hh=>by simp [iR]at hh, ?_⟩;refine⟨fun _ hh=>by simp [iR]at hh, ?_⟩;refine iH hd (by kernel_rfl:Region.ready .any _ _=[3,14]) (by simp) ⟨?_, ?_,trivial⟩
     ·simp only[hr,RR,seval]
      refine eO [(14,1),(15,3),(16,1)] hd (m:=0) rfl (by kernel_rfl) rfl rfl ?_;simp only[cF,RR,seval];refine eV hV (fun _=>trivial) ?_ ?_
      ·rintro e s vo1 H1 e1 hR1 hk1
       subst e1;obtain rfl:=Option.some.inj (show some (Rz.fin e s)=some o from h);simp only[cO,cX,cQ];exact⟨vo1,rfl,hR1,hk1⟩
      intro x s1 vo1 H1 e1 ux hR1 hk1;subst e1;simp only[bindR,bE]at h;obtain⟨s2,hs2,rfl⟩:=h;obtain⟨_,_,rfl,y,hy⟩:=uC hs2;have hgy:=mX hy;have hr:=hR1.r;rw[hR1.lw,←hR.lw]at hr;have hw:=hR1.v;have g1:=hR1.setV a.toNat x ux;have g2:=hk1.trans (dP.vars (some (.rows 1 ((s1.vars.map jV).set a.toNat [.int .u32 x]))));simp only[hw,z0,zl,hgy,RR,seval];refine gF (by kernel_rfl) ?_
      try simp only[RR,seval]
      refine hKR3 _ _ ⟨_,vo1,rfl,g1, ?_⟩;rw[hHX];exact g2
     simp only[RR,seval];refine eV hV (fun _=>trivial) ?_ ?_
     ·rintro e s vo1 H1 e1 hR1 hk1
      subst e1;obtain rfl:=Option.some.inj (show some (Rz.fin e s)=some o from h);simp only[cO,cX,cQ];exact⟨vo1,rfl,hR1,hk1⟩
     intro x s1 vo1 H1 e1 ux hR1 hk1;subst e1;simp only[bindR,bE]at h;obtain⟨s2,hs2,rfl⟩:=h;obtain⟨_,_,rfl,y,hy⟩:=uC hs2;have hgy:=mX hy;have hr:=hR1.r;rw[hR1.lw,←hR.lw]at hr;have hw:=hR1.v;have g1:=hR1.setV a.toNat x ux;have g2:=hk1.trans (dP.vars (some (.rows 1 ((s1.vars.map jV).set a.toNat [.int .u32 x]))));simp only[RR,seval];refine eO [(3,1),(15,3),(16,1)] hd (m:=0) rfl (by kernel_rfl) rfl rfl ?_;simp only[cF,hr,hw,z0,zl,hgy,RR,seval];refine gF (by kernel_rfl) ?_
     try simp only[RR,seval]
     refine hKR3 _ _ ⟨_,vo1,rfl,g1, ?_⟩;rw[hHX];exact g2
    rintro F1 M1 ⟨s2,vo2,rfl,hR2,hk2⟩
    try simp only[aT,aX]
    rw[hHX]at hk2;refine aB fun _ g=>aA rfl ?_;simp only[RR,seval];apply g;clear g;refine aO ?_;simp only[bB,aL,bH,RR,seval];exact aZ.run ⟨vo2,⟨rfl,by simp [kY,dI]⟩,hR2,hk2⟩;skip
 by_cases k2:k=2
 ·subst k2
  simp only[show ¬(2:Int)=1 by decide,if_false,if_true]at h;clear hWW;obtain⟨a0,a1,a2,a3,a4⟩:=w2 rfl
  cases hl0:l[0]? with
  |none=>rw[hl0]at h;cases h
  |some b=>
  cases hl1:l[1]? with
  |none=>rw[hl0,hl1]at h;cases h
  |some d=>
   simp only[hl0,hl1]at h;have hg0:=lO hl0;have hg1:=lO hl1
   cases h1:iX cx n b st with
   |none=>rw[h1]at h;cases h
   |some r1=>
    rw[h1]at h;have nwr:w≠r:=hR.bwr;refine bI 134 [.tmp 4, .tmp 5] Tryz.func63 rfl rfl rfl rfl ?_;refine aB fun _ g=>aA rfl ?_;simp only[RR,seval];apply g;clear g;refine aI ?_;refine aB fun _ g=>aA rfl ?_;simp only[RR,seval];apply g;clear g;refine aM ?_;refine aB fun _ g=>aA rfl ?_;simp only[RR,seval];apply g;clear g;refine aH false rfl (fun hc=>by cases hc) (fun _=>?_);refine aB fun _ g=>aA rfl ?_;simp only[RR,seval];apply g;clear g;refine aH true rfl (fun _=>?_) (fun hc=>by cases hc);refine aB fun _ g=>aA rfl ?_;simp only[hg0,RR,seval];refine eV (ih.V i b st vo H r1 (kidok hl0) (kidw hl0) hR h1) (fun _=>trivial) ?_ ?_
    ·rintro e s vo1 H1 e1 hR1 hk1
     subst e1;obtain rfl:=Option.some.inj (show some (Rz.fin e s)=some o from h);simp only[cO,cX,cQ];exact⟨vo1,rfl,hR1,hk1⟩
    intro x s1 vo1 H1 e1 ux hR1 hk1;subst e1;simp only[bindR]at h;have hr:=hR1.r
    obtain⟨r2,h2⟩: ∃r2,iX cx n d s1=some r2:=by
     cases h2:iX cx n d s1 with
     |none=>rw[h2]at h;cases h
     |some r2=>exact⟨r2,rfl⟩
    rw[h2]at h;simp only[RR,seval];apply g;clear g;refine aB fun _ g=>aA rfl ?_;simp only[hg1,RR,seval];refine eV (ih.V i d s1 vo1 H1 r2 (kidok hl1) (kidw hl1) hR1 h2) (fun _=>trivial) ?_ ?_
    ·rintro e s vo2 H2 e1 hR2 hk2
     subst e1;obtain rfl:=Option.some.inj (show some (Rz.fin e s)=some o from h);simp only[cO,cX,cQ];exact⟨vo2,rfl,hR2,hk1.trans hk2⟩
    intro y s2 vo2 H2 e1 uy hR2 hk2;subst e1;simp only[]at h;have hr:=hR2.r;have hw:=hR2.v;simp only[RR,seval];apply g;clear g;refine bJ (fun x=>x≠r) [(0,3),(1,3),(2,3),(3,0),(4,3),(5,3),(6,3),(7,3),(8,1),(9,3),(10,3),(11,3),(12,1),(13,3),(15,3),(14,1),(16,3)] [(17,1)] dG (by kernel_rfl) rfl rfl ?_;simp only[cF,dM,hr,RR,seval];by_cases hxz:x<z
    rotate_left
    ·unfold Qc at h
     rw[if_neg hxz]at h;obtain rfl:=Option.some.inj (show some (Rz.fin 3 s2)=some o from h);refine Nu ux ⟨by omega,a2⟩ hxz ?_;simp only[cO,cX,cQ];exact⟨vo2,rfl,hR2,hk1.trans hk2⟩
    unfold Qc at h;rw[if_pos hxz]at h;simp only[bE]at h;obtain⟨s3,hs3,rfl⟩:=h;obtain⟨z0,zl,rfl,v,hv⟩:=uC hs3;have hgy:=mX hv;have g1:=hR2.setV (a+x).toNat y uy;have g2:=(hk1.trans hk2).trans (dP.vars (some (.rows 1 ((s2.vars.map jV).set (a+x).toNat [.int .u32 y]))));refine aN (Uo _ ux ⟨by omega,a2⟩ ⟨a0,by omega⟩ hxz) ?_;simp only[z0,zl,hw,hgy,RR,seval];refine aB fun _ g=>aA rfl ?_;simp only[RR,seval];apply g;clear g;refine aO ?_;simp only[bB,aL,bH,RR,seval];exact aZ.run ⟨vo2,⟨rfl,by simp [kY,dI]⟩,g1,g2⟩;skip
 by_cases k3:k=3
 ·subst k3
  simp only[show ¬(3:Int)=1 by decide,show ¬(3:Int)=2 by decide,if_false,if_true]at h;clear hWW
  cases hl0:l[0]? with
  |none=>rw[hl0]at h;cases h
  |some b=>
   simp only[hl0]at h;have hg0:=lO hl0
   cases h1:iX cx n b st with
   |none=>rw[h1]at h;cases h
   |some r1=>
    rw[h1]at h;refine bI 134 [.tmp 4, .tmp 5] Tryz.func63 rfl rfl rfl rfl ?_;refine aB fun _ g=>aA rfl ?_;simp only[RR,seval];apply g;clear g;refine aI ?_;refine aB fun _ g=>aA rfl ?_;simp only[RR,seval];apply g;clear g;refine aM ?_;refine aB fun _ g=>aA rfl ?_;simp only[RR,seval];apply g;clear g;refine aH false rfl (fun hc=>by cases hc) (fun _=>?_);refine aB fun _ g=>aA rfl ?_;simp only[RR,seval];apply g;clear g;refine aH false rfl (fun hc=>by cases hc) (fun _=>?_);refine aB fun _ g=>aA rfl ?_;simp only[RR,seval];apply g;clear g;refine aH true rfl (fun _=>?_) (fun hc=>by cases hc);refine aA rfl ?_;simp only[hg0,RR,seval];refine eV (ih.V i b st vo H r1 (kidok hl0) (kidw hl0) hR h1) (fun _=>trivial) ?_ ?_
    ·rintro e s vo1 H1 e1 hR1 hk1
     subst e1;obtain rfl:=Option.some.inj (show some (Rz.fin e s)=some o from h);simp only[cO,cX,cQ];exact⟨vo1,rfl,hR1,hk1⟩
    intro x s1 vo1 H1 e1 ux hR1 hk1;subst e1;simp only[bindR]at h;have hP:=Vl hR1 x;generalize hpp:oV x s1=pp at h hP;simp only[RR,seval];refine eV hP (fun _=>trivial) ?_ ?_
    ·rintro e s vo2 H2 e1 hR2 hk2
     subst e1;obtain rfl:=Option.some.inj (show some (Rz.fin e s)=some o from h);simp only[cO,cX,cQ];exact⟨vo2,rfl,hR2,hk1.trans hk2⟩
    intro _ s2 vo2 H2 e1 _ hR2 hk2;subst e1;obtain rfl:=Option.some.inj (show some (Rz.val (none:Option Int) s2)=some o from h);simp only[RR,seval];refine aB fun _ g=>aA rfl ?_;simp only[RR,seval];apply g;clear g;refine aO ?_;simp only[bB,aL,bH,RR,seval];exact aZ.run ⟨vo2,⟨rfl,by simp [kY,dI]⟩,hR2,hk1.trans hk2⟩;skip
 by_cases k4:k=4
 ·subst k4
  simp only[show ¬(4:Int)=1 by decide,show ¬(4:Int)=2 by decide,show ¬(4:Int)=3 by decide,if_false,if_true]at h;clear hWW
  cases hl0:l[0]? with
  |none=>rw[hl0]at h;cases h
  |some b=>
   simp only[hl0]at h;have hg0:=lO hl0
   cases h1:iX cx n b st with
   |none=>rw[h1]at h;cases h
   |some r1=>
    rw[h1]at h;refine bI 134 [.tmp 4, .tmp 5] Tryz.func63 rfl rfl rfl rfl ?_;refine aB fun _ g=>aA rfl ?_;simp only[RR,seval];apply g;clear g;refine aI ?_;refine aB fun _ g=>aA rfl ?_;simp only[RR,seval];apply g;clear g;refine aM ?_;refine aB fun _ g=>aA rfl ?_;simp only[RR,seval];apply g;clear g;refine aH false rfl (fun hc=>by cases hc) (fun _=>?_);refine aB fun _ g=>aA rfl ?_;simp only[RR,seval];apply g;clear g;refine aH false rfl (fun hc=>by cases hc) (fun _=>?_);refine aB fun _ g=>aA rfl ?_;simp only[RR,seval];apply g;clear g;refine aH false rfl (fun hc=>by cases hc) (fun _=>?_);refine aB fun _ g=>aA rfl ?_;simp only[RR,seval];apply g;clear g;refine aH true rfl (fun _=>?_) (fun hc=>by cases hc);refine aI ?_;refine aB fun _ g=>aA rfl ?_;simp only[hg0,RR,seval];refine eV (ih.V i b st vo H r1 (kidok hl0) (kidw hl0) hR h1) (fun _=>trivial) ?_ ?_
    ·rintro e s vo1 H1 e1 hR1 hk1
     subst e1;obtain rfl:=Option.some.inj (show some (Rz.fin e s)=some o from h);simp only[cO,cX,cQ];exact⟨vo1,rfl,hR1,hk1⟩
    intro x s1 vo1 H1 e1 ux hR1 hk1;subst e1;simp only[bindR]at h;have hr:=hR1.r;simp only[RR,seval];apply g;clear g;refine aH _ rfl (fun hc11=>?_) (fun hc11=>?_)
    ·rw[if_neg (show ¬x=0 by simpa using hc11)]at h
     have hL:=ih.L i t s1 vo1 H1 o hth wt hR1 h;refine aB fun _ g=>aA rfl ?_;simp only[RR,seval];refine eV hL (fun _=>trivial) ?_ ?_
     ·rintro e s vo2 H2 e1 hR2 hk2
      subst e1;simp only[cO,cX,cQ];exact⟨vo2,rfl,hR2,hk1.trans hk2⟩
     intro p s2 vo2 H2 e1 up hR2 hk2;subst e1;simp only[kX,RR,seval];apply g;clear g;refine aO ?_;simp only[bB,aL,bH,RR,seval];exact aZ.run ⟨vo2,⟨rfl,up⟩,hR2,hk1.trans hk2⟩;skip
    rw[if_pos (show x=0 by simpa using hc11)]at h;have hL:=ih.L i u s1 vo1 H1 o hel wu hR1 h;refine aK ?_;try simp only[RR]
    refine aB fun _ g=>aA rfl ?_;simp only[RR,seval];refine eV hL (fun _=>trivial) ?_ ?_
    ·rintro e s vo2 H2 e1 hR2 hk2
     subst e1;simp only[cO,cX,cQ];exact⟨vo2,rfl,hR2,hk1.trans hk2⟩
    intro p s2 vo2 H2 e1 up hR2 hk2;subst e1;simp only[kX,RR,seval];apply g;clear g;refine aO ?_;simp only[bB,aL,bH,RR,seval];exact aZ.run ⟨vo2,⟨rfl,up⟩,hR2,hk1.trans hk2⟩;skip
 by_cases k5:k=5
 ·subst k5
  simp only[show ¬(5:Int)=1 by decide,show ¬(5:Int)=2 by decide,show ¬(5:Int)=3 by decide,show ¬(5:Int)=4 by decide,if_false,if_true]at h
  cases hl0:l[0]? with
  |none=>rw[hl0]at h;cases h
  |some b=>
   simp only[hl0]at h;have hWh:=hWW b hl0 h;clear hWW;refine bI 134 [.tmp 4, .tmp 5] Tryz.func63 rfl rfl rfl rfl ?_;refine aB fun _ g=>aA rfl ?_;simp only[RR,seval];apply g;clear g;refine aI ?_;refine aB fun _ g=>aA rfl ?_;simp only[RR,seval];apply g;clear g;refine aM ?_;refine aB fun _ g=>aA rfl ?_;simp only[RR,seval];apply g;clear g;refine aH false rfl (fun hc=>by cases hc) (fun _=>?_);refine aB fun _ g=>aA rfl ?_;simp only[RR,seval];apply g;clear g;refine aH false rfl (fun hc=>by cases hc) (fun _=>?_);refine aB fun _ g=>aA rfl ?_;simp only[RR,seval];apply g;clear g;refine aH false rfl (fun hc=>by cases hc) (fun _=>?_);refine aB fun _ g=>aA rfl ?_;simp only[RR,seval];apply g;clear g;refine aH false rfl (fun hc=>by cases hc) (fun _=>?_);refine aB fun _ g=>aA rfl ?_;simp only[RR,seval];apply g;clear g;refine aH true rfl (fun _=>?_) (fun hc=>by cases hc);refine aB fun _ g=>aA rfl ?_;simp only[RR,seval];refine eV hWh (fun _=>trivial) ?_ ?_
   ·rintro e s vo2 H2 e1 hR2 hk2
    subst e1;simp only[cO,cX,cQ];exact⟨vo2,rfl,hR2,hk2⟩
   intro p s2 vo2 H2 e1 up hR2 hk2;subst e1;simp only[kX,RR,seval];apply g;clear g;refine aO ?_;simp only[bB,aL,bH,RR,seval];exact aZ.run ⟨vo2,⟨rfl,up⟩,hR2,hk2⟩;skip
 clear hWW;by_cases k6:k=6
 ·subst k6
  simp only[show ¬(6:Int)=1 by decide,show ¬(6:Int)=2 by decide,show ¬(6:Int)=3 by decide,show ¬(6:Int)=4 by decide,show ¬(6:Int)=5 by decide,if_false,if_true]at h;obtain⟨z0,_,f,hf,hp⟩:=w6 rfl
  cases h1:rN cx n a l st with
  |none=>rw[h1]at h;cases h
  |some r1=>
   rw[h1]at h;have hcall:=ih.C i a f l st vo H r1 hes wl z0 hf hp hR h1;refine bI 134 [.tmp 4, .tmp 5] Tryz.func63 rfl rfl rfl rfl ?_;refine aB fun _ g=>aA rfl ?_;simp only[RR,seval];apply g;clear g;refine aI ?_;refine aB fun _ g=>aA rfl ?_;simp only[RR,seval];apply g;clear g;refine aM ?_;refine aB fun _ g=>aA rfl ?_;simp only[RR,seval];apply g;clear g;refine aH false rfl (fun hc=>by cases hc) (fun _=>?_);refine aB fun _ g=>aA rfl ?_;simp only[RR,seval];apply g;clear g;refine aH false rfl (fun hc=>by cases hc) (fun _=>?_);refine aB fun _ g=>aA rfl ?_;simp only[RR,seval];apply g;clear g;refine aH false rfl (fun hc=>by cases hc) (fun _=>?_);refine aB fun _ g=>aA rfl ?_;simp only[RR,seval];apply g;clear g;refine aH false rfl (fun hc=>by cases hc) (fun _=>?_);refine aB fun _ g=>aA rfl ?_;simp only[RR,seval];apply g;clear g;refine aH false rfl (fun hc=>by cases hc) (fun _=>?_);refine aB fun _ g=>aA rfl ?_;simp only[RR,seval];apply g;clear g;refine aH true rfl (fun _=>?_) (fun hc=>by cases hc);refine bJ (fun _=>True) [(0,3),(1,3),(2,3),(3,3),(4,1),(5,3),(6,3),(7,3),(8,1),(9,1)] [] dG (by kernel_rfl) rfl rfl ?_;simp only[cF,RR,seval];refine eV hcall (fun _=>trivial) ?_ ?_
   ·rintro e s vo1 H1 e1 hR1 hk1
    subst e1;obtain rfl:=Option.some.inj (show some (Rz.fin e s)=some o from h);simp only[cO,cX,cQ];exact⟨vo1,rfl,hR1,hk1⟩
   intro x s1 vo1 H1 e1 ux hR1 hk1;subst e1;obtain rfl:=Option.some.inj (show some (Rz.val (none:Option Int) s1)=some o from h);simp only[RR,seval];refine aB fun _ g=>aA rfl ?_;simp only[RR,seval];apply g;clear g;refine aO ?_;simp only[bB,aL,bH,RR,seval];exact aZ.run ⟨vo1,⟨rfl,by simp [kY,dI]⟩,hR1,hk1⟩;skip
 by_cases k7:k=7
 ·subst k7
  simp only[show ¬(7:Int)=1 by decide,show ¬(7:Int)=2 by decide,show ¬(7:Int)=3 by decide,show ¬(7:Int)=4 by decide,show ¬(7:Int)=5 by decide,show ¬(7:Int)=6 by decide,if_false,if_true]at h
  cases hl0:l[0]? with
  |none=>
   simp only[hl0]at h;obtain rfl:=Option.some.inj h;have hle:l=[]:=by cases l with |nil=>rfl|cons a l=>simp at hl0
   subst hle;refine bI 134 [.tmp 4, .tmp 5] Tryz.func63 rfl rfl rfl rfl ?_;refine aB fun _ g=>aA rfl ?_;simp only[List.map_nil,RR,seval];apply g;clear g;refine aI ?_;refine aB fun _ g=>aA rfl ?_;simp only[List.map_nil,RR,seval];apply g;clear g;refine aM ?_;refine aB fun _ g=>aA rfl ?_;simp only[List.map_nil,RR,seval];apply g;clear g;refine aH false rfl (fun hc=>by cases hc) (fun _=>?_);refine aB fun _ g=>aA rfl ?_;simp only[List.map_nil,RR,seval];apply g;clear g;refine aH false rfl (fun hc=>by cases hc) (fun _=>?_);refine aB fun _ g=>aA rfl ?_;simp only[List.map_nil,RR,seval];apply g;clear g;refine aH false rfl (fun hc=>by cases hc) (fun _=>?_);refine aB fun _ g=>aA rfl ?_;simp only[List.map_nil,RR,seval];apply g;clear g;refine aH false rfl (fun hc=>by cases hc) (fun _=>?_);refine aB fun _ g=>aA rfl ?_;simp only[List.map_nil,RR,seval];apply g;clear g;refine aH false rfl (fun hc=>by cases hc) (fun _=>?_);refine aB fun _ g=>aA rfl ?_;simp only[List.map_nil,RR,seval];apply g;clear g;refine aH false rfl (fun hc=>by cases hc) (fun _=>?_);refine aB fun _ g=>aA rfl ?_;simp only[List.map_nil,RR,seval];apply g;clear g;refine aH true rfl (fun _=>?_) (fun hc=>by cases hc);refine aI ?_;refine aB fun _ g=>aA rfl ?_;simp only[List.map_nil,RR,seval];apply g;clear g;refine aH false rfl (fun hc=>by cases hc) (fun _=>?_);refine aK ?_;try simp only[RR]
   refine aB fun _ g=>aA rfl ?_;simp only[List.map_nil,RR,seval];apply g;clear g;refine aO ?_;simp only[bB,aL,bH,RR,seval];exact aZ.run ⟨vo,⟨rfl,by simp [kY,dI]⟩,hR,dP.refl _ _ _ _⟩;skip
  |some b=>
   simp only[hl0]at h;have hg0:=lO hl0;have zl:(0:Int)<(l.length:Int):=by have:=(bW.1 hl0).1;omega
   cases h1:iX cx n b st with
   |none=>rw[h1]at h;cases h
   |some r1=>
    rw[h1]at h;refine bI 134 [.tmp 4, .tmp 5] Tryz.func63 rfl rfl rfl rfl ?_;refine aB fun _ g=>aA rfl ?_;simp only[RR,seval];apply g;clear g;refine aI ?_;refine aB fun _ g=>aA rfl ?_;simp only[RR,seval];apply g;clear g;refine aM ?_;refine aB fun _ g=>aA rfl ?_;simp only[RR,seval];apply g;clear g;refine aH false rfl (fun hc=>by cases hc) (fun _=>?_);refine aB fun _ g=>aA rfl ?_;simp only[RR,seval];apply g;clear g;refine aH false rfl (fun hc=>by cases hc) (fun _=>?_);refine aB fun _ g=>aA rfl ?_;simp only[RR,seval];apply g;clear g;refine aH false rfl (fun hc=>by cases hc) (fun _=>?_);refine aB fun _ g=>aA rfl ?_;simp only[RR,seval];apply g;clear g;refine aH false rfl (fun hc=>by cases hc) (fun _=>?_);refine aB fun _ g=>aA rfl ?_;simp only[RR,seval];apply g;clear g;refine aH false rfl (fun hc=>by cases hc) (fun _=>?_);refine aB fun _ g=>aA rfl ?_;simp only[RR,seval];apply g;clear g;refine aH false rfl (fun hc=>by cases hc) (fun _=>?_);refine aB fun _ g=>aA rfl ?_;simp only[RR,seval];apply g;clear g;refine aH true rfl (fun _=>?_) (fun hc=>by cases hc);refine aI ?_;refine aB fun _ g=>aA rfl ?_;simp only[zl,aD,RR,seval];apply g;clear g;refine aH true rfl (fun _=>?_) (fun hc=>by cases hc);refine aB fun _ g=>aA rfl ?_;simp only[hg0,RR,seval];refine eV (ih.V i b st vo H r1 (kidok hl0) (kidw hl0) hR h1) (fun _=>trivial) ?_ ?_
    ·rintro e s vo1 H1 e1 hR1 hk1
     subst e1;obtain rfl:=Option.some.inj (show some (Rz.fin e s)=some o from h);simp only[cO,cX,cQ];exact⟨vo1,rfl,hR1,hk1⟩
    intro x s1 vo1 H1 e1 ux hR1 hk1;subst e1;obtain rfl:=Option.some.inj (show some (Rz.val (some x) s1)=some o from h);simp only[RR,seval];apply g;clear g;refine aO ?_;simp only[bB,aL,bH,RR,seval];exact aZ.run ⟨vo1,⟨rfl,ux⟩,hR1,hk1⟩;skip
 simp only[if_neg k1,if_neg k2,if_neg k3,if_neg k4,if_neg k5,if_neg k6,if_neg k7]at h;obtain rfl:=Option.some.inj h;refine bI 134 [.tmp 4, .tmp 5] Tryz.func63 rfl rfl rfl rfl ?_;refine aB fun _ g=>aA rfl ?_;simp only[RR,seval];apply g;clear g;refine aI ?_;refine aB fun _ g=>aA rfl ?_;simp only[RR,seval];apply g;clear g;refine aM ?_;refine aB fun _ g=>aA rfl ?_;simp only[k1,RR,seval];apply g;clear g;refine aH false rfl (fun hc=>by cases hc) (fun _=>?_);refine aB fun _ g=>aA rfl ?_;simp only[k2,RR,seval];apply g;clear g;refine aH false rfl (fun hc=>by cases hc) (fun _=>?_);refine aB fun _ g=>aA rfl ?_;simp only[k3,RR,seval];apply g;clear g;refine aH false rfl (fun hc=>by cases hc) (fun _=>?_);refine aB fun _ g=>aA rfl ?_;simp only[k4,RR,seval];apply g;clear g;refine aH false rfl (fun hc=>by cases hc) (fun _=>?_);refine aB fun _ g=>aA rfl ?_;simp only[k5,RR,seval];apply g;clear g;refine aH false rfl (fun hc=>by cases hc) (fun _=>?_);refine aB fun _ g=>aA rfl ?_;simp only[k6,RR,seval];apply g;clear g;refine aH false rfl (fun hc=>by cases hc) (fun _=>?_);refine aB fun _ g=>aA rfl ?_;simp only[k7,RR,seval];apply g;clear g;refine aH false rfl (fun hc=>by cases hc) (fun _=>?_);refine aK ?_;try simp only[RR]
 refine aB fun _ g=>aA rfl ?_;simp only[RR,seval];apply g;clear g;refine aO ?_;simp only[bB,aL,bH,RR,seval];exact aZ.run ⟨vo,⟨rfl,by simp [kY,dI]⟩,hR,dP.refl _ _ _ _⟩;skip
end
end Go.Proofs.YtnfbbjhdflhmjaaGreatDoor
