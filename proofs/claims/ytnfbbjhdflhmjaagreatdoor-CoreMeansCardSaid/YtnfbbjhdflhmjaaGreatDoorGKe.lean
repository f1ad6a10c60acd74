/- Chapter 19, the program's: a statement. -/
import Derived.Test.YtnfbbjhdflhmjaaGreatDoorGKc
import Derived.Test.YtnfbbjhdflhmjaaGreatDoorGDf
set_option linter.unusedSimpArgs false
set_option linter.unusedVariables false
set_option maxRecDepth 10000
namespace Go.Proofs.YtnfbbjhdflhmjaaGreatDoor
open Go.Al
theorem tF {a v:Int} {st s':RS} (h:yY a v st=some s'):0≤a∧a<(st.vars.length:Int)∧s'={st with vars:=st.vars.set a.toNat v}∧ ∃y,st.vars[a.toNat]?=some y:=by
 unfold yY at h;by_cases h0:0≤a∧a<st.vars.length
 ·rw[if_pos h0]at h
  cases h;exact⟨h0.1,h0.2,rfl,_,aG (by omega)⟩
 rw[if_neg h0]at h;cases h
section
variable {cx : Kx} {W r w : Nat} {n : Nat}
set_option maxHeartbeats 4000000 in
theorem Rd (ih:Oi cx W r w n) (hx:zH cx W) (i:Nat) (e:CS) (st:RS) (vo:AV) (H:Hp) (o:Rz (Option Int)) (he:e.ok) (hw:Ua (W:Int) cx.funs i e) (hR:fC cx W r w st vo H) (h:Hh cx (n+1) e st=some o):
  gK cN 63 [.ptr 7 r 0 0, .ipt e.row 0] H (kY cx W r w vo H kT kU o):=by
 obtain⟨k,a,z,l,t,u⟩:=e;have hr:=hR.r;have hes:=he.es;have hth:=he.thn;have hel:=he.els;simp only[CS.es,CS.thn,CS.els]at hes hth hel;have hWW:=fun c (hg:l[0]?=some c) (hh:Ij cx n c t st=some o)=>ih.W i (.mk k a z l t u) c st vo H o he hw hg hR hh;simp only[Ua]at hw;obtain⟨w1,w2,w6,wk,wl,wt,wu⟩:=hw;simp only[Hh]at h;have kidw: ∀{j:Nat} {b:CE},l[j]?=some b→Ub (W:Int) cx.funs i b:=fun hj=>(oX wl hj).1;have kidok: ∀{j:Nat} {b:CE},l[j]?=some b→b.ok:=fun hj=>hes.all _ (aL hj);rw[CS.row_eq]at hWW⊢;simp only[CS.kind,CS.slot,CS.size,CS.es,CS.thn,CS.els]at hWW⊢;have hW:=hx.wl;clear he;obtain⟨HX,hHX⟩: ∃X,X=H:=⟨_,rfl⟩;by_cases k1:k=1
 ·subst k1
  simp only[if_true]at h;clear hWW
  cases hl0:l[0]? with
  |none=>rw[hl0]at h;cases h
  |some b=>
   simp only[hl0]at h;have hg0:=lR hl0;obtain⟨z0,zW⟩:=w1 rfl
   cases h1:lU cx n b st with
   |none=>rw[h1]at h;cases h
   |some r1=>
    rw[h1]at h;have hV:=ih.V i b st vo H r1 (kidok hl0) (kidw hl0) hR h1;have hw:=hR.v;have zl:a<(st.vars.length:Int):=by rw[hR.lw];exact zW
    have hgy:=mU (aG (show a.toNat<st.vars.length by omega));refine bD 134 [.tmp 4, .tmp 5] Tryz.func63 rfl rfl rfl rfl ?_;refine aB fun _ g=>aA rfl ?_;simp only[RR,seval];apply g;clear g;refine aH ?_;refine aB fun _ g=>aA rfl ?_;simp only[RR,seval];apply g;clear g;refine aI ?_;refine aB fun _ g=>aA rfl ?_;simp only[RR,seval];apply g;clear g;refine aF true rfl (fun _=>?_) (fun hc=>by cases hc);refine gP (fun fr M=> ∃s2 vo2,o= .val none s2∧fC cx W r w s2 vo2 M∧dQ r w vo vo2 HX M) (fun KR3 hKR3=>?_) ?_
    ·refine lJ (fun _=>True) cX (by kernel_rfl) fun hd=>?_
     refine eR [(0,3),(1,3),(2,3),(4,3),(5,3),(6,3),(7,0),(8,3),(9,3),(10,3),(11,3),(12,0),(13,3)] hd (m:=4) rfl (by kernel_rfl) rfl rfl ?_;simp only[cH,dY,hg0,RR,seval];refine⟨fun _ hh=>by simp [iV]at hh, ?_⟩;refine⟨fun _ hh=>by simp [iV]at hh, ?_⟩;refine gL hd (by kernel_rfl:Region.ready .any _ _=[3,14]) (by simp) ⟨?_, ?_,trivial⟩
     ·simp only[hr,RR,seval]
      refine eR [(14,1),(15,3),(16,1)] hd (m:=0) rfl (by kernel_rfl) rfl rfl ?_;simp only[cH,RR,seval];refine fA hV (fun _=>trivial) ?_ ?_
      ·rintro e s vo1 H1 e1 hR1 hk1
       subst e1;obtain rfl:=Option.some.inj (show some (Rz.fin e s)=some o from h);simp only[bR,bZ,bT];exact⟨vo1,rfl,hR1,hk1⟩
      intro x s1 vo1 H1 e1 ux hR1 hk1;subst e1;simp only[bindR,aV]at h;obtain⟨s2,hs2,rfl⟩:=h;obtain⟨_,_,rfl,y,hy⟩:=tF hs2;have hgy:=mU hy;have hr:=hR1.r;rw[hR1.lw,←hR.lw]at hr;have hw:=hR1.v;have g1:=hR1.setV a.toNat x ux;have g2:=hk1.trans (dQ.vars (some (.rows 1 ((s1.vars.map cZ).set a.toNat [.int .u32 x]))));simp only[hw,z0,zl,hgy,RR,seval];refine gF (by kernel_rfl) ?_
      try simp only[RR,seval]
      refine hKR3 _ _ ⟨_,vo1,rfl,g1, ?_⟩;rw[hHX];exact g2
     simp only[RR,seval];refine fA hV (fun _=>trivial) ?_ ?_
     ·rintro e s vo1 H1 e1 hR1 hk1
      subst e1;obtain rfl:=Option.some.inj (show some (Rz.fin e s)=some o from h);simp only[bR,bZ,bT];exact⟨vo1,rfl,hR1,hk1⟩
     intro x s1 vo1 H1 e1 ux hR1 hk1;subst e1;simp only[bindR,aV]at h;obtain⟨s2,hs2,rfl⟩:=h;obtain⟨_,_,rfl,y,hy⟩:=tF hs2;have hgy:=mU hy;have hr:=hR1.r;rw[hR1.lw,←hR.lw]at hr;have hw:=hR1.v;have g1:=hR1.setV a.toNat x ux;have g2:=hk1.trans (dQ.vars (some (.rows 1 ((s1.vars.map cZ).set a.toNat [.int .u32 x]))));simp only[RR,seval];refine eR [(3,1),(15,3),(16,1)] hd (m:=0) rfl (by kernel_rfl) rfl rfl ?_;simp only[cH,hr,hw,z0,zl,hgy,RR,seval];refine gF (by kernel_rfl) ?_
     try simp only[RR,seval]
     refine hKR3 _ _ ⟨_,vo1,rfl,g1, ?_⟩;rw[hHX];exact g2
    rintro F1 M1 ⟨s2,vo2,rfl,hR2,hk2⟩
    try simp only[aS,aT]
    rw[hHX]at hk2;refine aB fun _ g=>aA rfl ?_;simp only[RR,seval];apply g;clear g;refine aQ ?_;simp only[aX,aN,bI,RR,seval];exact aW.run ⟨vo2,⟨rfl,by simp [kU,cC]⟩,hR2,hk2⟩;skip
 by_cases k2:k=2
 ·subst k2
  simp only[show ¬(2:Int)=1 by decide,if_false,if_true]at h;clear hWW;obtain⟨a0,a1,a2,a3,a4⟩:=w2 rfl
  cases hl0:l[0]? with
  |none=>rw[hl0]at h;cases h
  |some b=>
  cases hl1:l[1]? with
  |none=>rw[hl0,hl1]at h;cases h
  |some d=>
   simp only[hl0,hl1]at h;have hg0:=lR hl0;have hg1:=lR hl1
   cases h1:lU cx n b st with
   |none=>rw[h1]at h;cases h
   |some r1=>
    rw[h1]at h;have nwr:w≠r:=hR.bwr;refine bD 134 [.tmp 4, .tmp 5] Tryz.func63 rfl rfl rfl rfl ?_;refine aB fun _ g=>aA rfl ?_;simp only[RR,seval];apply g;clear g;refine aH ?_;refine aB fun _ g=>aA rfl ?_;simp only[RR,seval];apply g;clear g;refine aI ?_;refine aB fun _ g=>aA rfl ?_;simp only[RR,seval];apply g;clear g;refine aF false rfl (fun hc=>by cases hc) (fun _=>?_);refine aB fun _ g=>aA rfl ?_;simp only[RR,seval];apply g;clear g;refine aF true rfl (fun _=>?_) (fun hc=>by cases hc);refine aB fun _ g=>aA rfl ?_;simp only[hg0,RR,seval];refine fA (ih.V i b st vo H r1 (kidok hl0) (kidw hl0) hR h1) (fun _=>trivial) ?_ ?_
    ·rintro e s vo1 H1 e1 hR1 hk1
     subst e1;obtain rfl:=Option.some.inj (show some (Rz.fin e s)=some o from h);simp only[bR,bZ,bT];exact⟨vo1,rfl,hR1,hk1⟩
    intro x s1 vo1 H1 e1 ux hR1 hk1;subst e1;simp only[bindR]at h;have hr:=hR1.r
    obtain⟨r2,h2⟩: ∃r2,lU cx n d s1=some r2:=by
     cases h2:lU cx n d s1 with
     |none=>rw[h2]at h;cases h
     |some r2=>exact⟨r2,rfl⟩
    rw[h2]at h;simp only[RR,seval];apply g;clear g;refine aB fun _ g=>aA rfl ?_;simp only[hg1,RR,seval];refine fA (ih.V i d s1 vo1 H1 r2 (kidok hl1) (kidw hl1) hR1 h2) (fun _=>trivial) ?_ ?_
    ·rintro e s vo2 H2 e1 hR2 hk2
     subst e1;obtain rfl:=Option.some.inj (show some (Rz.fin e s)=some o from h);simp only[bR,bZ,bT];exact⟨vo2,rfl,hR2,hk1.trans hk2⟩
    intro y s2 vo2 H2 e1 uy hR2 hk2;subst e1;simp only[]at h;have hr:=hR2.r;have hw:=hR2.v;simp only[RR,seval];apply g;clear g;refine bB (fun x=>x≠r) [(0,3),(1,3),(2,3),(3,0),(4,3),(5,3),(6,3),(7,3),(8,1),(9,3),(10,3),(11,3),(12,1),(13,3),(15,3),(14,1),(16,3)] [(17,1)] cX (by kernel_rfl) rfl rfl ?_;simp only[cH,dY,hr,RR,seval];by_cases hxz:x<z
    rotate_left
    ·unfold Xw at h
     rw[if_neg hxz]at h;obtain rfl:=Option.some.inj (show some (Rz.fin 3 s2)=some o from h);refine Lu ux ⟨by omega,a2⟩ hxz ?_;simp only[bR,bZ,bT];exact⟨vo2,rfl,hR2,hk1.trans hk2⟩
    unfold Xw at h;rw[if_pos hxz]at h;simp only[aV]at h;obtain⟨s3,hs3,rfl⟩:=h;obtain⟨z0,zl,rfl,v,hv⟩:=tF hs3;have hgy:=mU hv;have g1:=hR2.setV (a+x).toNat y uy;have g2:=(hk1.trans hk2).trans (dQ.vars (some (.rows 1 ((s2.vars.map cZ).set (a+x).toNat [.int .u32 y]))));refine aU (Tn _ ux ⟨by omega,a2⟩ ⟨a0,by omega⟩ hxz) ?_;simp only[z0,zl,hw,hgy,RR,seval];refine aB fun _ g=>aA rfl ?_;simp only[RR,seval];apply g;clear g;refine aQ ?_;simp only[aX,aN,bI,RR,seval];exact aW.run ⟨vo2,⟨rfl,by simp [kU,cC]⟩,g1,g2⟩;skip
 by_cases k3:k=3
 ·subst k3
  simp only[show ¬(3:Int)=1 by decide,show ¬(3:Int)=2 by decide,if_false,if_true]at h;clear hWW
  cases hl0:l[0]? with
  |none=>rw[hl0]at h;cases h
  |some b=>
   simp only[hl0]at h;have hg0:=lR hl0
   cases h1:lU cx n b st with
   |none=>rw[h1]at h;cases h
   |some r1=>
    rw[h1]at h;refine bD 134 [.tmp 4, .tmp 5] Tryz.func63 rfl rfl rfl rfl ?_;refine aB fun _ g=>aA rfl ?_;simp only[RR,seval];apply g;clear g;refine aH ?_;refine aB fun _ g=>aA rfl ?_;simp only[RR,seval];apply g;clear g;refine aI ?_;refine aB fun _ g=>aA rfl ?_;simp only[RR,seval];apply g;clear g;refine aF false rfl (fun hc=>by cases hc) (fun _=>?_);refine aB fun _ g=>aA rfl ?_;simp only[RR,seval];apply g;clear g;refine aF false rfl (fun hc=>by cases hc) (fun _=>?_);refine aB fun _ g=>aA rfl ?_;simp only[RR,seval];apply g;clear g;refine aF true rfl (fun _=>?_) (fun hc=>by cases hc);refine aA rfl ?_;simp only[hg0,RR,seval];refine fA (ih.V i b st vo H r1 (kidok hl0) (kidw hl0) hR h1) (fun _=>trivial) ?_ ?_
    ·rintro e s vo1 H1 e1 hR1 hk1
     subst e1;obtain rfl:=Option.some.inj (show some (Rz.fin e s)=some o from h);simp only[bR,bZ,bT];exact⟨vo1,rfl,hR1,hk1⟩
    intro x s1 vo1 H1 e1 ux hR1 hk1;subst e1;simp only[bindR]at h;have hP:=Uu hR1 x;generalize hpp:kX x s1=pp at h hP;simp only[RR,seval];refine fA hP (fun _=>trivial) ?_ ?_
    ·rintro e s vo2 H2 e1 hR2 hk2
     subst e1;obtain rfl:=Option.some.inj (show some (Rz.fin e s)=some o from h);simp only[bR,bZ,bT];exact⟨vo2,rfl,hR2,hk1.trans hk2⟩
    intro _ s2 vo2 H2 e1 _ hR2 hk2;subst e1;obtain rfl:=Option.some.inj (show some (Rz.val (none:Option Int) s2)=some o from h);simp only[RR,seval];refine aB fun _ g=>aA rfl ?_;simp only[RR,seval];apply g;clear g;refine aQ ?_;simp only[aX,aN,bI,RR,seval];exact aW.run ⟨vo2,⟨rfl,by simp [kU,cC]⟩,hR2,hk1.trans hk2⟩;skip
 by_cases k4:k=4
 ·subst k4
  simp only[show ¬(4:Int)=1 by decide,show ¬(4:Int)=2 by decide,show ¬(4:Int)=3 by decide,if_false,if_true]at h;clear hWW
  cases hl0:l[0]? with
  |none=>rw[hl0]at h;cases h
  |some b=>
   simp only[hl0]at h;have hg0:=lR hl0
   cases h1:lU cx n b st with
   |none=>rw[h1]at h;cases h
   |some r1=>
    rw[h1]at h;refine bD 134 [.tmp 4, .tmp 5] Tryz.func63 rfl rfl rfl rfl ?_;refine aB fun _ g=>aA rfl ?_;simp only[RR,seval];apply g;clear g;refine aH ?_;refine aB fun _ g=>aA rfl ?_;simp only[RR,seval];apply g;clear g;refine aI ?_;refine aB fun _ g=>aA rfl ?_;simp only[RR,seval];apply g;clear g;refine aF false rfl (fun hc=>by cases hc) (fun _=>?_);refine aB fun _ g=>aA rfl ?_;simp only[RR,seval];apply g;clear g;refine aF false rfl (fun hc=>by cases hc) (fun _=>?_);refine aB fun _ g=>aA rfl ?_;simp only[RR,seval];apply g;clear g;refine aF false rfl (fun hc=>by cases hc) (fun _=>?_);refine aB fun _ g=>aA rfl ?_;simp only[RR,seval];apply g;clear g;refine aF true rfl (fun _=>?_) (fun hc=>by cases hc);refine aH ?_;refine aB fun _ g=>aA rfl ?_;simp only[hg0,RR,seval];refine fA (ih.V i b st vo H r1 (kidok hl0) (kidw hl0) hR h1) (fun _=>trivial) ?_ ?_
    ·rintro e s vo1 H1 e1 hR1 hk1
     subst e1;obtain rfl:=Option.some.inj (show some (Rz.fin e s)=some o from h);simp only[bR,bZ,bT];exact⟨vo1,rfl,hR1,hk1⟩
    intro x s1 vo1 H1 e1 ux hR1 hk1;subst e1;simp only[bindR]at h;have hr:=hR1.r;simp only[RR,seval];apply g;clear g;refine aF _ rfl (fun hc11=>?_) (fun hc11=>?_)
    ·rw[if_neg (show ¬x=0 by simpa using hc11)]at h
     have hL:=ih.L i t s1 vo1 H1 o hth wt hR1 h;refine aB fun _ g=>aA rfl ?_;simp only[RR,seval];refine fA hL (fun _=>trivial) ?_ ?_
     ·rintro e s vo2 H2 e1 hR2 hk2
      subst e1;simp only[bR,bZ,bT];exact⟨vo2,rfl,hR2,hk1.trans hk2⟩
     intro p s2 vo2 H2 e1 up hR2 hk2;subst e1;simp only[kT,RR,seval];apply g;clear g;refine aQ ?_;simp only[aX,aN,bI,RR,seval];exact aW.run ⟨vo2,⟨rfl,up⟩,hR2,hk1.trans hk2⟩;skip
    rw[if_pos (show x=0 by simpa using hc11)]at h;have hL:=ih.L i u s1 vo1 H1 o hel wu hR1 h;refine aM ?_;try simp only[RR]
    refine aB fun _ g=>aA rfl ?_;simp only[RR,seval];refine fA hL (fun _=>trivial) ?_ ?_
    ·rintro e s vo2 H2 e1 hR2 hk2
     subst e1;simp only[bR,bZ,bT];exact⟨vo2,rfl,hR2,hk1.trans hk2⟩
    intro p s2 vo2 H2 e1 up hR2 hk2;subst e1;simp only[kT,RR,seval];apply g;clear g;refine aQ ?_;simp only[aX,aN,bI,RR,seval];exact aW.run ⟨vo2,⟨rfl,up⟩,hR2,hk1.trans hk2⟩;skip
 by_cases k5:k=5
 ·subst k5
  simp only[show ¬(5:Int)=1 by decide,show ¬(5:Int)=2 by decide,show ¬(5:Int)=3 by decide,show ¬(5:Int)=4 by decide,if_false,if_true]at h
  cases hl0:l[0]? with
  |none=>rw[hl0]at h;cases h
  |some b=>
   simp only[hl0]at h;have hWh:=hWW b hl0 h;clear hWW;refine bD 134 [.tmp 4, .tmp 5] Tryz.func63 rfl rfl rfl rfl ?_;refine aB fun _ g=>aA rfl ?_;simp only[RR,seval];apply g;clear g;refine aH ?_;refine aB fun _ g=>aA rfl ?_;simp only[RR,seval];apply g;clear g;refine aI ?_;refine aB fun _ g=>aA rfl ?_;simp only[RR,seval];apply g;clear g;refine aF false rfl (fun hc=>by cases hc) (fun _=>?_);refine aB fun _ g=>aA rfl ?_;simp only[RR,seval];apply g;clear g;refine aF false rfl (fun hc=>by cases hc) (fun _=>?_);refine aB fun _ g=>aA rfl ?_;simp only[RR,seval];apply g;clear g;refine aF false rfl (fun hc=>by cases hc) (fun _=>?_);refine aB fun _ g=>aA rfl ?_;simp only[RR,seval];apply g;clear g;refine aF false rfl (fun hc=>by cases hc) (fun _=>?_);refine aB fun _ g=>aA rfl ?_;simp only[RR,seval];apply g;clear g;refine aF true rfl (fun _=>?_) (fun hc=>by cases hc);refine aB fun _ g=>aA rfl ?_;simp only[RR,seval];refine fA hWh (fun _=>trivial) ?_ ?_
   ·rintro e s vo2 H2 e1 hR2 hk2
    subst e1;simp only[bR,bZ,bT];exact⟨vo2,rfl,hR2,hk2⟩
   intro p s2 vo2 H2 e1 up hR2 hk2;subst e1;simp only[kT,RR,seval];apply g;clear g;refine aQ ?_;simp only[aX,aN,bI,RR,seval];exact aW.run ⟨vo2,⟨rfl,up⟩,hR2,hk2⟩;skip
 clear hWW;by_cases k6:k=6
 ·subst k6
  simp only[show ¬(6:Int)=1 by decide,show ¬(6:Int)=2 by decide,show ¬(6:Int)=3 by decide,show ¬(6:Int)=4 by decide,show ¬(6:Int)=5 by decide,if_false,if_true]at h;obtain⟨z0,_,f,hf,hp⟩:=w6 rfl
  cases h1:Mz cx n a l st with
  |none=>rw[h1]at h;cases h
  |some r1=>
   rw[h1]at h;have hcall:=ih.C i a f l st vo H r1 hes wl z0 hf hp hR h1;refine bD 134 [.tmp 4, .tmp 5] Tryz.func63 rfl rfl rfl rfl ?_;refine aB fun _ g=>aA rfl ?_;simp only[RR,seval];apply g;clear g;refine aH ?_;refine aB fun _ g=>aA rfl ?_;simp only[RR,seval];apply g;clear g;refine aI ?_;refine aB fun _ g=>aA rfl ?_;simp only[RR,seval];apply g;clear g;refine aF false rfl (fun hc=>by cases hc) (fun _=>?_);refine aB fun _ g=>aA rfl ?_;simp only[RR,seval];apply g;clear g;refine aF false rfl (fun hc=>by cases hc) (fun _=>?_);refine aB fun _ g=>aA rfl ?_;simp only[RR,seval];apply g;clear g;refine aF false rfl (fun hc=>by cases hc) (fun _=>?_);refine aB fun _ g=>aA rfl ?_;simp only[RR,seval];apply g;clear g;refine aF false rfl (fun hc=>by cases hc) (fun _=>?_);refine aB fun _ g=>aA rfl ?_;simp only[RR,seval];apply g;clear g;refine aF false rfl (fun hc=>by cases hc) (fun _=>?_);refine aB fun _ g=>aA rfl ?_;simp only[RR,seval];apply g;clear g;refine aF true rfl (fun _=>?_) (fun hc=>by cases hc);refine bB (fun _=>True) [(0,3),(1,3),(2,3),(3,3),(4,1),(5,3),(6,3),(7,3),(8,1),(9,1)] [] cX (by kernel_rfl) rfl rfl ?_;simp only[cH,RR,seval];refine fA hcall (fun _=>trivial) ?_ ?_
   ·rintro e s vo1 H1 e1 hR1 hk1
    subst e1;obtain rfl:=Option.some.inj (show some (Rz.fin e s)=some o from h);simp only[bR,bZ,bT];exact⟨vo1,rfl,hR1,hk1⟩
   intro x s1 vo1 H1 e1 ux hR1 hk1;subst e1;obtain rfl:=Option.some.inj (show some (Rz.val (none:Option Int) s1)=some o from h);simp only[RR,seval];refine aB fun _ g=>aA rfl ?_;simp only[RR,seval];apply g;clear g;refine aQ ?_;simp only[aX,aN,bI,RR,seval];exact aW.run ⟨vo1,⟨rfl,by simp [kU,cC]⟩,hR1,hk1⟩;skip
 by_cases k7:k=7
 ·subst k7
  simp only[show ¬(7:Int)=1 by decide,show ¬(7:Int)=2 by decide,show ¬(7:Int)=3 by decide,show ¬(7:Int)=4 by decide,show ¬(7:Int)=5 by decide,show ¬(7:Int)=6 by decide,if_false,if_true]at h
  cases hl0:l[0]? with
  |none=>
   simp only[hl0]at h;obtain rfl:=Option.some.inj h;have hle:l=[]:=by cases l with |nil=>rfl|cons a l=>simp at hl0
   subst hle;refine bD 134 [.tmp 4, .tmp 5] Tryz.func63 rfl rfl rfl rfl ?_;refine aB fun _ g=>aA rfl ?_;simp only[List.map_nil,RR,seval];apply g;clear g;refine aH ?_;refine aB fun _ g=>aA rfl ?_;simp only[List.map_nil,RR,seval];apply g;clear g;refine aI ?_;refine aB fun _ g=>aA rfl ?_;simp only[List.map_nil,RR,seval];apply g;clear g;refine aF false rfl (fun hc=>by cases hc) (fun _=>?_);refine aB fun _ g=>aA rfl ?_;simp only[List.map_nil,RR,seval];apply g;clear g;refine aF false rfl (fun hc=>by cases hc) (fun _=>?_);refine aB fun _ g=>aA rfl ?_;simp only[List.map_nil,RR,seval];apply g;clear g;refine aF false rfl (fun hc=>by cases hc) (fun _=>?_);refine aB fun _ g=>aA rfl ?_;simp only[List.map_nil,RR,seval];apply g;clear g;refine aF false rfl (fun hc=>by cases hc) (fun _=>?_);refine aB fun _ g=>aA rfl ?_;simp only[List.map_nil,RR,seval];apply g;clear g;refine aF false rfl (fun hc=>by cases hc) (fun _=>?_);refine aB fun _ g=>aA rfl ?_;simp only[List.map_nil,RR,seval];apply g;clear g;refine aF false rfl (fun hc=>by cases hc) (fun _=>?_);refine aB fun _ g=>aA rfl ?_;simp only[List.map_nil,RR,seval];apply g;clear g;refine aF true rfl (fun _=>?_) (fun hc=>by cases hc);refine aH ?_;refine aB fun _ g=>aA rfl ?_;simp only[List.map_nil,RR,seval];apply g;clear g;refine aF false rfl (fun hc=>by cases hc) (fun _=>?_);refine aM ?_;try simp only[RR]
   refine aB fun _ g=>aA rfl ?_;simp only[List.map_nil,RR,seval];apply g;clear g;refine aQ ?_;simp only[aX,aN,bI,RR,seval];exact aW.run ⟨vo,⟨rfl,by simp [kU,cC]⟩,hR,dQ.refl _ _ _ _⟩;skip
  |some b=>
   simp only[hl0]at h;have hg0:=lR hl0;have zl:(0:Int)<(l.length:Int):=by have:=(aZ.1 hl0).1;omega
   cases h1:lU cx n b st with
   |none=>rw[h1]at h;cases h
   |some r1=>
    rw[h1]at h;refine bD 134 [.tmp 4, .tmp 5] Tryz.func63 rfl rfl rfl rfl ?_;refine aB fun _ g=>aA rfl ?_;simp only[RR,seval];apply g;clear g;refine aH ?_;refine aB fun _ g=>aA rfl ?_;simp only[RR,seval];apply g;clear g;refine aI ?_;refine aB fun _ g=>aA rfl ?_;simp only[RR,seval];apply g;clear g;refine aF false rfl (fun hc=>by cases hc) (fun _=>?_);refine aB fun _ g=>aA rfl ?_;simp only[RR,seval];apply g;clear g;refine aF false rfl (fun hc=>by cases hc) (fun _=>?_);refine aB fun _ g=>aA rfl ?_;simp only[RR,seval];apply g;clear g;refine aF false rfl (fun hc=>by cases hc) (fun _=>?_);refine aB fun _ g=>aA rfl ?_;simp only[RR,seval];apply g;clear g;refine aF false rfl (fun hc=>by cases hc) (fun _=>?_);refine aB fun _ g=>aA rfl ?_;simp only[RR,seval];apply g;clear g;refine aF false rfl (fun hc=>by cases hc) (fun _=>?_);refine aB fun _ g=>aA rfl ?_;simp only[RR,seval];apply g;clear g;refine aF false rfl (fun hc=>by cases hc) (fun _=>?_);refine aB fun _ g=>aA rfl ?_;simp only[RR,seval];apply g;clear g;refine aF true rfl (fun _=>?_) (fun hc=>by cases hc);refine aH ?_;refine aB fun _ g=>aA rfl ?_;simp only[zl,aD,RR,seval];apply g;clear g;refine aF true rfl (fun _=>?_) (fun hc=>by cases hc);refine aB fun _ g=>aA rfl ?_;simp only[hg0,RR,seval];refine fA (ih.V i b st vo H r1 (kidok hl0) (kidw hl0) hR h1) (fun _=>trivial) ?_ ?_
    ·rintro e s vo1 H1 e1 hR1 hk1
     subst e1;obtain rfl:=Option.some.inj (show some (Rz.fin e s)=some o from h);simp only[bR,bZ,bT];exact⟨vo1,rfl,hR1,hk1⟩
    intro x s1 vo1 H1 e1 ux hR1 hk1;subst e1;obtain rfl:=Option.some.inj (show some (Rz.val (some x) s1)=some o from h);simp only[RR,seval];apply g;clear g;refine aQ ?_;simp only[aX,aN,bI,RR,seval];exact aW.run ⟨vo1,⟨rfl,ux⟩,hR1,hk1⟩;skip
 simp only[if_neg k1,if_neg k2,if_neg k3,if_neg k4,if_neg k5,if_neg k6,if_neg k7]at h;obtain rfl:=Option.some.inj h;refine bD 134 [.tmp 4, .tmp 5] Tryz.func63 rfl rfl rfl rfl ?_;refine aB fun _ g=>aA rfl ?_;simp only[RR,seval];apply g;clear g;refine aH ?_;refine aB fun _ g=>aA rfl ?_;simp only[RR,seval];apply g;clear g;refine aI ?_;refine aB fun _ g=>aA rfl ?_;simp only[k1,RR,seval];apply g;clear g;refine aF false rfl (fun hc=>by cases hc) (fun _=>?_);refine aB fun _ g=>aA rfl ?_;simp only[k2,RR,seval];apply g;clear g;refine aF false rfl (fun hc=>by cases hc) (fun _=>?_);refine aB fun _ g=>aA rfl ?_;simp only[k3,RR,seval];apply g;clear g;refine aF false rfl (fun hc=>by cases hc) (fun _=>?_);refine aB fun _ g=>aA rfl ?_;simp only[k4,RR,seval];apply g;clear g;refine aF false rfl (fun hc=>by cases hc) (fun _=>?_);refine aB fun _ g=>aA rfl ?_;simp only[k5,RR,seval];apply g;clear g;refine aF false rfl (fun hc=>by cases hc) (fun _=>?_);refine aB fun _ g=>aA rfl ?_;simp only[k6,RR,seval];apply g;clear g;refine aF false rfl (fun hc=>by cases hc) (fun _=>?_);refine aB fun _ g=>aA rfl ?_;simp only[k7,RR,seval];apply g;clear g;refine aF false rfl (fun hc=>by cases hc) (fun _=>?_);refine aM ?_;try simp only[RR]
 refine aB fun _ g=>aA rfl ?_;simp only[RR,seval];apply g;clear g;refine aQ ?_;simp only[aX,aN,bI,RR,seval];exact aW.run ⟨vo,⟨rfl,by simp [kU,cC]⟩,hR,dQ.refl _ _ _ _⟩;skip
end
end Go.Proofs.YtnfbbjhdflhmjaaGreatDoor
namespace Go.Proofs.YtnfbbjhdflhmjaaGreatDoor
open Go.Al
def El (cx:Kx) (n:Nat) (f:CF) (vs:List Int) (st:RS):Option (Rz Int):=
 bindR (some (eQ cx.cx st)) fun _ st=>(rH f vs st).bind fun st=>bindR (pE cx n f.body st) fun r st=>some (.val (r.getD 0) st)
def tD (vs:List Int):List AV:=vs.map (AV.int .u32)++List.replicate (6 -vs.length) (.int .u32 0)
theorem Md {α:Type} (f:Nat→α) (b:Nat) (x y:α):upd (upd f b x) b y=upd f b y:=by
 funext j;unfold upd;split<;>rfl
theorem Eg {vs:List Int} (h:vs.length≤6):(tD vs).length=6:=by
 simp only[tD,bU,aD,cO];omega
theorem Qy (vs:List Int):(tD vs).all one=true:=by
 simp only[tD,List.all_append,aK,List.all_eq_true];refine⟨fun x hx=>?_,fun x hx=>?_⟩
 ·obtain⟨y,_,rfl⟩:=List.mem_map.1 hx;rfl
 rw[List.eq_of_mem_replicate hx];rfl
theorem Qx {vs:List Int} (h:vs.length<6) (x:Int):(tD vs).take vs.length++[AV.int .u32 x]++(tD vs).drop (vs.length+1)=tD (vs++[x]):=by
 have e1:(vs.map (AV.int .u32)).length=vs.length:=aD ..
 have e2:List.replicate (6 -vs.length) (AV.int .u32 0)=AV.int .u32 0::List.replicate (6 -(vs.length+1)) (.int .u32 0):=by
  rw[show 6 -vs.length=(6 -(vs.length+1))+1 by omega];rfl
 unfold tD;rw[List.take_left' e1,e2,List.drop_append,e1,List.drop_eq_nil_of_le (by omega),List.nil_append,show vs.length+1 -vs.length=1 by omega,List.drop_succ_cons,List.drop_zero];simp
section
variable {cx : Kx} {W r w : Nat} {n : Nat}
set_option maxHeartbeats 4000000 in
theorem Nw (ih:Oi cx W r w n) (hx:zH cx W) (i:Nat) (a:Int) (f:CF) (l:List CE) (st:RS) (vo:AV) (H:Hp) (o:Rz Int) (hl:vE l) (hwl:rN (W:Int) cx.funs i l) (h0:0≤a) (hf:cx.funs[a.toNat]?=some f) (hp:f.params=l.length) (hR:fC cx W r w st vo H) (h:Mz cx (n+1) a l st=some o):
  gK cN 99 [.ptr 7 r 0 0, .int .i64 a, .isl 6 (l.map CE.row)] H (kY cx W r w vo H (fun x=> .int .u32 x) cC o):=by
 simp only[Mz,if_neg (show ¬a<0 by omega),hf]at h;obtain⟨p0,p1,p2,p3,p4⟩:=hx.funs.head _ _ hf;have hfw:=hx.funs.body _ _ hf;have hfb:=hx.body f (aL hf);have hwW:=hx.wl;have hl6:l.length≤6:=by omega
 have hfit:=hl.fit;simp only[cY]at hfit;obtain⟨al,rfl⟩:=Int.eq_ofNat_of_zero_le h0;rw[Int.toNat_natCast]at hf hfw;have zal:al<cx.funs.length:=(aZ.1 hf).1;have zal':(al:Int)<(cx.funs.length:Int):=by omega
 have hfr:(cx.funs.map CF.row)[al]?=some f.row:=by rw[bN,hf];rfl
 have hA: ∃ra,Bv cx n l st=some ra∧bindR (some ra) (fun vs s=>El cx n f vs s)=some o:=by
  cases hA:Bv cx n l st with
  |none=>rw[hA]at h;cases h
  |some ra=>rw[hA]at h;exact⟨ra,rfl,h⟩
 clear h;obtain⟨ra,hA,h⟩:=hA;obtain⟨HX,hHX⟩: ∃X,X=H:=⟨_,rfl⟩;obtain⟨fi,hfi⟩: ∃fi:Nat,f.first=fi:=⟨f.first.toNat,by omega⟩;obtain⟨sl,hsl⟩: ∃sl:Nat,f.slots=sl:=⟨f.slots.toNat,by omega⟩;have hrow:f.row=[.int .i64 (l.length:Int), .int .i64 (sl:Int), .int .i64 (fi:Int), .bool f.word, .isl 6 (f.body.map CS.row)]:=by unfold CF.row;rw[hp,hfi,hsl]
 rw[hrow]at hfr;rw[hp,hsl]at p2;rw[hfi,hsl]at p4;have e1:IntKind.wrap .i64 ((fi:Int)+(sl:Int))=((fi+sl:Nat):Int):=by rw[aR _ (by omega)];omega
 have zlo:(fi:Int)≤((fi+sl:Nat):Int):=by omega
 have z6:(l.length:Int)≤6:=by omega
 have hmin:min l.length sl=l.length:=by omega
 refine bD 70 [.tmp 6] Tryz.func99 rfl rfl rfl rfl ?_;refine aB fun _ g=>aA rfl ?_;simp only[RR,seval];apply g;clear g;refine aB fun _ g=>aA rfl ?_;simp only[RR,seval];refine aO fun b7 hn7=>?_;simp only[RR,seval];apply g;clear g;refine aH ?_;refine aB fun _ g=>aA rfl ?_;simp only[aD,RR,seval];apply g;clear g;refine bL fun F1 M1 hfr hH=>?_;have g0:=hfr 0;have g1:=hfr 1;have g2:=hfr 2;have g6:=hfr 6;have g7:=hfr 7;have g14:=hfr 14;have g15:=hfr 15;have gb7:=hH b7
 try simp only[RR,seval]at g0 g1 g2 g6 g7 g14 g15 gb7
 have hM:=funext hH;have hn:=hn7;have hRM:fC cx W r w st vo M1:=by rw[hM];exact hR.new hn7 _
 have nr7:b7≠r:=fun e=>by have:=hR.r;rw[←e,hn]at this;cases this
 have nw7:b7≠w:=fun e=>by have:=hR.v;rw[←e,hn]at this;cases this
 have no7:off vo b7:=hR.o.new hn;have hbM:M1 b7=some (.rows 6 [tD []]):=by rw[hM,bO];rfl
 have hkM:dQ r w vo vo HX M1:=by rw[hM,hHX];exact(dQ.refl _ _ _ _).updN hn _
 have f0:=g0;clear g0;have f1:=g1;clear g1;have f2:=g2;clear g2;have f6:=g6;clear g6;have f7:=g7;clear g7;have f14:=g14;clear g14;have f15:=g15;clear g15;have hb7:=gb7;clear gb7;clear hfr hH;refine aI ?_;refine cP [0,1,2,6,7,14] (l.length) (fun k fr M=>fr 15= .int .i64 (k:Nat)∧ ∃stk vok vs m rk,m≤n∧vs.length=k∧(∀x∈vs,cC x)∧Bv cx m (l.drop k) stk=some rk∧bindR (some rk) (fun vs' s=>El cx n f (vs++vs') s)=some o∧fC cx W r w stk vok M∧M b7=some (.rows 6 [tD vs])∧off vok b7∧dQ r w vo vok HX M) ⟨f15,st,vo,[],n,ra,aY _,rfl,(fun x hx=>by simp at hx),hA,(by simpa using h),hRM,hbM,no7,hkM⟩ ?_;rintro k F2 M2 hk0 ⟨fx,⟨stk,vok,vs,m,rk,hmn,hvs,huv,hAk,hk,hRk,hb7,hok,hkp⟩⟩ agx K0 hK0;have f0:=(agx 0 rfl).trans f0;have f1:=(agx 1 rfl).trans f1;have f2:=(agx 2 rfl).trans f2;have f6:=(agx 6 rfl).trans f6;have f7:=(agx 7 rfl).trans f7;have f14:=(agx 14 rfl).trans f14;have f15:=fx;clear fx;have ag0:=bE.refl [0,1,2,6,7,14] F2;clear agx;clear h hA;refine aB fun _ g=>aA rfl ?_;simp only[f14,f15,RR,seval];apply g;clear g;refine aH ?_;refine aF _ rfl (fun hc=>?_) (fun hc=>?_)
 ·have hlt0:k<l.length:=by have:=aC hc;omega
  clear hc;have hg0:=aG hlt0;have hdk:l.drop k=l[k]::l.drop (k+1):=bC hlt0;generalize l[k]=b at hg0 hdk;have hg:=lR hg0;rw[hdk]at hAk
  obtain⟨m',rfl⟩: ∃m',m=m'+1:=by
   cases m with
   |zero=>simp [Bv]at hAk
   |succ m'=>exact⟨m',rfl⟩
  simp only[Bv]at hAk
  obtain⟨r1,h1⟩: ∃r1,lU cx m' b stk=some r1:=by
   cases h1:lU cx m' b stk with
   |none=>rw[h1]at hAk;cases hAk
   |some r1=>exact⟨r1,rfl⟩
  rw[h1]at hAk;have zk:(k:Int)<6:=by omega
  have zk1:k+1≤6:=by omega
  have hlr:=Eg (vs:=vs) (by omega);have hset:=Qx (vs:=vs) (by omega);rw[hvs]at hset;have hV:=ih.V i b stk vok _ r1 (hl.all _ (aL hg0)) (oX hwl hg0).1 hRk (Fa (by omega) h1);generalize hrw:tD vs=rw0 at hset hlr hb7;refine aM ?_;try simp only[RR]
  refine aH ?_;refine aI ?_;refine aB fun _ g=>aA rfl ?_;simp only[f15,RR,seval];apply g;clear g;refine aA rfl ?_;simp only[f0,f2,hg,RR,seval];refine fA hV (fun _=>trivial) ?_ ?_
  ·rintro e s vo1 H1 e1 hR1 hk1
   subst e1;obtain rfl:=Option.some.inj (show some (Rz.fin e s)=some rk from hAk);obtain rfl:=Option.some.inj (show some (Rz.fin e s)=some o from hk);simp only[bR,bZ,bT];have hkk:=hkp.trans hk1;rw[hHX]at hkk;exact⟨vo1,rfl,hR1,hkk⟩
  intro x s1 vo1 H1 e1 ux hR1 hk1;subst e1;simp only[bindR]at hAk;obtain⟨hb7,hok1⟩:=hk1 b7 _ hb7 nr7 nw7 hok
  obtain⟨r',h2⟩: ∃r',Bv cx m' (l.drop (k+1)) s1=some r':=by
   cases h2:Bv cx m' (l.drop (k+1)) s1 with
   |none=>rw[h2]at hAk;cases hAk
   |some r'=>exact⟨r',rfl⟩
  rw[h2]at hAk
  have hk':bindR (some r') (fun vs' s=>El cx n f ((vs++[x])++vs') s)=some o:=by
   cases r' with
   |fin e s=>
    obtain rfl:=Option.some.inj (show some (Rz.fin e s)=some rk from hAk);exact hk
   |val vs' s=>
    obtain rfl:=Option.some.inj (show some (Rz.val (x::vs') s)=some rk from hAk);simpa [bindR]using hk
  simp only[f7,hb7,zk,zk1,hlr,RR,seval];have hst:=hset x;refine aA rfl ?_;simp only[f15,RR,seval]
  try rw[aR _ (by omega)]
  refine hK0 _ _ hlt0 ⟨by first|rfl|(simp only[aJ,seval];rfl),s1,vo1,vs++[x],m',r',(by omega),(by simp [hvs]),(fun y hy=>by rcases List.mem_append.1 hy with hy|hy;exact huv y hy;rw[List.mem_singleton.1 hy];exact ux),h2,hk',hR1.other nr7 nw7 hok1 _,(by rw[←hst];exact bO _ _ _),hok1,(hkp.trans hk1).updN (by rw[hHX];exact hn) _⟩ (by repeat (first|exact ag0|refine bE.upd rfl ?_))
 have hkn0:k=l.length:=by have:=aE hc;omega
 clear hc;rw[hkn0,List.drop_length]at hAk;rw[hkn0]at hvs
 have hk2:El cx n f vs stk=some o:=by
  cases m with
  |zero=>simp [Bv]at hAk
  |succ m'=>
   simp only[Bv,Option.some.injEq]at hAk;subst hAk;simpa [bindR]using hk
 clear hk hAk;unfold El at hk2;have hT:=De hx hRk;generalize hTT:eQ cx.cx stk=tt at hk2 hT;refine bH ?_;simp only[RR,seval];refine aB fun _ g=>aA rfl ?_;simp only[f0,RR,seval];refine fA hT (fun _=>trivial) ?_ ?_
 ·rintro e s vo1 H1 e1 hR1 hk1
  subst e1;obtain rfl:=Option.some.inj (show some (Rz.fin e s)=some o from hk2);simp only[bR,bT];have hkk:=hkp.trans hk1;rw[hHX]at hkk;exact⟨vo1,rfl,hR1,hkk⟩
 intro _ s1 vo1 H1 e1 _ hR1 hk1;subst e1;simp only[bindR]at hk2;have hr:=hR1.r;have hw:=hR1.v;have nr:=hR1.bwr;have nr':r≠w:=Ne.symm nr;obtain⟨hb7,hok1⟩:=hk1 b7 _ hb7 nr7 nw7 hok
 obtain⟨s2,he2,hk3⟩: ∃s2,rH f vs s1=some s2∧bindR (pE cx n f.body s2) (fun r st=>some (.val (r.getD 0) st))=some o:=by
  cases he2:rH f vs s1 with
  |none=>rw[he2]at hk2;cases hk2
  |some s2=>rw[he2]at hk2;exact⟨s2,rfl,hk2⟩
 have hs2:s2={s1 with vars:=s1.vars.take fi++(vs++List.replicate (sl-vs.length) 0)++s1.vars.drop (fi+sl)}:=by
  unfold rH at he2;rw[hfi,hsl]at he2;split at he2
  ·cases he2
   rw[show((fi:Int)+(sl:Int)).toNat=fi+sl by omega];rfl
  cases he2
 have hlw1:=hR1.lw;have zc:fi+sl≤s1.vars.length:=by omega
 have zh:((fi+sl:Nat):Int)≤(s1.vars.length:Int):=by omega
 have hlr:=Eg (vs:=vs) (by omega);have hone:=Qy vs;have her:=Je s1.vars vs fi sl zc (by omega) (List.replicate (6 -vs.length) (.int .u32 0));rw[show vs.map (AV.int .u32)++List.replicate (6 -vs.length) (.int .u32 0)=tD vs from rfl,hvs]at her;rw[hvs]at hs2
 have hu2: ∀x∈s1.vars.take fi++(vs++List.replicate (sl-l.length) 0)++s1.vars.drop (fi+sl),cC x:=fun x hx=>by
  simp only[List.mem_append]at hx;rcases hx with(hx|hx|hx)|hx
  ·exact hR1.uv x (List.mem_of_mem_take hx)
  ·exact huv x hx
  ·rw[List.eq_of_mem_replicate hx];exact Vz
  exact hR1.uv x (List.mem_of_mem_drop hx)
 have hl2:(s1.vars.take fi++(vs++List.replicate (sl-l.length) 0)++s1.vars.drop (fi+sl)).length=s1.vars.length:=by
  simp only[bU,cF,List.length_drop,cO,hvs];omega
 have hR2:=hR1.setAll hl2 hu2;have hk2':=hk1.trans (dQ.vars (br:=r) (bw:=w) (vo:=vo1) (some (.rows 1 ((s1.vars.take fi++(vs++List.replicate (sl-l.length) 0)++s1.vars.drop (fi+sl)).map cZ))));rw[←hs2]at hR2
 have hL1:((s1.vars.map cZ).take fi++List.replicate sl [AV.int .u32 0]++(s1.vars.map cZ).drop (fi+sl)).length=s1.vars.length:=by
  simp only[bU,cF,List.length_drop,cO,aD];omega
 clear hk2;generalize tD vs=ra0 at hb7 hlr hone her;simp only[RR,seval];apply g;clear g;refine aB fun _ g=>aA rfl ?_;simp only[f0,f1,hr,hfr,RR,seval];apply g;clear g;refine aB fun K g=>?_;refine bB (fun x=>x≠b7∧x≠r∧x≠w) [(0,3),(1,3),(2,3),(3,1),(4,3),(5,3),(6,3),(7,1),(8,3),(9,3),(10,3),(11,1),(12,3),(13,3),(14,3),(15,1),(16,3),(17,3),(18,3)] [] cX (by kernel_rfl) rfl rfl ?_;simp only[cH,f0,hr,e1,zlo,zh,Nat.add_sub_cancel_left,RR,seval];apply g;clear g;refine aB fun _ g=>aA rfl ?_;simp only[hw,aD,zc,RR,seval];apply g;clear g;refine aB fun _ g=>aA rfl ?_;simp only[f7,hb7,nw7,zc,hL1,z6,hl6,hlr,hone,hmin,Nat.sub_zero,RR,seval];apply g;clear g;refine aB fun _ g=>aA rfl ?_;simp only[f0,RR,seval];rw[Md,her]
 obtain⟨r3,h3⟩: ∃r3,pE cx n f.body s2=some r3:=by
  cases h3:pE cx n f.body s2 with
  |none=>rw[h3]at hk3;cases hk3
  |some r3=>exact⟨r3,rfl⟩
 rw[h3]at hk3;refine fA (ih.L al f.body s2 vo1 _ r3 hfb hfw hR2 h3) (fun _=>trivial) ?_ ?_
 ·rintro e s vo2 H2 e1 hR3 hk4
  subst e1;obtain rfl:=Option.some.inj (show some (Rz.fin e s)=some o from hk3);simp only[bR,bT];have hkk:=(hkp.trans hk2').trans hk4;rw[hHX]at hkk;exact⟨vo2,rfl,hR3,hkk⟩
 intro p s3 vo2 H2 e1 up hR3 hk4;subst e1;obtain rfl:=Option.some.inj (show some (Rz.val (p.getD 0) s3)=some o from hk3);have hkk:=(hkp.trans hk2').trans hk4;rw[hHX]at hkk;simp only[kT,RR,seval];apply g;clear g;refine aB fun _ g=>aA rfl ?_;simp only[RR,seval];apply g;clear g;refine aQ ?_;simp only[aX,aN,bI,RR,seval];exact aW.run ⟨vo2,⟨rfl,up⟩,hR3,hkk⟩;skip
theorem I5 (hx:zH cx W) (r w:Nat) (n:Nat):Oi cx W r w n:=by
 induction n with
 |zero=>
  constructor
  ·intro i e st vo H o _ _ _ h;simp [lU]at h
  ·intro i a f l st vo H o _ _ _ _ _ _ h;simp [Mz]at h
  ·intro i e st vo H o _ _ _ h;simp [Hh]at h
  ·intro i l st vo H o _ _ _ h;simp [pE]at h
  intro i e c st vo H o _ _ _ _ h;simp [Ij]at h
 |succ n ih=>
  exact⟨fun i e st vo H o h1 h2 h3 h4=>Hm ih hx i e st vo H o h1 h2 h3 h4,fun i a f l st vo H o h1 h2 h3 h4 h5 h6 h7=>Nw ih hx i a f l st vo H o h1 h2 h3 h4 h5 h6 h7,
   fun i e st vo H o h1 h2 h3 h4=>Rd ih hx i e st vo H o h1 h2 h3 h4,fun i l st vo H o h1 h2 h3 h4=>Vn ih i l st vo H o h1 h2 h3 h4,fun i e c st vo H o h1 h2 h3 h4 h5=>Hj ih hx i e c st vo H o h1 h2 h3 h4 h5⟩
end
end Go.Proofs.YtnfbbjhdflhmjaaGreatDoor
namespace Go.Al
theorem xQ: ∀l:List UInt8,iU (l.map jX)=some l
 |[]=>rfl
 |c::l=>by
  have h:UInt8.ofNat ((c.toNat:Int).toNat)=c:=by simp
  simp only[List.map_cons,jX,iU,tT,h,Option.bind_some];rw[xQ l];rfl
theorem fC.seal {cx:Kx} {W r w:Nat} {st:RS} {vo:AV} {H:Hp} {E:fY} {N:Nat} {Q:dI} {c:Code} {fr:Fr} (hR:fC cx W r w st vo H)
  (h: ∀fr' H',(∀j,xB (fr j)=true→fr' j=fr j)→H' r=some (.rows 7 [[.isl 5 (cx.funs.map CF.row), .osl 1 w st.vars.length, .str cx.inp, .int .i64 st.read, .isl 1 (st.out.map jX), .int .i64 st.ticks, .int .i64 cx.fuel]])→
   (∀b s l,b≠r→off vo b→(∀r∈l, ∀x∈r,xB x=true)→H b=some (.rows s l)→H' b=some (.rows s l))→jD E N c Q fr' H'):jD E N c Q fr H:=by
 have h0:H r=some (.rows 7 [[AV.isl 5 (cx.funs.map CF.row), .osl 1 w st.vars.length, .str cx.inp, .int .i64 st.read]++vo::[.int .i64 st.ticks, .int .i64 cx.fuel]]):=hR.r;refine kS hR.o h0 (fun x hx=>?_) (fun x hx=>?_) (hR.o.offsz hR.r (by decide)) fun fr' H' h1 h2 h3=>h fr' H' (fun j hj=>h1 j (cJ hj)) h2 fun b s l g1 g2 g3 g4=>h3 b s l g1 g2 (fun r hr x hx=>cJ (g3 r hr x hx)) g4
 ·simp only[List.mem_cons,List.not_mem_nil,or_false]at hx
  rcases hx with rfl|rfl|rfl|rfl
  ·exact cJ rfl
  ·intro s b n e
   cases e;exact hR.ov
  ·exact cJ rfl
  exact cJ rfl
 simp only[List.mem_cons,List.not_mem_nil,or_false]at hx;rcases hx with rfl|rfl<;>exact cJ rfl
end Go.Al
namespace Go.Proofs.YtnfbbjhdflhmjaaGreatDoor
open Go.Al
def Iu (b6:Nat):Fr:=upd (fun _=> .undef) 6 (.ptr 3 b6 0 0)
noncomputable def Bg:Code:=Qz Tryz.f35.body
def Em (e:Int) (out:cR) (t:Nat):AV:= .agg [.int .i64 e, .str out, .int .i64 t]
theorem Zt (b7 b6:Nat) (H:Hp) (R:kD→Hp→Prop) (e:Int) (out:cR) (t:Nat) (h6:H b6=some (.rows 3 [[.int .i64 e, .str out, .int .i64 t]])) (hR:R (.ret (Em e out t)) oV):
  vI cN 23 Bg [.ptr 1 b7 0 0, .ptr 3 b6 0 0] 5 [.cell 6 43] (Iu b6) R .nif H:=by
 unfold vI Bg
 have hres:aN cN.P (Iu b6) H [.cell 6 43]=some (Em e out t):=by
  simp only[aN,bI,Iu,h6,RR,seval];rfl
 refine aI ?_;refine aB fun _ g=>aA rfl ?_;simp only[Gt.eq_1,G4.eq_1,RR,seval];apply g;clear g;refine aF true rfl (fun _=>?_) (fun hc=>by cases hc);refine aA rfl ?_;simp only[RR,seval];exact⟨.inl trivial,_,hres,⟨_,oV,jM.drop (lD _),hR⟩⟩
theorem Zs {cx:Kx} {W r w:Nat} {st:RS} {vo:AV} (b7 b6:Nat) (H:Hp) (R:kD→Hp→Prop) (e:Int) (hR:fC cx W r w st vo H) (h7:H b7=some (.rows 1 [[.ptr 7 r 0 0]])) (o7:off vo b7) (h6:H b6=some (.rows 3 [[.int .i64 0, .str [], .int .i64 0]])) (hRR:R (.ret (Em e st.out st.ticks)) oV):
  vI cN 23 Bg [.ptr 1 b7 0 0, .ptr 3 b6 0 0] 5 [.cell 6 43] (Iu b6) R (Jf e) H:=by
 unfold vI Bg Jf;have n67:b6≠b7:=fun c=>by rw[c,h7]at h6;cases h6
 have n6r:b6≠r:=fun c=>by rw[c,hR.r]at h6;cases h6
 have n7r:b7≠r:=fun c=>by rw[c,hR.r]at h7;cases h7
 refine fC.seal hR fun fr' H' hfr hr' hkp=>?_;have h7:=hkp b7 _ _ n7r o7 (fun r hr x hx=>by simp only[List.mem_singleton]at hr;subst hr;simp only[List.mem_singleton]at hx;subst hx;rfl) h7;have h6:=hkp b6 _ _ n6r (hR.o.offsz h6 (by decide)) (fun r hr x hx=>by simp only[List.mem_singleton]at hr;subst hr;simp only[List.mem_cons,List.not_mem_nil,or_false]at hx;rcases hx with rfl|rfl|rfl<;>rfl) h6;have f0:fr' 0= .ptr 1 b7 0 0:=hfr 0 rfl;have f1:fr' 1= .ptr 3 b6 0 0:=hfr 1 rfl;have f5:fr' 5= .ifc 78 (.agg [.int .i64 e]):=hfr 5 rfl;have hb:=xQ st.out;have hb6:=h6;have hb7:=h7;have hr:=hr';clear h6 h7 hr' hkp hfr;have hC:= @iS;refine aI ?_;refine aB fun _ g=>aA rfl ?_;simp only[f5,Gt.eq_1,aq,RR,seval];apply g;clear g;refine aF false rfl (fun hc=>by cases hc) (fun _=>?_);refine aB fun _ g=>aA rfl ?_;simp only[f5,iS,aq,RR,seval];apply g;clear g;refine aF true rfl (fun _=>?_) (fun hc=>by cases hc);refine aB fun _ g=>aA rfl ?_;simp only[RR,seval];refine aO fun b3 hn3=>?_;have nb3_b6:b3≠b6:=fun e=>by rw[e]at hn3;simp only[hb6,seval,reduceCtorEq]at hn3
 have nb6_b3:b6≠b3:=fun e=>nb3_b6 e.symm;have nb3_b7:b3≠b7:=fun e=>by rw[e]at hn3;simp only[hb7,seval,reduceCtorEq]at hn3
 have nb7_b3:b7≠b3:=fun e=>nb3_b7 e.symm;have nb3_r:b3≠r:=fun e=>by rw[e]at hn3;simp only[hr,seval,reduceCtorEq]at hn3
 have nr_b3:r≠b3:=fun e=>nb3_r e.symm;simp only[RR,seval];apply g;clear g;refine bB (fun x=>x≠b7∧x≠r) [(0,3),(1,1),(2,1),(3,3),(4,3),(5,1),(6,3),(7,1),(8,3),(9,3),(10,1),(11,3)] [(12,1)] cX (by kernel_rfl) rfl rfl ?_;simp only[cH,f0,f1,hb6,hb7,hr,nb6_b3,nb7_b3,nr_b3,aq,hb,RR,seval]
 try simp only[aN,bI,RR,seval]
 refine⟨.inl trivial,Em e st.out st.ticks, ?_,⟨_,oV,jM.drop (lD _),hRR⟩⟩;simp only[Iu,RR,seval];rfl
end Go.Proofs.YtnfbbjhdflhmjaaGreatDoor
