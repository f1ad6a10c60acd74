/- Chapter 19, the program's: an expression's value. -/
import Derived.Test.YtnfbbjhdflhmjaaGreatDoorGLc
set_option linter.unusedSimpArgs false
set_option linter.unusedVariables false
set_option maxRecDepth 10000
namespace Go.Proofs.YtnfbbjhdflhmjaaGreatDoor
open Go.Al
def kT (p:Option Int):AV:= .tup [.int .u32 (p.getD 0), .bool p.isSome]
def kU (p:Option Int):Prop:=cC (p.getD 0)
structure Oi (cx:Kx) (W r w:Nat) (n:Nat):Prop where
 V: ∀(i:Nat) (e:CE) (st:RS) (vo:AV) (H:Hp) (o:Rz Int),e.ok→Ub (W:Int) cx.funs i e→fC cx W r w st vo H→lU cx n e st=some o→
  gK cN 95 [.ptr 7 r 0 0, .ipt e.row 0] H (kY cx W r w vo H (fun x=> .int .u32 x) cC o)
 C: ∀(i:Nat) (a:Int) (f:CF) (l:List CE) (st:RS) (vo:AV) (H:Hp) (o:Rz Int),vE l→rN (W:Int) cx.funs i l→0≤a→cx.funs[a.toNat]?=some f→f.params=l.length→fC cx W r w st vo H→Mz cx n a l st=some o→
  gK cN 99 [.ptr 7 r 0 0, .int .i64 a, .isl 6 (l.map CE.row)] H (kY cx W r w vo H (fun x=> .int .u32 x) cC o)
 S: ∀(i:Nat) (e:CS) (st:RS) (vo:AV) (H:Hp) (o:Rz (Option Int)),e.ok→Ua (W:Int) cx.funs i e→fC cx W r w st vo H→Hh cx n e st=some o→
  gK cN 63 [.ptr 7 r 0 0, .ipt e.row 0] H (kY cx W r w vo H kT kU o)
 L: ∀(i:Nat) (l:List CS) (st:RS) (vo:AV) (H:Hp) (o:Rz (Option Int)),Es l→qF (W:Int) cx.funs i l→fC cx W r w st vo H→pE cx n l st=some o→
  gK cN 36 [.ptr 7 r 0 0, .isl 6 (l.map CS.row)] H (kY cx W r w vo H kT kU o)
 W: ∀(i:Nat) (e:CS) (c:CE) (st:RS) (vo:AV) (H:Hp) (o:Rz (Option Int)),e.ok→Ua (W:Int) cx.funs i e→e.es[0]?=some c→fC cx W r w st vo H→Ij cx n c e.thn st=some o→
  gK cN 98 [.ptr 7 r 0 0, .ipt e.row 0] H (kY cx W r w vo H kT kU o)
theorem lR {l:List CE} {i:Nat} {x:CE} (h:l[i]?=some x):(l.map CE.row)[i]?=some x.row:=by rw[bN,h];rfl
theorem Zv {l:List CS} {i:Nat} {x:CS} (h:l[i]?=some x):(l.map CS.row)[i]?=some x.row:=by rw[bN,h];rfl
theorem mU {l:List Int} {i:Nat} {x:Int} (h:l[i]?=some x):(l.map cZ)[i]?=some [.int .u32 x]:=by rw[bN,h];rfl
theorem wP {a:Int} {st:RS} {x:Int} (h:qM a st=some x):0≤a∧a<(st.vars.length:Int)∧st.vars[a.toNat]?=some x:=by
 unfold qM at h;by_cases h0:0≤a
 ·rw[if_pos h0]at h
  have:=(aZ.1 h).1;exact⟨h0,by omega,h⟩
 rw[if_neg h0]at h;cases h
section
variable {cx : Kx} {W r w : Nat} {n : Nat}
set_option maxHeartbeats 2000000 in
theorem Hm (ih:Oi cx W r w n) (hx:zH cx W) (i:Nat) (e:CE) (st:RS) (vo:AV) (H:Hp) (o:Rz Int) (he:e.ok) (hw:Ub (W:Int) cx.funs i e) (hR:fC cx W r w st vo H) (h:lU cx (n+1) e st=some o):
  gK cN 95 [.ptr 7 r 0 0, .ipt e.row 0] H (kY cx W r w vo H (fun x=> .int .u32 x) cC o):=by
 obtain⟨k,op,m,a,z,l⟩:=e;have hr:=hR.r;have hnum:=he.num;have hkids:=he.kids;simp only[CE.num,CE.kids]at hnum hkids;simp only[lU]at h;simp only[Ub]at hw;obtain⟨_,w2,w3,w4,w7,w6,wl⟩:=hw;rw[CE.row_eq];simp only[CE.kind,CE.op,CE.num,CE.slot,CE.size,CE.kids];have kidw: ∀{j:Nat} {b:CE},l[j]?=some b→Ub (W:Int) cx.funs i b:=fun hj=>(oX wl hj).1;have kidok: ∀{j:Nat} {b:CE},l[j]?=some b→b.ok:=fun hj=>hkids.all _ (aL hj);have hW:=hx.wl;by_cases k1:k=1
 ·subst k1
  simp only[if_true]at h;cases h;refine bD 143 [.tmp 4] Tryz.func95 rfl rfl rfl rfl ?_;refine aB fun _ g=>aA rfl ?_;simp only[RR,seval];apply g;clear g;refine aH ?_;refine aB fun _ g=>aA rfl ?_;simp only[RR,seval];apply g;clear g;refine aI ?_;refine aB fun _ g=>aA rfl ?_;simp only[RR,seval];apply g;clear g;refine aF true rfl (fun _=>?_) (fun hc=>by cases hc);refine aB fun _ g=>aA rfl ?_;simp only[RR,seval];apply g;clear g;refine aQ ?_;simp only[aX,aN,bI,RR,seval];exact aW.run ⟨vo,⟨rfl,hnum⟩,hR,dQ.refl _ _ _ _⟩;skip
 by_cases k2:k=2
 ·subst k2
  simp only[show ¬(2:Int)=1 by decide,if_false,if_true,aV]at h;obtain⟨x,hg,rfl⟩:=h;obtain⟨z0,zl,hg⟩:=wP hg;have hgx:=mU hg;have hux:=hR.uv x (aL hg);have hw:=hR.v;refine bD 143 [.tmp 4] Tryz.func95 rfl rfl rfl rfl ?_;refine aB fun _ g=>aA rfl ?_;simp only[RR,seval];apply g;clear g;refine aH ?_;refine aB fun _ g=>aA rfl ?_;simp only[RR,seval];apply g;clear g;refine aI ?_;refine aB fun _ g=>aA rfl ?_;simp only[RR,seval];apply g;clear g;refine aF false rfl (fun hc=>by cases hc) (fun _=>?_);refine aB fun _ g=>aA rfl ?_;simp only[RR,seval];apply g;clear g;refine aF true rfl (fun _=>?_) (fun hc=>by cases hc);refine aB fun K g=>?_;refine bB (fun x=>x≠r∧x≠w) [(0,3),(1,3),(2,3),(3,1),(4,3),(5,3),(6,3),(7,1),(8,3),(9,1),(10,3)] [] cX (by kernel_rfl) rfl rfl ?_;simp only[cH,hr,hw,z0,zl,hgx,RR,seval];apply g;clear g;refine aQ ?_;simp only[aX,aN,bI,RR,seval];exact aW.run ⟨vo,⟨rfl,hux⟩,hR,dQ.refl _ _ _ _⟩;skip
 by_cases k3:k=3
 ·subst k3
  simp only[show ¬(3:Int)=1 by decide,show ¬(3:Int)=2 by decide,if_false,if_true]at h;obtain⟨a0,a1,a2,a3,a4⟩:=w3 rfl
  cases hl0:l[0]? with
  |none=>rw[hl0]at h;cases h
  |some b=>
   simp only[hl0]at h;have hg0:=lR hl0
   cases h1:lU cx n b st with
   |none=>rw[h1]at h;cases h
   |some r1=>
    rw[h1]at h;refine bD 143 [.tmp 4] Tryz.func95 rfl rfl rfl rfl ?_;refine aB fun _ g=>aA rfl ?_;simp only[RR,seval];apply g;clear g;refine aH ?_;refine aB fun _ g=>aA rfl ?_;simp only[RR,seval];apply g;clear g;refine aI ?_;refine aB fun _ g=>aA rfl ?_;simp only[RR,seval];apply g;clear g;refine aF false rfl (fun hc=>by cases hc) (fun _=>?_);refine aB fun _ g=>aA rfl ?_;simp only[RR,seval];apply g;clear g;refine aF false rfl (fun hc=>by cases hc) (fun _=>?_);refine aB fun _ g=>aA rfl ?_;simp only[RR,seval];apply g;clear g;refine aF true rfl (fun _=>?_) (fun hc=>by cases hc);refine aB fun _ g=>aA rfl ?_;simp only[hg0,RR,seval];refine fA (ih.V i b st vo H r1 (kidok hl0) (kidw hl0) hR h1) (fun _=>trivial) (fun e s vo1 H1 e1 hR1 hk1=>by subst e1;obtain rfl:=Option.some.inj (show some (Rz.fin e s)=some o from h);simp only[bR,bZ,bT];exact⟨vo1,rfl,hR1,hk1⟩) fun x s1 vo1 H1 e1 ux hR1 hk1=>?_;subst e1;simp only[bindR]at h;have hr:=hR1.r;simp only[RR,seval];apply g;clear g;refine aB fun K g=>?_;refine bB (fun x=>x≠r) [(0,3),(1,3),(2,3),(3,0),(4,3),(5,3),(6,3),(7,3),(8,1),(9,3),(10,3),(11,3),(12,1),(13,3),(14,1),(15,3),(16,1),(17,3)] [] cX (by kernel_rfl) rfl rfl ?_;simp only[cH,dY,hr,RR,seval];by_cases hxz:x<z
    rotate_left
    ·unfold Xw at h
     rw[if_neg hxz]at h;obtain rfl:=Option.some.inj (show some (Rz.fin 3 s1)=some o from h);refine Lu ux ⟨by omega,a2⟩ hxz ?_;simp only[bR,bZ,bT];exact⟨vo1,rfl,hR1,hk1⟩
    unfold Xw at h;rw[if_pos hxz]at h;simp only[aV]at h;obtain⟨y,hy,rfl⟩:=h;obtain⟨z0,zl,hy⟩:=wP hy;have hgy:=mU hy;have uy:=hR1.uv y (aL hy);have hw:=hR1.v;refine aU (Tn _ ux ⟨by omega,a2⟩ ⟨a0,by omega⟩ hxz) ?_;simp only[z0,zl,hw,hgy,RR,seval];apply g;clear g;refine aQ ?_;simp only[aX,aN,bI,RR,seval];exact aW.run ⟨vo1,⟨rfl,uy⟩,hR1,hk1⟩;skip
 by_cases k4:k=4
 ·subst k4
  simp only[show ¬(4:Int)=1 by decide,show ¬(4:Int)=2 by decide,show ¬(4:Int)=3 by decide,if_false,if_true]at h;obtain⟨z0,_,f,hf,hp⟩:=w4 rfl;have hcall:=ih.C i a f l st vo H o hkids wl z0 hf hp hR h;refine bD 143 [.tmp 4] Tryz.func95 rfl rfl rfl rfl ?_;refine aB fun _ g=>aA rfl ?_;simp only[RR,seval];apply g;clear g;refine aH ?_;refine aB fun _ g=>aA rfl ?_;simp only[RR,seval];apply g;clear g;refine aI ?_;refine aB fun _ g=>aA rfl ?_;simp only[RR,seval];apply g;clear g;refine aF false rfl (fun hc=>by cases hc) (fun _=>?_);refine aB fun _ g=>aA rfl ?_;simp only[RR,seval];apply g;clear g;refine aF false rfl (fun hc=>by cases hc) (fun _=>?_);refine aB fun _ g=>aA rfl ?_;simp only[RR,seval];apply g;clear g;refine aF false rfl (fun hc=>by cases hc) (fun _=>?_);refine aB fun _ g=>aA rfl ?_;simp only[RR,seval];apply g;clear g;refine aF true rfl (fun _=>?_) (fun hc=>by cases hc);refine aB fun K g=>?_;refine bB (fun _=>True) [(0,3),(1,3),(2,3),(3,3),(4,1),(5,3),(6,3),(7,3),(8,1),(9,1),(10,3)] [] cX (by kernel_rfl) rfl rfl ?_;simp only[cH,RR,seval];refine fA hcall (fun _=>trivial) (fun e s vo1 H1 e1 hR1 hk1=>by subst e1;simp only[bR,bZ,bT];exact⟨vo1,rfl,hR1,hk1⟩) fun x s1 vo1 H1 e1 ux hR1 hk1=>?_;subst e1;simp only[RR,seval];apply g;clear g;refine aQ ?_;simp only[aX,aN,bI,RR,seval];exact aW.run ⟨vo1,⟨rfl,ux⟩,hR1,hk1⟩;skip
 by_cases k5:k=5
 ·subst k5
  simp only[show ¬(5:Int)=1 by decide,show ¬(5:Int)=2 by decide,show ¬(5:Int)=3 by decide,show ¬(5:Int)=4 by decide,if_false,if_true,Option.some.injEq]at h;have hget:=Vg hx hR;rw[h]at hget;refine bD 143 [.tmp 4] Tryz.func95 rfl rfl rfl rfl ?_;refine aB fun _ g=>aA rfl ?_;simp only[RR,seval];apply g;clear g;refine aH ?_;refine aB fun _ g=>aA rfl ?_;simp only[RR,seval];apply g;clear g;refine aI ?_;refine aB fun _ g=>aA rfl ?_;simp only[RR,seval];apply g;clear g;refine aF false rfl (fun hc=>by cases hc) (fun _=>?_);refine aB fun _ g=>aA rfl ?_;simp only[RR,seval];apply g;clear g;refine aF false rfl (fun hc=>by cases hc) (fun _=>?_);refine aB fun _ g=>aA rfl ?_;simp only[RR,seval];apply g;clear g;refine aF false rfl (fun hc=>by cases hc) (fun _=>?_);refine aB fun _ g=>aA rfl ?_;simp only[RR,seval];apply g;clear g;refine aF false rfl (fun hc=>by cases hc) (fun _=>?_);refine aB fun _ g=>aA rfl ?_;simp only[RR,seval];apply g;clear g;refine aF true rfl (fun _=>?_) (fun hc=>by cases hc);refine aB fun _ g=>aA rfl ?_;simp only[RR,seval];refine fA hget (fun _=>trivial) (fun e s vo1 H1 e1 hR1 hk1=>by subst e1;simp only[bR,bZ,bT];exact⟨vo1,rfl,hR1,hk1⟩) fun x s1 vo1 H1 e1 ux hR1 hk1=>?_;subst e1;simp only[RR,seval];apply g;clear g;refine aQ ?_;simp only[aX,aN,bI,RR,seval];exact aW.run ⟨vo1,⟨rfl,ux⟩,hR1,hk1⟩;skip
 simp only[if_neg k1,if_neg k2,if_neg k3,if_neg k4,if_neg k5]at h
 cases hl0:l[0]? with
 |none=>rw[hl0]at h;cases h
 |some b=>
  simp only[hl0]at h;have hg0:=lR hl0;by_cases k7:k=7
  ·subst k7
   simp only[if_true]at h
   cases h1:lU cx n b st with
   |none=>rw[h1]at h;cases h
   |some r1=>
    rw[h1]at h;refine bD 143 [.tmp 4] Tryz.func95 rfl rfl rfl rfl ?_;refine aB fun _ g=>aA rfl ?_;simp only[RR,seval];apply g;clear g;refine aH ?_;refine aB fun _ g=>aA rfl ?_;simp only[RR,seval];apply g;clear g;refine aI ?_;refine aB fun _ g=>aA rfl ?_;simp only[RR,seval];apply g;clear g;refine aF false rfl (fun hc=>by cases hc) (fun _=>?_);refine aB fun _ g=>aA rfl ?_;simp only[RR,seval];apply g;clear g;refine aF false rfl (fun hc=>by cases hc) (fun _=>?_);refine aB fun _ g=>aA rfl ?_;simp only[RR,seval];apply g;clear g;refine aF false rfl (fun hc=>by cases hc) (fun _=>?_);refine aB fun _ g=>aA rfl ?_;simp only[RR,seval];apply g;clear g;refine aF false rfl (fun hc=>by cases hc) (fun _=>?_);refine aB fun _ g=>aA rfl ?_;simp only[RR,seval];apply g;clear g;refine aF false rfl (fun hc=>by cases hc) (fun _=>?_);refine aB fun _ g=>aA rfl ?_;simp only[RR,seval];apply g;clear g;refine aF false rfl (fun hc=>by cases hc) (fun _=>?_);refine aB fun _ g=>aA rfl ?_;simp only[RR,seval];apply g;clear g;refine aF true rfl (fun _=>?_) (fun hc=>by cases hc);refine aB fun _ g=>aA rfl ?_;simp only[hg0,RR,seval];refine fA (ih.V i b st vo H r1 (kidok hl0) (kidw hl0) hR h1) (fun _=>trivial) (fun e s vo1 H1 e1 hR1 hk1=>by subst e1;obtain rfl:=Option.some.inj (show some (Rz.fin e s)=some o from h);simp only[bR,bZ,bT];exact⟨vo1,rfl,hR1,hk1⟩) fun x s1 vo1 H1 e1 ux hR1 hk1=>?_;subst e1;simp only[bindR]at h;cases h;simp only[RR,seval];refine aU (sV _) ?_;simp only[RR,seval];apply g;clear g;refine aQ ?_;simp only[aX,aN,bI,RR,seval];exact aW.run ⟨vo1,⟨by by_cases hz:x=0<;>simp [hz],by by_cases hz:x=0<;>simp [hz,cC]⟩,hR1,hk1⟩;skip
  rw[if_neg k7]at h
  cases hl1:l[1]? with
  |none=>rw[hl1]at h;cases h
  |some d=>
   simp only[hl1]at h;have hg1:=lR hl1;by_cases k6:k=6
   ·subst k6
    simp only[if_true]at h
    cases h1:lU cx n b st with
    |none=>rw[h1]at h;cases h
    |some r1=>
     rw[h1]at h;refine bD 143 [.tmp 4] Tryz.func95 rfl rfl rfl rfl ?_;refine aB fun _ g=>aA rfl ?_;simp only[RR,seval];apply g;clear g;refine aH ?_;refine aB fun _ g=>aA rfl ?_;simp only[RR,seval];apply g;clear g;refine aI ?_;refine aB fun _ g=>aA rfl ?_;simp only[RR,seval];apply g;clear g;refine aF false rfl (fun hc=>by cases hc) (fun _=>?_);refine aB fun _ g=>aA rfl ?_;simp only[RR,seval];apply g;clear g;refine aF false rfl (fun hc=>by cases hc) (fun _=>?_);refine aB fun _ g=>aA rfl ?_;simp only[RR,seval];apply g;clear g;refine aF false rfl (fun hc=>by cases hc) (fun _=>?_);refine aB fun _ g=>aA rfl ?_;simp only[RR,seval];apply g;clear g;refine aF false rfl (fun hc=>by cases hc) (fun _=>?_);refine aB fun _ g=>aA rfl ?_;simp only[RR,seval];apply g;clear g;refine aF false rfl (fun hc=>by cases hc) (fun _=>?_);refine aB fun _ g=>aA rfl ?_;simp only[RR,seval];apply g;clear g;refine aF true rfl (fun _=>?_) (fun hc=>by cases hc);refine aB fun _ g=>aA rfl ?_;simp only[hg0,RR,seval];refine fA (ih.V i b st vo H r1 (kidok hl0) (kidw hl0) hR h1) (fun _=>trivial) (fun e s vo1 H1 e1 hR1 hk1=>by subst e1;obtain rfl:=Option.some.inj (show some (Rz.fin e s)=some o from h);simp only[bR,bZ,bT];exact⟨vo1,rfl,hR1,hk1⟩) fun x s1 vo1 H1 e1 ux hR1 hk1=>?_;subst e1;simp only[bindR]at h;have hr:=hR1.r
     obtain⟨r2,h2⟩: ∃r2,lU cx n d s1=some r2:=by
      cases h2:lU cx n d s1 with
      |none=>rw[h2]at h;cases h
      |some r2=>exact⟨r2,rfl⟩
     rw[h2]at h;simp only[RR,seval];apply g;clear g;refine aB fun _ g=>aA rfl ?_;simp only[hg1,RR,seval];refine fA (ih.V i d s1 vo1 H1 r2 (kidok hl1) (kidw hl1) hR1 h2) (fun _=>trivial) (fun e s vo2 H2 e1 hR2 hk2=>by subst e1;obtain rfl:=Option.some.inj (show some (Rz.fin e s)=some o from h);simp only[bR,bZ,bT];exact⟨vo2,rfl,hR2,hk1.trans hk2⟩) fun y s2 vo2 H2 e1 uy hR2 hk2=>?_;subst e1;simp only[]at h;have hr:=hR2.r;have hA:=Bj op x y uy;have uA:=sM op ux uy;generalize cU op x y=q at hA uA h;obtain⟨q1,q2⟩:=q;simp only[RR,seval];apply g;clear g;refine aB fun _ g=>aA rfl ?_;simp only[RR,seval];refine aU (hA) ?_;simp only[RR,seval];apply g;clear g;refine aH ?_;refine aB fun _ g=>aA rfl ?_;simp only[RR,seval];apply g;clear g;refine aF _ rfl (fun hc17=>?_) (fun hc17=>?_)
     ·rw[if_neg (show ¬q2=0 by simpa using hc17)]at h
      cases h;refine aA rfl ?_;simp only[RR,seval];simp only[bR,bZ,bT];exact⟨vo2,rfl,hR2,hk1.trans hk2⟩
     rw[if_pos (show q2=0 by simpa using hc17)]at h;cases h;refine aM ?_;try simp only[RR]
     refine aB fun _ g=>aA rfl ?_;simp only[RR,seval];apply g;clear g;refine aQ ?_;simp only[aX,aN,bI,RR,seval];exact aW.run ⟨vo2,⟨rfl,uA⟩,hR2,hk1.trans hk2⟩;skip
   rw[if_neg k6]at h
   cases h1:lU cx n b st with
   |none=>rw[h1]at h;cases h
   |some r1=>
    rw[h1]at h
    have hk9:decide (k=9)= !decide (k=8):=by
     rcases(w6 k1 k2 k3 k4 k5 k7).2 with e|rfl|rfl
     ·exact absurd e k6
     ·rfl
     rfl
    refine bD 143 [.tmp 4] Tryz.func95 rfl rfl rfl rfl ?_;refine aB fun _ g=>aA rfl ?_;simp only[RR,seval];apply g;clear g;refine aH ?_;refine aB fun _ g=>aA rfl ?_;simp only[RR,seval];apply g;clear g;refine aI ?_;refine aB fun _ g=>aA rfl ?_;simp only[k1,RR,seval];apply g;clear g;refine aF false rfl (fun hc=>by cases hc) (fun _=>?_);refine aB fun _ g=>aA rfl ?_;simp only[k2,RR,seval];apply g;clear g;refine aF false rfl (fun hc=>by cases hc) (fun _=>?_);refine aB fun _ g=>aA rfl ?_;simp only[k3,RR,seval];apply g;clear g;refine aF false rfl (fun hc=>by cases hc) (fun _=>?_);refine aB fun _ g=>aA rfl ?_;simp only[k4,RR,seval];apply g;clear g;refine aF false rfl (fun hc=>by cases hc) (fun _=>?_);refine aB fun _ g=>aA rfl ?_;simp only[k5,RR,seval];apply g;clear g;refine aF false rfl (fun hc=>by cases hc) (fun _=>?_);refine aB fun _ g=>aA rfl ?_;simp only[k6,RR,seval];apply g;clear g;refine aF false rfl (fun hc=>by cases hc) (fun _=>?_);refine aB fun _ g=>aA rfl ?_;simp only[k7,RR,seval];apply g;clear g;refine aF false rfl (fun hc=>by cases hc) (fun _=>?_);refine aM ?_;try simp only[RR]
    refine aB fun _ g=>aA rfl ?_;simp only[hg0,RR,seval];refine fA (ih.V i b st vo H r1 (kidok hl0) (kidw hl0) hR h1) (fun _=>trivial) (fun e s vo1 H1 e1 hR1 hk1=>by subst e1;obtain rfl:=Option.some.inj (show some (Rz.fin e s)=some o from h);simp only[bR,bT];exact⟨vo1,rfl,hR1,hk1⟩) fun x s1 vo1 H1 e1 ux hR1 hk1=>?_;subst e1;simp only[bindR]at h;have hr:=hR1.r;simp only[RR,seval];apply g;clear g;refine aH ?_;refine aB fun _ g=>aA rfl ?_;simp only[hk9,RR,seval];apply g;clear g;refine aF _ rfl (fun hc23=>?_) (fun hc23=>?_)
    ·rw[if_pos (show decide (x=0)=decide (k=8)by simpa using hc23)]at h
     cases h;refine aB fun _ g=>aA rfl ?_;simp only[RR,seval];refine aU (sV _) ?_;simp only[RR,seval];apply g;clear g;refine aQ ?_;simp only[aX,aN,bI,RR,seval];exact aW.run ⟨vo1,⟨by by_cases hz:x=0<;>simp [hz],by by_cases hz:x=0<;>simp [hz,cC]⟩,hR1,hk1⟩
    rw[if_neg (show ¬decide (x=0)=decide (k=8)by simpa using hc23)]at h;refine aM ?_;try simp only[RR]
    refine aB fun _ g=>aA rfl ?_;simp only[hg1,RR,seval]
    obtain⟨r2,h2⟩: ∃r2,lU cx n d s1=some r2:=by
     cases h2:lU cx n d s1 with
     |none=>rw[h2]at h;cases h
     |some r2=>exact⟨r2,rfl⟩
    rw[h2]at h;refine fA (ih.V i d s1 vo1 H1 r2 (kidok hl1) (kidw hl1) hR1 h2) (fun _=>trivial) (fun e s vo2 H2 e1 hR2 hk2=>by subst e1;obtain rfl:=Option.some.inj (show some (Rz.fin e s)=some o from h);simp only[bR,bT];exact⟨vo2,rfl,hR2,hk1.trans hk2⟩) fun y s2 vo2 H2 e1 uy hR2 hk2=>?_;subst e1;simp only[]at h;cases h;simp only[RR,seval];refine aU (sV _) ?_;simp only[RR,seval];apply g;clear g;refine aQ ?_;simp only[aX,aN,bI,RR,seval];exact aW.run ⟨vo2,⟨by by_cases hz:y=0<;>simp [hz],by by_cases hz:y=0<;>simp [hz,cC]⟩,hR2,hk1.trans hk2⟩
end
end Go.Proofs.YtnfbbjhdflhmjaaGreatDoor
namespace Go.Proofs.YtnfbbjhdflhmjaaGreatDoor
open Go.Al
section
variable {cx : Kx} {W r w : Nat} {n : Nat}
set_option maxHeartbeats 2000000 in
theorem Vn (ih:Oi cx W r w n) (i:Nat) (l:List CS) (st:RS) (vo:AV) (H:Hp) (o:Rz (Option Int)) (hl:Es l) (hw:qF (W:Int) cx.funs i l) (hR:fC cx W r w st vo H) (h:pE cx (n+1) l st=some o):
  gK cN 36 [.ptr 7 r 0 0, .isl 6 (l.map CS.row)] H (kY cx W r w vo H kT kU o):=by
 have hfit:=hl.fit;simp only[cY]at hfit;obtain⟨HX,hHX⟩: ∃X,X=H:=⟨_,rfl⟩;refine bD 25 [.tmp 4, .tmp 5] Tryz.func36 rfl rfl rfl rfl ?_;refine aB fun _ g=>aA rfl ?_;simp only[RR,seval];apply g;clear g;refine aH ?_;refine aB fun _ g=>aA rfl ?_;simp only[aD,RR,seval];apply g;clear g;refine bL fun F1 M1 hfr hH=>?_;have g0:=hfr 0;have g1:=hfr 1;have g4:=hfr 4;have g5:=hfr 5;have g10:=hfr 10;have g11:=hfr 11
 try simp only[RR,seval]at g0 g1 g4 g5 g10 g11
 have hM:=funext hH;have f0:=g0;clear g0;have f1:=g1;clear g1;have f4:=g4;clear g4;have f5:=g5;clear g5;have f10:=g10;clear g10;have f11:=g11;clear g11;clear hfr hH;refine aI ?_;refine cP [0,1,10] (l.length) (fun k fr M=>fr 11= .int .i64 (k:Nat)∧ ∃stk vok m,m≤n+1∧pE cx m (l.drop k) stk=some o∧fC cx W r w stk vok M∧dQ r w vo vok HX M) ⟨f11,st,vo,n+1,aY _,h,(by rw[hM];exact hR),(by rw[hM,hHX];exact dQ.refl _ _ _ _)⟩ ?_;rintro k F2 M2 hk0 ⟨fx,⟨stk,vok,m,hmn,hLk,hRk,hkp⟩⟩ agx K0 hK0;have f0:=(agx 0 rfl).trans f0;have f1:=(agx 1 rfl).trans f1;have f10:=(agx 10 rfl).trans f10;have f11:=fx;clear fx;have ag0:=bE.refl [0,1,10] F2;clear agx;clear h;refine aB fun _ g=>aA rfl ?_;simp only[f10,f11,RR,seval];apply g;clear g;refine aH ?_;refine aF _ rfl (fun hc=>?_) (fun hc=>?_)
 ·have hlt0:k<l.length:=by have:=aC hc;omega
  clear hc;have hg0:=aG hlt0;have hdk:l.drop k=l[k]::l.drop (k+1):=bC hlt0;generalize l[k]=a at hg0 hdk;have hg:=Zv hg0;rw[hdk]at hLk
  obtain⟨m',rfl⟩: ∃m',m=m'+1:=by
   cases m with
   |zero=>simp [pE]at hLk
   |succ m'=>exact⟨m',rfl⟩
  simp only[pE]at hLk
  obtain⟨r1,h1⟩: ∃r1,Hh cx m' a stk=some r1:=by
   cases h1:Hh cx m' a stk with
   |none=>rw[h1]at hLk;cases hLk
   |some r1=>exact⟨r1,rfl⟩
  rw[h1]at hLk;have hS:=ih.S i a stk vok _ r1 (hl.all _ (aL hg0)) (Cz hw hg0).1 hRk (Rx (by omega) h1);refine aM ?_;try simp only[RR]
  refine aH ?_;refine aI ?_;refine aB fun _ g=>aA rfl ?_;simp only[f11,RR,seval];apply g;clear g;refine aB fun _ g=>aA rfl ?_;simp only[f0,f1,hg,RR,seval];refine fA hS (fun _=>trivial) ?_ ?_
  ·rintro e s vo1 H1 e1 hR1 hk1
   subst e1;obtain rfl:=Option.some.inj (show some (Rz.fin e s)=some o from hLk);simp only[bR,bZ,bT];have hkk:=hkp.trans hk1;rw[hHX]at hkk;exact⟨vo1,rfl,hR1,hkk⟩
  intro p s1 vo1 H1 e1 up hR1 hk1;subst e1;simp only[bindR]at hLk;have hkk:=hkp.trans hk1;simp only[kT,RR,seval];apply g;clear g;refine aB fun _ g=>aA rfl ?_;simp only[RR,seval];apply g;clear g;refine aF _ rfl (fun hc5=>?_) (fun hc5=>?_)
  ·obtain⟨x,rfl⟩:=Option.isSome_iff_exists.1 hc5
   obtain rfl:=Option.some.inj hLk;rw[hHX]at hkk;refine aB fun _ g=>aA rfl ?_;simp only[RR,seval];apply g;clear g;refine aQ ?_;simp only[aX,aN,bI,RR,seval];exact aW.run ⟨vo1,⟨rfl,up⟩,hR1,hkk⟩
  obtain rfl:p=none:=by cases p with |none=>rfl|some x=>cases hc5
  simp only at hLk;refine aM ?_;try simp only[RR]
  refine aA rfl ?_;simp only[f11,RR,seval]
  try rw[aR _ (by omega)]
  refine hK0 _ _ hlt0 ⟨by first|rfl|(simp only[aJ,seval];rfl),s1,vo1,m',(by omega),hLk,hR1,hkk⟩ (by repeat (first|exact ag0|refine bE.upd rfl ?_))
 have hkn0:k=l.length:=by have:=aE hc;omega
 clear hc;rw[hkn0,List.drop_length]at hLk
 obtain rfl:o= .val none stk:=by
  cases m with
  |zero=>simp [pE]at hLk
  |succ m'=>
   simp only[pE,Option.some.injEq]at hLk;exact hLk.symm
 rw[hHX]at hkp;refine bH ?_;simp only[RR,seval];refine aB fun _ g=>aA rfl ?_;simp only[RR,seval];apply g;clear g;refine aQ ?_;simp only[aX,aN,bI,RR,seval];exact aW.run ⟨vok,⟨rfl,by simp [kU,cC]⟩,hRk,hkp⟩
set_option maxHeartbeats 2000000 in
theorem Hj (ih:Oi cx W r w n) (hx:zH cx W) (i:Nat) (e:CS) (c:CE) (st:RS) (vo:AV) (H:Hp) (o:Rz (Option Int)) (he:e.ok) (hw:Ua (W:Int) cx.funs i e) (hc:e.es[0]?=some c) (hR:fC cx W r w st vo H) (h:Ij cx (n+1) c e.thn st=some o):
  gK cN 98 [.ptr 7 r 0 0, .ipt e.row 0] H (kY cx W r w vo H kT kU o):=by
 obtain⟨HX,hHX⟩: ∃X,X=H:=⟨_,rfl⟩;have hg0:=lR hc;have hcok:=he.es.all _ (aL hc);have hthn:=he.thn
 obtain⟨hwc,hwt⟩:Ub (W:Int) cx.funs i c∧qF (W:Int) cx.funs i e.thn:=by
  obtain⟨k,a,z,l,t,u⟩:=e;simp only[Ua]at hw;obtain⟨_,_,_,_,wl,wt,_⟩:=hw;exact⟨(oX wl hc).1,wt⟩
 clear hw;rw[CS.row_eq];generalize e.kind=kk at *;generalize e.slot=pa at *;generalize e.size=pz at *;generalize e.es=es at *;generalize e.thn=thn at *;generalize e.els=els at *;refine bD 29 [.tmp 4, .tmp 5] Tryz.func98 rfl rfl rfl rfl ?_;refine aB fun _ g=>aA rfl ?_;simp only[RR,seval];apply g;clear g;refine bL fun F1 M1 hfr hH=>?_;have g0:=hfr 0;have g1:=hfr 1;have g4:=hfr 4;have g5:=hfr 5
 try simp only[RR,seval]at g0 g1 g4 g5
 have hM:=funext hH;have f0:=g0;clear g0;have f1:=g1;clear g1;have f4:=g4;clear g4;have f5:=g5;clear g5;clear hfr hH;refine aI ?_;refine jQ [0,1] (n+1) (fun k fr M=> ∃stk vok,k≤n+1∧Ij cx k c thn stk=some o∧fC cx W r w stk vok M∧dQ r w vo vok HX M) ⟨st,vo,aY _,h,(by rw[hM];exact hR),(by rw[hM,hHX];exact dQ.refl _ _ _ _)⟩ ?_;rintro k F2 M2 ⟨stk,vok,hmn,hLk,hRk,hkp⟩ agx K0 hK0;have f0:=(agx 0 rfl).trans f0;have f1:=(agx 1 rfl).trans f1;have ag0:=bE.refl [0,1] F2;clear agx;clear h
 obtain⟨m',rfl⟩: ∃m',k=m'+1:=by
  cases k with
  |zero=>simp [Ij]at hLk
  |succ m'=>exact⟨m',rfl⟩
 simp only[Ij]at hLk;have hT:=De hx hRk;generalize hTT:eQ cx.cx stk=tt at hLk hT;refine aI ?_;refine aB fun _ g=>aA rfl ?_;simp only[f0,RR,seval];refine fA hT (fun _=>trivial) ?_ ?_
 ·rintro e s vo1 H1 e1 hR1 hk1
  subst e1;obtain rfl:=Option.some.inj (show some (Rz.fin e s)=some o from hLk);simp only[bR,bZ,bT];have hkk:=hkp.trans hk1;rw[hHX]at hkk;exact⟨vo1,rfl,hR1,hkk⟩
 intro _ s1 vo1 H1 e1 _ hR1 hk1;subst e1;simp only[bindR]at hLk
 obtain⟨r1,h1⟩: ∃r1,lU cx m' c s1=some r1:=by
  cases h1:lU cx m' c s1 with
  |none=>rw[h1]at hLk;cases hLk
  |some r1=>exact⟨r1,rfl⟩
 rw[h1]at hLk;have hE:=ih.V i c s1 vo1 H1 r1 hcok hwc hR1 (Fa (by omega) h1);simp only[RR,seval];apply g;clear g;refine aH ?_;refine aB fun _ g=>aA rfl ?_;simp only[f0,f1,hg0,RR,seval];refine fA hE (fun _=>trivial) ?_ ?_
 ·rintro e s vo2 H2 e1 hR2 hk2
  subst e1;obtain rfl:=Option.some.inj (show some (Rz.fin e s)=some o from hLk);simp only[bR,bZ,bT];have hkk:=hkp.trans (hk1.trans hk2);rw[hHX]at hkk;exact⟨vo2,rfl,hR2,hkk⟩
 intro x s2 vo2 H2 e1 ux hR2 hk2;subst e1;simp only[]at hLk;simp only[RR,seval];apply g;clear g;refine aF _ rfl (fun hc2=>?_) (fun hc2=>?_)
 ·rw[if_pos (aC hc2)]at hLk
  obtain rfl:=Option.some.inj hLk;have hkk:=hkp.trans (hk1.trans hk2);rw[hHX]at hkk;refine aB fun _ g=>aA rfl ?_;simp only[RR,seval];apply g;clear g;refine aQ ?_;simp only[aX,aN,bI,RR,seval];exact aW.run ⟨vo2,⟨rfl,by simp [kU,cC]⟩,hR2,hkk⟩
 rw[if_neg (aE hc2)]at hLk
 obtain⟨r2,h2⟩: ∃r2,pE cx m' thn s2=some r2:=by
  cases h2:pE cx m' thn s2 with
  |none=>rw[h2]at hLk;cases hLk
  |some r2=>exact⟨r2,rfl⟩
 rw[h2]at hLk;have hL:=ih.L i thn s2 vo2 H2 r2 hthn hwt hR2 (Ry (by omega) h2);refine aM ?_;try simp only[RR]
 refine aB fun _ g=>aA rfl ?_;simp only[f0,f1,RR,seval];refine fA hL (fun _=>trivial) ?_ ?_
 ·rintro e s vo3 H3 e1 hR3 hk3
  subst e1;obtain rfl:=Option.some.inj (show some (Rz.fin e s)=some o from hLk);simp only[bR,bZ,bT];have hkk:=(hkp.trans (hk1.trans hk2)).trans hk3;rw[hHX]at hkk;exact⟨vo3,rfl,hR3,hkk⟩
 intro p s3 vo3 H3 e1 up hR3 hk3;subst e1;simp only[]at hLk;have hkk:=(hkp.trans (hk1.trans hk2)).trans hk3;simp only[kT,RR,seval];apply g;clear g;refine aB fun _ g=>aA rfl ?_;simp only[RR,seval];apply g;clear g;refine aF _ rfl (fun hc5=>?_) (fun hc5=>?_)
 ·obtain⟨x,rfl⟩:=Option.isSome_iff_exists.1 hc5
  obtain rfl:=Option.some.inj hLk;rw[hHX]at hkk;refine aB fun _ g=>aA rfl ?_;simp only[RR,seval];apply g;clear g;refine aQ ?_;simp only[aX,aN,bI,RR,seval];exact aW.run ⟨vo3,⟨rfl,up⟩,hR3,hkk⟩
 obtain rfl:p=none:=by cases p with |none=>rfl|some x=>cases hc5
 simp only at hLk;refine aM ?_;try simp only[RR]
 refine hK0 (m') _ _ (by omega) ⟨s3,vo3,(by omega),hLk,hR3,hkk⟩ (by repeat (first|exact ag0|refine bE.upd rfl ?_))
end
end Go.Proofs.YtnfbbjhdflhmjaaGreatDoor
