/- Chapter 19, the program's: an expression's value. -/
import Derived.Test.YtnfbbjhdflhmjaaGreatDoorGKb
set_option linter.unusedSimpArgs false
set_option linter.unusedVariables false
set_option maxRecDepth 10000
namespace Go.Proofs.YtnfbbjhdflhmjaaGreatDoor
open Go.Al
def kX (p:Option Int):AV:= .tup [.int .u32 (p.getD 0), .bool p.isSome]
def kY (p:Option Int):Prop:=dI (p.getD 0)
structure Qh (cx:Kx) (W r w:Nat) (n:Nat):Prop where
 V: ∀(i:Nat) (e:CE) (st:RS) (vo:AV) (H:Hp) (o:Rz Int),e.ok→Qn (W:Int) cx.funs i e→eX cx W r w st vo H→iX cx n e st=some o→
  mM cK 95 [.ptr 7 r 0 0, .ipt e.row 0] H (lD cx W r w vo H (fun x=> .int .u32 x) dI o)
 C: ∀(i:Nat) (a:Int) (f:CF) (l:List CE) (st:RS) (vo:AV) (H:Hp) (o:Rz Int),pH l→mN (W:Int) cx.funs i l→0≤a→cx.funs[a.toNat]?=some f→f.params=l.length→eX cx W r w st vo H→rN cx n a l st=some o→
  mM cK 99 [.ptr 7 r 0 0, .int .i64 a, .isl 6 (l.map CE.row)] H (lD cx W r w vo H (fun x=> .int .u32 x) dI o)
 S: ∀(i:Nat) (e:CS) (st:RS) (vo:AV) (H:Hp) (o:Rz (Option Int)),e.ok→Mc (W:Int) cx.funs i e→eX cx W r w st vo H→rG cx n e st=some o→
  mM cK 63 [.ptr 7 r 0 0, .ipt e.row 0] H (lD cx W r w vo H kX kY o)
 L: ∀(i:Nat) (l:List CS) (st:RS) (vo:AV) (H:Hp) (o:Rz (Option Int)),uE l→nU (W:Int) cx.funs i l→eX cx W r w st vo H→kH cx n l st=some o→
  mM cK 36 [.ptr 7 r 0 0, .isl 6 (l.map CS.row)] H (lD cx W r w vo H kX kY o)
 W: ∀(i:Nat) (e:CS) (c:CE) (st:RS) (vo:AV) (H:Hp) (o:Rz (Option Int)),e.ok→Mc (W:Int) cx.funs i e→e.es[0]?=some c→eX cx W r w st vo H→rM cx n c e.thn st=some o→
  mM cK 98 [.ptr 7 r 0 0, .ipt e.row 0] H (lD cx W r w vo H kX kY o)
theorem lO {l:List CE} {i:Nat} {x:CE} (h:l[i]?=some x):(l.map CE.row)[i]?=some x.row:=by rw[cC,h];rfl
theorem A3 {l:List CS} {i:Nat} {x:CS} (h:l[i]?=some x):(l.map CS.row)[i]?=some x.row:=by rw[cC,h];rfl
theorem mX {l:List Int} {i:Nat} {x:Int} (h:l[i]?=some x):(l.map jV)[i]?=some [.int .u32 x]:=by rw[cC,h];rfl
theorem xU {a:Int} {st:RS} {x:Int} (h:pK a st=some x):0≤a∧a<(st.vars.length:Int)∧st.vars[a.toNat]?=some x:=by
 unfold pK at h;by_cases h0:0≤a
 ·rw[if_pos h0]at h
  have:=(bW.1 h).1;exact⟨h0,by omega,h⟩
 rw[if_neg h0]at h;cases h
theorem Zs (b:Bool):(if b=true then(1:Int)else 0)=if b=true then 1 else 0:=rfl
section
variable {cx : Kx} {W r w : Nat} {n : Nat}
set_option maxHeartbeats 2000000 in
theorem Jf (ih:Qh cx W r w n) (hx:Ay cx W) (i:Nat) (e:CE) (st:RS) (vo:AV) (H:Hp) (o:Rz Int) (he:e.ok) (hw:Qn (W:Int) cx.funs i e) (hR:eX cx W r w st vo H) (h:iX cx (n+1) e st=some o):
  mM cK 95 [.ptr 7 r 0 0, .ipt e.row 0] H (lD cx W r w vo H (fun x=> .int .u32 x) dI o):=by
 obtain⟨k,op,m,a,z,l⟩:=e;have hr:=hR.r;have hnum:=he.num;have hkids:=he.kids;simp only[CE.num,CE.kids]at hnum hkids;simp only[iX]at h;simp only[Qn]at hw;obtain⟨_,w2,w3,w4,w7,w6,wl⟩:=hw;rw[CE.row_eq];simp only[CE.kind,CE.op,CE.num,CE.slot,CE.size,CE.kids];have kidw: ∀{j:Nat} {b:CE},l[j]?=some b→Qn (W:Int) cx.funs i b:=fun hj=>(jK wl hj).1;have kidok: ∀{j:Nat} {b:CE},l[j]?=some b→b.ok:=fun hj=>hkids.all _ (bN hj);have hW:=hx.wl;by_cases k1:k=1
 ·subst k1
  simp only[if_true]at h;cases h;refine bI 143 [.tmp 4] Tryz.func95 rfl rfl rfl rfl ?_;refine aB fun _ g=>aA rfl ?_;simp only[RR,seval];apply g;clear g;refine aI ?_;refine aB fun _ g=>aA rfl ?_;simp only[RR,seval];apply g;clear g;refine aM ?_;refine aB fun _ g=>aA rfl ?_;simp only[RR,seval];apply g;clear g;refine aH true rfl (fun _=>?_) (fun hc=>by cases hc);refine aB fun _ g=>aA rfl ?_;simp only[RR,seval];apply g;clear g;refine aO ?_;simp only[bB,aL,bH,RR,seval];exact aZ.run ⟨vo,⟨rfl,hnum⟩,hR,dP.refl _ _ _ _⟩;skip
 by_cases k2:k=2
 ·subst k2
  simp only[show ¬(2:Int)=1 by decide,if_false,if_true,bE]at h;obtain⟨x,hg,rfl⟩:=h;obtain⟨z0,zl,hg⟩:=xU hg;have hgx:=mX hg;have hux:=hR.uv x (bN hg);have hw:=hR.v;refine bI 143 [.tmp 4] Tryz.func95 rfl rfl rfl rfl ?_;refine aB fun _ g=>aA rfl ?_;simp only[RR,seval];apply g;clear g;refine aI ?_;refine aB fun _ g=>aA rfl ?_;simp only[RR,seval];apply g;clear g;refine aM ?_;refine aB fun _ g=>aA rfl ?_;simp only[RR,seval];apply g;clear g;refine aH false rfl (fun hc=>by cases hc) (fun _=>?_);refine aB fun _ g=>aA rfl ?_;simp only[RR,seval];apply g;clear g;refine aH true rfl (fun _=>?_) (fun hc=>by cases hc);refine aB fun K g=>?_;refine bJ (fun x=>x≠r∧x≠w) [(0,3),(1,3),(2,3),(3,1),(4,3),(5,3),(6,3),(7,1),(8,3),(9,1),(10,3)] [] dG (by kernel_rfl) rfl rfl ?_;simp only[cF,hr,hw,z0,zl,hgx,RR,seval];apply g;clear g;refine aO ?_;simp only[bB,aL,bH,RR,seval];exact aZ.run ⟨vo,⟨rfl,hux⟩,hR,dP.refl _ _ _ _⟩;skip
 by_cases k3:k=3
 ·subst k3
  simp only[show ¬(3:Int)=1 by decide,show ¬(3:Int)=2 by decide,if_false,if_true]at h;obtain⟨a0,a1,a2,a3,a4⟩:=w3 rfl
  cases hl0:l[0]? with
  |none=>rw[hl0]at h;cases h
  |some b=>
   simp only[hl0]at h;have hg0:=lO hl0
   cases h1:iX cx n b st with
   |none=>rw[h1]at h;cases h
   |some r1=>
    rw[h1]at h;refine bI 143 [.tmp 4] Tryz.func95 rfl rfl rfl rfl ?_;refine aB fun _ g=>aA rfl ?_;simp only[RR,seval];apply g;clear g;refine aI ?_;refine aB fun _ g=>aA rfl ?_;simp only[RR,seval];apply g;clear g;refine aM ?_;refine aB fun _ g=>aA rfl ?_;simp only[RR,seval];apply g;clear g;refine aH false rfl (fun hc=>by cases hc) (fun _=>?_);refine aB fun _ g=>aA rfl ?_;simp only[RR,seval];apply g;clear g;refine aH false rfl (fun hc=>by cases hc) (fun _=>?_);refine aB fun _ g=>aA rfl ?_;simp only[RR,seval];apply g;clear g;refine aH true rfl (fun _=>?_) (fun hc=>by cases hc);refine aB fun _ g=>aA rfl ?_;simp only[hg0,RR,seval];refine eV (ih.V i b st vo H r1 (kidok hl0) (kidw hl0) hR h1) (fun _=>trivial) (fun e s vo1 H1 e1 hR1 hk1=>by subst e1;obtain rfl:=Option.some.inj (show some (Rz.fin e s)=some o from h);simp only[cO,cX,cQ];exact⟨vo1,rfl,hR1,hk1⟩) fun x s1 vo1 H1 e1 ux hR1 hk1=>?_;subst e1;simp only[bindR]at h;have hr:=hR1.r;simp only[RR,seval];apply g;clear g;refine aB fun K g=>?_;refine bJ (fun x=>x≠r) [(0,3),(1,3),(2,3),(3,0),(4,3),(5,3),(6,3),(7,3),(8,1),(9,3),(10,3),(11,3),(12,1),(13,3),(14,1),(15,3),(16,1),(17,3)] [] dG (by kernel_rfl) rfl rfl ?_;simp only[cF,dM,hr,RR,seval];by_cases hxz:x<z
    rotate_left
    ·unfold Qc at h
     rw[if_neg hxz]at h;obtain rfl:=Option.some.inj (show some (Rz.fin 3 s1)=some o from h);refine Nu ux ⟨by omega,a2⟩ hxz ?_;simp only[cO,cX,cQ];exact⟨vo1,rfl,hR1,hk1⟩
    unfold Qc at h;rw[if_pos hxz]at h;simp only[bE]at h;obtain⟨y,hy,rfl⟩:=h;obtain⟨z0,zl,hy⟩:=xU hy;have hgy:=mX hy;have uy:=hR1.uv y (bN hy);have hw:=hR1.v;refine aN (Uo _ ux ⟨by omega,a2⟩ ⟨a0,by omega⟩ hxz) ?_;simp only[z0,zl,hw,hgy,RR,seval];apply g;clear g;refine aO ?_;simp only[bB,aL,bH,RR,seval];exact aZ.run ⟨vo1,⟨rfl,uy⟩,hR1,hk1⟩;skip
 by_cases k4:k=4
 ·subst k4
  simp only[show ¬(4:Int)=1 by decide,show ¬(4:Int)=2 by decide,show ¬(4:Int)=3 by decide,if_false,if_true]at h;obtain⟨z0,_,f,hf,hp⟩:=w4 rfl;have hcall:=ih.C i a f l st vo H o hkids wl z0 hf hp hR h;refine bI 143 [.tmp 4] Tryz.func95 rfl rfl rfl rfl ?_;refine aB fun _ g=>aA rfl ?_;simp only[RR,seval];apply g;clear g;refine aI ?_;refine aB fun _ g=>aA rfl ?_;simp only[RR,seval];apply g;clear g;refine aM ?_;refine aB fun _ g=>aA rfl ?_;simp only[RR,seval];apply g;clear g;refine aH false rfl (fun hc=>by cases hc) (fun _=>?_);refine aB fun _ g=>aA rfl ?_;simp only[RR,seval];apply g;clear g;refine aH false rfl (fun hc=>by cases hc) (fun _=>?_);refine aB fun _ g=>aA rfl ?_;simp only[RR,seval];apply g;clear g;refine aH false rfl (fun hc=>by cases hc) (fun _=>?_);refine aB fun _ g=>aA rfl ?_;simp only[RR,seval];apply g;clear g;refine aH true rfl (fun _=>?_) (fun hc=>by cases hc);refine aB fun K g=>?_;refine bJ (fun _=>True) [(0,3),(1,3),(2,3),(3,3),(4,1),(5,3),(6,3),(7,3),(8,1),(9,1),(10,3)] [] dG (by kernel_rfl) rfl rfl ?_;simp only[cF,RR,seval];refine eV hcall (fun _=>trivial) (fun e s vo1 H1 e1 hR1 hk1=>by subst e1;simp only[cO,cX,cQ];exact⟨vo1,rfl,hR1,hk1⟩) fun x s1 vo1 H1 e1 ux hR1 hk1=>?_;subst e1;simp only[RR,seval];apply g;clear g;refine aO ?_;simp only[bB,aL,bH,RR,seval];exact aZ.run ⟨vo1,⟨rfl,ux⟩,hR1,hk1⟩;skip
 by_cases k5:k=5
 ·subst k5
  simp only[show ¬(5:Int)=1 by decide,show ¬(5:Int)=2 by decide,show ¬(5:Int)=3 by decide,show ¬(5:Int)=4 by decide,if_false,if_true,Option.some.injEq]at h;have hget:=Vw hx hR;rw[h]at hget;refine bI 143 [.tmp 4] Tryz.func95 rfl rfl rfl rfl ?_;refine aB fun _ g=>aA rfl ?_;simp only[RR,seval];apply g;clear g;refine aI ?_;refine aB fun _ g=>aA rfl ?_;simp only[RR,seval];apply g;clear g;refine aM ?_;refine aB fun _ g=>aA rfl ?_;simp only[RR,seval];apply g;clear g;refine aH false rfl (fun hc=>by cases hc) (fun _=>?_);refine aB fun _ g=>aA rfl ?_;simp only[RR,seval];apply g;clear g;refine aH false rfl (fun hc=>by cases hc) (fun _=>?_);refine aB fun _ g=>aA rfl ?_;simp only[RR,seval];apply g;clear g;refine aH false rfl (fun hc=>by cases hc) (fun _=>?_);refine aB fun _ g=>aA rfl ?_;simp only[RR,seval];apply g;clear g;refine aH false rfl (fun hc=>by cases hc) (fun _=>?_);refine aB fun _ g=>aA rfl ?_;simp only[RR,seval];apply g;clear g;refine aH true rfl (fun _=>?_) (fun hc=>by cases hc);refine aB fun _ g=>aA rfl ?_;simp only[RR,seval];refine eV hget (fun _=>trivial) (fun e s vo1 H1 e1 hR1 hk1=>by subst e1;simp only[cO,cX,cQ];exact⟨vo1,rfl,hR1,hk1⟩) fun x s1 vo1 H1 e1 ux hR1 hk1=>?_;subst e1;simp only[RR,seval];apply g;clear g;refine aO ?_;simp only[bB,aL,bH,RR,seval];exact aZ.run ⟨vo1,⟨rfl,ux⟩,hR1,hk1⟩;skip
 simp only[if_neg k1,if_neg k2,if_neg k3,if_neg k4,if_neg k5]at h
 cases hl0:l[0]? with
 |none=>rw[hl0]at h;cases h
 |some b=>
  simp only[hl0]at h;have hg0:=lO hl0;by_cases k7:k=7
  ·subst k7
   simp only[if_true]at h
   cases h1:iX cx n b st with
   |none=>rw[h1]at h;cases h
   |some r1=>
    rw[h1]at h;refine bI 143 [.tmp 4] Tryz.func95 rfl rfl rfl rfl ?_;refine aB fun _ g=>aA rfl ?_;simp only[RR,seval];apply g;clear g;refine aI ?_;refine aB fun _ g=>aA rfl ?_;simp only[RR,seval];apply g;clear g;refine aM ?_;refine aB fun _ g=>aA rfl ?_;simp only[RR,seval];apply g;clear g;refine aH false rfl (fun hc=>by cases hc) (fun _=>?_);refine aB fun _ g=>aA rfl ?_;simp only[RR,seval];apply g;clear g;refine aH false rfl (fun hc=>by cases hc) (fun _=>?_);refine aB fun _ g=>aA rfl ?_;simp only[RR,seval];apply g;clear g;refine aH false rfl (fun hc=>by cases hc) (fun _=>?_);refine aB fun _ g=>aA rfl ?_;simp only[RR,seval];apply g;clear g;refine aH false rfl (fun hc=>by cases hc) (fun _=>?_);refine aB fun _ g=>aA rfl ?_;simp only[RR,seval];apply g;clear g;refine aH false rfl (fun hc=>by cases hc) (fun _=>?_);refine aB fun _ g=>aA rfl ?_;simp only[RR,seval];apply g;clear g;refine aH false rfl (fun hc=>by cases hc) (fun _=>?_);refine aB fun _ g=>aA rfl ?_;simp only[RR,seval];apply g;clear g;refine aH true rfl (fun _=>?_) (fun hc=>by cases hc);refine aB fun _ g=>aA rfl ?_;simp only[hg0,RR,seval];refine eV (ih.V i b st vo H r1 (kidok hl0) (kidw hl0) hR h1) (fun _=>trivial) (fun e s vo1 H1 e1 hR1 hk1=>by subst e1;obtain rfl:=Option.some.inj (show some (Rz.fin e s)=some o from h);simp only[cO,cX,cQ];exact⟨vo1,rfl,hR1,hk1⟩) fun x s1 vo1 H1 e1 ux hR1 hk1=>?_;subst e1;simp only[bindR]at h;cases h;simp only[RR,seval];refine aN (tS _) ?_;simp only[RR,seval];apply g;clear g;refine aO ?_;simp only[bB,aL,bH,RR,seval];exact aZ.run ⟨vo1,⟨by by_cases hz:x=0<;>simp [hz],by by_cases hz:x=0<;>simp [hz,dI]⟩,hR1,hk1⟩;skip
  rw[if_neg k7]at h
  cases hl1:l[1]? with
  |none=>rw[hl1]at h;cases h
  |some d=>
   simp only[hl1]at h;have hg1:=lO hl1;by_cases k6:k=6
   ·subst k6
    simp only[if_true]at h
    cases h1:iX cx n b st with
    |none=>rw[h1]at h;cases h
    |some r1=>
     rw[h1]at h;refine bI 143 [.tmp 4] Tryz.func95 rfl rfl rfl rfl ?_;refine aB fun _ g=>aA rfl ?_;simp only[RR,seval];apply g;clear g;refine aI ?_;refine aB fun _ g=>aA rfl ?_;simp only[RR,seval];apply g;clear g;refine aM ?_;refine aB fun _ g=>aA rfl ?_;simp only[RR,seval];apply g;clear g;refine aH false rfl (fun hc=>by cases hc) (fun _=>?_);refine aB fun _ g=>aA rfl ?_;simp only[RR,seval];apply g;clear g;refine aH false rfl (fun hc=>by cases hc) (fun _=>?_);refine aB fun _ g=>aA rfl ?_;simp only[RR,seval];apply g;clear g;refine aH false rfl (fun hc=>by cases hc) (fun _=>?_);refine aB fun _ g=>aA rfl ?_;simp only[RR,seval];apply g;clear g;refine aH false rfl (fun hc=>by cases hc) (fun _=>?_);refine aB fun _ g=>aA rfl ?_;simp only[RR,seval];apply g;clear g;refine aH false rfl (fun hc=>by cases hc) (fun _=>?_);refine aB fun _ g=>aA rfl ?_;simp only[RR,seval];apply g;clear g;refine aH true rfl (fun _=>?_) (fun hc=>by cases hc);refine aB fun _ g=>aA rfl ?_;simp only[hg0,RR,seval];refine eV (ih.V i b st vo H r1 (kidok hl0) (kidw hl0) hR h1) (fun _=>trivial) (fun e s vo1 H1 e1 hR1 hk1=>by subst e1;obtain rfl:=Option.some.inj (show some (Rz.fin e s)=some o from h);simp only[cO,cX,cQ];exact⟨vo1,rfl,hR1,hk1⟩) fun x s1 vo1 H1 e1 ux hR1 hk1=>?_;subst e1;simp only[bindR]at h;have hr:=hR1.r
     obtain⟨r2,h2⟩: ∃r2,iX cx n d s1=some r2:=by
      cases h2:iX cx n d s1 with
      |none=>rw[h2]at h;cases h
      |some r2=>exact⟨r2,rfl⟩
     rw[h2]at h;simp only[RR,seval];apply g;clear g;refine aB fun _ g=>aA rfl ?_;simp only[hg1,RR,seval];refine eV (ih.V i d s1 vo1 H1 r2 (kidok hl1) (kidw hl1) hR1 h2) (fun _=>trivial) (fun e s vo2 H2 e1 hR2 hk2=>by subst e1;obtain rfl:=Option.some.inj (show some (Rz.fin e s)=some o from h);simp only[cO,cX,cQ];exact⟨vo2,rfl,hR2,hk1.trans hk2⟩) fun y s2 vo2 H2 e1 uy hR2 hk2=>?_;subst e1;simp only[]at h;have hr:=hR2.r;have hA:=Qm op x y uy;have uA:=Im op ux uy;generalize eI op x y=q at hA uA h;obtain⟨q1,q2⟩:=q;simp only[RR,seval];apply g;clear g;refine aB fun _ g=>aA rfl ?_;simp only[RR,seval];refine aN (hA) ?_;simp only[RR,seval];apply g;clear g;refine aI ?_;refine aB fun _ g=>aA rfl ?_;simp only[RR,seval];apply g;clear g;refine aH _ rfl (fun hc17=>?_) (fun hc17=>?_)
     ·rw[if_neg (show ¬q2=0 by simpa using hc17)]at h
      cases h;refine aA rfl ?_;simp only[RR,seval];simp only[cO,cX,cQ];exact⟨vo2,rfl,hR2,hk1.trans hk2⟩
     rw[if_pos (show q2=0 by simpa using hc17)]at h;cases h;refine aK ?_;try simp only[RR]
     refine aB fun _ g=>aA rfl ?_;simp only[RR,seval];apply g;clear g;refine aO ?_;simp only[bB,aL,bH,RR,seval];exact aZ.run ⟨vo2,⟨rfl,uA⟩,hR2,hk1.trans hk2⟩;skip
   rw[if_neg k6]at h
   cases h1:iX cx n b st with
   |none=>rw[h1]at h;cases h
   |some r1=>
    rw[h1]at h
    have hk9:decide (k=9)= !decide (k=8):=by
     rcases(w6 k1 k2 k3 k4 k5 k7).2 with e|rfl|rfl
     ·exact absurd e k6
     ·rfl
     rfl
    refine bI 143 [.tmp 4] Tryz.func95 rfl rfl rfl rfl ?_;refine aB fun _ g=>aA rfl ?_;simp only[RR,seval];apply g;clear g;refine aI ?_;refine aB fun _ g=>aA rfl ?_;simp only[RR,seval];apply g;clear g;refine aM ?_;refine aB fun _ g=>aA rfl ?_;simp only[k1,RR,seval];apply g;clear g;refine aH false rfl (fun hc=>by cases hc) (fun _=>?_);refine aB fun _ g=>aA rfl ?_;simp only[k2,RR,seval];apply g;clear g;refine aH false rfl (fun hc=>by cases hc) (fun _=>?_);refine aB fun _ g=>aA rfl ?_;simp only[k3,RR,seval];apply g;clear g;refine aH false rfl (fun hc=>by cases hc) (fun _=>?_);refine aB fun _ g=>aA rfl ?_;simp only[k4,RR,seval];apply g;clear g;refine aH false rfl (fun hc=>by cases hc) (fun _=>?_);refine aB fun _ g=>aA rfl ?_;simp only[k5,RR,seval];apply g;clear g;refine aH false rfl (fun hc=>by cases hc) (fun _=>?_);refine aB fun _ g=>aA rfl ?_;simp only[k6,RR,seval];apply g;clear g;refine aH false rfl (fun hc=>by cases hc) (fun _=>?_);refine aB fun _ g=>aA rfl ?_;simp only[k7,RR,seval];apply g;clear g;refine aH false rfl (fun hc=>by cases hc) (fun _=>?_);refine aK ?_;try simp only[RR]
    refine aB fun _ g=>aA rfl ?_;simp only[hg0,RR,seval];refine eV (ih.V i b st vo H r1 (kidok hl0) (kidw hl0) hR h1) (fun _=>trivial) (fun e s vo1 H1 e1 hR1 hk1=>by subst e1;obtain rfl:=Option.some.inj (show some (Rz.fin e s)=some o from h);simp only[cO,cQ];exact⟨vo1,rfl,hR1,hk1⟩) fun x s1 vo1 H1 e1 ux hR1 hk1=>?_;subst e1;simp only[bindR]at h;have hr:=hR1.r;simp only[RR,seval];apply g;clear g;refine aI ?_;refine aB fun _ g=>aA rfl ?_;simp only[hk9,RR,seval];apply g;clear g;refine aH _ rfl (fun hc23=>?_) (fun hc23=>?_)
    ·rw[if_pos (show decide (x=0)=decide (k=8)by simpa using hc23)]at h
     cases h;refine aB fun _ g=>aA rfl ?_;simp only[RR,seval];refine aN (tS _) ?_;simp only[RR,seval];apply g;clear g;refine aO ?_;simp only[bB,aL,bH,RR,seval];exact aZ.run ⟨vo1,⟨by by_cases hz:x=0<;>simp [hz],by by_cases hz:x=0<;>simp [hz,dI]⟩,hR1,hk1⟩
    rw[if_neg (show ¬decide (x=0)=decide (k=8)by simpa using hc23)]at h;refine aK ?_;try simp only[RR]
    refine aB fun _ g=>aA rfl ?_;simp only[hg1,RR,seval]
    obtain⟨r2,h2⟩: ∃r2,iX cx n d s1=some r2:=by
     cases h2:iX cx n d s1 with
     |none=>rw[h2]at h;cases h
     |some r2=>exact⟨r2,rfl⟩
    rw[h2]at h;refine eV (ih.V i d s1 vo1 H1 r2 (kidok hl1) (kidw hl1) hR1 h2) (fun _=>trivial) (fun e s vo2 H2 e1 hR2 hk2=>by subst e1;obtain rfl:=Option.some.inj (show some (Rz.fin e s)=some o from h);simp only[cO,cQ];exact⟨vo2,rfl,hR2,hk1.trans hk2⟩) fun y s2 vo2 H2 e1 uy hR2 hk2=>?_;subst e1;simp only[]at h;cases h;simp only[RR,seval];refine aN (tS _) ?_;simp only[RR,seval];apply g;clear g;refine aO ?_;simp only[bB,aL,bH,RR,seval];exact aZ.run ⟨vo2,⟨by by_cases hz:y=0<;>simp [hz],by by_cases hz:y=0<;>simp [hz,dI]⟩,hR2,hk1.trans hk2⟩
end
end Go.Proofs.YtnfbbjhdflhmjaaGreatDoor
