/- Chapter 19, in plain Lean: a sound program's core runs as the program does. -/
import Derived.Test.YtnfbbjhdflhmjaaGreatDoorMx
import Derived.Test.YtnfbbjhdflhmjaaGreatDoorMb
set_option linter.unusedSimpArgs false
set_option linter.unusedVariables false
set_option maxRecDepth 10000
namespace Go.Proofs.YtnfbbjhdflhmjaaGreatDoor
open Go.Al
structure GE (p:Pg) (i:Nat) (t:Int) (e:Ex):Prop where
 r: ∃lv,iL e lv=true
 ty:Uc (kL p) e=t
 nz:t≠0
 u: ∀u∈dG [e],dN p i u=true∧fH p i u=true
 ok:e.ok
theorem Ir {p:Pg} {i:Nat} {t lv:Int} (ht:t≠0): ∀(l:List Ex),eI l lv=true→fX (kL p) l t=true→(∀u∈dG l,dN p i u=true∧fH p i u=true)→(∀e∈l,e.ok)→ ∀e∈l,GE p i t e
 |[],_,_,_,_,e,he=>by cases he
 |x::l,hr,hty,hu,ho,e,he=>by
  rw[gH,aK]at hr;rw[uB,aK,aP]at hty;rcases List.mem_cons.1 he with rfl|he
  ·refine⟨⟨lv,hr.1⟩,hty.1,ht,fun u h=>hu u ?_,ho _ List.mem_cons_self⟩
   rw[eB]at h⊢;simp only[List.mem_append]at h⊢;rcases h with h|h
   ·exact .inl h
   rw[dG]at h;cases h
  exact Ir ht l hr.2 hty.2 (fun u h=>hu u (by rw[eB];simp [h])) (fun e h=>ho e (List.mem_cons_of_mem _ h)) e he
structure GS (p:Pg) (i:Nat) (wd:Bool) (e:Sm):Prop where
 r: ∃lv,iM e lv=true
 ty:Sp (kL p) wd e=true
 u: ∀u∈cT [e],dN p i u=true∧fH p i u=true
 ok:e.ok
theorem wZ {p:Pg} {i:Nat} {wd:Bool} {lv:Int}: ∀(l:List Sm),eE l lv=true→lE (kL p) wd l=true→(∀u∈cT l,dN p i u=true∧fH p i u=true)→(∀e∈l,e.ok)→ ∀e∈l,GS p i wd e
 |[],_,_,_,_,e,he=>by cases he
 |x::l,hr,hty,hu,ho,e,he=>by
  rw[gG,aK]at hr;rw[tR,aK]at hty;rcases List.mem_cons.1 he with rfl|he
  ·refine⟨⟨lv,hr.1⟩,hty.1,fun u h=>hu u ?_,ho _ List.mem_cons_self⟩
   rw[dB]at h⊢;simp only[List.mem_append]at h⊢;rcases h with h|h
   ·exact .inl h
   rw[cT]at h;cases h
  exact wZ l hr.2 hty.2 (fun u h=>hu u (by rw[dB];simp [h])) (fun e h=>ho e (List.mem_cons_of_mem _ h)) e he
section
variable {p : Pg} {i : Nat} {f : Fu} (hs : H8 p) (hf : p.funs[i]? = some f)
include hs hf
theorem vL {s:cR} (h0:(cK p i s).1≠0):gM p i s=mD p i s:=by
 unfold gM;rw[if_neg (fun e=>h0 (by rw[e];exact xE hs.r hf))]
theorem Oy {s:cR} {n:Int} (h:dN p i ⟨s,1,n⟩=true):(∃k:Nat,nU (eW p) (qH f) s=(true,(k:Int))∧(gM p i s).1=eA p+eC (p.funs.take i)+(k:Int))∨(∃k:Nat,nU (eW p) (qH f) s=(false,(k:Int))∧(gM p i s).1=(k:Int)):=by
 have hr:=(rS hf s).1;rcases(nY h).1 rfl with h1|h1
 ·left
  obtain⟨f',k,_,q2,_⟩:=(nL p i s).1 h1;refine⟨k,by rw[hr,h1,q2];rfl, ?_⟩;rw[vL hs hf (by omega)];unfold mD;rw[if_pos h1,q2]
 right;obtain⟨k,q1,_⟩:=Xs h1;refine⟨k,by rw[hr,h1,q1];rfl, ?_⟩;rw[vL hs hf (by omega)];unfold mD;rw[if_neg (by omega),if_neg (by omega),q1]
theorem Tp {s:cR} {n:Int} (h:dN p i ⟨s,3,n⟩=true): ∃(k:Nat) (a:Ar) (b:Bool),nU (eW p) (qH f) s=(b,(k:Int))∧p.arrs[k]?=some a∧gM p i s=((p.vars.length:Int)+fG (p.arrs.take k),a.size):=by
 have hr:=(rS hf s).1;have h3:=(nY h).2.1 rfl;obtain⟨k,a,q1,q2⟩:=(nL p i s).2 h3;refine⟨k,a,false,by rw[hr,h3,q1];rfl,q2, ?_⟩;rw[vL hs hf (by omega)];unfold mD;rw[if_neg (by omega),if_pos h3,q1,Int.toNat_natCast,q2];rfl
theorem Sf {s:cR} {n:Nat} (h:dN p i ⟨s,4,n⟩=true) (h2:fH p i ⟨s,4,n⟩=true): ∃(m:Nat) (g:Fu) (b:Bool),nU (eW p) (qH f) s=(b,(m:Int))∧m<i∧p.funs[m]?=some g∧g.params.length=n∧(gM p i s).1=(m:Int):=by
 have hr:=(rS hf s).1;obtain⟨h4,h5⟩:=(nY h).2.2 rfl;obtain⟨m,q1,q2,_⟩:=Xr h4;have hg:=aG q2;simp only[fH,decide_true,Bool.not_true,Bool.false_or,q1,Int.toNat_natCast,hg,aP]at h2;refine⟨m,_,false,by rw[hr,h4,q1];rfl,by omega,hg,by omega, ?_⟩;rw[vL hs hf (by omega)];unfold mD;rw[if_neg (by omega),if_neg (by omega),q1]
end
structure J3 (p:Pg) (cx:Cx) (kx:Kx) (n:Nat):Prop where
 E: ∀i f e t ow s s',p.funs[i]?=some f→GE p i t e→Rl p i ow s s'→Oc (QE p i ow s' t) (gB cx n (nU (eW p) (qH f)) ow e s) (lU kx n (sT (gM p i) e) s')
 A: ∀i f l ow s s',p.funs[i]?=some f→(∀e∈l,GE p i 1 e)→Rl p i ow s s'→Oc (QA p i ow s' l.length) (mF cx n (nU (eW p) (qH f)) ow l s) (Bv kx n (l.map (sT (gM p i))) s')
 C: ∀i f l ow s s' (m:Nat) g,p.funs[i]?=some f→m<i→p.funs[m]?=some g→l.length=g.params.length→(∀e∈l,GE p i 1 e)→Rl p i ow s s'→Oc (QE p i ow s' 1) (qI cx n (nU (eW p) (qH f)) ow m l s) (Mz kx n m (l.map (sT (gM p i))) s')
 S: ∀i f e ow s s',p.funs[i]?=some f→GS p i f.word e→Rl p i ow s s'→Oc (QS p i s') (kQ cx n (nU (eW p) (qH f)) ow e s) (Hh kx n (rM (gM p i) e) s')
 L: ∀i f l ow s s',p.funs[i]?=some f→(∀e∈l,GS p i f.word e)→Rl p i ow s s'→Oc (QS p i s') (iH cx n (nU (eW p) (qH f)) ow l s) (pE kx n (l.map (rM (gM p i))) s')
 W: ∀i f c l ow s s',p.funs[i]?=some f→GE p i 2 c→(∀e∈l,GS p i f.word e)→Rl p i ow s s'→Oc (QS p i s') (rL cx n (nU (eW p) (qH f)) ow c l s) (Ij kx n (sT (gM p i) c) (l.map (rM (gM p i))) s')
theorem G1 {c:Prop} [Decidable c]:cC (if c then(1:Int)else 0)∧((if c then(1:Int)else 0)=0∨(if c then(1:Int)else 0)=1):=by
 split
 ·exact⟨⟨by decide,by decide⟩, .inr rfl⟩
 exact⟨⟨by decide,by decide⟩, .inl rfl⟩
theorem Ju {o:Int} (ho:o=14∨o=15) (a b:Int):(cU o a b).1=0∨(cU o a b).1=1:=by
 rcases ho with rfl|rfl
 ·simp only[cU,Int.reduceEq,if_false,if_true];exact G1.2
 simp only[cU,Int.reduceEq,if_false,if_true];exact G1.2
set_option maxHeartbeats 4000000 in
theorem I4 {p:Pg} {cx:Cx} {kx:Kx} (hs:H8 p) (hp:p.ok) (hcf:cx.funs=p.funs.map (oD (eW p))) (hkf:kx.funs=oW p 0 (eA p) p.funs) (hfu:kx.fuel=cx.fuel) (hin:kx.inp=cx.inp) (n:Nat):J3 p cx kx n:=by
 have hr:=hs.r;simp only[eH,aK,aP,List.all_eq_true]at hr
 have hL:Ue p:=Rt fun a ha=>by
  have:=hr.1.2 a ha;simp only[fF,aK,aP]at this;omega
 have hnm:=hs.n;have hnu:=hs.u;simp only[nA,fW,aK]at hnu hnm
 have hbody: ∀(j:Nat) g,p.funs[j]?=some g→ ∀e∈g.body,GS p j g.word e:=fun j g hg=>by
  have hff:=hr.2 g (aL hg);simp only[eV,aK]at hff;have g1:=(eP p p.funs 0 hnm.2 j g hg).2;have g2:=rV p p.funs 0 hnu.1 j g hg;rw[Nat.zero_add,List.all_eq_true]at g1 g2;exact wZ g.body hff.2 (hs.f g (aL hg)) (fun u hu=>⟨g1 u hu,g2 u hu⟩) (hp.funs g (aL hg)).body.all
 induction n with
 |zero=>
  constructor
  all_goals
   intros
   simp only[gB,mF,qI,kQ,iH,rL];exact Oc.none
 |succ n ih=>
  constructor
  ·rintro i f ⟨k,o,m,nm,kids⟩ t ow s s' hf hG hR
   obtain⟨⟨lv,hx⟩,hty,hnz,hu,hok⟩:=hG;simp only[iL,aK,Ex.kind,Ex.op,Ex.kids]at hx;obtain⟨⟨_,hk⟩,hkr⟩:=hx
   rw[show Uc (kL p) (Ex.mk k o m nm kids)=if k=1∨k=2∨k=5 then 1 else if k=3 then(if fX (kL p) kids 1=true then 1 else 0)else if k=4 then(if(kL p nm&&fX (kL p) kids 1)=true then 1 else 0)
    else if k=6 then(if fX (kL p) kids 1=true then(if o=14∨o=15 then 2 else 1)else 0)else if k=7∨k=8∨k=9 then(if fX (kL p) kids 2=true then 2 else 0)else 0 from Ht _ _]at hty
   have hb: ∀(c:Prop) [Decidable c] (x:Int),(if c then x else 0)=t→c:=fun c _ x h=>by
    by_cases hc:c
    ·exact hc
    rw[if_neg hc]at h;exact absurd h.symm hnz
   have huk: ∀u∈dG kids,dN p i u=true∧fH p i u=true:=fun u h=>hu u (by rw[eB];simp [Ex.kids,h]);have hux: ∀u∈jL (.mk k o m nm kids),dN p i u=true∧fH p i u=true:=fun u h=>hu u (by rw[eB];simp [h]);have hok2:=hok.kids.all;have hnum:=hok.num;simp only[Ex.kind,Ex.kids,Ex.name,Ex.num,jL]at hty hux hok2 hnum;have hkd: ∀t',t'≠0→fX (kL p) kids t'=true→ ∀e∈kids,GE p i t' e:=fun t' h1 h2=>Ir h1 kids hkr h2 huk hok2
   have hk9:k=1∨k=2∨k=3∨k=4∨k=5∨k=6∨k=7∨k=8∨k=9:=by
    unfold fM at hk
    repeat' split at hk
    all_goals first|omega|(cases hk)
   simp only[gB,sT,lH,lU];rcases hk9 with rfl|rfl|rfl|rfl|rfl|rfl|rfl|rfl|rfl<;>simp only[Int.reduceEq,or_self,or_true,or_false,if_true,if_false,aP,fM,aK,decide_true,decide_false]at hk hty hux⊢
   ·exact Oc.val ⟨rfl,hR,yO.refl _ _ _,hnum,fun e=>by omega⟩
   ·obtain⟨g1,_⟩:=hux ⟨nm,1,0⟩ (by simp)
    rcases Oy hs hf g1 with⟨j,e1,e2⟩|⟨j,e1,e2⟩
    ·rw[e1,e2]
     simp only[uM,Int.natCast_nonneg,if_true,Int.toNat_natCast]
     cases hv:ow[j]? with
     |none=>exact Oc.none
     |some v=>
      rw[Rn hL hR hv];exact Oc.val ⟨rfl,hR,yO.refl _ _ _,hR.no v (aL hv),fun e=>by omega⟩
    rw[e1,e2];simp only[uM,Int.natCast_nonneg,if_true,Int.toNat_natCast,Bool.false_eq_true,if_false]
    cases hv:s.vars[j]? with
    |none=>exact Oc.none
    |some v=>
     rw[Rm hR hv];exact Oc.val ⟨rfl,hR,yO.refl _ _ _,hR.nv v (aL hv),fun e=>by omega⟩
   ·obtain⟨g1,_⟩:=hux ⟨nm,3,0⟩ (by simp)
    obtain⟨j,a,b,e1,e2,e3⟩:=Tp hs hf g1;obtain⟨x,rfl⟩:=List.length_eq_one_iff.1 hk;have hty1:fX (kL p) [x] 1=true:=hb _ _ hty;have hGx:=hkd 1 (by decide) hty1 x (List.mem_singleton.2 rfl);have ht2:t≠2:=by rw[if_pos hty1]at hty;omega
    rw[e1,e3];simp only[List.map_cons,List.map_nil,List.getElem?_cons_zero,Int.natCast_nonneg,if_true];refine Oc.bind (ih.E i f x 1 ow s s' hf hGx hR) ?_;rintro _ s1 w s1' ⟨rfl,h1,h2,h3,_⟩;obtain⟨l,q1,q2,q3⟩:=h1.al j a e2;simp only[Oe,Int.toNat_natCast,q1];unfold Xw;have hv0:=h3.1;by_cases hlt:w<a.size
    ·rw[if_pos hlt,if_pos (by omega)]
     simp only[bindR,q1,Option.bind_some];have hj:w.toNat<l.length:=by omega
     have hg:=aG hj;rw[hg,show((p.vars.length:Int)+fG (p.arrs.take j)+w)=(p.vars.length:Int)+fG (p.arrs.take j)+(w.toNat:Int)by omega,Ro hL h1 q1 hg (aZ.1 e2).1];exact Oc.val ⟨rfl,h1,h2,h1.na l (aL q1) _ (bJ hj),fun e=>absurd e ht2⟩
    rw[if_neg hlt,if_neg (by omega)];exact Oc.fin h1.out h1.t
   ·obtain⟨g1,g2⟩:=hux ⟨nm,4,kids.length⟩ (by simp)
    obtain⟨j,g,b,e1,e2,e3,e4,e5⟩:=Sf hs hf g1 g2;have hty1:=hb _ _ hty;have ht2:t≠2:=by rw[if_pos hty1]at hty;omega
    rw[e1,e5];refine(ih.C i f kids ow s s' j g hf e2 e3 e4.symm (hkd 1 (by decide) hty1.2) hR).mono ?_;rintro _ s1 w s1' ⟨rfl,h1,h2,h3,_⟩;exact⟨rfl,h1,h2,h3,fun e=>absurd e ht2⟩
   ·exact Zb hR hin (by omega)
   ·obtain⟨x,y,rfl⟩: ∃x y,kids=[x,y]:=by
     match kids,hk.2 with
     |[x,y],_=>exact⟨x,y,rfl⟩
    have hty1:fX (kL p) [x,y] 1=true:=hb _ _ hty;rw[if_pos hty1]at hty;have hGa:=hkd 1 (by decide) hty1;simp only[List.map_cons,List.map_nil,List.getElem?_cons_zero,List.getElem?_cons_succ];refine Oc.bind (ih.E i f x 1 ow s s' hf (hGa x (by simp)) hR) ?_;rintro _ s1 w s1' ⟨rfl,h1,h2,h3,_⟩;refine Oc.bind (ih.E i f y 1 ow s1 s1' hf (hGa y (by simp)) h1) ?_;rintro _ s2 w2 s2' ⟨rfl,k1,k2,k3,_⟩;split
    ·exact Oc.val ⟨rfl,k1,h2.trans k2,sM o h3 k3,fun e=>Ju (by
      split at hty
      ·assumption
      omega) _ _⟩
    exact Oc.fin k1.out k1.t
   ·obtain⟨x,rfl⟩:=List.length_eq_one_iff.1 hk
    have hty1:fX (kL p) [x] 2=true:=hb _ _ hty;have hGx:=hkd 2 (by decide) hty1 x (List.mem_singleton.2 rfl);simp only[List.map_cons,List.map_nil,List.getElem?_cons_zero];refine Oc.bind (ih.E i f x 2 ow s s' hf hGx hR) ?_;rintro _ s1 w s1' ⟨rfl,h1,h2,h3,_⟩;exact Oc.val ⟨rfl,h1,h2,G1.1,fun _=>G1.2⟩
   all_goals
    obtain⟨x,y,rfl⟩: ∃x y,kids=[x,y]:=by
     match kids,hk with
     |[x,y],_=>exact⟨x,y,rfl⟩
    have hty1:fX (kL p) [x,y] 2=true:=hb _ _ hty;have hGa:=hkd 2 (by decide) hty1;simp only[List.map_cons,List.map_nil,List.getElem?_cons_zero,List.getElem?_cons_succ];refine Oc.bind (ih.E i f x 2 ow s s' hf (hGa x (by simp)) hR) ?_;rintro _ s1 w s1' ⟨rfl,h1,h2,h3,h4⟩;have h4:=h4 rfl;rcases h4 with rfl|rfl<;>simp only[Int.reduceEq,decide_true,decide_false,if_true,if_false,Bool.true_eq_false]
    all_goals first
     |exact Oc.val ⟨rfl,h1,h2,h3,fun _=>by decide⟩
     |(refine Oc.bindr (ih.E i f y 2 ow s1 s1' hf (hGa y (by simp)) h1) ?_
       rintro _ s2 w2 s2' ⟨rfl,k1,k2,k3,k4⟩;refine⟨_,_,rfl, ?_,k1,h2.trans k2,k3,fun _=>k4 rfl⟩
       rcases k4 rfl with rfl|rfl<;>rfl)
  ·intro i f l ow s s' hf hG hR
   cases l with
   |nil=>
    simp only[mF,Bv,List.map_nil];exact Oc.val ⟨rfl,hR,yO.refl _ _ _,rfl,fun x hx=>by cases hx⟩
   |cons e l=>
    simp only[mF,Bv,List.map_cons];refine Oc.bind (ih.E i f e 1 ow s s' hf (hG e List.mem_cons_self) hR) ?_;rintro _ s1 w s1' ⟨rfl,h1,h2,h3,_⟩;refine Oc.bind (ih.A i f l ow s1 s1' hf (fun e h=>hG e (List.mem_cons_of_mem _ h)) h1) ?_;rintro _ s2 vs s2' ⟨rfl,k1,k2,k3,k4⟩;exact Oc.val ⟨rfl,k1,h2.trans k2,by simp only[bP,k3],fun x hx=>(List.mem_cons.1 hx).elim (fun e=>e▸h3) (k4 x)⟩
  ·intro i f l ow s s' m g hf hm hg hl hG hR
   simp only[qI,Mz,Int.toNat_natCast];rw[if_neg (by omega),if_neg (by omega),hcf,hkf,bN,lG,hg];simp only[Option.map_some,Nat.zero_add];rw[if_neg (show ¬(oD (eW p) g).words<l.length by simp only[oD];omega)];refine Oc.bind (ih.A i f l ow s s' hf hG hR) ?_;rintro _ s1 vs s1' ⟨rfl,h1,h2,h3,h4⟩;refine Oc.bind (Ki h1 hfu) ?_;rintro _ s2 _ s2' ⟨k1,k2⟩;obtain⟨s3,q1,q2,q3,_⟩:=Sv hL k1 hg h4 (by omega);rw[q1];simp only[Option.bind_some];rw[h3]at q2;refine Oc.bind (ih.L m g g.body _ s2 s3 hg (hbody m g hg) q2) ?_;rintro r s4 _ s4' ⟨rfl,w1,w2,w3⟩;obtain⟨l1,l2⟩:=Rs hL k1 hm q3 w1 w2;refine Oc.val ⟨rfl,l1,(h2.trans k2).trans l2, ?_,fun e=>by omega⟩
   cases hr1:r.1 with
   |none=>exact⟨by decide,by decide⟩
   |some v=>exact w3 v hr1
  ·rintro i f ⟨k,nm,es,t,u⟩ ow s s' hf hG hR
   obtain⟨⟨lv,hx⟩,hty,hu,hok⟩:=hG;simp only[iM,aK,Sm.kind,Sm.es,Sm.thn,Sm.els]at hx;obtain⟨⟨⟨⟨_,hk⟩,her⟩,htr⟩,hur⟩:=hx;rw[Bz]at hty;simp only[aK,Sm.kind,Sm.name,Sm.es,Sm.thn,Sm.els]at hty;obtain⟨⟨⟨⟨ty1,_⟩,_⟩,ty4⟩,ty5⟩:=hty;have hue: ∀x∈dG es,dN p i x=true∧fH p i x=true:=fun x h=>hu x (by rw[dB];simp [Sm.es,h]);have hut: ∀x∈cT t,dN p i x=true∧fH p i x=true:=fun x h=>hu x (by rw[dB];simp [Sm.thn,h]);have huu: ∀x∈cT u,dN p i x=true∧fH p i x=true:=fun x h=>hu x (by rw[dB];simp [Sm.els,h]);have hux: ∀x∈hJ (.mk k nm es t u),dN p i x=true∧fH p i x=true:=fun x h=>hu x (by rw[dB];simp [h]);have hoe: ∀e∈es,e.ok:=hok.es.all;have hGt: ∀e∈t,GS p i f.word e:=wZ t htr ty4 hut hok.thn.all;have hGu: ∀e∈u,GS p i f.word e:=wZ u hur ty5 huu hok.els.all;have hwt:lZ k≠0:=by unfold lZ;split<;>decide
   have hGe:=Ir hwt es her ty1 hue hoe;simp only[Sm.kind,Sm.name,Sm.es,hJ]at hux
   have hk7:k=1∨k=2∨k=3∨k=4∨k=5∨k=6∨k=7:=by
    unfold pH at hk
    repeat' split at hk
    all_goals first|omega|(cases hk)
   clear hu hue hut huu hok hoe ty1 ty4 ty5 htr hur her hwt;simp only[kQ,rM,lF,Hh];rcases hk7 with rfl|rfl|rfl|rfl|rfl|rfl|rfl<;>simp only[Int.reduceEq,or_self,or_true,or_false,if_true,if_false,aP,pH,lZ]at hk hux hGe⊢
   ·obtain⟨g1,_⟩:=hux ⟨nm,1,0⟩ (by simp)
    obtain⟨x,rfl⟩:=List.length_eq_one_iff.1 hk;simp only[List.map_cons,List.map_nil,List.getElem?_cons_zero];refine Oc.bind (ih.E i f x 1 ow s s' hf (hGe x (by simp)) hR) ?_;rintro _ s1 w s1' ⟨rfl,h1,h2,h3,_⟩;rcases Oy hs hf g1 with⟨j,e1,e2⟩|⟨j,e1,e2⟩
    ·rw[e1,e2]
     simp only[yV,Int.natCast_nonneg,if_true,Int.toNat_natCast];by_cases hj:j<ow.length
     ·rw[if_pos hj]
      obtain⟨s2,q1,q2,q3⟩:=Ut hL (aZ.1 hf).1 h1 h3 hj;rw[q1];exact Oc.val ⟨rfl,q2,h2.trans q3,fun _ e=>by cases e⟩
     rw[if_neg hj];exact Oc.none
    rw[e1,e2];simp only[yV,Int.natCast_nonneg,if_true,Int.toNat_natCast,Bool.false_eq_true,if_false];by_cases hj:j<s1.vars.length
    ·rw[if_pos hj]
     obtain⟨s2,q1,q2,q3⟩:=Ur hL h1 h3 hj;rw[q1];exact Oc.val ⟨rfl,q2,h2.trans q3,fun _ e=>by cases e⟩
    rw[if_neg hj];exact Oc.none
   ·obtain⟨g1,_⟩:=hux ⟨nm,3,0⟩ (by simp)
    obtain⟨j,a,b,e1,e2,e3⟩:=Tp hs hf g1
    obtain⟨x,y,rfl⟩: ∃x y,es=[x,y]:=by
     match es,hk with
     |[x,y],_=>exact⟨x,y,rfl⟩
    rw[e1,e3];simp only[List.map_cons,List.map_nil,List.getElem?_cons_zero,List.getElem?_cons_succ,Int.natCast_nonneg,if_true];refine Oc.bind (ih.E i f x 1 ow s s' hf (hGe x (by simp)) hR) ?_;rintro _ s1 w s1' ⟨rfl,h1,h2,h3,_⟩;refine Oc.bind (ih.E i f y 1 ow s1 s1' hf (hGe y (by simp)) h1) ?_;rintro _ s2 w2 s2' ⟨rfl,k1,k2,k3,_⟩;obtain⟨l,q1,q2,q3⟩:=k1.al j a e2;simp only[Oe,Int.toNat_natCast,q1];unfold Xw;have hv0:=h3.1;by_cases hlt:w<a.size
    ·rw[if_pos hlt,if_pos (by omega)]
     have hj:w.toNat<l.length:=by omega
     obtain⟨s3,r1,r2,r3⟩:=Uv hL k1 k3 q1 hj (aZ.1 e2).1;simp only[bindR];rw[show((p.vars.length:Int)+fG (p.arrs.take j)+w)=(p.vars.length:Int)+fG (p.arrs.take j)+(w.toNat:Int)by omega,r1];exact Oc.val ⟨rfl,r2,(h2.trans k2).trans r3,fun _ e=>by cases e⟩
    rw[if_neg hlt,if_neg (by omega)];exact Oc.fin k1.out k1.t
   ·obtain⟨x,rfl⟩:=List.length_eq_one_iff.1 hk
    simp only[List.map_cons,List.map_nil,List.getElem?_cons_zero];refine Oc.bind (ih.E i f x 1 ow s s' hf (hGe x (by simp)) hR) ?_;rintro _ s1 w s1' ⟨rfl,h1,h2,h3,_⟩;refine Oc.bind (Yi h1 _) ?_;rintro _ s2 _ s2' ⟨k1,k2⟩;exact Oc.val ⟨rfl,k1,h2.trans k2,fun _ e=>by cases e⟩
   ·obtain⟨x,rfl⟩:=List.length_eq_one_iff.1 hk
    simp only[List.map_cons,List.map_nil,List.getElem?_cons_zero];refine Oc.bind (ih.E i f x 2 ow s s' hf (hGe x (by simp)) hR) ?_;rintro _ s1 w s1' ⟨rfl,h1,h2,h3,_⟩;split
    ·exact(ih.L i f u ow s1 s1' hf hGu h1).mono fun r s2 b s2' h=>⟨h.1,h.2.1,h2.trans h.2.2.1,h.2.2.2⟩
    exact(ih.L i f t ow s1 s1' hf hGt h1).mono fun r s2 b s2' h=>⟨h.1,h.2.1,h2.trans h.2.2.1,h.2.2.2⟩
   ·obtain⟨x,rfl⟩:=List.length_eq_one_iff.1 hk
    simp only[List.map_cons,List.map_nil,List.getElem?_cons_zero];exact ih.W i f x t ow s s' hf (hGe x (by simp)) hGt hR
   ·obtain⟨g1,g2⟩:=hux ⟨nm,4,es.length⟩ (by simp)
    obtain⟨j,g,b,e1,e2,e3,e4,e5⟩:=Sf hs hf g1 g2;rw[e1,e5];refine Oc.bind (ih.C i f es ow s s' j g hf e2 e3 e4.symm hGe hR) ?_;rintro _ s1 w s1' ⟨rfl,h1,h2,h3,_⟩;exact Oc.val ⟨rfl,h1,h2,fun _ e=>by cases e⟩
   match es,hk with
   |[],_=>
    simp only[List.map_nil,List.getElem?_nil];exact Oc.val ⟨rfl,hR,yO.refl _ _ _,fun v e=>by cases e;exact⟨by decide,by decide⟩⟩
   |[x],_=>
    simp only[List.map_cons,List.map_nil,List.getElem?_cons_zero];refine Oc.bind (ih.E i f x 1 ow s s' hf (hGe x (by simp)) hR) ?_;rintro _ s1 w s1' ⟨rfl,h1,h2,h3,_⟩;exact Oc.val ⟨rfl,h1,h2,fun v e=>by cases e;exact h3⟩
  ·intro i f l ow s s' hf hG hR
   cases l with
   |nil=>
    simp only[iH,pE,List.map_nil];exact Oc.val ⟨rfl,hR,yO.refl _ _ _,fun _ e=>by cases e⟩
   |cons e l=>
    simp only[iH,pE,List.map_cons];refine Oc.bind (ih.S i f e ow s s' hf (hG e List.mem_cons_self) hR) ?_;rintro⟨_,r2⟩ s1 r1 s1' ⟨rfl,h1,h2,h3⟩
    cases r1 with
    |some v=>exact Oc.val ⟨rfl,h1,h2,h3⟩
    |none=>exact(ih.L i f l r2 s1 s1' hf (fun e h=>hG e (List.mem_cons_of_mem _ h)) h1).mono fun r s2 b s2' h=>⟨h.1,h.2.1,h2.trans h.2.2.1,h.2.2.2⟩
  intro i f c l ow s s' hf hc hG hR;simp only[rL,Ij];refine Oc.bind (Ki hR hfu) ?_;rintro _ s1 _ s1' ⟨h1,h2⟩;refine Oc.bind (ih.E i f c 2 ow s1 s1' hf hc h1) ?_;rintro _ s2 w s2' ⟨rfl,k1,k2,k3,_⟩;split
  ·exact Oc.val ⟨rfl,k1,h2.trans k2,fun _ e=>by cases e⟩
  refine Oc.bind (ih.L i f l ow s2 s2' hf hG k1) ?_;rintro⟨_,r2⟩ s3 r1 s3' ⟨rfl,w1,w2,w3⟩
  cases r1 with
  |some v=>exact Oc.val ⟨rfl,w1,(h2.trans k2).trans w2,w3⟩
  |none=>exact(ih.W i f c l r2 s3 s3' hf hc hG w1).mono fun r s4 b s4' h=>⟨h.1,h.2.1,((h2.trans k2).trans w2).trans h.2.2.1,h.2.2.2⟩
theorem Sz {p:Pg} (hs:eM p=0) (hp:p.ok) (hw:dX p≤32768) (inp:cR) (fu:Int) {n:Nat} {r} (h:Br (vG p inp fu) n p.vars.length (p.arrs.map fun a=>a.size.toNat)=some r):Qv ⟨(uJ p).1.funs,inp,(if fu<0 then 0 else fu).toNat⟩ n (uJ p).1.words.toNat=some r:=by
 have hsn:=Bp hs;have hr:=hsn.r;simp only[eH,aK,aP,List.all_eq_true]at hr
 have hsz: ∀a∈p.arrs,0≤a.size:=fun a ha=>by
  have:=hr.1.2 a ha;simp only[fF,aK,aP]at this;omega
 have hL:Ue p:=Rt hsz;rw[←Bu];unfold Zx;rw[if_pos hs,if_pos hw];simp only;unfold Br at h;obtain⟨c,hc,h⟩:=bW.1 h;obtain⟨x,hx,hxr⟩:=aV.1 h;unfold Cx.main vG at hc;simp only[aD,bN]at hc;obtain⟨g,hg,rfl⟩:=aV.1 hc;have hnu:=hsn.u;have hnm:=hsn.n;simp only[nA,fW,aK]at hnu hnm;have hff:=hr.2 g (aL hg);simp only[eV,aK]at hff;have g1:=(eP p p.funs 0 hnm.2 _ g hg).2;have g2:=rV p p.funs 0 hnu.1 _ g hg;rw[Nat.zero_add,List.all_eq_true]at g1 g2;have hbody:=wZ g.body hff.2 (hsn.f g (aL hg)) (fun u hu=>⟨g1 u hu,g2 u hu⟩) (hp.funs g (aL hg)).body.all;have hw0:0≤dX p:=by have:=hL.w 0;omega
 have hrep: ∀(N k:Nat),k<N→(List.replicate N (0:Int))[k]?=some 0:=fun N k h=>by rw[List.getElem?_replicate,if_pos h]
 have hR:Rl p (p.funs.length- 1) (List.replicate (g.params.length+g.locs.length) 0) (RS.init p.vars.length (p.arrs.map fun a=>a.size.toNat)) ⟨List.replicate (dX p).toNat 0,[],0,[],0⟩:=by
  have e1:=hL.vo 0;have e2:=hL.ofs 0 0;have e3:=hL.w 0;refine⟨rfl,rfl,rfl,by simp only[cO];omega,by simp [RS.init],fun k hk=>?_,fun k a ha=>?_,fun g' hg'=>by rw[hg]at hg';cases hg';exact cO,fun k hk=>?_,fun v hv=>?_,fun l hl v hv=>?_,fun v hv=>?_⟩
  ·simp only[RS.init]
   rw[hrep _ _ hk,hrep _ _ (by omega)]
  ·refine⟨List.replicate a.size.toNat 0, ?_, ?_,fun j hj=>?_⟩
   ·simp only[RS.init,List.map_map,bN,ha];rfl
   ·have:=hsz a (aL ha);rw[cO];omega
   rw[cO]at hj;have:=(hL.oz k a ha).2;have:=hL.ofs (k+1) 0;simp only;rw[hrep _ _ hj,hrep _ _ (by omega)]
  ·rw[cO]at hk
   have:=hL.fz _ g hg;have:=hL.w (p.funs.length- 1+1);simp only;rw[hrep _ _ hk,hrep _ _ (by omega)]
  ·rw[(List.mem_replicate.1 hv).2];exact⟨by decide,by decide⟩
  ·simp only[RS.init,List.mem_map]at hl
   obtain⟨n,_,rfl⟩:=hl;rw[(List.mem_replicate.1 hv).2];exact⟨by decide,by decide⟩
  rw[(List.mem_replicate.1 hv).2];exact⟨by decide,by decide⟩
 have hsim:=(I4 (cx:=vG p inp fu) (kx:=⟨oW p 0 (eA p) p.funs,inp,(if fu<0 then 0 else fu).toNat⟩) hsn hp rfl rfl rfl rfl n).L _ g g.body _ _ _ hg hbody hR
 have hlast:(oW p 0 (eA p) p.funs).getLast?=some (nO p (p.funs.length- 1) (eA p+eC (p.funs.take (p.funs.length- 1))) g):=by
  rw[List.getLast?_eq_getElem?,pJ,lG,hg,Nat.zero_add];rfl
 unfold Qv;rw[hlast];simp only[Option.bind_some,nO];simp only[oD]at hx;rw[show iH (vG p inp fu) n (nU (eW p) (qH g)) (List.replicate (g.params.length+g.locs.length) 0) g.body (RS.init p.vars.length (p.arrs.map fun a=>a.size.toNat))=some x from hx]at hsim;subst hxr
 cases x with
 |val a s=>
  obtain⟨b,s',q1,q2⟩:=hsim;rw[show pE ⟨oW p 0 (eA p) p.funs,inp,(if fu<0 then 0 else fu).toNat⟩ n (g.body.map (rM (gM p (p.funs.length- 1)))) ⟨List.replicate (dX p).toNat 0,[],0,[],0⟩=some (.val b s')from q1];simp only[Option.map_some,sF,q2.2.1.out,q2.2.1.t]
 |fin e s=>
  obtain⟨s',q1,q2,q3⟩:=hsim;rw[show pE ⟨oW p 0 (eA p) p.funs,inp,(if fu<0 then 0 else fu).toNat⟩ n (g.body.map (rM (gM p (p.funs.length- 1)))) ⟨List.replicate (dX p).toNat 0,[],0,[],0⟩=some (.fin e s')from q1];simp only[Option.map_some,sF,q2,q3]
end Go.Proofs.YtnfbbjhdflhmjaaGreatDoor
