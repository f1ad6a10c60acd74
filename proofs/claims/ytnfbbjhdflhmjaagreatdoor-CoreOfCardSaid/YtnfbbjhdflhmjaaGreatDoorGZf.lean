/- Chapter 19, in plain Lean: the core of a sound program may be. -/
import Derived.Test.YtnfbbjhdflhmjaaGreatDoorGZd
import Derived.Test.YtnfbbjhdflhmjaaGreatDoorGRc
set_option linter.unusedSimpArgs false
set_option linter.unusedVariables false
set_option maxRecDepth 10000
namespace Go.Al
theorem H9 {p:Pg} {i:Nat} {s:dD} (h:(cP p i s).1=2): ∃k:Nat,(cP p i s).2=(k:Int)∧k<p.vars.length:=by
 unfold cP at *;split at h
 ·exact absurd h (by simp)
 unfold jY at *;split at h
 ·exact absurd h (by simp)
 rename_i k hk;split at h
 ·rename_i h1
  exact⟨k,by simp only[if_pos h1],h1⟩
 split at h
 ·exact absurd h (by simp)
 exact absurd h (by simp)
theorem pW (p:Pg): ∀(l:List Fu) (i:Nat) (w:Int) (j:Nat),(nJ p i w l)[j]?=(l[j]?).map (fun f=>oG p (i+j) (w+dZ (l.take j)) f)
 |[],i,w,j=>by simp [nJ]
 |x::l,i,w,0=>by simp [nJ,dZ]
 |x::l,i,w,j+1=>by
  simp only[nJ,List.getElem?_cons_succ,List.take_succ_cons,dZ];rw[pW p l];congr 1;funext f;rw[show i+1+j=i+(j+1)by omega,Int.add_assoc]
structure Sl (p:Pg) (i:Nat) (below:List CF) (rs:dD→Int×Int):Prop where
 nil:rs []=(0,0)
 v: ∀s n,fG p i ⟨s,1,n⟩=true→cN (dH p) (rs s).1 1=true∧(rs s).2=0
 a: ∀s n,fG p i ⟨s,3,n⟩=true→1≤(rs s).2∧(rs s).2≤4096∧cN (dH p) (rs s).1 (rs s).2=true
 c: ∀s (n:Nat),fG p i ⟨s,4,n⟩=true→kR p i ⟨s,4,n⟩=true→(rs s).2=0∧gD below (rs s).1 n (jX p s)=true
end Go.Al
namespace Go.Proofs.YtnfbbjhdflhmjaaGreatDoor
open Go.Al
section
variable {p : Pg} {i : Nat} {below : List CF} {rs : dD → Int × Int}
theorem S9 (hS:Sl p i below rs) (N:Nat): ∀(l:List Ex) (lv t:Int),iA l≤N→eN l lv=true→t≠0→fV (jX p) l t=true→(∀u∈eE l,fG p i u=true∧kR p i u=true)→eK (dH p) below (l.map (rT rs)) lv=true:=by
 induction N using Nat.strongRecOn with
 |_ n ih=>
  intro l lv t hn hr ht hty hu
  match l,hn,hr,hty,hu with
  |[],_,_,_,_=>simp only[List.map_nil,eK]
  |e::l,hn,hr,hty,hu=>
   rw[gJ]at hr;simp only[iP,aS]at hr;obtain⟨⟨⟨hh,hk⟩,hkr⟩,hl⟩:=hr;rw[rC,aS,aW]at hty;have hz:=e.sz_eq;simp only[iA]at hn;have hul: ∀u∈eE l,fG p i u=true∧kR p i u=true:=fun u h=>hu u (by rw[eZ];simp [h]);have huk: ∀u∈eE e.kids,fG p i u=true∧kR p i u=true:=fun u h=>hu u (by rw[eZ];simp [h]);have hux: ∀u∈jL e,fG p i u=true∧kR p i u=true:=fun u h=>hu u (by rw[eZ];simp [h]);have w2:=ih (iA l) (by omega) l lv t (aY _) hl ht hty.2 hul;have ht1:=hty.1;rw[Jj]at ht1;have w1:(∃t',t'≠0∧fV (jX p) e.kids t'=true)→eK (dH p) below (e.kids.map (rT rs)) (lv+1)=true:=fun⟨t',h1,h2⟩=>ih (iA e.kids) (by omega) e.kids (lv+1) t' (aY _) hkr h1 h2 huk;obtain⟨k,o,m,s,kids⟩:=e;simp only[Ex.kind,Ex.op,Ex.kids,Ex.name,jL]at *;have hH:pO (.mk k o m s kids) lv=(decide (lv≤24)&&(decide (k=6)||decide (o=0))&&(decide (k=1)||decide (m=0))&&(if k=2∨k=3∨k=4 then dE s else decide (s=[]))):=rfl;rw[hH]at hh;simp only[List.map_cons,eK,rT,nK,jQ,aS]
   have hF: ∀a z l,pQ (dH p) below (.mk k o m a z l)=((decide (k=1)||decide (m=0))&&(decide (k=6)||decide (o=0))&&(decide (k=3)||decide (z=0))&&(decide (k=2)||decide (k=3)||decide (k=4)||decide (a=0))&&
    (if k=1∨k=5 then decide (l.length=0)else if k=2 then cN (dH p) a 1&&decide (l.length=0)else if k=3 then decide (1≤z)&&decide (z≤4096)&&cN (dH p) a z&&decide (l.length=1)
     else if k=4 then gD below a l.length true else if k=6 then decide (4≤o)&&decide (o≤15)&&decide (l.length=2)else if k=7 then decide (l.length=1)else if k=8∨k=9 then decide (l.length=2)else false)):=fun _ _ _=>rfl
   rw[hF];simp only[aS,aW,Bool.or_eq_true]at hh;obtain⟨⟨⟨hlv,hop⟩,hnm⟩,hna⟩:=hh
   have hk9:k=1∨k=2∨k=3∨k=4∨k=5∨k=6∨k=7∨k=8∨k=9:=by
    unfold gY at hk
    repeat' split at hk
    all_goals first|omega|(cases hk)
   have hb: ∀(c:Prop) [Decidable c] (x:Int),(if c then x else 0)=t→c:=fun c _ x h=>by
    by_cases hc:c
    ·exact hc
    rw[if_neg hc]at h;exact absurd h.symm ht
   refine⟨⟨⟨bG hlv, ?_⟩,w1 ?_⟩,w2⟩
   ·rcases hk9 with rfl|rfl|rfl|rfl|rfl|rfl|rfl|rfl|rfl<;>simp only[Int.reduceEq,or_self,or_true,true_or,or_false,false_or,if_true,if_false,aW,gY,aS]at hk hna hop hnm ht1
    ·subst hna;subst hop;rw[hS.nil];simp [hk]
    ·obtain⟨g1,g2⟩:=hux ⟨s,1,0⟩ (by simp)
     obtain⟨q1,q2⟩:=hS.v s 0 g1;subst hop;subst hnm;simp [hk,q1,q2]
    ·obtain⟨g1,g2⟩:=hux ⟨s,3,0⟩ (by simp)
     obtain⟨q1,q2,q3⟩:=hS.a s 0 g1;subst hop;subst hnm;simp [hk,q1,q2,q3]
    ·obtain⟨g1,g2⟩:=hux ⟨s,4,kids.length⟩ (by simp)
     obtain⟨q1,q2⟩:=hS.c s kids.length g1 g2;have hw:jX p s=true:=(hb _ _ ht1).1;rw[hw]at q2;subst hop;subst hnm;simp [q1,q2]
    ·subst hna;subst hop;subst hnm;rw[hS.nil];simp [hk]
    ·subst hna;subst hnm;rw[hS.nil];simp [hk]
    ·subst hna;subst hop;subst hnm;rw[hS.nil];simp [hk]
    ·subst hna;subst hop;subst hnm;rw[hS.nil];simp [hk]
    subst hna;subst hop;subst hnm;rw[hS.nil];simp [hk]
   have h0:kids.length=0→ ∃t',t'≠0∧fV (jX p) kids t'=true:=fun h=>⟨1,by decide,by rw[List.eq_nil_of_length_eq_zero h];exact tN _ _⟩;rcases hk9 with rfl|rfl|rfl|rfl|rfl|rfl|rfl|rfl|rfl<;>simp only[Int.reduceEq,or_self,or_true,or_false,if_true,if_false,aW,gY,aS]at hk ht1
   ·exact h0 hk
   ·exact h0 hk
   ·exact⟨1,by decide,hb _ _ ht1⟩
   ·exact⟨1,by decide,(hb _ _ ht1).2⟩
   ·exact h0 hk
   ·exact⟨1,by decide,hb _ _ ht1⟩
   ·exact⟨2,by decide,hb _ _ ht1⟩
   ·exact⟨2,by decide,hb _ _ ht1⟩
   exact⟨2,by decide,hb _ _ ht1⟩
theorem S8 {wd:Bool} (hS:Sl p i below rs) (N:Nat): ∀(l:List Sm) (lv:Int),fE l≤N→eH l lv=true→jA (jX p) wd l=true→(∀u∈dN l,fG p i u=true∧kR p i u=true)→dO (dH p) below wd (l.map (pU rs)) lv=true:=by
 induction N using Nat.strongRecOn with
 |_ n ih=>
  intro l lv hn hr hty hu
  match l,hn,hr,hty,hu with
  |[],_,_,_,_=>simp only[List.map_nil,dO]
  |e::l,hn,hr,hty,hu=>
   rw[gI]at hr;simp only[iZ,aS]at hr;obtain⟨⟨⟨⟨⟨hh,hk⟩,hxr⟩,htr⟩,hur⟩,hl⟩:=hr;rw[uN,Du]at hty;simp only[aS]at hty;obtain⟨⟨⟨⟨⟨ty1,ty2⟩,ty3⟩,ty4⟩,ty5⟩,tyl⟩:=hty;have hz:=e.sz_eq;simp only[fE]at hn;have hul: ∀u∈dN l,fG p i u=true∧kR p i u=true:=fun u h=>hu u (by rw[eM];simp [h]);have hue: ∀u∈eE e.es,fG p i u=true∧kR p i u=true:=fun u h=>hu u (by rw[eM];simp [h]);have hut: ∀u∈dN e.thn,fG p i u=true∧kR p i u=true:=fun u h=>hu u (by rw[eM];simp [h]);have huu: ∀u∈dN e.els,fG p i u=true∧kR p i u=true:=fun u h=>hu u (by rw[eM];simp [h]);have hux: ∀u∈jM e,fG p i u=true∧kR p i u=true:=fun u h=>hu u (by rw[eM];simp [h]);have hwt:mO e.kind≠0:=by unfold mO;split<;>decide
   have w0:=S9 hS _ e.es (lv+1) _ (aY _) hxr hwt ty1 hue;have w1:=ih (fE e.thn) (by omega) e.thn (lv+1) (aY _) htr ty4 hut;have w3:=ih (fE e.els) (by omega) e.els (lv+1) (aY _) hur ty5 huu;have w2:=ih (fE l) (by omega) l lv (aY _) hl tyl hul;obtain⟨k,s,es,t,u⟩:=e;simp only[Sm.kind,Sm.name,Sm.es,Sm.thn,Sm.els,jM]at *;have hH:rP (.mk k s es t u) lv=(decide (lv≤24)&&(decide (k=4)||decide (u.length=0))&&(decide (k=4)||decide (k=5)||decide (t.length=0))&&(if k=1∨k=2∨k=6 then dE s else decide (s=[]))):=rfl;rw[hH]at hh;simp only[List.map_cons,dO,pU,nI,jP,aS]
   have hF: ∀a z l t u,pP (dH p) below wd (.mk k a z l t u)=((decide (k=2)||decide (z=0))&&(decide (k=1)||decide (k=2)||decide (k=6)||decide (a=0))&&(decide (k=4)||decide (u.length=0))&&(decide (k=4)||decide (k=5)||decide (t.length=0))&&
    (if k=1 then cN (dH p) a 1&&decide (l.length=1)else if k=2 then decide (1≤z)&&decide (z≤4096)&&cN (dH p) a z&&decide (l.length=2)else if k=3∨k=4∨k=5 then decide (l.length=1)
     else if k=6 then gD below a l.length false else if k=7 then decide (l.length=0)||wd&&decide (l.length=1)else false)):=fun _ _ _ _ _=>rfl
   rw[hF];simp only[aS,aW,Bool.or_eq_true]at hh;obtain⟨⟨⟨hlv,hel⟩,hth⟩,hna⟩:=hh
   have hk7:k=1∨k=2∨k=3∨k=4∨k=5∨k=6∨k=7:=by
    unfold uO at hk
    repeat' split at hk
    all_goals first|omega|(cases hk)
   refine⟨⟨⟨⟨⟨bG hlv, ?_⟩,w0⟩,w1⟩,w3⟩,w2⟩;rcases hk7 with rfl|rfl|rfl|rfl|rfl|rfl|rfl<;>simp only[Int.reduceEq,or_self,or_true,true_or,or_false,false_or,if_true,if_false,aW,uO,decide_true,decide_false,Bool.true_and,Bool.not_eq_true']at hk hna hel hth ty2 ty3
   ·obtain⟨g1,g2⟩:=hux ⟨s,1,0⟩ (by simp)
    obtain⟨q1,q2⟩:=hS.v s 0 g1;simp [hk,q1,q2,hel,hth]
   ·obtain⟨g1,g2⟩:=hux ⟨s,3,0⟩ (by simp)
    obtain⟨q1,q2,q3⟩:=hS.a s 0 g1;simp [hk,q1,q2,q3,hel,hth]
   ·subst hna;rw[hS.nil];simp [hk,hel,hth]
   ·subst hna;rw[hS.nil];simp [hk]
   ·subst hna;rw[hS.nil];simp [hk,hel]
   ·obtain⟨g1,g2⟩:=hux ⟨s,4,es.length⟩ (by simp)
    obtain⟨q1,q2⟩:=hS.c s es.length g1 g2;rw[ty2]at q2;simp [q1,q2,hel,hth]
   subst hna;rw[hS.nil];rcases Nat.eq_zero_or_pos es.length with h|h
   ·simp [h,hel,hth]
   have hw:wd=true:=by simpa [h]using ty3
   have h1:es.length=1:=by omega
   simp [h1,hw,hel,hth]
end
theorem Vh {p:Pg} (h:R7 p) {i:Nat} {f:Fu} (hf:p.funs[i]?=some f):Sl p i ((nJ p 0 (dV p) p.funs).take i) (fF p i):=by
 have hr:=h.r;simp only[eD,aS,aW,List.all_eq_true]at hr;have hn:=Hc h.r hf
 have hsz: ∀a∈p.arrs,1≤a.size∧a.size≤4096:=fun a ha=>by
  have:=hr.1.2 a ha;simp only[fO,aS,aW]at this;omega
 have hA:=fun j=>qR (l:=p.arrs) (fun a ha=>by have:=hsz a ha;omega) j;have hA0:=fun j=>iB (l:=p.arrs.take j) fun a ha=>by have:=hsz a (List.mem_of_mem_take ha);omega
 have hF:=fun j=>kW p.funs j;have hF0:=fun j=>gH (p.funs.take j);have hw:dH p=dV p+dZ p.funs:=rfl;have hb:dV p=p.vars.length+fM p.arrs:=rfl
 have hne: ∀{s:dD},(cP p i s).1≠0→fF p i s=mV p i s:=fun {s} h0=>by
  unfold fF;rw[if_neg (fun e=>h0 (by rw[e];exact hn))]
 refine⟨by unfold fF;rw[if_pos rfl],fun s n hu=>?_,fun s n hu=>?_,fun s n hu hu2=>?_⟩
 ·have:=(wG hu).1 rfl
  rcases this with h1|h1
  ·rw[hne (by omega)]
   unfold mV;rw[if_pos h1];obtain⟨f',k,q1,q2,q3⟩:=(qX p i s).1 h1;rw[hf]at q1;cases q1;have e1:=(jT p.funs 0 i f hf).2;have:=hF (i+1);have:=hF0 i;have:=hA0 p.arrs.length;rw[List.take_length]at this;exact⟨cT.2 (by simp only;omega),rfl⟩
  rw[hne (by omega)];unfold mV;rw[if_neg (by omega),if_neg (by omega)];obtain⟨k,q1,q2⟩:=H9 h1;have:=hF0 p.funs.length;have:=hA0 p.arrs.length;rw[List.take_length]at *;exact⟨cT.2 (by simp only;omega),rfl⟩
 ·have h3:=(wG hu).2.1 rfl
  rw[hne (by omega)];unfold mV;rw[if_neg (by omega),if_pos h3];obtain⟨k,a,q1,q2⟩:=(qX p i s).2 h3;rw[q1,Int.toNat_natCast,q2];simp only[Option.map_some,Option.getD_some];have e1:=(mR p.arrs 0 k a q2).2;have:=hA (k+1);have:=hA0 k;have:=hF0 p.funs.length;rw[List.take_length]at this;have:=hsz a (bN q2);exact⟨by omega,by omega,cT.2 (by omega)⟩
 obtain⟨h4,h5⟩:=(wG hu).2.2 rfl;rw[hne (by omega)];unfold mV;rw[if_neg (by omega),if_neg (by omega)];refine⟨rfl, ?_⟩;obtain⟨m,q1,q2,q3⟩:=H8 h4;have hmi:m<i:=by omega
 simp only[kR,decide_true,Bool.not_true,Bool.false_or]at hu2;rw[q1,Int.toNat_natCast]at hu2;rw[aG q2]at hu2 q3;simp only[aW]at hu2;have hwd:jX p s=p.funs[m].word:=by unfold jX;rw[q3]
 rw[hwd];unfold gD;simp only[q1,Int.toNat_natCast];rw[List.getElem?_take_of_lt hmi,pW,aG q2];simp only[Option.map_some,oG,decide_true,Bool.true_and,aS,aW];omega
theorem Lf {p:Pg} (hs:dT p=0) (hw:dH p≤32768):lZ (oO p).1=true:=by
 have h:=Jn hs;rw[←Dp];unfold Tb;rw[if_pos hs,if_pos hw];simp only;have hr:=h.r;simp only[eD,aS,aW,List.all_eq_true]at hr;obtain⟨⟨⟨⟨_,hl1⟩,hl2⟩,hra⟩,hrf⟩:=hr;have hu:=h.u;have hnm:=h.n;simp only[lV,fI,aS]at hu hnm
 have hA0:=iB (l:=p.arrs) fun a ha=>by
  have:=hra a ha;simp only[fO,aS,aW]at this;omega
 have hF:=fun j=>kW p.funs j;have hF0:=fun j=>gH (p.funs.take j);have hwd:dH p=dV p+dZ p.funs:=rfl;have hb:dV p=p.vars.length+fM p.arrs:=rfl;have hlen:=pV p p.funs 0 (dV p);have hget:=fun j=>pW p p.funs 0 (dV p) j;obtain⟨fs,hfs⟩: ∃fs,nJ p 0 (dV p) p.funs=fs:=⟨_,rfl⟩
 have hR: ∀w,lZ ⟨w,fs⟩=(decide (0≤w)&&decide (w≤32768)&&decide (1≤fs.length)&&decide (fs.length≤64)&&fs.all (jS w)&&iY w [] fs&&
  match fs.getLast? with
  |some f=>decide (f.params=0)&& !f.word
  |none=>false):=fun _=>rfl
 have hfun: ∀(j:Nat) g,fs[j]?=some g→ ∃f,p.funs[j]?=some f∧g=oG p j (dV p+dZ (p.funs.take j)) f:=fun j g hg=>by
  rw[←hfs,hget,Nat.zero_add,bE]at hg;obtain⟨f,h1,h2⟩:=hg;exact⟨f,h1,h2.symm⟩
 rw[hfs]at hlen;rw[hfs,hR]
 have hall:fs.all (jS (dH p))=true:=List.all_eq_true.2 fun g hg=>by
  obtain⟨j,hj⟩:=List.getElem?_of_mem hg;obtain⟨f,h1,rfl⟩:=hfun j g hj;have hff:=hrf f (bN h1);simp only[eT,aS,aW]at hff;have e1:=(jT p.funs 0 j f h1).2;have:=hF (j+1);have:=hF0 j;have hH:jS (dH p) (oG p j (dV p+dZ (p.funs.take j)) f)=(decide ((0:Int)≤(f.params.length:Int))&&decide ((f.params.length:Int)≤6)&&decide ((f.params.length:Int)≤((f.params.length+f.locs.length:Nat):Int))&&cN (dH p) (dV p+dZ (p.funs.take j)) ((f.params.length+f.locs.length:Nat):Int)):=rfl;rw[hH,bG (by omega),bG (by omega),bG (by omega),cT.2 (by omega)];rfl
 have hbod:iY (dH p) [] fs=true:=by
  have:=uQ (words:=dH p) (fs:=fs) (fun j hj=>?_) fs 0 (by simp)
  ·simpa using this
  obtain⟨f,h1,h2⟩:=hfun j _ (aG hj);rw[h2];have hS:=Vh h h1;rw[hfs]at hS;have hff:=hrf f (bN h1);simp only[eT,aS]at hff;have g1:=(gU p p.funs 0 hnm.2 j f h1).2;have g2:=Gh p p.funs 0 hu.1 j f h1;rw[Nat.zero_add,List.all_eq_true]at g1 g2;exact S8 hS _ f.body 1 (aY _) hff.2 (h.f f (bN h1)) fun u hu=>⟨g1 u hu,g2 u hu⟩
 have hlast:(match fs.getLast? with
  |some f=>decide (f.params=0)&& !f.word
  |none=>false)=true:=by
  have h2:=hu.2;unfold xY at h2;rw[List.getLast?_eq_getElem?,hlen];have hx:p.funs.length- 1<fs.length:=by omega
  rw[aG hx];obtain⟨f,q1,q2⟩:=hfun _ _ (aG hx);rw[q1]at h2;simp only[aS,aW]at h2;rw[q2];have e1:((oG p (p.funs.length- 1) (dV p+dZ (p.funs.take (p.funs.length- 1))) f).params=0)=((f.params.length:Int)=0):=rfl;simp only[aS];exact⟨bG (by rw[e1];omega),h2.2⟩
 rw[hall,hbod,hlast,bG (show 0≤dH p by have:=hF0 p.funs.length;rw[List.take_length]at this;omega),bG hw,bG (show 1≤fs.length by omega),bG (show fs.length≤64 by omega)];rfl
end Go.Proofs.YtnfbbjhdflhmjaaGreatDoor
