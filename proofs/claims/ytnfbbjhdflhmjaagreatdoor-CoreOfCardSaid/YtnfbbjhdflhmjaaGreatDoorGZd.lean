/- Chapter 19, in plain Lean: the core of a sound program is the judge's, and may be. -/
import Derived.Test.YtnfbbjhdflhmjaaGreatDoorGZc
set_option linter.unusedSimpArgs false
set_option linter.unusedVariables false
set_option maxRecDepth 10000
namespace Go.Al
theorem wJ (s:dD): ∀(l:List dD) (w:Int),jR (lU w l) s=(bY l s).map fun k:Nat=>(w+(k:Int),(0:Int))
 |[],_=>rfl
 |x::l,w=>by
  simp only[lU,jR,bY];by_cases h:x=s
  ·rw[if_pos h.symm,if_pos h];simp
  rw[if_neg (fun e=>h e.symm),if_neg h,wJ s l (w+1),Option.map_map];congr 1;funext k;simp only[Function.comp,Prod.mk.injEq,and_true];omega
theorem Mo (s:dD): ∀(l:List Ar) (w:Int),jR (Ek w l) s=(bY (l.map Ar.name) s).map fun k:Nat=>(w+fM (l.take k),((l[k]?).map Ar.size).getD 0)
 |[],_=>rfl
 |x::l,w=>by
  simp only[Ek,jR,List.map_cons,bY];by_cases h:x.name=s
  ·rw[if_pos h.symm,if_pos h];simp [fM]
  rw[if_neg (fun e=>h e.symm),if_neg h,Mo s l (w+x.size),Option.map_map];congr 1;funext k;simp only[Function.comp,List.take_succ_cons,List.getElem?_cons_succ,fM,Prod.mk.injEq,and_true];omega
theorem Bl {p:Pg} {i:Nat} {f:Fu} (hf:p.funs[i]?=some f) (s:dD):Jo (Do p) (Yg (dV p+dZ (p.funs.take i)) f) s=if(cP p i s).1=0 then(0,0)else mV p i s:=by
 unfold Jo mV cP Yg Do;rw[wJ,hf];simp only[Option.bind_some];rw[show f.params++f.locs=dX f from rfl]
 cases h1:bY (dX f) s with
 |some k=>simp
 |none=>
  simp only[Option.map_none];unfold jY fA;rw[uH,uH,wJ,Mo,wJ,fY,fY]
  cases h2:bY p.vars s with
  |some k=>
   have:=(eL _ _ _ h2).1;simp [this]
  |none=>
   cases h3:bY (p.arrs.map Ar.name) s with
   |some k=>
    have hk:=(eL _ _ _ h3).1;rw[aD]at hk;simp only[Option.map_none,Option.map_some,Option.none_or,Option.some_or,Option.getD_some];rw[if_neg (show ¬k+p.vars.length<p.vars.length by omega),if_pos (show k+p.vars.length-p.vars.length<p.arrs.length by omega)];simp
   |none=>
    cases h4:bY (p.funs.map Fu.name) s with
    |some k=>
     simp only[Option.map_none,Option.map_some,Option.none_or,Option.getD_some,bP,aD];rw[if_neg (show ¬k+(p.vars.length+p.arrs.length)<p.vars.length by omega),if_neg (show ¬k+(p.vars.length+p.arrs.length)-p.vars.length<p.arrs.length by omega)];simp;omega
    |none=>simp
theorem Ue (G:List Tq): ∀(l:List Fu) (w:Int) (j:Nat),(mD G w l)[j]?=(l[j]?).map (fun f=>I9 G (w+dZ (l.take j)) f)
 |[],w,j=>by simp [mD]
 |x::l,w,0=>by simp [mD,dZ]
 |x::l,w,j+1=>by
  simp only[mD,List.getElem?_cons_succ,List.take_succ_cons,dZ];rw[Ue G l];congr 1;funext f;congr 1;omega
theorem Gh (p:Pg): ∀(l:List Fu) (i:Nat),eR p i l=true→ ∀(j:Nat) f,l[j]?=some f→(dN f.body).all (kR p (i+j))=true
 |[],i,_,j,f,hf=>by simp at hf
 |g::l,i,h,j,f,hf=>by
  simp only[eR,aS]at h
  cases j with
  |zero=>simp at hf;subst hf;exact h.1
  |succ j=>
   have:=Gh p l (i+1) h.2 j f (by simpa using hf);rwa [show i+1+j=i+(j+1)by omega]at this
theorem wG {p:Pg} {i:Nat} {s:dD} {k n:Int} (h:fG p i ⟨s,k,n⟩=true):(k=1→(cP p i s).1=1∨(cP p i s).1=2)∧(k=3→(cP p i s).1=3)∧(k=4→(cP p i s).1=4∧(cP p i s).2<(i:Int)):=by
 simp only[fG,Bool.not_eq_true',Bool.or_eq_false_iff,Bool.and_eq_false_iff,decide_eq_false_iff_not,Bool.not_eq_false',aW]at h;refine⟨fun hk=>?_,fun hk=>?_,fun hk=>?_⟩
 ·rcases h.1.1 with(h1|h1)|h1
  ·exact absurd hk h1
  ·exact .inl h1
  exact .inr h1
 ·rcases h.1.2 with h1|h1
  ·exact absurd hk h1
  exact h1
 rcases h.2 with h1|⟨h1,h2⟩
 ·exact absurd hk h1
 exact⟨h1,by omega⟩
theorem H8 {p:Pg} {i:Nat} {s:dD} (h:(cP p i s).1=4): ∃m:Nat,(cP p i s).2=(m:Int)∧m<p.funs.length∧Vz p s=p.funs[m]?:=by
 unfold cP at *;split at h
 ·exact absurd h (by simp)
 rename_i hn;unfold jY at *;split at h
 ·exact absurd h (by simp)
 rename_i k hk;split at h
 ·exact absurd h (by simp)
 split at h
 ·exact absurd h (by simp)
 rename_i h1 h2;have hg:=hk;unfold fA at hg;rw[fY,fY]at hg;have hl:=(eL _ _ _ hk).1;rw[nG]at hl
 cases q1:bY p.vars s with
 |some a=>rw[q1]at hg;simp only[Option.some.injEq]at hg;have:=(eL _ _ _ q1).1;omega
 |none=>
  rw[q1]at hg
  cases q2:bY (p.arrs.map Ar.name) s with
  |some a=>rw[q2]at hg;simp only[Option.map_some,Option.some.injEq]at hg;have:=(eL _ _ _ q2).1;rw[aD]at this;omega
  |none=>
   rw[q2]at hg;simp only[Option.map_none]at hg
   cases q3:bY (p.funs.map Fu.name) s with
   |none=>rw[q3]at hg;simp at hg
   |some a=>
    rw[q3]at hg;simp only[Option.map_some,Option.some.injEq,bP,aD]at hg;refine⟨a, ?_,by omega, ?_⟩
    ·simp only[if_neg h1,if_neg h2];omega
    rw[lI,q3];rfl
end Go.Al
namespace Go.Proofs.YtnfbbjhdflhmjaaGreatDoor
open Go.Al
structure R7 (p:Pg):Prop where
 r:eD p=true
 n:fI p=true
 u:lV p=true
 f: ∀f∈p.funs,jA (jX p) f.word f.body=true
theorem Jn {p:Pg} (h:dT p=0):R7 p:=by
 obtain⟨h1,_,h3,h4⟩:=sQ h;refine⟨h1,h3,h4, ?_⟩;unfold dT at h;rw[if_pos h1]at h;split at h
 ·unfold kL at h
  split at h
  ·split at h
   ·rename_i hh;exact fun f hf=>List.all_eq_true.1 hh f hf
   cases h
  cases h
 rename_i hc;exact absurd h hc
theorem Tc {s:dD} (h:dE s=true):s≠[]:=fun e=>by rw[e]at h;cases h
theorem Bp {l:List dD} (h: ∀s∈l,dE s=true):bY l []=none:=by
 cases hp:bY l []with
 |none=>rfl
 |some k=>exact absurd rfl (Tc (h _ (bN (eL _ _ _ hp).2)))
theorem Hc {p:Pg} (hr:eD p=true) {i:Nat} {f:Fu} (hf:p.funs[i]?=some f):(cP p i []).1=0:=by
 simp only[eD,aS,aW,List.all_eq_true]at hr;obtain⟨⟨⟨⟨h1,_⟩,_⟩,h2⟩,h3⟩:=hr;have hff:=h3 f (bN hf);simp only[eT,aS,List.all_eq_true]at hff;unfold cP;rw[hf];simp only[Option.bind_some]
 rw[Bp (l:=dX f) (fun s hs=>by
  rcases List.mem_append.1 hs with h|h
  ·exact hff.1.1.2 s h
  exact hff.1.2 s h)]
 simp only;unfold jY
 rw[Bp (l:=fA p) (fun s hs=>by
  simp only[fA,List.mem_append,List.mem_map]at hs;rcases hs with(h|⟨a,ha,rfl⟩)|⟨g,hg,rfl⟩
  ·exact h1 s h
  ·have:=h2 a ha;simp only[fO,aS]at this;exact this.1.1
  have:=h3 g hg;simp only[eT,aS]at this;exact this.1.1.1.1)]
section
variable {rs rs' : dD → Int × Int}
theorem Uf (h0:rs []=rs' []) (n:Nat): ∀(l:List Ex) (lv:Int),iA l≤n→eN l lv=true→(∀u∈eE l,rs u.name=rs' u.name)→l.map (rT rs)=l.map (rT rs'):=by
 induction n with
 |zero=>
  intro l lv hl _ _
  cases l with
  |nil=>rfl
  |cons e l=>have:=e.sz_eq;simp only[iA]at hl;omega
 |succ n ih=>
  intro l
  induction l with
  |nil=>intro _ _ _ _;rfl
  |cons e l ihl=>
   intro lv hl hr hu;rw[gJ,aS]at hr;rw[eZ]at hu;have hs:=e.sz_eq;simp only[iA]at hl;rw[List.map_cons,List.map_cons,ihl lv (by omega) hr.2 (fun u hm=>hu u (by simp [hm]))];congr 1;have hx:=hr.1;simp only[iP,aS]at hx;have hk:=ih e.kids (lv+1) (by omega) hx.2 (fun u hm=>hu u (by simp [hm]))
   have hn:rs e.name=rs' e.name:=by
    have hh:=hx.1.1;simp only[pO,aS]at hh;have hh:=hh.2;split at hh
    ·rename_i hkk
     rcases hkk with h|h|h
     ·exact hu ⟨e.name,1,0⟩ (by
       simp only[List.mem_append];left;left;unfold jL
       rw[if_pos h];exact List.mem_singleton.2 rfl)
     ·exact hu ⟨e.name,3,0⟩ (by
       simp only[List.mem_append];left;left;unfold jL
       rw[if_neg (by omega),if_pos h];exact List.mem_singleton.2 rfl)
     exact hu ⟨e.name,4,e.kids.length⟩ (by
      simp only[List.mem_append];left;left;unfold jL
      rw[if_neg (by omega),if_neg (by omega),if_pos h];exact List.mem_singleton.2 rfl)
    rw[aC hh,h0]
   obtain⟨k,o,m,s,kids⟩:=e;simp only[Ex.name,Ex.kids]at hn hk;simp only[rT,nK,hn,hk]
theorem Ud (h0:rs []=rs' []) (n:Nat): ∀(l:List Sm) (lv:Int),fE l≤n→eH l lv=true→(∀u∈dN l,rs u.name=rs' u.name)→l.map (pU rs)=l.map (pU rs'):=by
 induction n with
 |zero=>
  intro l lv hl _ _
  cases l with
  |nil=>rfl
  |cons e l=>have:=e.sz_eq;simp only[fE]at hl;omega
 |succ n ih=>
  intro l
  induction l with
  |nil=>intro _ _ _ _;rfl
  |cons e l ihl=>
   intro lv hl hr hu;rw[gI,aS]at hr;rw[eM]at hu;have hs:=e.sz_eq;simp only[fE]at hl;rw[List.map_cons,List.map_cons,ihl lv (by omega) hr.2 (fun u hm=>hu u (by simp [hm]))];congr 1;have hx:=hr.1;simp only[iZ,aS]at hx;have hE:=Uf h0 _ e.es (lv+1) (aY _) hx.1.1.2 (fun u hm=>hu u (by simp [hm]));have hT:=ih e.thn (lv+1) (by omega) hx.1.2 (fun u hm=>hu u (by simp [hm]));have hU:=ih e.els (lv+1) (by omega) hx.2 (fun u hm=>hu u (by simp [hm]))
   have hn:rs e.name=rs' e.name:=by
    have hh:=hx.1.1.1.1;simp only[rP,aS]at hh;have hh:=hh.2;split at hh
    ·rename_i hkk
     rcases hkk with h|h|h
     ·exact hu ⟨e.name,1,0⟩ (by
       simp only[List.mem_append];left;left;left;left;unfold jM
       rw[if_pos h];exact List.mem_singleton.2 rfl)
     ·exact hu ⟨e.name,3,0⟩ (by
       simp only[List.mem_append];left;left;left;left;unfold jM
       rw[if_neg (by omega),if_pos h];exact List.mem_singleton.2 rfl)
     exact hu ⟨e.name,4,e.es.length⟩ (by
      simp only[List.mem_append];left;left;left;left;unfold jM
      rw[if_neg (by omega),if_neg (by omega),if_pos h];exact List.mem_singleton.2 rfl)
    rw[aC hh,h0]
   obtain⟨k,s,es,t,u⟩:=e;simp only[Sm.name,Sm.es,Sm.thn,Sm.els]at hn hE hT hU;simp only[pU,nI,hn,hE,hT,hU]
end
theorem Va {p:Pg} {i:Nat} {u:Us} (hk:u.kind=1∨u.kind=3∨u.kind=4) (h:fG p i u=true):(cP p i u.name).1≠0:=by
 obtain⟨s,k,n⟩:=u;obtain⟨h1,h3,h4⟩:=wG h;simp only at hk⊢;rcases hk with h|h|h
 ·rcases h1 h with q|q<;>omega
 ·have:=h3 h;omega
 have:=(h4 h).1;omega
theorem Jh (n:Nat): ∀l:List Ex,iA l≤n→ ∀u∈eE l,u.kind=1∨u.kind=3∨u.kind=4:=by
 induction n with
 |zero=>
  intro l hl
  cases l with
  |nil=>intro u hu;simp [eE]at hu
  |cons e l=>have:=e.sz_eq;simp only[iA]at hl;omega
 |succ n ih=>
  intro l
  induction l with
  |nil=>intro _ u hu;simp [eE]at hu
  |cons e l ihl=>
   intro hl u hu;have hs:=e.sz_eq;simp only[iA]at hl;rw[eZ]at hu;simp only[List.mem_append]at hu;rcases hu with(hu|hu)|hu
   ·unfold jL at hu
    split at hu
    ·rw[List.mem_singleton.1 hu];exact .inl rfl
    split at hu
    ·rw[List.mem_singleton.1 hu];exact .inr (.inl rfl)
    split at hu
    ·rw[List.mem_singleton.1 hu];exact .inr (.inr rfl)
    cases hu
   ·exact ih e.kids (by omega) u hu
   exact ihl (by omega) u hu
theorem Jg (n:Nat): ∀l:List Sm,fE l≤n→ ∀u∈dN l,u.kind=1∨u.kind=3∨u.kind=4:=by
 induction n with
 |zero=>
  intro l hl
  cases l with
  |nil=>intro u hu;simp [dN]at hu
  |cons e l=>have:=e.sz_eq;simp only[fE]at hl;omega
 |succ n ih=>
  intro l
  induction l with
  |nil=>intro _ u hu;simp [dN]at hu
  |cons e l ihl=>
   intro hl u hu;have hs:=e.sz_eq;simp only[fE]at hl;rw[eM]at hu;simp only[List.mem_append]at hu;rcases hu with(((hu|hu)|hu)|hu)|hu
   ·unfold jM at hu
    split at hu
    ·rw[List.mem_singleton.1 hu];exact .inl rfl
    split at hu
    ·rw[List.mem_singleton.1 hu];exact .inr (.inl rfl)
    split at hu
    ·rw[List.mem_singleton.1 hu];exact .inr (.inr rfl)
    cases hu
   ·exact Jh _ e.es (aY _) u hu
   ·exact ih e.thn (by omega) u hu
   ·exact ih e.els (by omega) u hu
   exact ihl (by omega) u hu
theorem Dp (p:Pg):Tb p=oO p:=by
 unfold Tb oO;by_cases hs:dT p=0
 rotate_left
 ·rw[if_neg hs,if_neg hs]
 rw[if_pos hs,if_pos hs];have h:=Jn hs;have hu:=h.n;simp only[fI,aS]at hu
 have key: ∀(l:List Fu) (i:Nat),p.funs.drop i=l→nJ p i (dV p+dZ (p.funs.take i)) l=mD (Do p) (dV p+dZ (p.funs.take i)) l:=by
  intro l
  induction l with
  |nil=>intro _ _;rfl
  |cons f l ih=>
   intro i hd
   have hi:i<p.funs.length:=by
    rcases Nat.lt_or_ge i p.funs.length with h|h
    ·exact h
    rw[List.drop_eq_nil_of_le h]at hd;cases hd
   rw[bD hi]at hd;injection hd with h1 h2
   have hf:p.funs[i]?=some f:=by rw[aG hi,h1]
   have hst:=(mR [] 0 0 ⟨[],0⟩);have hsum:dZ (p.funs.take (i+1))=dZ (p.funs.take i)+((f.params.length+f.locs.length:Nat):Int):=(jT p.funs 0 i f hf).2;have hrest:=ih (i+1) h2;rw[hsum,←Int.add_assoc]at hrest;simp only[nJ,mD];rw[hrest];congr 1;unfold oG I9;have hok:=(gU p p.funs 0 hu.2 i f hf).2;rw[Nat.zero_add,List.all_eq_true]at hok;have hr:=h.r;simp only[eD,aS,aW,List.all_eq_true]at hr;have hff:=hr.2 f (bN hf);simp only[eT,aS]at hff;have hn:=Hc h.r hf;congr 1;refine Ud (by unfold fF;rw[if_pos rfl,Bl hf,if_pos hn]) _ f.body 1 (aY _) hff.2 fun u hm=>?_;have h0:=Va (Jg _ f.body (aY _) u hm) (hok u hm);have hne: ¬u.name=[]:=fun e=>by rw[e]at h0;exact h0 hn
   unfold fF;rw[if_neg hne,Bl hf,if_neg h0]
 have:=key p.funs 0 rfl;simp only[List.take_zero,dZ,Int.add_zero]at this;unfold Hl;rw[this]
end Go.Proofs.YtnfbbjhdflhmjaaGreatDoor
