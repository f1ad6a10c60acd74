/- Chapter 18: a sound program has a run. Chapter 18: a sound program is well formed, and its runs end. -/
import Derived.Test.YtnfbbjhdflhmjaaGreatDoorMo
import Derived.Test.YtnfbbjhdflhmjaaGreatDoorSc1
import Derived.Test.YtnfbbjhdflhmjaaGreatDoorGKh
set_option linter.unusedSimpArgs false
set_option linter.unusedVariables false
set_option maxRecDepth 10000
namespace Go.Al
theorem tJ (s:cR): ∀A B:List Pl,kI (A++B) s=match kI A s with |some r=>some r|none=>kI B s
 |[],B=>rfl
 |t::A,B=>by
  simp only[List.cons_append,kI];split
  ·rfl
  exact tJ s A B
theorem nF (b:Bool) (s:cR): ∀(l:List cR) (i:Nat),kI (jY b i l) s=(cL l s).map fun k=>(b,((i+k:Nat):Int))
 |[],_=>rfl
 |x::l,i=>by
  simp only[jY,kI,cL];by_cases h:s=x
  ·subst h;simp
  rw[if_neg h,if_neg (fun e=>h e.symm),nF b s l (i+1)]
  cases cL l s with
  |none=>rfl
  |some k=>simp only[Option.map_some];congr 3;omega
theorem rE (s:cR): ∀A B:List cR,cL (A++B) s=match cL A s with |some k=>some k|none=>(cL B s).map (· +A.length)
 |[],B=>by
  simp only[List.nil_append,cL,List.length_nil];cases cL B s<;>rfl
 |x::A,B=>by
  simp only[List.cons_append,cL];split
  ·rfl
  rw[rE s A B]
  cases cL A s with
  |some k=>rfl
  |none=>
   cases cL B s with
   |none=>rfl
   |some k=>simp only[Option.map_some,bP];congr 1
theorem rS {p:Pg} {i:Nat} {f:Fu} (hf:p.funs[i]?=some f) (s:cR):nU (eW p) (qH f) s=(decide ((cK p i s).1=1),if(cK p i s).1=0 then 0 else(cK p i s).2)∧
  ((cK p i s).1=1→0≤(cK p i s).2∧(cK p i s).2<((f.params.length+f.locs.length:Nat):Int))∧((cK p i s).1=2→0≤(cK p i s).2∧(cK p i s).2<(p.vars.length:Int))∧((cK p i s).1=3→0≤(cK p i s).2∧(cK p i s).2<(p.arrs.length:Int))∧((cK p i s).1=4→0≤(cK p i s).2∧(cK p i s).2<(p.funs.length:Int)):=by
 have hI:kI (qH f) s=(cL (dT f) s).map fun k=>(true,((0+k:Nat):Int)):=nF true s _ 0
 have hG:kI (eW p) s=match cL p.vars s with
  |some k=>some (false,(k:Int))
  |none=>match cL (p.arrs.map Ar.name) s with
   |some k=>some (false,(k:Int))
   |none=>(cL (p.funs.map Fu.name) s).map (fun k:Nat=>((false,(k:Int)):Bool×Int)):=by
  rw[eW,tJ,tJ,nF,nF,nF];cases cL p.vars s<;>cases cL (p.arrs.map Ar.name) s<;>cases cL (p.funs.map Fu.name) s<;>simp
 unfold cK nU;rw[hI,hG,hf];simp only[Option.bind_some];rcases Option.eq_none_or_eq_some (cL (dT f) s)with h1|⟨k,h1⟩
 rotate_left
 ·have:=(eG _ _ _ h1).1
  have hl:(dT f).length=f.params.length+f.locs.length:=bU;simp only[h1,Option.map_some,decide_true,Nat.zero_add];refine⟨by simp,fun _=>⟨by omega,by omega⟩,fun h=>absurd h (by simp),fun h=>absurd h (by simp),fun h=>absurd h (by simp)⟩
 simp only[h1,Option.map_none];unfold jI fD;rw[rE,rE];rcases Option.eq_none_or_eq_some (cL p.vars s)with h2|⟨k,h2⟩
 rotate_left
 ·have:=(eG _ _ _ h2).1
  simp only[h2,if_pos this];refine⟨by simp,fun h=>absurd h (by simp),fun _=>⟨by omega,by omega⟩,fun h=>absurd h (by simp),fun h=>absurd h (by simp)⟩
 rcases Option.eq_none_or_eq_some (cL (p.arrs.map Ar.name) s)with h3|⟨k,h3⟩
 rotate_left
 ·have hk:=(eG _ _ _ h3).1
  rw[aD]at hk;simp only[h2,h3,Option.map_some,if_neg (show ¬(k+p.vars.length<p.vars.length)from by omega),Nat.add_sub_cancel,if_pos hk];refine⟨by simp,fun h=>absurd h (by simp),fun h=>absurd h (by simp),fun _=>⟨by omega,by omega⟩,fun h=>absurd h (by simp)⟩
 rcases Option.eq_none_or_eq_some (cL (p.funs.map Fu.name) s)with h4|⟨k,h4⟩
 rotate_left
 ·have hk:=(eG _ _ _ h4).1
  rw[aD]at hk;simp only[h2,h3,h4,Option.map_some,Option.map_none,bU,aD];rw[if_neg (show ¬(k+(p.vars.length+p.arrs.length)<p.vars.length)from by omega),if_neg (show ¬(k+(p.vars.length+p.arrs.length)-p.vars.length<p.arrs.length)from by omega),show k+(p.vars.length+p.arrs.length)-p.vars.length-p.arrs.length=k from by omega];refine⟨by simp,fun h=>absurd h (by simp),fun h=>absurd h (by simp),fun h=>absurd h (by simp),fun _=>⟨by omega,by omega⟩⟩
 simp only[h2,h3,h4,Option.map_none];refine⟨by simp,fun h=>absurd h (by simp),fun h=>absurd h (by simp),fun h=>absurd h (by simp),fun h=>absurd h (by simp)⟩
end Go.Al
namespace Go.Proofs.YtnfbbjhdflhmjaaGreatDoor
open Go.Al
theorem Mq (e:Ex) (level:Int):iL e level=(oO e level&&fM e.kind e.op e.kids.length&&eI e.kids (level+1)):=rfl
theorem sU {p:Pg} {i:Nat} {f:Fu} {cx:Cx} (hf:p.funs[i]?=some f) (hc: ∀(j:Nat) (g:Fu),p.funs[j]?=some g→ ∃c,cx.funs[j]?=some c∧c.words=g.params.length+g.locs.length) {u:Us} (h1:dN p i u=true) (h2:fH p i u=true):
  (u.kind=1→Oz cx p.vars.length i (nU (eW p) (qH f) u.name))∧(u.kind=3→0≤(nU (eW p) (qH f) u.name).2∧(nU (eW p) (qH f) u.name).2<(p.arrs.length:Int))∧(u.kind=4→ ∀k:Nat,u.num=(k:Int)→Cl cx i (nU (eW p) (qH f) u.name) k):=by
 obtain⟨hr,b1,b2,b3,b4⟩:=rS hf u.name;rw[hr];simp only[dN,Bool.not_eq_true',Bool.or_eq_false_iff,Bool.and_eq_false_iff,decide_eq_false_iff_not,Bool.not_eq_false',aP]at h1;obtain⟨⟨k1,k3⟩,k4⟩:=h1;refine⟨fun e=>?_,fun e=>?_,fun e k hk=>?_⟩
 ·rcases k1 with(h|h)|h
  ·exact absurd e h
  ·have:=b1 h
   refine⟨by simp only;rw[if_neg (by omega)];omega,fun _ c hcc=>?_,fun h'=>?_⟩
   ·obtain⟨c',q1,q2⟩:=hc i f hf
    rw[hcc]at q1;cases q1;simp only;rw[if_neg (by omega),q2];omega
   simp only[decide_eq_false_iff_not]at h';exact absurd h h'
  have:=b2 h;refine⟨by simp only;rw[if_neg (by omega)];omega,fun h'=>?_,fun _=>?_⟩
  ·simp only[aP]at h';omega
  simp only;rw[if_neg (by omega)];omega
 ·rcases k3 with h|h
  ·exact absurd e h
  have:=b3 h;simp only;rw[if_neg (by omega)];omega
 rcases k4 with h|⟨h,h'⟩
 ·exact absurd e h
 have:=b4 h;simp only[fH,e,decide_true,Bool.not_true,Bool.false_or]at h2;have hlt:(cK p i u.name).2.toNat<p.funs.length:=by omega
 rw[aG hlt]at h2;simp only[aP]at h2;obtain⟨c,q1,q2⟩:=hc _ _ (aG hlt);refine⟨by simp only;rw[if_neg (by omega)];omega,by simp only;rw[if_neg (by omega)];omega,c,by simp only;rw[if_neg (by omega)];exact q1,by rw[q2];omega⟩
theorem Yc {p:Pg} {i:Nat} {f:Fu} {cx:Cx} (hf:p.funs[i]?=some f) (hc: ∀(j:Nat) (g:Fu),p.funs[j]?=some g→ ∃c,cx.funs[j]?=some c∧c.words=g.params.length+g.locs.length) (n:Nat): ∀(l:List Ex) (level:Int),iJ l≤n→eI l level=true→(∀u∈dG l,dN p i u=true∧fH p i u=true)→qY cx p.vars.length p.arrs.length i (nU (eW p) (qH f)) l:=by
 induction n using Nat.strongRecOn with
 |_ n ih=>
  intro l level hn hr hu
  match l,hn,hr,hu with
  |[],_,_,_=>simp only[qY]
  |e::l,hn,hr,hu=>
   rw[gH,Mq]at hr;simp only[aK]at hr;obtain⟨⟨⟨_,hk⟩,hkr⟩,hl⟩:=hr;have hz:=e.sz_eq;simp only[iJ]at hn;have hul: ∀u∈dG l,dN p i u=true∧fH p i u=true:=fun u h=>hu u (by rw[eB];simp [h]);have huk: ∀u∈dG e.kids,dN p i u=true∧fH p i u=true:=fun u h=>hu u (by rw[eB];simp [h]);have hux: ∀u∈jL e,dN p i u=true∧fH p i u=true:=fun u h=>hu u (by rw[eB];simp [h]);have w1:=ih (iJ e.kids) (by omega) e.kids (level+1) (aY _) hkr huk;have w2:=ih (iJ l) (by omega) l level (aY _) hl hul;obtain⟨k,o,m,s,kids⟩:=e;simp only[Ex.kind,Ex.op,Ex.kids,Ex.name,jL]at *;simp only[qY,A5];refine⟨⟨fun h=>?_,fun h=>?_,fun h=>?_,fun h=>?_,fun n1 n2 n3 n4 n5 n7=>?_,w1⟩,w2⟩
   ·subst h
    obtain⟨g1,g2⟩:=hux ⟨s,1,0⟩ (by simp);exact(sU hf hc g1 g2).1 rfl
   ·subst h
    obtain⟨g1,g2⟩:=hux ⟨s,3,0⟩ (by simp);have:=(sU hf hc g1 g2).2.1 rfl;exact⟨this.1,this.2,by simp [fM]at hk;omega⟩
   ·subst h
    obtain⟨g1,g2⟩:=hux ⟨s,4,kids.length⟩ (by simp);exact(sU hf hc g1 g2).2.2 rfl kids.length rfl
   ·subst h
    simp [fM]at hk;omega
   unfold fM at hk;rw[if_neg (by omega),if_neg (by omega),if_neg (by omega)]at hk;split at hk
   ·simp only[aK,aP]at hk;omega
   split at hk
   ·simp only[aP]at hk;omega
   cases hk
theorem Yb {p:Pg} {i:Nat} {f:Fu} {cx:Cx} (hf:p.funs[i]?=some f) (hc: ∀(j:Nat) (g:Fu),p.funs[j]?=some g→ ∃c,cx.funs[j]?=some c∧c.words=g.params.length+g.locs.length) (n:Nat): ∀(l:List Sm) (level:Int),gA l≤n→eE l level=true→(∀u∈cT l,dN p i u=true∧fH p i u=true)→vO cx p.vars.length p.arrs.length i (nU (eW p) (qH f)) l:=by
 induction n using Nat.strongRecOn with
 |_ n ih=>
  intro l level hn hr hu
  match l,hn,hr,hu with
  |[],_,_,_=>simp only[vO]
  |e::l,hn,hr,hu=>
   rw[gG]at hr;simp only[iM,aK]at hr;obtain⟨⟨⟨⟨⟨_,hk⟩,hxr⟩,htr⟩,hur⟩,hl⟩:=hr;have hz:=e.sz_eq;simp only[gA]at hn;have hul: ∀u∈cT l,dN p i u=true∧fH p i u=true:=fun u h=>hu u (by rw[dB];simp [h]);have hue: ∀u∈dG e.es,dN p i u=true∧fH p i u=true:=fun u h=>hu u (by rw[dB];simp [h]);have hut: ∀u∈cT e.thn,dN p i u=true∧fH p i u=true:=fun u h=>hu u (by rw[dB];simp [h]);have huu: ∀u∈cT e.els,dN p i u=true∧fH p i u=true:=fun u h=>hu u (by rw[dB];simp [h]);have hux: ∀u∈hJ e,dN p i u=true∧fH p i u=true:=fun u h=>hu u (by rw[dB];simp [h]);have w0:=Yc hf hc _ e.es (level+1) (aY _) hxr hue;have w1:=ih (gA e.thn) (by omega) e.thn (level+1) (aY _) htr hut;have w3:=ih (gA e.els) (by omega) e.els (level+1) (aY _) hur huu;have w2:=ih (gA l) (by omega) l level (aY _) hl hul;obtain⟨k,s,es,t,u⟩:=e;simp only[Sm.kind,Sm.name,Sm.es,Sm.thn,Sm.els,hJ]at *;simp only[vO,Zw];refine⟨⟨fun h=>?_,fun h=>?_,fun h=>?_,fun h=>?_,w0,w1,w3⟩,w2⟩
   ·subst h
    obtain⟨g1,g2⟩:=hux ⟨s,1,0⟩ (by simp);exact(sU hf hc g1 g2).1 rfl
   ·subst h
    obtain⟨g1,g2⟩:=hux ⟨s,3,0⟩ (by simp);have:=(sU hf hc g1 g2).2.1 rfl;exact⟨this.1,this.2,by simp [pH]at hk;omega⟩
   ·subst h
    obtain⟨g1,g2⟩:=hux ⟨s,4,es.length⟩ (by simp);exact(sU hf hc g1 g2).2.2 rfl es.length rfl
   unfold pH at hk;rw[if_pos h]at hk;simp only[aP]at hk;omega
theorem pY {p:Pg} (h:eM p=0):eH p=true∧(fD p).Nodup∧fW p=true∧nA p=true:=by
 unfold eM at h;by_cases h1:eH p=true
 ·rw[if_pos h1]at h
  by_cases h2:jO p=0
  ·refine⟨h1, ?_⟩
   unfold jO at h2;split at h2
   ·rename_i a1
    split at h2
    ·rename_i a2
     have a3:=a1;simp only[fW,aK,aP]at a3;exact⟨a3.1,a1,a2⟩
    cases h2
   cases h2
  rw[if_neg h2]at h;exact absurd h h2
 rw[if_neg h1]at h;cases h
theorem tG (p:Pg): ∀(l:List Fu) (i:Nat),gD p i l=true→ ∀(j:Nat) f,l[j]?=some f→(cT f.body).all (fH p (i+j))=true
 |[],_,_,_,_,hf=>by simp at hf
 |g::l,i,h,j,f,hf=>by
  simp only[gD,aK]at h
  cases j with
  |zero=>simp at hf;subst hf;exact h.1
  |succ j=>
   have:=tG p l (i+1) h.2 j f (by simpa using hf);rwa [show i+1+j=i+(j+1)by omega]at this
theorem Mk {p:Pg} (h:eM p=0) (inp:cR) (fu:Int): ∃n r,Br (vG p inp fu) n p.vars.length (p.arrs.map fun a=>a.size.toNat)=some r:=by
 obtain⟨hr,hg,hn,hm⟩:=pY h;simp only[eH,aK,aP,List.all_eq_true]at hr;simp only[fW,aK]at hn;simp only[nA,aK]at hm;refine Mo (fun e=>?_) fun i c hc=>?_
 ·have:=congrArg List.length e
  simp only[vG,aD,List.length_nil]at this;omega
 simp only[vG,bN,aV]at hc;obtain⟨f,hf,rfl⟩:=hc;have g1:=(eP p p.funs 0 hn.2 i f hf).2;have g2:=tG p p.funs 0 hm.1 i f hf;rw[Nat.zero_add,List.all_eq_true]at g1 g2;have hrf:=hr.2 f (aL hf);simp only[eV,aK]at hrf;rw[aD];exact Yb hf (fun j g hg'=>⟨oD (eW p) g,by simp [vG,bN,hg'],rfl⟩) _ f.body 1 (aY _) hrf.2 fun u hu=>⟨g1 u hu,g2 u hu⟩
theorem Qr {p:Pg} (hp:p.few) (h:eM p=0):Ma p:=by
 obtain⟨hr,hg,hn,hm⟩:=pY h;simp only[eH,aK,aP,List.all_eq_true]at hr;simp only[fW,aK]at hn;refine⟨hp.ok,hg,fun f hf=>?_,hp.v,hp.a,hp.f,hr.1.1.1.2,hp.fs,fun a ha=>?_⟩
 ·obtain⟨i,hi⟩:=List.getElem?_of_mem hf
  exact(eP p p.funs 0 hn.2 i f hi).1
 have:=hr.1.2 a ha;simp only[fF,aK,aP]at this;omega
end Go.Proofs.YtnfbbjhdflhmjaaGreatDoor
namespace Go.Al
def Oc {α β:Type} (Q:α→RS→β→RS→Prop) (x:Option (Rz α)) (y:Option (Rz β)):Prop:=match x with
 |Option.none=>True
 |some (.val a s)=> ∃b s',y=some (.val b s')∧Q a s b s'
 |some (.fin e s)=> ∃s',y=some (.fin e s')∧s'.out=s.out∧s'.ticks=s.ticks
theorem Oc.bind {α β γ δ:Type} {Q:α→RS→β→RS→Prop} {R:γ→RS→δ→RS→Prop} {x:Option (Rz α)} {y:Option (Rz β)} {f:α→RS→Option (Rz γ)} {g:β→RS→Option (Rz δ)}
  (h:Oc Q x y) (hf: ∀a s b s',Q a s b s'→Oc R (f a s) (g b s')):Oc R (bindR x f) (bindR y g):=by
 match x,h with
 |Option.none,_=>exact trivial
 |some (.val a s),h=>obtain⟨b,s',rfl,hq⟩:=h;exact hf a s b s' hq
 |some (.fin e s),h=>obtain⟨s',rfl,h1,h2⟩:=h;exact⟨s',rfl,h1,h2⟩
theorem Oc.none {α β:Type} {Q:α→RS→β→RS→Prop} {y:Option (Rz β)}:Oc Q Option.none y:=trivial
theorem Oc.val {α β:Type} {Q:α→RS→β→RS→Prop} {a:α} {b:β} {s s':RS} (h:Q a s b s'):Oc Q (some (.val a s)) (some (.val b s')):=⟨b,s',rfl,h⟩
theorem Oc.fin {α β:Type} {Q:α→RS→β→RS→Prop} {e:Int} {s s':RS} (h1:s'.out=s.out) (h2:s'.ticks=s.ticks):Oc Q (some (.fin e s:Rz α)) (some (.fin e s':Rz β)):=⟨s',rfl,h1,h2⟩
theorem Oc.mono {α β:Type} {Q Q':α→RS→β→RS→Prop} {x:Option (Rz α)} {y:Option (Rz β)} (h:Oc Q x y) (hq: ∀a s b s',Q a s b s'→Q' a s b s'):Oc Q' x y:=by
 match x,h with
 |Option.none,_=>exact trivial
 |some (.val a s),h=>obtain⟨b,s',rfl,h2⟩:=h;exact⟨b,s',rfl,hq _ _ _ _ h2⟩
 |some (.fin e s),h=>obtain⟨s',rfl,h1,h2⟩:=h;exact⟨s',rfl,h1,h2⟩
theorem Oc.bindr {α β γ:Type} {Q:α→RS→β→RS→Prop} {R:α→RS→γ→RS→Prop} {x:Option (Rz α)} {y:Option (Rz β)} {g:β→RS→Option (Rz γ)}
  (h:Oc Q x y) (hf: ∀a s b s',Q a s b s'→ ∃c s2,g b s'=some (.val c s2)∧R a s c s2):Oc R x (bindR y g):=by
 match x,h with
 |Option.none,_=>exact trivial
 |some (.val a s),h=>
  obtain⟨b,s',rfl,hq⟩:=h;obtain⟨c,s2,h1,h2⟩:=hf a s b s' hq;exact⟨c,s2,h1,h2⟩
 |some (.fin e s),h=>obtain⟨s',rfl,h1,h2⟩:=h;exact⟨s',rfl,h1,h2⟩
theorem rF {α:Type} (l:List α) (k j:Nat) (f:α→α):(l.modify k f)[j]?=if k=j then(l[j]?).map f else l[j]?:=by
 rw[List.getElem?_modify];split<;>cases l[j]?<;>rfl
def vF (p:Pg) (k:Nat):Nat:=((p.vars.length:Int)+fG (p.arrs.take k)).toNat
def kG (p:Pg) (j:Nat):Nat:=(eA p+eC (p.funs.take j)).toNat
structure Ue (p:Pg):Prop where
 o: ∀k,(vF p k:Int)=p.vars.length+fG (p.arrs.take k)
 f: ∀j,(kG p j:Int)=eA p+eC (p.funs.take j)
 oz: ∀k a,p.arrs[k]?=some a→0≤a.size∧(vF p (k+1):Int)=vF p k+a.size
 om: ∀j k,j≤k→vF p j≤vF p k
 ofs: ∀k j,vF p k≤kG p j
 vo: ∀k,p.vars.length≤vF p k
 fz: ∀j g,p.funs[j]?=some g→kG p (j+1)=kG p j+(g.params.length+g.locs.length)
 fm: ∀j k,j≤k→kG p j≤kG p k
 w: ∀j,(kG p j:Int)≤dX p
theorem Rt {p:Pg} (hz: ∀a∈p.arrs,0≤a.size):Ue p:=by
 have hA0:=fun j=>iB (l:=p.arrs.take j) fun a ha=>hz a (List.mem_of_mem_take ha)
 have hA: ∀j k,j≤k→fG (p.arrs.take j)≤fG (p.arrs.take k):=fun j k h=>by
  have:=pX (l:=p.arrs.take k) (fun a ha=>hz a (List.mem_of_mem_take ha)) j;rwa [List.take_take,Nat.min_eq_left h]at this
 have hA1:=fun j=>pX (l:=p.arrs) hz j;have hF0:=fun j=>iA (p.funs.take j)
 have hF: ∀j k,j≤k→eC (p.funs.take j)≤eC (p.funs.take k):=fun j k h=>by
  have:=kP (p.funs.take k) j;rwa [List.take_take,Nat.min_eq_left h]at this
 have hF1:=fun j=>kP p.funs j;have hw:dX p=eA p+eC p.funs:=rfl;have hb:eA p=p.vars.length+fG p.arrs:=rfl;have hA2:=iB (l:=p.arrs) hz;have ho: ∀k,(vF p k:Int)=p.vars.length+fG (p.arrs.take k):=fun k=>by have:=hA0 k;unfold vF;omega
 have hf: ∀j,(kG p j:Int)=eA p+eC (p.funs.take j):=fun j=>by have:=hF0 j;unfold kG;omega
 refine⟨ho,hf,fun k a h=>⟨hz a (aL h), ?_⟩,fun j k h=>?_,fun k j=>?_,fun k=>?_,fun j g h=>?_,fun j k h=>?_,fun j=>?_⟩
 ·have:=(pA p.arrs 0 k a h).2
  rw[ho,ho];omega
 ·have:=hA j k h;have:=ho j;have:=ho k;omega
 ·have:=hA1 k;have:=hF0 j;have:=ho k;have:=hf j;omega
 ·have:=hA0 k;have:=ho k;omega
 ·have:=(jH p.funs 0 j g h).2;have:=hf j;have:=hf (j+1);omega
 ·have:=hF j k h;have:=hf j;have:=hf k;omega
 have:=hF1 j;have:=hf j;omega
structure Rl (p:Pg) (i:Nat) (ow:List Int) (s s':RS):Prop where
 rd:s'.read=s.read
 out:s'.out=s.out
 t:s'.ticks=s.ticks
 len:(s'.vars.length:Int)=dX p
 vl:s.vars.length=p.vars.length
 v: ∀k,k<p.vars.length→s'.vars[k]?=s.vars[k]?
 al: ∀k a,p.arrs[k]?=some a→ ∃l,s.arrs[k]?=some l∧(l.length:Int)=a.size∧ ∀j,j<l.length→s'.vars[vF p k+j]?=l[j]?
 owl: ∀g,p.funs[i]?=some g→ow.length=g.params.length+g.locs.length
 ows: ∀k,k<ow.length→s'.vars[kG p i+k]?=ow[k]?
 nv: ∀v∈s.vars,cC v
 na: ∀l∈s.arrs, ∀v∈l,cC v
 no: ∀v∈ow,cC v
def yO (p:Pg) (i:Nat) (s1 s2:RS):Prop:= ∀k,kG p (i+1)≤k→s2.vars[k]?=s1.vars[k]?
theorem yO.refl (p:Pg) (i:Nat) (s:RS):yO p i s s:=fun _ _=>rfl
theorem yO.trans {p:Pg} {i:Nat} {s1 s2 s3:RS} (h:yO p i s1 s2) (h':yO p i s2 s3):yO p i s1 s3:=fun k hk=>(h' k hk).trans (h k hk)
def QE (p:Pg) (i:Nat) (ow:List Int) (s0:RS) (t:Int):Int→RS→Int→RS→Prop:=fun v s w s'=>w=v∧Rl p i ow s s'∧yO p i s0 s'∧cC v∧(t=2→v=0∨v=1)
def QU (p:Pg) (i:Nat) (ow:List Int) (s0:RS):Unit→RS→Unit→RS→Prop:=fun _ s _ s'=>Rl p i ow s s'∧yO p i s0 s'
def QA (p:Pg) (i:Nat) (ow:List Int) (s0:RS) (n:Nat):List Int→RS→List Int→RS→Prop:=fun v s w s'=>w=v∧Rl p i ow s s'∧yO p i s0 s'∧v.length=n∧ ∀x∈v,cC x
def QS (p:Pg) (i:Nat) (s0:RS):Option Int×List Int→RS→Option Int→RS→Prop:=fun r s b s'=>b=r.1∧Rl p i r.2 s s'∧yO p i s0 s'∧ ∀v,r.1=some v→cC v
section
variable {p : Pg} {i : Nat} {ow : List Int} {s s' : RS} {cx : Cx} {kx : Kx}
theorem Rl.turn (h:Rl p i ow s s') {s2 s2':RS} (hv:s2.vars=s.vars) (ha:s2.arrs=s.arrs) (hv':s2'.vars=s'.vars) (h1:s2'.read=s2.read) (h2:s2'.out=s2.out) (h3:s2'.ticks=s2.ticks):Rl p i ow s2 s2':=
 ⟨h1,h2,h3,by rw[hv'];exact h.len,by rw[hv];exact h.vl,by rw[hv,hv'];exact h.v,by rw[ha,hv'];exact h.al,h.owl,by rw[hv'];exact h.ows,by rw[hv];exact h.nv,by rw[ha];exact h.na,h.no⟩
theorem Ki (h:Rl p i ow s s') (hf:kx.fuel=cx.fuel):Oc (QU p i ow s') (some (eQ cx s)) (some (eQ kx.cx s')):=by
 unfold eQ;rw[show kx.cx.fuel=cx.fuel from hf,h.t];split
 ·exact Oc.fin h.out h.t
 exact Oc.val ⟨h.turn rfl rfl rfl h.rd h.out (by simp only[]),fun _ _=>rfl⟩
theorem Zb (h:Rl p i ow s s') (hi:kx.inp=cx.inp) {t:Int} (ht:t≠2):Oc (QE p i ow s' t) (some (lW cx s)) (some (lW kx.cx s')):=by
 unfold lW;rw[show kx.cx.inp=cx.inp from hi,h.rd];split
 ·exact Oc.val ⟨rfl,h.turn rfl rfl rfl (by simp only[]) h.out h.t,fun _ _=>rfl,⟨Int.natCast_nonneg _,by have:=UInt8.toNat_lt ‹UInt8›;omega⟩,fun e=>absurd e ht⟩
 exact Oc.val ⟨rfl,h,fun _ _=>rfl,⟨by decide,by decide⟩,fun e=>absurd e ht⟩
theorem Yi (h:Rl p i ow s s') (v:Int):Oc (QU p i ow s') (some (kX v s)) (some (kX v s')):=by
 unfold kX;rw[h.out];split
 ·exact Oc.fin h.out h.t
 exact Oc.val ⟨h.turn rfl rfl rfl h.rd (by simp only[]) h.t,fun _ _=>rfl⟩
theorem Rn (hL:Ue p) (h:Rl p i ow s s') {k:Nat} {v:Int} (hv:ow[k]?=some v):qM (eA p+eC (p.funs.take i)+(k:Int)) s'=some v:=by
 have hk:=(aZ.1 hv).1;have:=hL.f i;unfold qM;rw[if_pos (by omega),show(eA p+eC (p.funs.take i)+(k:Int)).toNat=kG p i+k by omega,h.ows k hk,hv]
theorem Rm (h:Rl p i ow s s') {k:Nat} {v:Int} (hv:s.vars[k]?=some v):qM (k:Int) s'=some v:=by
 have hk:=(aZ.1 hv).1;rw[h.vl]at hk;unfold qM;rw[if_pos (by omega),Int.toNat_natCast,h.v k hk,hv]
theorem Ro (hL:Ue p) (h:Rl p i ow s s') {k j:Nat} {l:List Int} {v:Int} (hl:s.arrs[k]?=some l) (hv:l[j]?=some v) (hk:k<p.arrs.length):qM ((p.vars.length:Int)+fG (p.arrs.take k)+(j:Int)) s'=some v:=by
 have hj:=(aZ.1 hv).1;obtain⟨l',q1,q2,q3⟩:=h.al k _ (aG hk);rw[hl]at q1;cases q1;have:=hL.o k;unfold qM;rw[if_pos (by omega),show((p.vars.length:Int)+fG (p.arrs.take k)+(j:Int)).toNat=vF p k+j by omega,q3 j hj,hv]
theorem Ut (hL:Ue p) (hi:i<p.funs.length) (h:Rl p i ow s s') {k:Nat} {v:Int} (hv:cC v) (hk:k<ow.length): ∃s2,yY (eA p+eC (p.funs.take i)+(k:Int)) v s'=some s2∧Rl p i (ow.set k v) s s2∧yO p i s' s2:=by
 have hg:=aG hi;have e1:=hL.f i;have e2:=hL.fz i _ hg;have e3:=hL.w (i+1);have e4:=h.owl _ hg;have e5:=h.len;unfold yY;rw[if_pos (by omega),show(eA p+eC (p.funs.take i)+(k:Int)).toNat=kG p i+k by omega];refine⟨_,rfl,⟨h.rd,h.out,h.t,by simp only[List.length_set];exact h.len,h.vl,fun j hj=>?_,fun j a ha=>?_,fun g hg'=>by rw[List.length_set];exact h.owl g hg',fun j hj=>?_,h.nv,h.na,fun x hx=>(List.mem_or_eq_of_mem_set hx).elim (h.no x) fun e=>e▸hv⟩,fun j hj=>?_⟩
 ·have:=hL.vo 0;have:=hL.ofs 0 i
  simp only;rw[List.getElem?_set_ne (by omega)];exact h.v j hj
 ·obtain⟨l,q1,q2,q3⟩:=h.al j a ha
  refine⟨l,q1,q2,fun j' hj'=>?_⟩;have:=(hL.oz j a ha).2;have:=hL.ofs (j+1) i;simp only;rw[List.getElem?_set_ne (by omega)];exact q3 j' hj'
 ·rw[List.length_set]at hj
  simp only[List.getElem?_set];by_cases e:k=j
  ·subst e
   rw[if_pos rfl,if_pos rfl,if_pos (by omega),if_pos hj]
  rw[if_neg (by omega),if_neg e];exact h.ows j hj
 simp only;rw[List.getElem?_set_ne (by omega)]
theorem Ur (hL:Ue p) (h:Rl p i ow s s') {k:Nat} {v:Int} (hv:cC v) (hk:k<s.vars.length): ∃s2,yY (k:Int) v s'=some s2∧Rl p i ow {s with vars:=s.vars.set k v} s2∧yO p i s' s2:=by
 have e1:=h.vl;have e2:=hL.vo 0;have e3:=hL.ofs 0 0;have e4:=hL.w 0;have e5:=h.len;unfold yY;rw[if_pos (by omega),Int.toNat_natCast];refine⟨_,rfl,⟨h.rd,h.out,h.t,by simp only[List.length_set];exact h.len,by simp only[List.length_set];exact h.vl,fun j hj=>?_,fun j a ha=>?_,h.owl,fun j hj=>?_,fun x hx=>(List.mem_or_eq_of_mem_set hx).elim (h.nv x) fun e=>e▸hv,h.na,h.no⟩,fun j hj=>?_⟩
 ·simp only[List.getElem?_set]
  by_cases e:k=j
  ·subst e
   rw[if_pos rfl,if_pos rfl,if_pos (by omega),if_pos hk]
  rw[if_neg e,if_neg e];exact h.v j hj
 ·obtain⟨l,q1,q2,q3⟩:=h.al j a ha
  refine⟨l,q1,q2,fun j' hj'=>?_⟩;have:=hL.vo j;simp only;rw[List.getElem?_set_ne (by omega)];exact q3 j' hj'
 ·have:=hL.fm 0 i (Nat.zero_le _)
  simp only;rw[List.getElem?_set_ne (by omega)];exact h.ows j hj
 have:=hL.fm 0 (i+1) (Nat.zero_le _);simp only;rw[List.getElem?_set_ne (by omega)]
theorem Uv (hL:Ue p) (h:Rl p i ow s s') {k j:Nat} {l:List Int} {v:Int} (hv:cC v) (hl:s.arrs[k]?=some l) (hj:j<l.length) (hk:k<p.arrs.length): ∃s2,yY ((p.vars.length:Int)+fG (p.arrs.take k)+(j:Int)) v s'=some s2∧Rl p i ow (rA (k:Int) j v s) s2∧yO p i s' s2:=by
 obtain⟨l',q1,q2,q3⟩:=h.al k _ (aG hk);rw[hl]at q1;cases q1;have e1:=hL.o k;have e2:=hL.oz k _ (aG hk);have e3:=hL.ofs (k+1) 0;have e4:=hL.w 0;have e5:=h.len;have e6:=hL.vo k;unfold yY;rw[if_pos (by omega),show((p.vars.length:Int)+fG (p.arrs.take k)+(j:Int)).toNat=vF p k+j by omega];refine⟨_,rfl,⟨h.rd,h.out,h.t,by simp only[List.length_set];exact h.len,h.vl,fun j' hj'=>?_,fun k' a ha=>?_,h.owl,fun j' hj'=>?_,h.nv,fun l' hl' x hx=>?_,h.no⟩,fun j' hj'=>?_⟩
 ·simp only
  rw[List.getElem?_set_ne (by omega)];exact h.v j' hj'
 ·simp only[rA,Int.toNat_natCast]
  by_cases e:k'=k
  ·subst e
   rw[rF,if_pos rfl,hl];refine⟨l.set j v,rfl, ?_,fun j' hj'=>?_⟩
   ·rw[List.length_set]
    obtain⟨l2,w1,w2,_⟩:=h.al k' a ha;rw[hl]at w1;cases w1;exact w2
   rw[List.length_set]at hj';simp only[List.getElem?_set];by_cases e:j=j'
   ·subst e
    rw[if_pos rfl,if_pos rfl,if_pos (by omega),if_pos hj]
   rw[if_neg (by omega),if_neg e];exact q3 j' hj'
  obtain⟨l2,w1,w2,w3⟩:=h.al k' a ha;refine⟨l2,by rw[rF,if_neg (fun c=>e c.symm),w1],w2,fun j' hj'=>?_⟩;have g1:=(hL.oz k' a ha).2;rw[List.getElem?_set_ne ?_]
  ·exact w3 j' hj'
  rcases Nat.lt_or_ge k' k with c|c
  ·have:=hL.om (k'+1) k c;omega
  have:=hL.om (k+1) k' (by omega);omega
 ·have:=hL.fm 0 i (Nat.zero_le _)
  simp only;rw[List.getElem?_set_ne (by omega)];exact h.ows j' hj'
 ·simp only[rA,Int.toNat_natCast]at hl'
  obtain⟨q,hq⟩:=List.getElem?_of_mem hl';rw[rF]at hq;by_cases e:k=q
  ·subst e
   rw[if_pos rfl,hl]at hq;cases hq;exact(List.mem_or_eq_of_mem_set hx).elim (h.na l (aL hl) x) fun e=>e▸hv
  rw[if_neg e]at hq;exact h.na l' (aL hq) x hx
 have:=hL.fm 0 (i+1) (Nat.zero_le _);simp only;rw[List.getElem?_set_ne (by omega)]
theorem Yr {A B C:List Int} {k:Nat} (h:k<A.length):(A++B++C)[k]?=A[k]?:=by
 rw[List.append_assoc,List.getElem?_append_left h]
theorem Ys {A B C:List Int} {k:Nat} (h:k<B.length):(A++B++C)[A.length+k]?=B[k]?:=by
 rw[List.append_assoc,List.getElem?_append_right (by omega),Nat.add_sub_cancel_left,List.getElem?_append_left h]
theorem Yt {A B C:List Int} {k:Nat} (h:A.length+B.length≤k):(A++B++C)[k]?=C[k-(A.length+B.length)]?:=by
 rw[List.getElem?_append_right (by rw[bU];exact h),bU]
theorem Sv (hL:Ue p) (h:Rl p i ow s s') {m:Nat} {g:Fu} (hg:p.funs[m]?=some g) {vs:List Int} (hn: ∀v∈vs,cC v) (hv:vs.length≤g.params.length+g.locs.length):
  ∃s2,rH (nO p m (eA p+eC (p.funs.take m)) g) vs s'=some s2∧Rl p m (vs++List.replicate (g.params.length+g.locs.length-vs.length) 0) s s2∧yO p m s' s2∧s2.vars.length=s'.vars.length:=by
 have e1:=hL.f m;have e2:=hL.fz m g hg;have e3:=hL.w (m+1);have e5:=h.len;have e6:=hL.ofs 0 m;have e7:=hL.vo 0;unfold rH nO;simp only;rw[if_pos ⟨by omega,by omega,by omega,by omega⟩,Int.toNat_natCast,show(eA p+eC (p.funs.take m)).toNat=kG p m by omega,show(eA p+eC (p.funs.take m)+((g.params.length+g.locs.length:Nat):Int)).toNat=kG p (m+1)by omega];have lA:(s'.vars.take (kG p m)).length=kG p m:=by rw[cF];omega
 have lB:(vs++List.replicate (g.params.length+g.locs.length-vs.length) (0:Int)).length=g.params.length+g.locs.length:=by rw[bU,cO];omega
 have hBn: ∀v∈vs++List.replicate (g.params.length+g.locs.length-vs.length) (0:Int),cC v:=fun v hv=>(List.mem_append.1 hv).elim (hn v) fun h=>by rw[(List.mem_replicate.1 h).2];exact⟨by decide,by decide⟩
 generalize vs++List.replicate (g.params.length+g.locs.length-vs.length) (0:Int)=B at lB hBn
 have hl:(s'.vars.take (kG p m)++B++s'.vars.drop (kG p (m+1))).length=s'.vars.length:=by
  rw[bU,bU,lA,lB,List.length_drop];omega
 have lo: ∀k,k<kG p m→(s'.vars.take (kG p m)++B++s'.vars.drop (kG p (m+1)))[k]?=s'.vars[k]?:=fun k hk=>by
  rw[Yr (by omega),List.getElem?_take_of_lt hk]
 refine⟨_,rfl,⟨h.rd,h.out,h.t,by simp only[hl];exact h.len,h.vl,fun j hj=>?_,fun k a ha=>?_,fun g' hg'=>by rw[hg]at hg';cases hg';exact lB,fun j hj=>?_,h.nv,h.na,hBn⟩,fun k hk=>?_,hl⟩
 ·simp only
  rw[lo j (by omega)];exact h.v j hj
 ·obtain⟨l,q1,q2,q3⟩:=h.al k a ha
  refine⟨l,q1,q2,fun j hj=>?_⟩;have:=(hL.oz k a ha).2;have:=hL.ofs (k+1) m;simp only;rw[lo _ (by omega)];exact q3 j hj
 ·have:=Ys (A:=s'.vars.take (kG p m)) (B:=B) (C:=s'.vars.drop (kG p (m+1))) hj
  rw[lA]at this;exact this
 simp only;rw[Yt (by omega),lA,lB,List.getElem?_drop];congr 1;omega
theorem Rs (hL:Ue p) (h:Rl p i ow s s') {m:Nat} (hm:m<i) {ow2:List Int} {s1 s2:RS} {s3:RS} (h1:yO p m s' s1) (h2:Rl p m ow2 s3 s2) (h3:yO p m s1 s2):Rl p i ow s3 s2∧yO p i s' s2:=by
 have hk: ∀k,kG p (m+1)≤k→s2.vars[k]?=s'.vars[k]?:=fun k hk=>(h3 k hk).trans (h1 k hk);refine⟨⟨h2.rd,h2.out,h2.t,h2.len,h2.vl,h2.v,h2.al,h.owl,fun k hk'=>?_,h2.nv,h2.na,h.no⟩,fun k hk'=>hk k ?_⟩
 ·rw[hk _ (by have:=hL.fm (m+1) i hm;omega)];exact h.ows k hk'
 have:=hL.fm (m+1) (i+1) (by omega);omega
end
end Go.Al
