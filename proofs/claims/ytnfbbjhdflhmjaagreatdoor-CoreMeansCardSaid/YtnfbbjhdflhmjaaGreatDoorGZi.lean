/- Chapter 19: CoreOf. -/
import Derived.Test.YtnfbbjhdflhmjaaGreatDoorGOd
import Derived.Test.YtnfbbjhdflhmjaaGreatDoorGKh
set_option linter.unusedSimpArgs false
set_option linter.unusedVariables false
set_option maxRecDepth 10000
namespace Go.Al
section
variable {rs : cR → Int × Int}
theorem Zi (N:Nat): ∀l:List Ex,iJ l≤N→fU (l.map (sT rs))=iJ l:=by
 induction N with
 |zero=>
  intro l hl
  cases l with
  |nil=>rfl
  |cons e l=>have:=e.sz_eq;simp only[iJ]at hl;omega
 |succ n ih=>
  intro l
  induction l with
  |nil=>intro _;rfl
  |cons e l ihl=>
   intro hl;have hs:=e.sz_eq;simp only[iJ]at hl;have h1:=ih e.kids (by omega);have h2:=ihl (by omega);obtain⟨k,o,m,s,kids⟩:=e;simp only[Ex.kids]at h1 hs;simp only[List.map_cons,fU,iJ,sT,CE.sz,Ex.sz,lH,h1,h2]
theorem Zg (N:Nat): ∀l:List Sm,gA l≤N→eZ (l.map (rM rs))=gA l:=by
 induction N with
 |zero=>
  intro l hl
  cases l with
  |nil=>rfl
  |cons e l=>have:=e.sz_eq;simp only[gA]at hl;omega
 |succ n ih=>
  intro l
  induction l with
  |nil=>intro _;rfl
  |cons e l ihl=>
   intro hl;have hs:=e.sz_eq;simp only[gA]at hl;have h0:=Zi (rs:=rs) _ e.es (aY _);have h1:=ih e.thn (by omega);have h3:=ih e.els (by omega);have h2:=ihl (by omega);obtain⟨k,s,es,t,u⟩:=e;simp only[Sm.es,Sm.thn,Sm.els]at h0 h1 h3 hs;simp only[List.map_cons,eZ,gA,rM,CS.sz,Sm.sz,lF,h0,h1,h2,h3]
theorem Zj (hrs: ∀s,dA (rs s).1∧dA (rs s).2) (N:Nat): ∀e:Ex,e.sz≤N→e.ok→(sT rs e).ok:=by
 induction N with
 |zero=>intro e he;have:=e.sz_eq;omega
 |succ n ih=>
  intro e hs ho
  cases ho with
  |mk k o m s l hk h2 hn h3 hl h=>
   simp only[Ex.sz]at hs;simp only[sT,lH];refine CE.ok.mk _ _ _ _ _ _ hk h2 hn (hrs s).1 (hrs s).2 (by unfold cY at *;rw[aD];exact hl) fun e he=>?_;obtain⟨x,hx,rfl⟩:=List.mem_map.1 he;have:=jR hx;exact ih x (by omega) (h x hx)
theorem Vp (hrs: ∀s,dA (rs s).1∧dA (rs s).2) {l:List Ex} (h:Cw l):vE (l.map (sT rs)):=
 ⟨by have:=h.fit;unfold cY at *;rw[aD];exact this,fun e he=>by
  obtain⟨x,hx,rfl⟩:=List.mem_map.1 he
  exact Zj hrs _ x (aY _) (h.all x hx)⟩
theorem Zh (hrs: ∀s,dA (rs s).1∧dA (rs s).2) (N:Nat): ∀e:Sm,e.sz≤N→e.ok→(rM rs e).ok:=by
 induction N with
 |zero=>intro e he;have:=e.sz_eq;omega
 |succ n ih=>
  intro e hs ho;have h1:=ho.kind;have h2:=ho.es;have h3:=ho.thn;have h4:=ho.els;obtain⟨k,s,es,t,u⟩:=e;simp only[Sm.kind,Sm.es,Sm.thn,Sm.els]at h1 h2 h3 h4;simp only[Sm.sz]at hs;simp only[rM,lF]
  have key: ∀l:List Sm,gA l≤n→(∀x∈l,x.ok)→ ∀e∈l.map (rM rs),e.ok:=fun l hl h e he=>by
   obtain⟨x,hx,rfl⟩:=List.mem_map.1 he;have:=gY hx;exact ih x (by omega) (h x hx)
  exact CS.ok.mk _ _ _ _ _ _ h1 (hrs s).1 (hrs s).2 (Vp hrs h2) (by have:=h3.fit;unfold cY at *;rw[aD];exact this) (key t (by omega) h3.all) (by have:=h4.fit;unfold cY at *;rw[aD];exact this) (key u (by omega) h4.all)
end
theorem Uo {p:Pg} (hp:p.few) (hsz: ∀a∈p.arrs,0≤a.size∧a.size≤4096) (i:Nat) (s:cR):dA (gM p i s).1∧dA (gM p i s).2:=by
 have hA:=rP hsz;have hF:=vK (l:=p.funs) fun f hf=>⟨(hp.fs f hf).1,(hp.fs f hf).2.1⟩;have hA2:=fun j=>pX (l:=p.arrs) (fun a ha=>(hsz a ha).1) j;have hA3: ∀j,0≤fG (p.arrs.take j):=fun j=>iB fun a ha=>(hsz a (List.mem_of_mem_take ha)).1;have hF2:=kP p.funs i;have hF3:=iA (p.funs.take i);have hb:eA p=p.vars.length+fG p.arrs:=rfl;have h1:=hp.v;have h2:=hp.a;have h3:=hp.f;have hbd:=Ss p i s (by rw[nJ];omega) (fun f hf=>by have:=hp.fs f hf;have :(dT f).length=f.params.length+f.locs.length:=bU;omega);have hrng:=nL p i s;unfold gM;split
 ·exact⟨⟨by decide,by decide⟩,⟨by decide,by decide⟩⟩
 unfold mD;split
 ·exact⟨⟨by simp only;omega,by simp only;omega⟩,⟨by simp only;omega,by simp only;omega⟩⟩
 split
 ·rename_i h
  obtain⟨k,a,q1,q2⟩:=hrng.2 h;have:=hA2 k;have:=hA3 k;have:=hsz a (aL q2);rw[q1,Int.toNat_natCast,q2];simp only[Option.map_some,Option.getD_some];exact⟨⟨by omega,by omega⟩,⟨by omega,by omega⟩⟩
 exact⟨⟨by simp only;omega,by simp only;omega⟩,⟨by simp only;omega,by simp only;omega⟩⟩
theorem Qp {α:Type} (z:α→Nat) (B:Nat): ∀l:List α,(∀a∈l,z a≤B)→(l.map z).sum≤l.length *B
 |[],_=>by simp
 |a::l,h=>by
  have h1:=h a List.mem_cons_self;have h2:=Qp z B l fun x hx=>h x (List.mem_cons_of_mem _ hx);rw[List.map_cons,List.sum_cons,bP,Nat.add_mul,Nat.one_mul];omega
end Go.Al
namespace Go.Proofs.YtnfbbjhdflhmjaaGreatDoor
open Go.Al
theorem Uy {p:Pg} (hp:p.few) (hsz: ∀a∈p.arrs,0≤a.size∧a.size≤4096):(uJ p).1.ok:=by
 have hz:Co.ok ⟨0,[]⟩:=⟨⟨by decide,by decide⟩,by simp [cY],fun f hf=>by cases hf⟩;rw[←Bu];unfold Zx;split
 ·split
  ·have hA:=rP hsz
   have hF:=vK (l:=p.funs) fun f hf=>⟨(hp.fs f hf).1,(hp.fs f hf).2.1⟩;have hb:eA p=p.vars.length+fG p.arrs:=rfl;have hw:dX p=eA p+eC p.funs:=rfl;have h1:=hp.v;have h2:=hp.a;have h3:=hp.f;refine⟨⟨by simp only;omega,by simp only;omega⟩,by unfold cY;simp only;rw[pJ];omega,fun c hc=>?_⟩;obtain⟨j,hj⟩:=List.getElem?_of_mem hc;rw[lG,aV]at hj;obtain⟨f,hf,rfl⟩:=hj;have hfs:=hp.fs f (aL hf);have hF2:=kP p.funs j;have hF3:=iA (p.funs.take j);have hbo:=(hp.ok.funs f (aL hf)).body;have hrs:=Uo hp hsz (0+j);refine⟨⟨by simp only[nO];omega,by simp only[nO];omega⟩,⟨by simp only[nO];omega,by simp only[nO];omega⟩,⟨by simp only[nO];omega,by simp only[nO];omega⟩,⟨by have:=hbo.fit;simp only[nO];unfold cY at *;rw[aD];exact this,fun e he=>?_⟩⟩;simp only[nO]at he;obtain⟨x,hx,rfl⟩:=List.mem_map.1 he;exact Zh hrs _ x (aY _) (hbo.all x hx)
  exact hz
 exact hz
theorem Yq {p:Pg} (hp:p.few) (h0:(uJ p).2=0):Mm (uJ p).1≤1000000000∧(uJ p).1.funs.length≤1000000∧eM p=0∧dX p≤32768:=by
 rw[←Bu]at *;unfold Zx at *;by_cases hs:eM p=0
 ·rw[if_pos hs]at *
  by_cases hw:dX p≤32768
  ·rw[if_pos hw]at *
   have hr:=(Bp hs).r;simp only[eH,aK,aP]at hr;have hl:=pJ p p.funs 0 (eA p);refine⟨?_,by simp only;omega,hs,hw⟩;unfold Mm
   have:=Qp (fun f:CF=>eZ f.body) 1000000 (oW p 0 (eA p) p.funs) fun c hc=>by
    obtain⟨j,hj⟩:=List.getElem?_of_mem hc;rw[lG,aV]at hj;obtain⟨f,hf,rfl⟩:=hj;have:=hp.fs f (aL hf);simp only[nO];rw[Zg _ f.body (aY _)];omega
   rw[hl]at this;have h64:p.funs.length *1000000≤64 *1000000:=Nat.mul_le_mul_right _ hr.1.1.2;exact Nat.le_trans this (by omega)
  rw[if_neg hw]at h0;cases h0
 rw[if_neg hs]at h0;exact absurd h0 hs
end Go.Proofs.YtnfbbjhdflhmjaaGreatDoor
