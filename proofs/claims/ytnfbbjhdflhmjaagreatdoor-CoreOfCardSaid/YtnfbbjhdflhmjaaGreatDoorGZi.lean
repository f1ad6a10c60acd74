/- Chapter 19: CoreOf. -/
import Derived.Test.YtnfbbjhdflhmjaaGreatDoorGZe
import Derived.Test.YtnfbbjhdflhmjaaGreatDoorGZf
import Derived.Test.YtnfbbjhdflhmjaaGreatDoorGRe
import Derived.Test.YtnfbbjhdflhmjaaGreatDoorGLf
set_option linter.unusedSimpArgs false
set_option linter.unusedVariables false
set_option maxRecDepth 10000
namespace Go.Al
section
variable {rs : dD → Int × Int}
theorem Zp (N:Nat): ∀l:List Ex,iA l≤N→dR (l.map (rT rs))=iA l:=by
 induction N with
 |zero=>
  intro l hl
  cases l with
  |nil=>rfl
  |cons e l=>have:=e.sz_eq;simp only[iA]at hl;omega
 |succ n ih=>
  intro l
  induction l with
  |nil=>intro _;rfl
  |cons e l ihl=>
   intro hl;have hs:=e.sz_eq;simp only[iA]at hl;have h1:=ih e.kids (by omega);have h2:=ihl (by omega);obtain⟨k,o,m,s,kids⟩:=e;simp only[Ex.kids]at h1 hs;simp only[List.map_cons,dR,iA,rT,CE.sz,Ex.sz,nK,h1,h2]
theorem Zn (N:Nat): ∀l:List Sm,fE l≤N→dB (l.map (pU rs))=fE l:=by
 induction N with
 |zero=>
  intro l hl
  cases l with
  |nil=>rfl
  |cons e l=>have:=e.sz_eq;simp only[fE]at hl;omega
 |succ n ih=>
  intro l
  induction l with
  |nil=>intro _;rfl
  |cons e l ihl=>
   intro hl;have hs:=e.sz_eq;simp only[fE]at hl;have h0:=Zp (rs:=rs) _ e.es (aY _);have h1:=ih e.thn (by omega);have h3:=ih e.els (by omega);have h2:=ihl (by omega);obtain⟨k,s,es,t,u⟩:=e;simp only[Sm.es,Sm.thn,Sm.els]at h0 h1 h3 hs;simp only[List.map_cons,dB,fE,pU,CS.sz,Sm.sz,nI,h0,h1,h2,h3]
theorem Zq (hrs: ∀s,dC (rs s).1∧dC (rs s).2) (N:Nat): ∀e:Ex,e.sz≤N→e.ok→(rT rs e).ok:=by
 induction N with
 |zero=>intro e he;have:=e.sz_eq;omega
 |succ n ih=>
  intro e hs ho
  cases ho with
  |mk k o m s l hk h2 hn h3 hl h=>
   simp only[Ex.sz]at hs;simp only[rT,nK];refine CE.ok.mk _ _ _ _ _ _ hk h2 hn (hrs s).1 (hrs s).2 (by unfold cI at *;rw[aD];exact hl) fun e he=>?_;obtain⟨x,hx,rfl⟩:=List.mem_map.1 he;have:=iI hx;exact ih x (by omega) (h x hx)
theorem Wc (hrs: ∀s,dC (rs s).1∧dC (rs s).2) {l:List Ex} (h:xQ l):pH (l.map (rT rs)):=
 ⟨by have:=h.fit;unfold cI at *;rw[aD];exact this,fun e he=>by
  obtain⟨x,hx,rfl⟩:=List.mem_map.1 he
  exact Zq hrs _ x (aY _) (h.all x hx)⟩
theorem Zo (hrs: ∀s,dC (rs s).1∧dC (rs s).2) (N:Nat): ∀e:Sm,e.sz≤N→e.ok→(pU rs e).ok:=by
 induction N with
 |zero=>intro e he;have:=e.sz_eq;omega
 |succ n ih=>
  intro e hs ho;have h1:=ho.kind;have h2:=ho.es;have h3:=ho.thn;have h4:=ho.els;obtain⟨k,s,es,t,u⟩:=e;simp only[Sm.kind,Sm.es,Sm.thn,Sm.els]at h1 h2 h3 h4;simp only[Sm.sz]at hs;simp only[pU,nI]
  have key: ∀l:List Sm,fE l≤n→(∀x∈l,x.ok)→ ∀e∈l.map (pU rs),e.ok:=fun l hl h e he=>by
   obtain⟨x,hx,rfl⟩:=List.mem_map.1 he;have:=fT hx;exact ih x (by omega) (h x hx)
  exact CS.ok.mk _ _ _ _ _ _ h1 (hrs s).1 (hrs s).2 (Wc hrs h2) (by have:=h3.fit;unfold cI at *;rw[aD];exact this) (key t (by omega) h3.all) (by have:=h4.fit;unfold cI at *;rw[aD];exact this) (key u (by omega) h4.all)
end
theorem Vi {p:Pg} (hp:p.few) (hsz: ∀a∈p.arrs,0≤a.size∧a.size≤4096) (i:Nat) (s:dD):dC (fF p i s).1∧dC (fF p i s).2:=by
 have hA:=nV hsz;have hF:=qQ (l:=p.funs) fun f hf=>⟨(hp.fs f hf).1,(hp.fs f hf).2.1⟩;have hA2:=fun j=>qR (l:=p.arrs) (fun a ha=>(hsz a ha).1) j;have hA3: ∀j,0≤fM (p.arrs.take j):=fun j=>iB fun a ha=>(hsz a (List.mem_of_mem_take ha)).1;have hF2:=kW p.funs i;have hF3:=gH (p.funs.take i);have hb:dV p=p.vars.length+fM p.arrs:=rfl;have h1:=hp.v;have h2:=hp.a;have h3:=hp.f;have hbd:=Hd p i s (by rw[nG];omega) (fun f hf=>by have:=hp.fs f hf;have :(dX f).length=f.params.length+f.locs.length:=bP;omega);have hrng:=qX p i s;unfold fF;split
 ·exact⟨⟨by decide,by decide⟩,⟨by decide,by decide⟩⟩
 unfold mV;split
 ·exact⟨⟨by simp only;omega,by simp only;omega⟩,⟨by simp only;omega,by simp only;omega⟩⟩
 split
 ·rename_i h
  obtain⟨k,a,q1,q2⟩:=hrng.2 h;have:=hA2 k;have:=hA3 k;have:=hsz a (bN q2);rw[q1,Int.toNat_natCast,q2];simp only[Option.map_some,Option.getD_some];exact⟨⟨by omega,by omega⟩,⟨by omega,by omega⟩⟩
 exact⟨⟨by simp only;omega,by simp only;omega⟩,⟨by simp only;omega,by simp only;omega⟩⟩
theorem Sj {α:Type} (z:α→Nat) (B:Nat): ∀l:List α,(∀a∈l,z a≤B)→(l.map z).sum≤l.length *B
 |[],_=>by simp
 |a::l,h=>by
  have h1:=h a List.mem_cons_self;have h2:=Sj z B l fun x hx=>h x (List.mem_cons_of_mem _ hx);rw[List.map_cons,List.sum_cons,bU,Nat.add_mul,Nat.one_mul];omega
end Go.Al
namespace Go.Proofs.YtnfbbjhdflhmjaaGreatDoor
open Go.Al
theorem Vq {p:Pg} (hp:p.few) (hsz: ∀a∈p.arrs,0≤a.size∧a.size≤4096):(oO p).1.ok:=by
 have hz:Co.ok ⟨0,[]⟩:=⟨⟨by decide,by decide⟩,by simp [cI],fun f hf=>by cases hf⟩;rw[←Dp];unfold Tb;split
 ·split
  ·have hA:=nV hsz
   have hF:=qQ (l:=p.funs) fun f hf=>⟨(hp.fs f hf).1,(hp.fs f hf).2.1⟩;have hb:dV p=p.vars.length+fM p.arrs:=rfl;have hw:dH p=dV p+dZ p.funs:=rfl;have h1:=hp.v;have h2:=hp.a;have h3:=hp.f;refine⟨⟨by simp only;omega,by simp only;omega⟩,by unfold cI;simp only;rw[pV];omega,fun c hc=>?_⟩;obtain⟨j,hj⟩:=List.getElem?_of_mem hc;rw[pW,bE]at hj;obtain⟨f,hf,rfl⟩:=hj;have hfs:=hp.fs f (bN hf);have hF2:=kW p.funs j;have hF3:=gH (p.funs.take j);have hbo:=(hp.ok.funs f (bN hf)).body;have hrs:=Vi hp hsz (0+j);refine⟨⟨by simp only[oG];omega,by simp only[oG];omega⟩,⟨by simp only[oG];omega,by simp only[oG];omega⟩,⟨by simp only[oG];omega,by simp only[oG];omega⟩,⟨by have:=hbo.fit;simp only[oG];unfold cI at *;rw[aD];exact this,fun e he=>?_⟩⟩;simp only[oG]at he;obtain⟨x,hx,rfl⟩:=List.mem_map.1 he;exact Zo hrs _ x (aY _) (hbo.all x hx)
  exact hz
 exact hz
theorem Zf {p:Pg} (hp:p.few) (h0:(oO p).2=0):sR (oO p).1≤1000000000∧(oO p).1.funs.length≤1000000∧dT p=0∧dH p≤32768:=by
 rw[←Dp]at *;unfold Tb at *;by_cases hs:dT p=0
 ·rw[if_pos hs]at *
  by_cases hw:dH p≤32768
  ·rw[if_pos hw]at *
   have hr:=(Jn hs).r;simp only[eD,aS,aW]at hr;have hl:=pV p p.funs 0 (dV p);refine⟨?_,by simp only;omega,hs,hw⟩;unfold sR
   have:=Sj (fun f:CF=>dB f.body) 1000000 (nJ p 0 (dV p) p.funs) fun c hc=>by
    obtain⟨j,hj⟩:=List.getElem?_of_mem hc;rw[pW,bE]at hj;obtain⟨f,hf,rfl⟩:=hj;have:=hp.fs f (bN hf);simp only[oG];rw[Zn _ f.body (aY _)];omega
   rw[hl]at this;have h64:p.funs.length *1000000≤64 *1000000:=Nat.mul_le_mul_right _ hr.1.1.2;exact Nat.le_trans this (by omega)
  rw[if_neg hw]at h0;cases h0
 rw[if_neg hs]at h0;exact absurd h0 hs
set_option maxHeartbeats 4000000 in
theorem Lz (p:Pg) (hp:p.ok):cJ cK 4 [p.av] (.bool true):=by
 have hf:=Ca p hp;have hav:p.av= .agg [.isl 1 (p.vars.map bK), .isl 2 (p.arrs.map Ar.row), .isl 5 (p.funs.map Fu.row)]:=rfl
 cases hq:Cb p with
 |false=>
  rw[hq]at hf;rw[hav]at *;refine bI 50 [.tmp 2] Tryz.func4 rfl rfl rfl rfl ?_;refine aB fun _ y=>aA rfl ?_;simp only[RR,seval];refine aP fun b1 hn1=>?_;simp only[RR,seval];apply y;clear y;refine aI ?_;refine aB fun _ y=>aA rfl ?_;simp only[RR,seval];refine aN (kE) ?_;simp only[RR,seval];apply y;clear y;refine aH false rfl (fun hc=>by cases hc) (fun _=>?_);refine aK ?_;try simp only[RR]
  refine aI ?_;refine aB fun _ y=>aA rfl ?_;simp only[RR,seval];refine aN (hf) ?_;simp only[RR,seval];apply y;clear y;refine aH true rfl (fun _=>?_) (fun hc=>by cases hc);refine aB fun _ y=>aA rfl ?_;simp only[RR,seval];apply y;clear y;refine aO ?_;simp only[bB,aL,bH,RR,seval];refine aZ.pure ?_;rfl
 |true=>
  rw[hq]at hf;obtain⟨hfew,h1,hsz⟩:=Bz p hp hq;have hO:=Lx p hfew;have hJ:=Oo p hfew hsz;rw[Dp]at hJ;have hok:=Vq hfew hsz;have s1:=Pw _ _ hok hok;have s2:=Ql _ _ hok hok;rw[fK]at s1 s2;have hz:=Zf hfew
  have r1:(oO p).2=0→cJ cK 14 [(oO p).1.av] (.bool true):=fun h=>by
   have:=Ln _ hok;obtain⟨_,_,h2,h3⟩:=hz h;rwa [Lf h2 h3]at this
  have z1:(oO p).2=0→cJ cK 15 [(oO p).1.av] (.int .i64 (sR (oO p).1:Nat)):=fun h=>Ci _ (hz h).1 (hz h).2.1;have z2:(oO p).2=0→cJ cK 16 [(oO p).1.av] (.int .i64 (sR (oO p).1:Nat)):=fun h=>Pc _ (hz h).1 (hz h).2.1;have hco:(oO p).1.av= .agg [.int .i64 (oO p).1.words, .isl 5 ((oO p).1.funs.map CF.row)]:=rfl;clear hz hok hq hfew hsz;generalize sR (oO p).1=sz at *;rw[hco]at hO hJ s1 s2 r1 z1 z2;clear hco;generalize(oO p).2=e at *;generalize(oO p).1.words=w1 at *;generalize(oO p).1.funs.map CF.row=fs1 at *;rw[hav]at *;by_cases h0:e=0
  ·subst h0
   have r1:=r1 rfl;have z1:=z1 rfl;have z2:=z2 rfl;refine bI 50 [.tmp 2] Tryz.func4 rfl rfl rfl rfl ?_;refine aB fun _ y=>aA rfl ?_;simp only[RR,seval];refine aP fun b1 hn1=>?_;simp only[RR,seval];apply y;clear y;refine aI ?_;refine aB fun _ y=>aA rfl ?_;simp only[RR,seval];refine aN (kE) ?_;simp only[RR,seval];apply y;clear y;refine aH false rfl (fun hc=>by cases hc) (fun _=>?_);refine aK ?_;try simp only[RR]
   refine aI ?_;refine aB fun _ y=>aA rfl ?_;simp only[RR,seval];refine aN (hf) ?_;simp only[RR,seval];apply y;clear y;refine aH false rfl (fun hc=>by cases hc) (fun _=>?_);refine aK ?_;try simp only[RR]
   refine aB fun _ y=>aA rfl ?_;simp only[RR,seval];refine aN (hO) ?_;simp only[RR,seval];refine aP fun b3 hn3=>?_;have nb3_b1:b3≠b1:=fun e=>by rw[e]at hn3;simp only[RR,seval,reduceCtorEq]at hn3
   have nb1_b3:b1≠b3:=fun e=>nb3_b1 e.symm;simp only[RR,seval];apply y;clear y;refine aB fun _ y=>aA rfl ?_;simp only[nb1_b3,RR,seval];refine aN (hJ) ?_;simp only[RR,seval];refine aP fun b5 hn5=>?_;have nb5_b1:b5≠b1:=fun e=>by rw[e]at hn5;simp only[nb1_b3,RR,seval,reduceCtorEq]at hn5
   have nb1_b5:b1≠b5:=fun e=>nb5_b1 e.symm;have nb5_b3:b5≠b3:=fun e=>by rw[e]at hn5;simp only[RR,seval,reduceCtorEq]at hn5
   have nb3_b5:b3≠b5:=fun e=>nb5_b3 e.symm;simp only[RR,seval];apply y;clear y;refine aI ?_;refine aB fun _ y=>aA rfl ?_;simp only[nb3_b5,RR,seval];refine aN (s2) ?_;simp only[nb3_b5,RR,seval];refine aN (s1) ?_;simp only[RR,seval];apply y;clear y;refine aH false rfl (fun hc=>by cases hc) (fun _=>?_);refine aK ?_;try simp only[RR]
   refine aB fun K y=>?_;refine bJ (fun x=>x≠b1∧x≠b3∧x≠b5) [(0,3),(1,3),(2,3),(3,1),(4,1),(5,3),(6,1),(8,0),(7,1),(9,1),(10,3),(11,3),(12,3),(13,3)] [] dG (by kernel_rfl) rfl rfl ?_;simp only[cF,dM,nb3_b5,RR,seval];refine aN (r1) ?_;simp only[nb5_b1,nb5_b3,nb3_b5,RR,seval];refine aN (z1) ?_;simp only[RR,seval];refine aN (z2) ?_;simp only[RR,seval];apply y;clear y;refine aO ?_;simp only[bB,aL,bH,RR,seval];refine aZ.pure ?_;rfl
  clear r1 z1 z2;refine bI 50 [.tmp 2] Tryz.func4 rfl rfl rfl rfl ?_;refine aB fun _ y=>aA rfl ?_;simp only[RR,seval];refine aP fun b1 hn1=>?_;simp only[RR,seval];apply y;clear y;refine aI ?_;refine aB fun _ y=>aA rfl ?_;simp only[RR,seval];refine aN (kE) ?_;simp only[RR,seval];apply y;clear y;refine aH false rfl (fun hc=>by cases hc) (fun _=>?_);refine aK ?_;try simp only[RR]
  refine aI ?_;refine aB fun _ y=>aA rfl ?_;simp only[RR,seval];refine aN (hf) ?_;simp only[RR,seval];apply y;clear y;refine aH false rfl (fun hc=>by cases hc) (fun _=>?_);refine aK ?_;try simp only[RR]
  refine aB fun _ y=>aA rfl ?_;simp only[RR,seval];refine aN (hO) ?_;simp only[RR,seval];refine aP fun b3 hn3=>?_;have nb3_b1:b3≠b1:=fun e=>by rw[e]at hn3;simp only[RR,seval,reduceCtorEq]at hn3
  have nb1_b3:b1≠b3:=fun e=>nb3_b1 e.symm;simp only[RR,seval];apply y;clear y;refine aB fun _ y=>aA rfl ?_;simp only[nb1_b3,RR,seval];refine aN (hJ) ?_;simp only[RR,seval];refine aP fun b5 hn5=>?_;have nb5_b1:b5≠b1:=fun e=>by rw[e]at hn5;simp only[nb1_b3,RR,seval,reduceCtorEq]at hn5
  have nb1_b5:b1≠b5:=fun e=>nb5_b1 e.symm;have nb5_b3:b5≠b3:=fun e=>by rw[e]at hn5;simp only[RR,seval,reduceCtorEq]at hn5
  have nb3_b5:b3≠b5:=fun e=>nb5_b3 e.symm;simp only[RR,seval];apply y;clear y;refine aI ?_;refine aB fun _ y=>aA rfl ?_;simp only[nb3_b5,RR,seval];refine aN (s2) ?_;simp only[nb3_b5,RR,seval];refine aN (s1) ?_;simp only[RR,seval];apply y;clear y;refine aH false rfl (fun hc=>by cases hc) (fun _=>?_);refine aK ?_;try simp only[RR]
  refine aB fun K y=>?_;refine bJ (fun x=>x≠b1∧x≠b3∧x≠b5) [(0,3),(1,3),(2,3),(3,1),(4,1),(5,3),(6,1),(8,0),(7,1),(9,1),(10,3),(11,3),(12,3),(13,3)] [] dG (by kernel_rfl) rfl rfl ?_;simp only[cF,dM,h0,RR,seval];apply y;clear y;refine aO ?_;simp only[bB,aL,bH,RR,seval];refine aZ.pure ?_;rfl
end Go.Proofs.YtnfbbjhdflhmjaaGreatDoor
