/- Chapter 19, the judge's: how many words a program has, and where each function's begin. -/
import Derived.Test.YtnfbbjhdflhmjaaGreatDoorGOc
import Derived.Test.YtnfbbjhdflhmjaaGreatDoorSy2
import Derived.Test.YtnfbbjhdflhmjaaGreatDoorT1
set_option linter.unusedSimpArgs false
set_option linter.unusedVariables false
set_option maxRecDepth 10000
namespace Go.Al
theorem xX (n:Nat): ∀(l:List Ex) (left cB:Int),iA l≤n→0≤eS l left cB→eS l left cB+iA l=left:=by
 induction n using Nat.strongRecOn with
 |_ n ih=>
  intro l left cB hn h
  cases l with
  |nil=>rw[eS,iA];simp
  |cons e l=>
   have hs:=e.sz_eq;rw[iA]at hn⊢;rw[lF]at h⊢;split at h
   ·omega
   rename_i h1;rw[if_neg h1];split at h
   ·omega
   rename_i h2;rw[if_neg h2];have i1:=ih (iA l) (by omega) l _ cB (aY _) h;have i2:=ih (iA e.kids) (by omega) e.kids (left- 1) (cB- 1) (aY _) (by omega);omega
theorem xW (n:Nat): ∀(l:List Sm) (left cB:Int),fE l≤n→0≤eP l left cB→eP l left cB+fE l=left:=by
 induction n using Nat.strongRecOn with
 |_ n ih=>
  intro l left cB hn h
  cases l with
  |nil=>rw[eP,fE];simp
  |cons e l=>
   have hs:=e.sz_eq;rw[fE]at hn⊢;rw[lE]at h⊢;split at h
   ·omega
   rename_i h1;rw[if_neg h1];split at h
   ·omega
   rename_i h2;rw[if_neg h2];have i1:=ih (fE l) (by omega) l _ cB (aY _) h;have i2:=ih (fE e.els) (by omega) e.els (eP e.thn (eS e.es (left- 1) (cB- 1)) (cB- 1)) (cB- 1) (aY _) (by omega);have i3:=ih (fE e.thn) (by omega) e.thn (eS e.es (left- 1) (cB- 1)) (cB- 1) (aY _) (by omega);have i4:=xX _ e.es (left- 1) (cB- 1) (aY _) (by omega);omega
theorem pL: ∀(l:List Fu) (left:Int),0≤kO l left→kO l left≤left∧ ∀f∈l,(fE f.body:Int)≤left
 |[],left,h=>⟨by rw[kO];exact Int.le_refl _,fun f hf=>by cases hf⟩
 |f::l,left,h=>by
  rw[kO]at h⊢;obtain⟨h1,h2⟩:=pL l _ h;have h3:=xW _ f.body (left-f.params.length-f.locs.length) 60 (aY _) (by omega);refine⟨by omega,fun g hg=>?_⟩;rcases List.mem_cons.mp hg with rfl|hg
  ·omega
  have:=h2 g hg;omega
end Go.Al
namespace Go.Al
def eW:Int→List Fu→List Int
 |_,[]=>[]
 |w,f::l=>w::eW (w+((f.params.length+f.locs.length:Nat):Int)) l
def Ak (n:Int):List AV:=[.int .i64 n]
theorem jT: ∀(l:List Fu) (w:Int) (j:Nat) (f:Fu),l[j]?=some f→eW w (l.take (j+1))=eW w (l.take j)++[w+dZ (l.take j)]∧dZ (l.take (j+1))=dZ (l.take j)+((f.params.length+f.locs.length:Nat):Int)
 |[],w,j,s,h=>by simp at h
 |x::l,w,0,s,h=>by
  simp only[List.getElem?_cons_zero,Option.some.injEq]at h;subst h;simp [eW,dZ]
 |x::l,w,j+1,s,h=>by
  simp only[List.getElem?_cons_succ]at h;have:=jT l (w+((x.params.length+x.locs.length:Nat):Int)) j s h;simp only[List.take_succ_cons,eW,this.1,dZ,this.2,List.cons_append];refine⟨?_,by omega⟩;rw[show w+((x.params.length+x.locs.length:Nat):Int)+dZ (l.take j)=w+(((x.params.length+x.locs.length:Nat):Int)+dZ (l.take j))by omega]
theorem pR: ∀(l:List Fu) (w:Int) (j:Nat),j<l.length→(eW w l)[j]?=some (w+dZ (l.take j))
 |[],w,j,h=>by simp at h
 |x::l,w,0,h=>by simp [eW,dZ]
 |x::l,w,j+1,h=>by
  simp only[bU]at h;simp only[eW,List.getElem?_cons_succ,List.take_succ_cons,dZ];rw[pR l _ j (by omega)];congr 1;omega
theorem lX: ∀(l:List Fu) (w:Int),(eW w l).length=l.length
 |[],_=>rfl
 |f::l,w=>by simp only[eW,bU,lX l]
theorem kW (l:List Fu) (j:Nat):dZ (l.take j)≤dZ l:=by
 induction l generalizing j with
 |nil=>simp
 |cons x l ih=>
  cases j with
  |zero=>simp only[List.take_zero];exact gH _
  |succ j=>simp only[List.take_succ_cons,dZ];have:=ih j;omega
theorem qR {l:List Ar} (h: ∀a∈l,0≤a.size) (j:Nat):fM (l.take j)≤fM l:=by
 induction l generalizing j with
 |nil=>simp
 |cons x l ih=>
  cases j with
  |zero=>simp only[List.take_zero];exact iB h
  |succ j=>simp only[List.take_succ_cons,fM];have:=ih (fun a ha=>h a (List.mem_cons_of_mem _ ha)) j;omega
end Go.Al
namespace Go.Proofs.YtnfbbjhdflhmjaaGreatDoor
open Go.Al
def Cb (p:Pg):Bool:=yL p 300&&eD p
theorem Bz (p:Pg) (hp:p.ok) (h:Cb p=true):p.few∧1≤p.funs.length∧ ∀a∈p.arrs,0≤a.size∧a.size≤4096:=by
 simp only[Cb,yL,eD,aS,aW,List.all_eq_true]at h;obtain⟨⟨⟨⟨⟨⟨h1,h2⟩,h3⟩,h4⟩,h5⟩,h6⟩,⟨⟨⟨_,h7⟩,_⟩,h8⟩,_⟩:=h;have hs:=(pL _ _ h6).2;refine⟨⟨hp, ?_,by omega,by omega,fun f hf=>?_⟩,h7,fun a ha=>?_⟩
 ·have:=(fX h1).1;omega
 ·have hff:=h5 f hf
  simp only[rH,aS]at hff;have q1:=(fX hff.1.1).1;have q2:=(fX hff.1.2).1;have:=hs f hf;refine⟨by omega,by omega,by omega⟩
 have:=h8 a ha;simp only[fO,aS,aW]at this;omega
set_option maxHeartbeats 2000000 in
theorem Ca (p:Pg) (hp:p.ok):cJ cK 7 [p.av] (.bool (Cb p)):=by
 have h1:=Wj p hp 300 (by omega) (by omega)
 have h2:yL p 300=true→cJ cK 23 [p.av] (.bool (eD p)):=fun h=>Cz p hp (by
  intro f hf;simp only[yL,aS,List.all_eq_true]at h;have hff:=h.1.2 f hf;simp only[rH,aS]at hff;have q1:=(fX hff.1.1).1
  omega)
 unfold Cb;have hav:p.av= .agg [.isl 1 (p.vars.map bK), .isl 2 (p.arrs.map Ar.row), .isl 5 (p.funs.map Fu.row)]:=rfl;rw[hav]at *;generalize eD p=b at *;generalize yL p 300=a at *
 cases a with
 |false=>
  refine bI 9 [.tmp 2] Tryz.func7 rfl rfl rfl rfl ?_;refine aB fun _ y=>aA rfl ?_;simp only[RR,seval];refine aP fun b1 hn1=>?_;simp only[RR,seval];apply y;clear y;refine aB fun _ y=>aA rfl ?_;simp only[RR,seval];refine aN (h1) ?_;simp only[RR,seval];apply y;clear y;refine aO ?_;simp only[bB,aL,bH,RR,seval];refine aZ.pure ?_;rfl
 |true=>
  have h2:=h2 rfl;rw[Bool.true_and];refine bI 9 [.tmp 2] Tryz.func7 rfl rfl rfl rfl ?_;refine aB fun _ y=>aA rfl ?_;simp only[RR,seval];refine aP fun b1 hn1=>?_;simp only[RR,seval];apply y;clear y;refine aB fun _ y=>aA rfl ?_;simp only[RR,seval];refine aN (h1) ?_;simp only[RR,seval];refine aN (h2) ?_;simp only[RR,seval];apply y;clear y;refine aO ?_;simp only[bB,aL,bH,RR,seval];refine aZ.pure ?_;rfl
set_option maxHeartbeats 4000000 in
theorem sF (p:Pg) (hp:p.few) (hsz: ∀a∈p.arrs,0≤a.size∧a.size≤4096):cJ cK 9 [p.av] (.tup [.int .i64 (dH p), .isl 1 ((eW (dV p) p.funs).map Ak)]):=by
 have hv:=hp.v;have ha:=hp.a;have hf:=hp.f;have hA:=nV hsz;have hF:=qQ (l:=p.funs) fun f hf=>⟨(hp.fs f hf).1,(hp.fs f hf).2.1⟩;have hA2:=qR (l:=p.arrs) fun a ha=>(hsz a ha).1;have hA3: ∀j,0≤fM (p.arrs.take j):=fun j=>iB fun a ha=>(hsz a (List.mem_of_mem_take ha)).1;have hF2:=kW p.funs;have hF3:=fun j=>gH (p.funs.take j);have hb:dV p=p.vars.length+fM p.arrs:=rfl;have hw:dH p=dV p+dZ p.funs:=rfl;generalize dH p=wp at *;generalize dV p=bp at *;clear hp;obtain⟨vs,aa,fs⟩:=p;simp only[Pg.av,Pg.row]at *;refine bI 56 [.tmp 2, .tmp 3] Tryz.func9 rfl rfl rfl rfl ?_;refine aB fun _ y=>aA rfl ?_;simp only[RR,seval];refine aP fun b1 hn1=>?_;simp only[RR,seval];apply y;clear y;refine aB fun _ y=>aA rfl ?_;simp only[aD,RR,seval];apply y;clear y;refine aI ?_;refine aB fun _ y=>aA rfl ?_;simp only[RR,seval];apply y;clear y;refine bM fun F1 M1 hfr hH=>?_;have g1:=hfr 1;have g2:=hfr 2;have g3:=hfr 3;have g4:=hfr 4;have g5:=hfr 5;have gb1:=hH b1
 try simp only[RR,seval]at g1 g2 g3 g4 g5 gb1
 have f1:=g1;clear g1;have f2:=g2;clear g2;have f3:=g3;clear g3;have f4:=g4;clear g4;have f5:=g5;clear g5;have hb1:=gb1;clear gb1;clear hfr hH;refine aM ?_;refine bZ [1,2,3] (aa.length) (fun k fr M=>fr 5= .int .i64 (k:Nat)∧M b1=M1 b1∧fr 4= .int .i64 ((vs.length:Int)+fM (aa.take k))) ⟨f5,rfl,by rw[f4];simp [fM]⟩ ?_;rintro k F2 M2 hk0 ⟨fx,gb1,f4⟩ agx K0 hK0;have f1:=(agx 1 rfl).trans f1;have f2:=(agx 2 rfl).trans f2;have f3:=(agx 3 rfl).trans f3;have f5:=fx;clear fx;have hb1:=gb1.trans hb1;have ag0:=bC.refl [1,2,3] F2;have e0_b1:=gb1;clear gb1;clear agx;refine aI ?_;refine aB fun _ y=>aA rfl ?_;simp only[f1,f5,hb1,aD,RR,seval];apply y;clear y;refine aH _ rfl (fun hc=>?_) (fun hc=>?_)
 ·have hlt0:k<aa.length:=by have:=aC hc;omega
  clear hc;have hg0:=aG hlt0;have hg:=Dt hg0;have ht:=(mR aa 0 k _ hg0).2;have h1:=hA3 k;have h2:=hA2 (k+1);have h3:=hsz _ (bA hlt0);generalize aa[k]=a at hg ht h3;have e1:IntKind.wrap .i64 ((vs.length:Int)+fM (aa.take k)+a.size)=(vs.length:Int)+fM (aa.take (k+1)):=by rw[aQ _ (by omega)];omega
  refine aK ?_;try simp only[RR]
  refine aI ?_;refine aM ?_;refine aA rfl ?_;simp only[f1,f5,f4,hb1,hg,e1,RR,seval];refine aA rfl ?_;simp only[f5,RR,seval]
  try rw[aQ _ (by omega)]
  refine hK0 _ _ hlt0 ⟨by first|rfl|(simp only[aJ,seval];rfl),(by first|exact e0_b1|(simp only[aJ,seval];first|done|exact e0_b1)),rfl⟩ (by repeat (first|exact ag0|refine bC.upd rfl ?_))
 have hkn0:k=aa.length:=by have:=aF hc;omega
 clear hc;rw[hkn0,List.take_length,←hb]at f4;refine bF ?_;simp only[RR,seval];refine aB fun _ y=>aA rfl ?_;simp only[RR,seval];apply y;clear y;refine aI ?_;refine aB fun _ y=>aA rfl ?_;simp only[RR,seval];apply y;clear y;refine bM fun F3 M3 hfr hH=>?_;have g1:=hfr 1;have g2:=hfr 2;have g3:=hfr 3;have g4:=hfr 4;have g6:=hfr 6;have g7:=hfr 7;have gb1:=hH b1
 try simp only[f1,f2,f3,f4,hb1,RR,seval]at g1 g2 g3 g4 g6 g7 gb1
 have f1:=g1;clear g1;have f2:=g2;clear g2;have f3:=g3;clear g3;have f4:=g4;clear g4;have f6:=g6;clear g6;have f7:=g7;clear g7;have hb1:=gb1;clear gb1;clear hfr hH;refine aM ?_;refine bZ [1,2,3] (fs.length) (fun j fr M=>fr 7= .int .i64 (j:Nat)∧M b1=M3 b1∧fr 4= .int .i64 (bp+dZ (fs.take j))∧dJ 1 (fr 6) ((eW bp (fs.take j)).map Ak) M) ⟨f7,rfl,(by rw[f4];simp [dZ]), .inl ⟨f6,rfl⟩⟩ ?_;rintro j F4 M4 hk2 ⟨fx,gb1,f4,hown⟩ agx K2 hK2;have f1:=(agx 1 rfl).trans f1;have f2:=(agx 2 rfl).trans f2;have f3:=(agx 3 rfl).trans f3;have f7:=fx;clear fx;have hb1:=gb1.trans hb1;have ag2:=bC.refl [1,2,3] F4;have e2_b1:=gb1;clear gb1;clear agx;obtain⟨v6,f6⟩: ∃v,F4 6=v:=⟨_,rfl⟩;rw[f6]at hown;refine aI ?_;refine aB fun _ y=>aA rfl ?_;simp only[f1,f7,hb1,aD,RR,seval];apply y;clear y;refine aH _ rfl (fun hc=>?_) (fun hc=>?_)
 ·have hlt2:j<fs.length:=by have:=aC hc;omega
  clear hc;have hg0:=aG hlt2;have hg:=kK hg0;have ht:=jT fs bp j _ hg0;have h1:=hF3 j;have h2:=hF2 (j+1);have htl:(eW bp (fs.take j)).length≤10000:=by rw[lX,cU];omega
  generalize fs[j]=f at hg ht;have e1:IntKind.wrap .i64 (bp+dZ (fs.take j)+(f.params.length:Int))=bp+dZ (fs.take j)+(f.params.length:Int):=by rw[aQ _ (by omega)]
  have e2:IntKind.wrap .i64 (bp+dZ (fs.take j)+(f.params.length:Int)+(f.locs.length:Int))=bp+dZ (fs.take (j+1)):=by rw[aQ _ (by omega)];omega
  refine aK ?_;try simp only[RR]
  refine aI ?_;refine aM ?_;refine aB fun _ y=>aA rfl ?_;simp only[f4,f6,RR,seval];refine cY ?_;simp only[RR,seval];refine iF hown (by simp only[aD,bU,List.length_nil];omega) (fun _=>trivial) fun v10 M5 hown' hk'=>?_;simp only[RR,seval];have gb1:=hk' b1 _ hb1 (by first|exact(hown).nb' hb1 (by decide)|exact ho1 _ _|assumption|(intro e;simp_all));have e2_b1:=(gb1.trans hb1.symm).trans e2_b1;have hb1:=gb1;clear gb1;apply y;clear y;refine bJ (fun x=>x≠b1) [(0,3),(1,3),(2,1),(3,3),(4,3),(5,3),(6,1),(7,3),(8,3),(9,3),(10,1),(11,3),(12,3),(13,3),(14,1),(15,3),(16,3),(17,3)] [] dG (by kernel_rfl) rfl rfl ?_;simp only[cF,f1,f7,f4,hb1,aD,hg,e1,e2,RR,seval];refine aA rfl ?_;simp only[f7,RR,seval]
  try rw[aQ _ (by omega)]
  refine hK2 _ _ hlt2 ⟨by first|rfl|(simp only[aJ,seval];rfl),(by first|exact e2_b1|(simp only[aJ,seval];first|done|exact e2_b1)),rfl,(by rw[ht.1,List.map_append,List.map_singleton];exact hown')⟩ (by repeat (first|exact ag2|refine bC.upd rfl ?_))
 have hkn2:j=fs.length:=by have:=aF hc;omega
 clear hc;rw[hkn2,List.take_length]at f4 hown;rw[←hw]at f4;refine bF ?_;simp only[RR,seval];refine bM fun F6 M6 hfr hH=>?_;have g2:=hfr 2;have g3:=hfr 3;have g4:=hfr 4;have g6:=hfr 6;have gb1:=hH b1
 try simp only[f2,f3,f4,f6,hb1,RR,seval]at g2 g3 g4 g6 gb1
 have hown:=hown.same hH;have f2:=g2;clear g2;have f3:=g3;clear g3;have f4:=g4;clear g4;have f6:=g6;clear g6;have hb1:=gb1;clear gb1;clear hfr hH;refine Py (i:=6) (by rw[f6];exact hown) fun F7 M7 hs hf' hk'=>?_;have g2:=(hf' 2 (by decide) (by rw[f2];first|exact uW _ _ _ _ _|exact uY _ _ _|exact uV _ _|exact uX _ _ _|exact sK _ _|exact qH _|exact qG _|exact uU _ _|exact zR _ _|assumption)).trans f2;have g3:=(hf' 3 (by decide) (by rw[f3];first|exact uW _ _ _ _ _|exact uY _ _ _|exact uV _ _|exact uX _ _ _|exact sK _ _|exact qH _|exact qG _|exact uU _ _|exact zR _ _|assumption)).trans f3;have g4:=(hf' 4 (by decide) (by rw[f4];first|exact uW _ _ _ _ _|exact uY _ _ _|exact uV _ _|exact uX _ _ _|exact sK _ _|exact qH _|exact qG _|exact uU _ _|exact zR _ _|assumption)).trans f4;have g6:=hs;have gb1:=hk' b1 _ hb1 (by rw[f6];first|exact(hown).nb' hb1 (by decide)|exact ho1 _ _|assumption|(intro e;simp_all));have hb1:=gb1;clear gb1;have f2:=g2;clear g2;have f3:=g3;clear g3;have f4:=g4;clear g4;have f6:=g6;clear g6;clear hs hf' hk';refine aB fun _ y=>aA rfl ?_;simp only[f4,f6,RR,seval];apply y;clear y;refine aO ?_;simp only[bB,aL,bH,RR,seval];refine aZ.pure ?_;rfl
end Go.Proofs.YtnfbbjhdflhmjaaGreatDoor
