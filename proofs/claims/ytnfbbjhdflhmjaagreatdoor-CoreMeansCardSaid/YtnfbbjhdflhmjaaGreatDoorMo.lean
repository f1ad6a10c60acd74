/- Chapter 18, the program's: names are looked up. Chapter 18, the program's: a program with its names looked up. Chapter 18, the program's: the closure that recovers. Chapter 18, the program's: Run. -/
import Derived.Test.YtnfbbjhdflhmjaaGreatDoorMi
import Derived.Test.YtnfbbjhdflhmjaaGreatDoorSc1
import Derived.Test.YtnfbbjhdflhmjaaGreatDoorGDf
set_option linter.unusedSimpArgs false
set_option linter.unusedVariables false
set_option maxRecDepth 10000
namespace Go.Al
structure Pl where
 name:cR
 loc:Bool
 num:Int
def nN (t:Pl):AV×AV:=(.str t.name, .agg [.bool t.loc, .int .i64 t.num])
def kI:List Pl→cR→Option (Bool×Int)
 |[],_=>none
 |t::l,s=>if s=t.name then some (t.loc,t.num)else kI l s
theorem sP (s:cR): ∀(m:List Pl) (i:Nat),(kI m s=none∧kC (.str s) (m.map nN) i=some none)∨(∃j t,kI m s=some t∧kC (.str s) (m.map nN) i=some (some (j, .agg [.bool t.1, .int .i64 t.2])))
 |[],i=> .inl ⟨rfl,rfl⟩
 |t::m,i=>by
  simp only[List.map_cons,nN,kC,Jv,kI];by_cases h:s=t.name
  ·right
   exact⟨i,(t.loc,t.num),by rw[if_pos h],by rw[bX h]⟩
  rw[bF h,if_neg h];exact sP s m (i+1)
theorem wO (s:cR): ∀m:List Pl,s∉m.map Pl.name→kI m s=none
 |[],_=>rfl
 |t::m,h=>by
  simp only[List.map_cons,List.mem_cons,not_or]at h;simp only[kI,if_neg h.1];exact wO s m h.2
theorem wI (m:List Pl) (s:cR) (b:Bool) (n:Int) (h:s∉m.map Pl.name):tY (m.map nN) (.str s) (.agg [.bool b, .int .i64 n])=some ((m++[(⟨s,b,n⟩:Pl)]).map nN):=by
 rcases sP s m 0 with⟨_,h2⟩|⟨j,t,h1,_⟩
 ·simp only[tY,h2,List.map_append,List.map_cons,List.map_nil,nN]
 rw[wO s m h]at h1;cases h1
def jY (b:Bool):Nat→List cR→List Pl
 |_,[]=>[]
 |i,s::l=>⟨s,b,i⟩::jY b (i+1) l
theorem mY (b:Bool): ∀(l:List cR) (i j:Nat) (s:cR),l[j]?=some s→jY b i (l.take (j+1))=jY b i (l.take j)++[⟨s,b,((i+j:Nat):Int)⟩]
 |[],i,j,s,h=>by simp at h
 |x::l,i,0,s,h=>by
  simp only[List.getElem?_cons_zero,Option.some.injEq]at h;subst h;simp [jY]
 |x::l,i,j+1,s,h=>by
  simp only[List.getElem?_cons_succ]at h;have:=mY b l (i+1) j s h;rw[List.take_succ_cons,List.take_succ_cons,jY,this,jY];simp only[List.cons_append];rw[show i+1+j=i+(j+1)by omega]
theorem Kt (b:Bool): ∀(l m:List cR) (i:Nat),jY b i (l++m)=jY b i l++jY b (i+l.length) m
 |[],m,i=>by simp [jY]
 |s::l,m,i=>by
  simp only[List.cons_append,jY,Kt b l m (i+1),bP];rw[show i+1+l.length=i+(l.length+1)by omega]
theorem gS (b:Bool): ∀(l:List cR) (i:Nat),(jY b i l).map Pl.name=l
 |[],_=>rfl
 |s::l,i=>by simp only[jY,List.map_cons,gS b l (i+1)]
theorem nB {A B:List cR} (h:(A++B).Nodup) {k:Nat} {s:cR} (hs:B[k]?=some s):s∉A++B.take k:=by
 obtain⟨hk,e⟩:=aZ.1 hs
 have h2:A++B=(A++B.take k)++s::B.drop (k+1):=by
  rw[List.append_assoc];congr 1;rw[←e,←bC hk,List.take_append_drop]
 rw[h2]at h;have:=(List.nodup_append.1 h).2.2;exact fun hm=>this s hm s List.mem_cons_self rfl
def eW (p:Pg):List Pl:=jY false 0 p.vars++jY false 0 (p.arrs.map Ar.name)++jY false 0 (p.funs.map Fu.name)
def qH (f:Fu):List Pl:=jY true 0 (f.params++f.locs)
def nU (G I:List Pl) (s:cR):Bool×Int:=match kI I s with |some r=>r|none=>(kI G s).getD (false,0)
def Za (m:List Pl):AV:= .imp ((m.map nN).map (·.1)) ((m.map nN).map (·.2))
def Oo (G I:List Pl):AV:= .agg [Za G,Za I]
def zE:List AV:=[.int .i64 0, .int .i64 0, .int .u32 0, .bool false, .int .i64 0, .nsl]
def zS:List AV:=[.int .i64 0, .bool false, .int .i64 0, .nsl, .nsl, .nsl]
def zF:List AV:=[.int .i64 0, .nsl]
theorem xI {α:Type} (f:α→List AV) (l:List α) (z:List AV) {k n:Nat} (hl:l.length=k) (h:k<n):(l.map f++List.replicate (n-k) z)[k]?=some z:=by
 rw[List.getElem?_append_right (by rw[aD];omega),aD,hl,Nat.sub_self,show n-k=(n-(k+1))+1 by omega];rfl
theorem xH {α:Type} (f:α→List AV) (l:List α) (x:α) (z:List AV) {k n:Nat} (hl:l.length=k) (h:k<n):(l.map f++List.replicate (n-k) z).set k (f x)=(l++[x]).map f++List.replicate (n-(k+1)) z:=by
 have:=Kq (l.map f) z (f x) (List.replicate (n-(k+1)) z);rw[aD,hl]at this;rw[show List.replicate (n-k) z=z::List.replicate (n-(k+1)) z by rw[show n-k=(n-(k+1))+1 by omega];rfl,this];simp
end Go.Al
namespace Go.Proofs.YtnfbbjhdflhmjaaGreatDoor
open Go.Al
theorem Ap (G I:List Pl) (s:cR):dD cN 100 [Oo G I, .str s] (.agg [.bool (nU G I s).1, .int .i64 (nU G I s).2]):=by
 have hG:=sP s G 0;have hI:=sP s I 0;have zG:=cG (G.map nN);have zI:=cG (I.map nN);unfold nU Oo Za;rcases hI with⟨h1,h2⟩|⟨j,t,h1,h2⟩
 ·rcases hG with⟨h3,h4⟩|⟨j',t',h3,h4⟩
  all_goals
   rw[h1,h3];refine bD 20 [.cell 4 126] Tryz.func100 rfl rfl rfl rfl ?_;refine aB fun _ q=>aA rfl ?_;simp only[Option.getD_some,Option.getD_none,RR,seval];refine aO fun b2 hn2=>?_;simp only[RR,seval];refine aO fun b4 hn4=>?_;have nb4_b2:b4≠b2:=fun e=>by rw[e]at hn4;simp only[RR,seval,reduceCtorEq]at hn4
   have nb2_b4:b2≠b4:=fun e=>nb4_b2 e.symm;simp only[RR,seval];apply q;clear q;refine aH ?_;refine aB fun _ q=>aA rfl ?_;simp only[nb2_b4,zI,h2,Option.getD_some,Option.getD_none,Option.isSome_none,RR,seval];refine aO fun b5 hn5=>?_;have nb5_b2:b5≠b2:=fun e=>by rw[e]at hn5;simp only[nb2_b4,RR,seval,reduceCtorEq]at hn5
   have nb2_b5:b2≠b5:=fun e=>nb5_b2 e.symm;have nb5_b4:b5≠b4:=fun e=>by rw[e]at hn5;simp only[RR,seval,reduceCtorEq]at hn5
   have nb4_b5:b4≠b5:=fun e=>nb5_b4 e.symm;simp only[RR,seval];apply q;clear q;refine aB fun _ q=>aA rfl ?_;simp only[Option.getD_some,Option.getD_none,RR,seval];apply q;clear q;refine aF false rfl (fun hc=>by cases hc) (fun _=>?_);refine aM ?_;try simp only[RR]
   refine aB fun _ q=>aA rfl ?_;simp only[nb2_b4,nb2_b5,nb4_b5,zG,h4,Option.getD_some,Option.getD_none,RR,seval];apply q;clear q;refine aQ ?_;simp only[aX,aN,bI,Option.getD_some,Option.getD_none,RR,seval];refine aW.pure ?_;rfl
 rw[h1];refine bD 20 [.cell 4 126] Tryz.func100 rfl rfl rfl rfl ?_;refine aB fun _ q=>aA rfl ?_;simp only[RR,seval];refine aO fun b2 hn2=>?_;simp only[RR,seval];refine aO fun b4 hn4=>?_;have nb4_b2:b4≠b2:=fun e=>by rw[e]at hn4;simp only[RR,seval,reduceCtorEq]at hn4
 have nb2_b4:b2≠b4:=fun e=>nb4_b2 e.symm;simp only[RR,seval];apply q;clear q;refine aH ?_;refine aB fun _ q=>aA rfl ?_;simp only[nb2_b4,zI,h2,Option.getD_some,Option.isSome_some,RR,seval];refine aO fun b5 hn5=>?_;have nb5_b2:b5≠b2:=fun e=>by rw[e]at hn5;simp only[nb2_b4,RR,seval,reduceCtorEq]at hn5
 have nb2_b5:b2≠b5:=fun e=>nb5_b2 e.symm;have nb5_b4:b5≠b4:=fun e=>by rw[e]at hn5;simp only[RR,seval,reduceCtorEq]at hn5
 have nb4_b5:b4≠b5:=fun e=>nb5_b4 e.symm;simp only[RR,seval];apply q;clear q;refine aB fun _ q=>aA rfl ?_;simp only[RR,seval];apply q;clear q;refine aF true rfl (fun _=>?_) (fun hc=>by cases hc);refine aB fun _ q=>aA rfl ?_;simp only[nb4_b5,RR,seval];apply q;clear q;refine aQ ?_;simp only[aX,aN,bI,RR,seval];refine aW.pure ?_;rfl
set_option maxHeartbeats 2000000 in
theorem Ja (G I:List Pl) (n:Nat): ∀l:List Ex,iJ l≤n→n≤2000000→dD cN 101 [Oo G I, .isl 5 (l.map Ex.row)] (.isl 6 (l.map (cE (nU G I)))):=by
 induction n using Nat.strongRecOn with
 |_ n ih=>
  intro l hn hb
  have hlen: ∀l:List Ex,l.length≤iJ l:=fun l=>by
   induction l with
   |nil=>simp [iJ]
   |cons e l ih=>have:=e.sz_eq;simp only[bP,iJ];omega
  have hl:=hlen l
  have hkid: ∀e∈l,dD cN 101 [Oo G I, .isl 5 (e.kids.map Ex.row)] (.isl 6 (e.kids.map (cE (nU G I)))):=fun e he=>by
   have h1:=jR he;have h2:=e.sz_eq;exact ih (iJ e.kids) (by omega) e.kids (aY _) (by omega)
  have hfd:=fun s=>Ap G I s;have e1:(56:Int) *(l.length:Int)≤281474976710656:=by omega
  clear ih;unfold Oo at *;generalize Za G=mG at *;generalize Za I=mI at *;generalize nU G I=rs at *;refine bD 43 [.tmp 4] Tryz.func101 rfl rfl rfl rfl ?_;refine aB fun _ q=>aA rfl ?_;simp only[RR,seval];refine aO fun b2 hn2=>?_;simp only[RR,seval];apply q;clear q;refine aB fun _ q=>aA rfl ?_;simp only[e1,aD,RR,seval];refine aO fun b11 hn11=>?_;have nb11_b2:b11≠b2:=fun e=>by rw[e]at hn11;simp only[RR,seval,reduceCtorEq]at hn11
  have nb2_b11:b2≠b11:=fun e=>nb11_b2 e.symm;simp only[RR,seval];apply q;clear q;refine aH ?_;refine aB fun _ q=>aA rfl ?_;simp only[aD,RR,seval];apply q;clear q;refine bL fun F1 M1 hfr hH=>?_;have g2:=hfr 2;have g4:=hfr 4;have g5:=hfr 5;have g12:=hfr 12;have g13:=hfr 13;have g14:=hfr 14;have gb2:=hH b2;have gb11:=hH b11
  try simp only[nb2_b11,RR,seval]at g2 g4 g5 g12 g13 g14 gb2 gb11
  have f2:=g2;clear g2;have f4:=g4;clear g4;have f5:=g5;clear g5;have f12:=g12;clear g12;have f13:=g13;clear g13;have f14:=g14;clear g14;have hb2:=gb2;clear gb2;have hb11:=gb11;clear gb11;clear hfr hH;refine aI ?_;refine cP [2,4,5,12,13] (l.length) (fun k fr M=>fr 14= .int .i64 (k:Nat)∧M b2=M1 b2∧M b11=some (.rows 6 ((l.take k).map (cE rs)++List.replicate (l.length-k) zE))) ⟨f14,rfl,by rw[hb11];rfl⟩ ?_;rintro k F2 M2 hk0 ⟨fx,gb2,hb11⟩ agx K0 hK0;have f2:=(agx 2 rfl).trans f2;have f4:=(agx 4 rfl).trans f4;have f5:=(agx 5 rfl).trans f5;have f12:=(agx 12 rfl).trans f12;have f13:=(agx 13 rfl).trans f13;have f14:=fx;clear fx;have hb2:=gb2.trans hb2;have ag0:=bE.refl [2,4,5,12,13] F2;have e0_b2:=gb2;clear gb2;clear agx;refine aB fun _ q=>aA rfl ?_;simp only[f13,f14,RR,seval];apply q;clear q;refine aH ?_;refine aF _ rfl (fun hc=>?_) (fun hc=>?_)
  ·have hlt0:k<l.length:=by have:=aC hc;omega
   clear hc;have hg0:=aG hlt0;have htk:l.take (k+1)=l.take k++[l[k]]:=bQ hlt0;have hkd:=hkid _ (bJ hlt0);generalize l[k]=e at hg0 htk hkd;have hg:=nK hg0;have hf:=hfd e.name;have hkl:(l.take k).length=k:=by rw[cF];omega
   have zk:(k:Int)<(l.length:Int):=by omega
   have hz:=xI (cE rs) (l.take k) zE hkl hlt0;have hs:=xH (cE rs) (l.take k) e zE hkl hlt0;rw[←htk,E5]at hs;generalize(l.take k).map (cE rs)++List.replicate (l.length-k) zE=rows at hb11 hz hs;unfold zE at hz;refine aM ?_;try simp only[RR]
   refine aH ?_;refine aI ?_;refine aB fun _ q=>aA rfl ?_;simp only[f12,f14,hg,zk,RR,seval];refine aO fun b7 hn7=>?_;have nb7_b2:b7≠b2:=fun e=>by rw[e]at hn7;simp only[hb2,seval,reduceCtorEq]at hn7
   have nb2_b7:b2≠b7:=fun e=>nb7_b2 e.symm;have nb7_b11:b7≠b11:=fun e=>by rw[e]at hn7;simp only[hb11,seval,reduceCtorEq]at hn7
   have nb11_b7:b11≠b7:=fun e=>nb7_b11 e.symm;simp only[RR,seval];apply q;clear q;refine aB fun _ q=>aA rfl ?_;simp only[f2,hb2,nb2_b7,RR,seval];refine aU (hf) ?_;simp only[RR,seval];refine aO fun b8 hn8=>?_;have nb8_b2:b8≠b2:=fun e=>by rw[e]at hn8;simp only[hb2,nb2_b7,RR,seval,reduceCtorEq]at hn8
   have nb2_b8:b2≠b8:=fun e=>nb8_b2 e.symm;have nb8_b11:b8≠b11:=fun e=>by rw[e]at hn8;simp only[hb11,nb11_b7,RR,seval,reduceCtorEq]at hn8
   have nb11_b8:b11≠b8:=fun e=>nb8_b11 e.symm;have nb8_b7:b8≠b7:=fun e=>by rw[e]at hn8;simp only[RR,seval,reduceCtorEq]at hn8
   have nb7_b8:b7≠b8:=fun e=>nb8_b7 e.symm;simp only[RR,seval];apply q;clear q;refine bL fun F3 M3 hfr hH=>?_;have g2:=hfr 2;have g4:=hfr 4;have g5:=hfr 5;have g6:=hfr 6;have g7:=hfr 7;have g8:=hfr 8;have g12:=hfr 12;have g13:=hfr 13;have g14:=hfr 14;have gb2:=hH b2;have gb11:=hH b11;have gb7:=hH b7;have gb8:=hH b8
   try simp only[f2,f4,f5,f12,f13,f14,hb2,hb11,nb2_b7,nb11_b7,nb2_b8,nb11_b8,nb7_b8,RR,seval]at g2 g4 g5 g6 g7 g8 g12 g13 g14 gb2 gb11 gb7 gb8
   have ag0:bE [2,4,5,12,13] F2 F3:=bE.same hfr (by repeat (first|exact ag0|refine bE.upd rfl ?_));have e0_b2:=(hH b2).trans (by first|exact e0_b2|(simp only[nb2_b7,nb2_b8,aJ,seval];first|done|exact e0_b2));have f2:=g2;clear g2;have f4:=g4;clear g4;have f5:=g5;clear g5;have f6:=g6;clear g6;have f7:=g7;clear g7;have f8:=g8;clear g8;have f12:=g12;clear g12;have f13:=g13;clear g13;have f14:=g14;clear g14;have hb2:=gb2;clear gb2;have hb11:=gb11;clear gb11;have hb7:=gb7;clear gb7;have hb8:=gb8;clear gb8;clear hfr hH;refine bB (fun x=>x≠b2∧x≠b7∧x≠b8) [(0,3),(1,3),(2,3),(3,0),(4,3),(5,0),(6,3),(7,0),(8,3),(9,0),(10,3),(11,0),(12,1),(13,3),(14,1),(15,1),(16,3),(17,3)] [(18,1)] cX (by kernel_rfl) rfl rfl ?_;simp only[cH,dY,f2,f5,f6,f7,f8,hb2,hb7,hb8,nb7_b2,nb8_b2,nb8_b7,nb7_b8,RR,seval];refine aU (hkd) ?_;simp only[hb11,hz,zk,RR,seval];refine aA rfl ?_;simp only[f14,RR,seval]
   try rw[aR _ (by omega)]
   refine hK0 _ _ hlt0 ⟨by first|rfl|(simp only[aJ,seval];rfl),(by first|exact e0_b2|(simp only[nb2_b11,aJ,seval];first|done|exact e0_b2)),by rw[←hs];first|exact bO _ _ _|(simp only[aJ,seval];rfl)⟩ (by repeat (first|exact ag0|refine bE.upd rfl ?_))
  have hkn0:k=l.length:=by have:=aE hc;omega
  clear hc;rw[hkn0,List.take_length,Nat.sub_self,List.replicate_zero,List.append_nil]at hb11;refine bH ?_;simp only[RR,seval];refine aB fun _ q=>aA rfl ?_;simp only[f5,RR,seval];apply q;clear q;refine aQ ?_;simp only[aX,aN,bI,RR,seval];exact dS.gives1 (.inr ⟨b11,by rw[aD],hb11⟩) rfl;skip
end Go.Proofs.YtnfbbjhdflhmjaaGreatDoor
namespace Go.Al
theorem Lc: ∀l:List Sm,l.length≤gA l
 |[]=>by simp [gA]
 |e::l=>by have:=Lc l;have:=e.sz_eq;simp only[bP,gA];omega
def oD (G:List Pl) (f:Fu):Cf:=⟨f.params.length+f.locs.length,nU G (qH f),f.body⟩
theorem Ml (m:Nat) (es:List (AV×AV)) (G:List Pl) (l:List Fu) (n:Nat):(l.map (fun f=>Cf.row (oD G f))++List.replicate n zF).map (fun x=>x.map (mT m es))=l.map (fun f=>Cf.row (oD G f))++List.replicate n zF:=by
 rw[List.map_append,List.map_map,List.map_replicate];rfl
end Go.Al
namespace Go.Proofs.YtnfbbjhdflhmjaaGreatDoor
open Go.Al
set_option maxHeartbeats 4000000 in
theorem Hw (G I:List Pl) (n:Nat): ∀l:List Sm,gA l≤n→n≤2000000→dD cN 64 [Oo G I, .isl 5 (l.map Sm.row)] (.isl 6 (l.map (cS (nU G I)))):=by
 induction n using Nat.strongRecOn with
 |_ n ih=>
  intro l hn hb;have hl:=Lc l
  have hT: ∀e∈l,dD cN 64 [Oo G I, .isl 5 (e.thn.map Sm.row)] (.isl 6 (e.thn.map (cS (nU G I)))):=fun e he=>by
   have h1:=gY he;have h2:=e.sz_eq;exact ih (gA e.thn) (by omega) e.thn (aY _) (by omega)
  have hU: ∀e∈l,dD cN 64 [Oo G I, .isl 5 (e.els.map Sm.row)] (.isl 6 (e.els.map (cS (nU G I)))):=fun e he=>by
   have h1:=gY he;have h2:=e.sz_eq;exact ih (gA e.els) (by omega) e.els (aY _) (by omega)
  have hE: ∀e∈l,dD cN 101 [Oo G I, .isl 5 (e.es.map Ex.row)] (.isl 6 (e.es.map (cE (nU G I)))):=fun e he=>by
   have h1:=gY he;have h2:=e.sz_eq;exact Ja G I (iJ e.es) e.es (aY _) (by omega)
  have hfd:=fun s=>Ap G I s;have e1:(96:Int) *(l.length:Int)≤281474976710656:=by omega
  clear ih;unfold Oo at *;generalize Za G=mG at *;generalize Za I=mI at *;generalize nU G I=rs at *;refine bD 47 [.tmp 4] Tryz.func64 rfl rfl rfl rfl ?_;refine aB fun _ q=>aA rfl ?_;simp only[RR,seval];refine aO fun b2 hn2=>?_;simp only[RR,seval];apply q;clear q;refine aB fun _ q=>aA rfl ?_;simp only[e1,aD,RR,seval];refine aO fun b11 hn11=>?_;have nb11_b2:b11≠b2:=fun e=>by rw[e]at hn11;simp only[RR,seval,reduceCtorEq]at hn11
  have nb2_b11:b2≠b11:=fun e=>nb11_b2 e.symm;simp only[RR,seval];apply q;clear q;refine aH ?_;refine aB fun _ q=>aA rfl ?_;simp only[aD,RR,seval];apply q;clear q;refine bL fun F1 M1 hfr hH=>?_;have g2:=hfr 2;have g4:=hfr 4;have g5:=hfr 5;have g12:=hfr 12;have g13:=hfr 13;have g14:=hfr 14;have gb2:=hH b2;have gb11:=hH b11
  try simp only[nb2_b11,RR,seval]at g2 g4 g5 g12 g13 g14 gb2 gb11
  have f2:=g2;clear g2;have f4:=g4;clear g4;have f5:=g5;clear g5;have f12:=g12;clear g12;have f13:=g13;clear g13;have f14:=g14;clear g14;have hb2:=gb2;clear gb2;have hb11:=gb11;clear gb11;clear hfr hH;refine aI ?_;refine cP [2,4,5,12,13] (l.length) (fun k fr M=>fr 14= .int .i64 (k:Nat)∧M b2=M1 b2∧M b11=some (.rows 6 ((l.take k).map (cS rs)++List.replicate (l.length-k) zS))) ⟨f14,rfl,by rw[hb11];rfl⟩ ?_;rintro k F2 M2 hk0 ⟨fx,gb2,hb11⟩ agx K0 hK0;have f2:=(agx 2 rfl).trans f2;have f4:=(agx 4 rfl).trans f4;have f5:=(agx 5 rfl).trans f5;have f12:=(agx 12 rfl).trans f12;have f13:=(agx 13 rfl).trans f13;have f14:=fx;clear fx;have hb2:=gb2.trans hb2;have ag0:=bE.refl [2,4,5,12,13] F2;have e0_b2:=gb2;clear gb2;clear agx;refine aB fun _ q=>aA rfl ?_;simp only[f13,f14,RR,seval];apply q;clear q;refine aH ?_;refine aF _ rfl (fun hc=>?_) (fun hc=>?_)
  ·have hlt0:k<l.length:=by have:=aC hc;omega
   clear hc;have hg0:=aG hlt0;have htk:l.take (k+1)=l.take k++[l[k]]:=bQ hlt0;have hk1:=hE _ (bJ hlt0);have hk2:=hT _ (bJ hlt0);have hk3:=hU _ (bJ hlt0);generalize l[k]=e at hg0 htk hk1 hk2 hk3;have hg:=Fi hg0;have hf:=hfd e.name;have hkl:(l.take k).length=k:=by rw[cF];omega
   have zk:(k:Int)<(l.length:Int):=by omega
   have hz:=xI (cS rs) (l.take k) zS hkl hlt0;have hs:=xH (cS rs) (l.take k) e zS hkl hlt0;rw[←htk,Te]at hs;generalize(l.take k).map (cS rs)++List.replicate (l.length-k) zS=rows at hb11 hz hs;unfold zS at hz;refine aM ?_;try simp only[RR]
   refine aH ?_;refine aI ?_;refine aB fun _ q=>aA rfl ?_;simp only[f12,f14,hg,zk,RR,seval];refine aO fun b7 hn7=>?_;have nb7_b2:b7≠b2:=fun e=>by rw[e]at hn7;simp only[hb2,seval,reduceCtorEq]at hn7
   have nb2_b7:b2≠b7:=fun e=>nb7_b2 e.symm;have nb7_b11:b7≠b11:=fun e=>by rw[e]at hn7;simp only[hb11,seval,reduceCtorEq]at hn7
   have nb11_b7:b11≠b7:=fun e=>nb7_b11 e.symm;simp only[RR,seval];apply q;clear q;refine aB fun _ q=>aA rfl ?_;simp only[f2,hb2,nb2_b7,RR,seval];refine aU (hf) ?_;simp only[RR,seval];refine aO fun b8 hn8=>?_;have nb8_b2:b8≠b2:=fun e=>by rw[e]at hn8;simp only[hb2,nb2_b7,RR,seval,reduceCtorEq]at hn8
   have nb2_b8:b2≠b8:=fun e=>nb8_b2 e.symm;have nb8_b11:b8≠b11:=fun e=>by rw[e]at hn8;simp only[hb11,nb11_b7,RR,seval,reduceCtorEq]at hn8
   have nb11_b8:b11≠b8:=fun e=>nb8_b11 e.symm;have nb8_b7:b8≠b7:=fun e=>by rw[e]at hn8;simp only[RR,seval,reduceCtorEq]at hn8
   have nb7_b8:b7≠b8:=fun e=>nb8_b7 e.symm;simp only[RR,seval];apply q;clear q;refine bL fun F3 M3 hfr hH=>?_;have g2:=hfr 2;have g4:=hfr 4;have g5:=hfr 5;have g6:=hfr 6;have g7:=hfr 7;have g8:=hfr 8;have g12:=hfr 12;have g13:=hfr 13;have g14:=hfr 14;have gb2:=hH b2;have gb11:=hH b11;have gb7:=hH b7;have gb8:=hH b8
   try simp only[f2,f4,f5,f12,f13,f14,hb2,hb11,nb2_b7,nb11_b7,nb2_b8,nb11_b8,nb7_b8,RR,seval]at g2 g4 g5 g6 g7 g8 g12 g13 g14 gb2 gb11 gb7 gb8
   have ag0:bE [2,4,5,12,13] F2 F3:=bE.same hfr (by repeat (first|exact ag0|refine bE.upd rfl ?_));have e0_b2:=(hH b2).trans (by first|exact e0_b2|(simp only[nb2_b7,nb2_b8,aJ,seval];first|done|exact e0_b2));have f2:=g2;clear g2;have f4:=g4;clear g4;have f5:=g5;clear g5;have f6:=g6;clear g6;have f7:=g7;clear g7;have f8:=g8;clear g8;have f12:=g12;clear g12;have f13:=g13;clear g13;have f14:=g14;clear g14;have hb2:=gb2;clear gb2;have hb11:=gb11;clear gb11;have hb7:=gb7;clear gb7;have hb8:=gb8;clear gb8;clear hfr hH;refine bB (fun x=>x≠b2∧x≠b7∧x≠b8) [(0,3),(1,3),(2,3),(3,0),(4,3),(5,0),(6,3),(7,0),(8,1),(9,3),(10,1),(12,0),(13,3),(14,0),(16,0),(17,3),(18,0),(11,1),(15,1),(19,1),(20,3),(21,3)] [(22,1)] cX (by kernel_rfl) rfl rfl ?_;simp only[cH,dY,f2,f5,f6,f7,f8,hb2,hb7,hb8,nb7_b2,nb2_b7,nb8_b2,nb2_b8,nb8_b7,nb7_b8,RR,seval];refine aU (hk1) ?_;simp only[RR,seval];refine aU (hk2) ?_;simp only[RR,seval];refine aU (hk3) ?_;simp only[hb11,hz,zk,RR,seval];refine aA rfl ?_;simp only[f14,RR,seval]
   try rw[aR _ (by omega)]
   refine hK0 _ _ hlt0 ⟨by first|rfl|(simp only[aJ,seval];rfl),(by first|exact e0_b2|(simp only[nb2_b11,aJ,seval];first|done|exact e0_b2)),by rw[←hs];first|exact bO _ _ _|(simp only[aJ,seval];rfl)⟩ (by repeat (first|exact ag0|refine bE.upd rfl ?_))
  have hkn0:k=l.length:=by have:=aE hc;omega
  clear hc;rw[hkn0,List.take_length,Nat.sub_self,List.replicate_zero,List.append_nil]at hb11;refine bH ?_;simp only[RR,seval];refine aB fun _ q=>aA rfl ?_;simp only[f5,RR,seval];apply q;clear q;refine aQ ?_;simp only[aX,aN,bI,RR,seval];exact dS.gives1 (.inr ⟨b11,by rw[aD],hb11⟩) rfl;skip
set_option maxHeartbeats 8000000 in
theorem Eo (p:Pg) (hn:(fD p).Nodup) (hnl: ∀f∈p.funs,(dT f).Nodup) (hv:p.vars.length≤2000000) (ha:p.arrs.length≤2000000) (hf:p.funs.length≤2000000) (hb: ∀f∈p.funs,f.params.length≤2000000∧f.locs.length≤2000000∧gA f.body≤2000000):
  dD cN 37 [p.av] (.isl 2 ((p.funs.map (oD (eW p))).map Cf.row)):=by
 obtain⟨G,hG⟩: ∃G,eW p=G:=⟨_,rfl⟩;rw[hG];have hsc: ∀f∈p.funs,dD cN 64 [Oo G (qH f), .isl 5 (f.body.map Sm.row)] (.isl 6 (f.body.map (cS (nU G (qH f))))):=fun f hf=>Hw G (qH f) _ f.body (aY _) (hb f hf).2.2;obtain⟨vs,aa,fs⟩:=p;simp only[eW]at hG;simp only[fD]at hn;simp only[Pg.av,Pg.row];simp only at hv ha hf hb hsc hnl⊢;have hNa:(vs++aa.map Ar.name).Nodup:=(List.nodup_append.1 hn).1;have hNv:vs.Nodup:=(List.nodup_append.1 hNa).1;have hNv':([]++vs).Nodup:=by rw[List.nil_append];exact hNv
 have e1:(32:Int) *(fs.length:Int)≤281474976710656:=by omega
 unfold Oo at hsc;refine bD 124 [.tmp 2] Tryz.func37 rfl rfl rfl rfl ?_;refine aB fun _ q=>aA rfl ?_;simp only[RR,seval];refine aO fun b1 hn1=>?_;simp only[RR,seval];apply q;clear q;refine aB fun _ q=>aA rfl ?_;simp only[RR,seval];refine aO fun b19 hn19=>?_;have nb19_b1:b19≠b1:=fun e=>by rw[e]at hn19;simp only[RR,seval,reduceCtorEq]at hn19
 have nb1_b19:b1≠b19:=fun e=>nb19_b1 e.symm;simp only[RR,seval];apply q;clear q;refine aH ?_;refine aB fun _ q=>aA rfl ?_;simp only[nb1_b19,aD,RR,seval];apply q;clear q;refine bL fun F1 M1 hfr hH=>?_;have g1:=hfr 1;have g2:=hfr 2;have g3:=hfr 3;have g21:=hfr 21;have g22:=hfr 22;have g23:=hfr 23;have gb1:=hH b1;have gb19:=hH b19
 try simp only[nb1_b19,RR,seval]at g1 g2 g3 g21 g22 g23 gb1 gb19
 have f1:=g1;clear g1;have f2:=g2;clear g2;have f3:=g3;clear g3;have f21:=g21;clear g21;have f22:=g22;clear g22;have f23:=g23;clear g23;have hb1:=gb1;clear gb1;have hb19:=gb19;clear gb19;clear hfr hH;refine aI ?_;refine cP [1,2,3,21,22] (vs.length) (fun k fr M=>fr 23= .int .i64 (k:Nat)∧M b1=M1 b1∧M b19=some (.amap ((jY false 0 (vs.take k)).map nN))) ⟨f23,rfl,by rw[hb19];rfl⟩ ?_;rintro k F2 M2 hk0 ⟨fx,gb1,hb19⟩ agx K0 hK0;have f1:=(agx 1 rfl).trans f1;have f2:=(agx 2 rfl).trans f2;have f3:=(agx 3 rfl).trans f3;have f21:=(agx 21 rfl).trans f21;have f22:=(agx 22 rfl).trans f22;have f23:=fx;clear fx;have hb1:=gb1.trans hb1;have ag0:=bE.refl [1,2,3,21,22] F2;have e0_b1:=gb1;clear gb1;clear agx;refine aB fun _ q=>aA rfl ?_;simp only[f22,f23,RR,seval];apply q;clear q;refine aH ?_;refine aF _ rfl (fun hc=>?_) (fun hc=>?_)
 ·have hlt0:k<vs.length:=by have:=aC hc;omega
  clear hc;have hg0:=aG hlt0;generalize vs[k]=s at hg0;have hg:=tP hg0;have hni:=nB hNv' hg0;have hput:=wI (jY false 0 (vs.take k)) s false (k:Int) (by rw[gS];simpa using hni);have htk:=mY false vs 0 k s hg0;rw[Nat.zero_add]at htk;rw[←htk]at hput;generalize(jY false 0 (vs.take k)).map nN=es at hput hb19;refine aM ?_;try simp only[RR]
  refine aH ?_;refine aI ?_;refine aB fun _ q=>aA rfl ?_;simp only[f21,f23,hg,RR,seval];apply q;clear q;refine aA rfl ?_;simp only[f3,hb19,hput,RR,seval];refine aA rfl ?_;simp only[f23,RR,seval]
  try rw[aR _ (by omega)]
  refine hK0 _ _ hlt0 ⟨by first|rfl|(simp only[aJ,seval];rfl),(by first|exact e0_b1|(simp only[nb1_b19,aJ,seval];first|done|exact e0_b1)),bO _ _ _⟩ (by repeat (first|exact ag0|refine bE.upd rfl ?_))
 have hkn0:k=vs.length:=by have:=aE hc;omega
 clear hc;rw[hkn0,List.take_length]at hb19;refine bH ?_;simp only[RR,seval];refine aH ?_;refine aB fun _ q=>aA rfl ?_;simp only[f1,hb1,aD,RR,seval];apply q;clear q;refine bL fun F3 M3 hfr hH=>?_;have g1:=hfr 1;have g2:=hfr 2;have g3:=hfr 3;have g34:=hfr 34;have g35:=hfr 35;have g36:=hfr 36;have gb1:=hH b1;have gb19:=hH b19
 try simp only[f1,f2,f3,hb1,hb19,RR,seval]at g1 g2 g3 g34 g35 g36 gb1 gb19
 have f1:=g1;clear g1;have f2:=g2;clear g2;have f3:=g3;clear g3;have f34:=g34;clear g34;have f35:=g35;clear g35;have f36:=g36;clear g36;have hb1:=gb1;clear gb1;have hb19:=gb19;clear gb19;clear hfr hH;refine aI ?_;refine cP [1,2,3,34,35] (aa.length) (fun k fr M=>fr 36= .int .i64 (k:Nat)∧M b1=M3 b1∧M b19=some (.amap ((jY false 0 vs++jY false 0 ((aa.map Ar.name).take k)).map nN))) ⟨f36,rfl,by rw[hb19];simp [jY]⟩ ?_;rintro k F4 M4 hk2 ⟨fx,gb1,hb19⟩ agx K2 hK2;have f1:=(agx 1 rfl).trans f1;have f2:=(agx 2 rfl).trans f2;have f3:=(agx 3 rfl).trans f3;have f34:=(agx 34 rfl).trans f34;have f35:=(agx 35 rfl).trans f35;have f36:=fx;clear fx;have hb1:=gb1.trans hb1;have ag2:=bE.refl [1,2,3,34,35] F4;have e2_b1:=gb1;clear gb1;clear agx;refine aB fun _ q=>aA rfl ?_;simp only[f35,f36,RR,seval];apply q;clear q;refine aH ?_;refine aF _ rfl (fun hc=>?_) (fun hc=>?_)
 ·have hlt2:k<aa.length:=by have:=aC hc;omega
  clear hc;have hg0:=aG hlt2;generalize aa[k]=a at hg0;have hg:=Bx hg0;have hg1:(aa.map Ar.name)[k]?=some a.name:=by rw[bN,hg0];rfl
  have hni:=nB hNa hg1;have hput:=wI (jY false 0 vs++jY false 0 ((aa.map Ar.name).take k)) a.name false (k:Int) (by rw[List.map_append,gS,gS];exact hni);have htk:=mY false (aa.map Ar.name) 0 k a.name hg1;rw[Nat.zero_add]at htk;rw[List.append_assoc,←htk]at hput;generalize(jY false 0 vs++jY false 0 ((aa.map Ar.name).take k)).map nN=es at hput hb19;refine aM ?_;try simp only[RR]
  refine aH ?_;refine aI ?_;refine aB fun _ q=>aA rfl ?_;simp only[f34,f36,hg,RR,seval];refine aO fun b7 hn7=>?_;have nb7_b1:b7≠b1:=fun e=>by rw[e]at hn7;simp only[hb1,seval,reduceCtorEq]at hn7
  have nb1_b7:b1≠b7:=fun e=>nb7_b1 e.symm;have nb7_b19:b7≠b19:=fun e=>by rw[e]at hn7;simp only[hb19,seval,reduceCtorEq]at hn7
  have nb19_b7:b19≠b7:=fun e=>nb7_b19 e.symm;simp only[RR,seval];apply q;clear q;refine aA rfl ?_;simp only[f3,hb19,nb19_b7,hput,RR,seval];refine aA rfl ?_;simp only[f36,RR,seval]
  try rw[aR _ (by omega)]
  refine hK2 _ _ hlt2 ⟨by first|rfl|(simp only[aJ,seval];rfl),(by first|exact e2_b1|(simp only[nb1_b19,nb1_b7,aJ,seval];first|done|exact e2_b1)),by simp only[aJ,seval];first|rfl|done⟩ (by repeat (first|exact ag2|refine bE.upd rfl ?_))
 have hkn2:k=aa.length:=by have:=aE hc;omega
 clear hc;rw[hkn2,←aD (f:=Ar.name),List.take_length]at hb19;refine bH ?_;simp only[RR,seval];refine aH ?_;refine aB fun _ q=>aA rfl ?_;simp only[f1,hb1,aD,RR,seval];apply q;clear q;refine bL fun F5 M5 hfr hH=>?_;have g1:=hfr 1;have g2:=hfr 2;have g3:=hfr 3;have g48:=hfr 48;have g49:=hfr 49;have g50:=hfr 50;have gb1:=hH b1;have gb19:=hH b19
 try simp only[f1,f2,f3,hb1,hb19,RR,seval]at g1 g2 g3 g48 g49 g50 gb1 gb19
 have f1:=g1;clear g1;have f2:=g2;clear g2;have f3:=g3;clear g3;have f48:=g48;clear g48;have f49:=g49;clear g49;have f50:=g50;clear g50;have hb1:=gb1;clear gb1;have hb19:=gb19;clear gb19;clear hfr hH;refine aI ?_;refine cP [1,2,3,48,49] (fs.length) (fun k fr M=>fr 50= .int .i64 (k:Nat)∧M b1=M5 b1∧M b19=some (.amap ((jY false 0 vs++jY false 0 (aa.map Ar.name)++jY false 0 ((fs.map Fu.name).take k)).map nN))) ⟨f50,rfl,by rw[hb19];simp [jY]⟩ ?_;rintro k F6 M6 hk4 ⟨fx,gb1,hb19⟩ agx K4 hK4;have f1:=(agx 1 rfl).trans f1;have f2:=(agx 2 rfl).trans f2;have f3:=(agx 3 rfl).trans f3;have f48:=(agx 48 rfl).trans f48;have f49:=(agx 49 rfl).trans f49;have f50:=fx;clear fx;have hb1:=gb1.trans hb1;have ag4:=bE.refl [1,2,3,48,49] F6;have e4_b1:=gb1;clear gb1;clear agx;refine aB fun _ q=>aA rfl ?_;simp only[f49,f50,RR,seval];apply q;clear q;refine aH ?_;refine aF _ rfl (fun hc=>?_) (fun hc=>?_)
 ·have hlt4:k<fs.length:=by have:=aC hc;omega
  clear hc;have hg0:=aG hlt4;generalize fs[k]=f at hg0;have hg:=pG hg0;have hg1:(fs.map Fu.name)[k]?=some f.name:=by rw[bN,hg0];rfl
  have hni:=nB hn hg1;have hput:=wI (jY false 0 vs++jY false 0 (aa.map Ar.name)++jY false 0 ((fs.map Fu.name).take k)) f.name false (k:Int) (by rw[List.map_append,List.map_append,gS,gS,gS];exact hni);have htk:=mY false (fs.map Fu.name) 0 k f.name hg1;rw[Nat.zero_add]at htk;rw[List.append_assoc (jY false 0 vs++jY false 0 (aa.map Ar.name)),←htk]at hput;generalize(jY false 0 vs++jY false 0 (aa.map Ar.name)++jY false 0 ((fs.map Fu.name).take k)).map nN=es at hput hb19;refine aM ?_;try simp only[RR]
  refine aH ?_;refine aI ?_;refine aB fun _ q=>aA rfl ?_;simp only[f48,f50,hg,RR,seval];refine aO fun b9 hn9=>?_;have nb9_b1:b9≠b1:=fun e=>by rw[e]at hn9;simp only[hb1,seval,reduceCtorEq]at hn9
  have nb1_b9:b1≠b9:=fun e=>nb9_b1 e.symm;have nb9_b19:b9≠b19:=fun e=>by rw[e]at hn9;simp only[hb19,seval,reduceCtorEq]at hn9
  have nb19_b9:b19≠b9:=fun e=>nb9_b19 e.symm;simp only[RR,seval];apply q;clear q;refine aA rfl ?_;simp only[f3,hb19,nb19_b9,hput,RR,seval];refine aA rfl ?_;simp only[f50,RR,seval]
  try rw[aR _ (by omega)]
  refine hK4 _ _ hlt4 ⟨by first|rfl|(simp only[aJ,seval];rfl),(by first|exact e4_b1|(simp only[nb1_b19,nb1_b9,aJ,seval];first|done|exact e4_b1)),by simp only[aJ,seval];first|rfl|done⟩ (by repeat (first|exact ag4|refine bE.upd rfl ?_))
 have hkn4:k=fs.length:=by have:=aE hc;omega
 clear hc;rw[hkn4,←aD (f:=Fu.name),List.take_length,hG]at hb19;refine bH ?_;simp only[RR,seval];refine bL fun F7 M7 hfr hH=>?_;have g1:=hfr 1;have g2:=hfr 2;have g3:=hfr 3;have gb1:=hH b1;have gb19:=hH b19
 try simp only[f1,f2,f3,hb1,hb19,RR,seval]at g1 g2 g3 gb1 gb19
 have f1:=g1;clear g1;have f2:=g2;clear g2;have f3:=g3;clear g3;have hb1:=gb1;clear gb1;have hb19:=gb19;clear gb19;clear hfr hH;refine kB hb19 ?_;refine bL fun F8 M8 hfr hH=>?_;have g1:=hfr 1;have g2:=hfr 2;have g3:=hfr 3;have gb1:=hH b1
 try simp only[SM,List.map_cons,List.map_nil,Option.map_some,f1,f2,f3,hb1,nb1_b19,seval]at g1 g2 g3 gb1
 have f1:=g1;clear g1;have f2:=g2;clear g2;have f3:=g3;clear g3;have hb1:=gb1;clear gb1;clear hfr hH;refine aB fun _ q=>aA rfl ?_;simp only[f1,hb1,e1,aD,RR,seval];refine aO fun b64 hn64=>?_;have nb64_b1:b64≠b1:=fun e=>by rw[e]at hn64;simp only[hb1,seval,reduceCtorEq]at hn64
 have nb1_b64:b1≠b64:=fun e=>nb64_b1 e.symm;simp only[RR,seval];apply q;clear q;refine aH ?_;refine aB fun _ q=>aA rfl ?_;simp only[f1,hb1,nb1_b64,aD,RR,seval];apply q;clear q;refine bL fun F9 M9 hfr hH=>?_;have g2:=hfr 2;have g3:=hfr 3;have g10:=hfr 10;have g66:=hfr 66;have g67:=hfr 67;have g68:=hfr 68;have gb1:=hH b1;have gb64:=hH b64
 try simp only[f2,f3,hb1,nb1_b64,RR,seval]at g2 g3 g10 g66 g67 g68 gb1 gb64
 have f2:=g2;clear g2;have f3:=g3;clear g3;have f10:=g10;clear g10;have f66:=g66;clear g66;have f67:=g67;clear g67;have f68:=g68;clear g68;have hb1:=gb1;clear gb1;have hb64:=gb64;clear gb64;clear hfr hH;refine aI ?_;refine cP [2,3,10,66,67] (fs.length) (fun k fr M=>fr 68= .int .i64 (k:Nat)∧M b1=M9 b1∧M b64=some (.rows 2 ((fs.take k).map (fun f=>Cf.row (oD G f))++List.replicate (fs.length-k) zF))) ⟨f68,rfl,by rw[hb64];rfl⟩ ?_;rintro k F10 M10 hk6 ⟨fx,gb1,hb64⟩ agx K6 hK6;have f2:=(agx 2 rfl).trans f2;have f3:=(agx 3 rfl).trans f3;have f10:=(agx 10 rfl).trans f10;have f66:=(agx 66 rfl).trans f66;have f67:=(agx 67 rfl).trans f67;have f68:=fx;clear fx;have hb1:=gb1.trans hb1;have ag6:=bE.refl [2,3,10,66,67] F10;have e6_b1:=gb1;clear gb1;clear agx;refine aB fun _ q=>aA rfl ?_;simp only[f67,f68,RR,seval];apply q;clear q;refine aH ?_;refine aF _ rfl (fun hc=>?_) (fun hc=>?_)
 ·have hlt6:k<fs.length:=by have:=aC hc;omega
  clear hc;have hg0:=aG hlt6;have htk6:fs.take (k+1)=fs.take k++[fs[k]]:=bQ hlt6;have hkd:=hsc _ (bJ hlt6);have hnn:=hnl _ (bJ hlt6);have hbb:=hb _ (bJ hlt6);generalize fs[k]=f at hg0 htk6 hkd hnn hbb;have hg6:=pG hg0;have hkl:(fs.take k).length=k:=by rw[cF];omega
  have zk:(k:Int)<(fs.length:Int):=by omega
  have hz:=xI (fun f=>Cf.row (oD G f)) (fs.take k) zF hkl hlt6;have hs:=xH (fun f=>Cf.row (oD G f)) (fs.take k) f zF hkl hlt6;rw[←htk6]at hs;have ew:IntKind.wrap .i64 ((f.params.length:Int)+(f.locs.length:Int))=((f.params.length+f.locs.length:Nat):Int):=by rw[aR _ (by omega)];omega
  have hcf:Cf.row (oD G f)=[.int .i64 ((f.params.length+f.locs.length:Nat):Int), .isl 6 (f.body.map (cS (nU G (qH f))))]:=rfl;have hsm:=fun m es=>Ml m es G (fs.take k) (fs.length-k);generalize(fs.take k).map (fun f=>Cf.row (oD G f))++List.replicate (fs.length-k) zF=rows at hb64 hz hs hsm;unfold zF at hz;simp only[hcf]at hs;simp only[dT]at hnn;have hNp:f.params.Nodup:=(List.nodup_append.1 hnn).1;have hnn0:([]++f.params).Nodup:=by rw[List.nil_append];exact hNp
  refine aM ?_;try simp only[RR]
  refine aH ?_;refine aI ?_;refine aB fun _ q=>aA rfl ?_;simp only[f66,f68,hg6,zk,RR,seval];refine aO fun b12 hn12=>?_;have nb12_b1:b12≠b1:=fun e=>by rw[e]at hn12;simp only[hb1,seval,reduceCtorEq]at hn12
  have nb1_b12:b1≠b12:=fun e=>nb12_b1 e.symm;have nb12_b64:b12≠b64:=fun e=>by rw[e]at hn12;simp only[hb64,seval,reduceCtorEq]at hn12
  have nb64_b12:b64≠b12:=fun e=>nb12_b64 e.symm;simp only[RR,seval];apply q;clear q;refine aB fun _ q=>aA rfl ?_;simp only[RR,seval];refine aO fun b73 hn73=>?_;have nb73_b1:b73≠b1:=fun e=>by rw[e]at hn73;simp only[hb1,nb1_b12,RR,seval,reduceCtorEq]at hn73
  have nb1_b73:b1≠b73:=fun e=>nb73_b1 e.symm;have nb73_b64:b73≠b64:=fun e=>by rw[e]at hn73;simp only[hb64,nb64_b12,RR,seval,reduceCtorEq]at hn73
  have nb64_b73:b64≠b73:=fun e=>nb73_b64 e.symm;have nb73_b12:b73≠b12:=fun e=>by rw[e]at hn73;simp only[RR,seval,reduceCtorEq]at hn73
  have nb12_b73:b12≠b73:=fun e=>nb73_b12 e.symm;simp only[RR,seval];apply q;clear q;refine aH ?_;refine aB fun _ q=>aA rfl ?_;simp only[nb12_b73,aD,RR,seval];apply q;clear q;refine bL fun F11 M11 hfr hH=>?_;have g2:=hfr 2;have g3:=hfr 3;have g10:=hfr 10;have g11:=hfr 11;have g12:=hfr 12;have g13:=hfr 13;have g66:=hfr 66;have g67:=hfr 67;have g68:=hfr 68;have g75:=hfr 75;have g76:=hfr 76;have g77:=hfr 77;have gb1:=hH b1;have gb64:=hH b64;have gb12:=hH b12;have gb73:=hH b73
  try simp only[f2,f3,f10,f66,f67,f68,hb1,hb64,nb1_b12,nb64_b12,nb1_b73,nb64_b73,nb12_b73,RR,seval]at g2 g3 g10 g11 g12 g13 g66 g67 g68 g75 g76 g77 gb1 gb64 gb12 gb73
  have ag6:bE [2,3,10,66,67] F10 F11:=bE.same hfr (by repeat (first|exact ag6|refine bE.upd rfl ?_));have e6_b1:=(hH b1).trans (by first|exact e6_b1|(simp only[nb1_b12,nb1_b73,aJ,seval];first|done|exact e6_b1));have f2:=g2;clear g2;have f3:=g3;clear g3;have f10:=g10;clear g10;have f11:=g11;clear g11;have f12:=g12;clear g12;have f13:=g13;clear g13;have f66:=g66;clear g66;have f67:=g67;clear g67;have f68:=g68;clear g68;have f75:=g75;clear g75;have f76:=g76;clear g76;have f77:=g77;clear g77;have hb1:=gb1;clear gb1;have hb64:=gb64;clear gb64;have hb12:=gb12;clear gb12;have hb73:=gb73;clear gb73;clear hfr hH;refine aI ?_;refine cP [2,3,10,11,12,13,66,67,68,75,76] (f.params.length) (fun j fr M=>fr 77= .int .i64 (j:Nat)∧M b1=M11 b1∧M b64=M11 b64∧M b12=M11 b12∧M b73=some (.amap ((jY true 0 (f.params.take j)).map nN))) ⟨f77,rfl,rfl,rfl,by rw[hb73];rfl⟩ ?_;rintro j F12 M12 hk8 ⟨fx,gb1,gb64,gb12,hb73⟩ agx K8 hK8;have f2:=(agx 2 rfl).trans f2;have f3:=(agx 3 rfl).trans f3;have f10:=(agx 10 rfl).trans f10;have f11:=(agx 11 rfl).trans f11;have f12:=(agx 12 rfl).trans f12;have f13:=(agx 13 rfl).trans f13;have f66:=(agx 66 rfl).trans f66;have f67:=(agx 67 rfl).trans f67;have f68:=(agx 68 rfl).trans f68;have f75:=(agx 75 rfl).trans f75;have f76:=(agx 76 rfl).trans f76;have f77:=fx;clear fx;have hb1:=gb1.trans hb1;have hb64:=gb64.trans hb64;have hb12:=gb12.trans hb12;have ag6:bE [2,3,10,66,67] F10 F12:=bE.sub agx rfl ag6;have e6_b1:=gb1.trans e6_b1;have ag8:=bE.refl [2,3,10,11,12,13,66,67,68,75,76] F12;have e8_b1:=gb1;clear gb1;have e8_b64:=gb64;clear gb64;have e8_b12:=gb12;clear gb12;clear agx;refine aB fun _ q=>aA rfl ?_;simp only[f76,f77,RR,seval];apply q;clear q;refine aH ?_;refine aF _ rfl (fun hc=>?_) (fun hc=>?_)
  ·have hlt8:j<f.params.length:=by have:=aC hc;omega
   clear hc;have hg0:=aG hlt8;generalize f.params[j]=s at hg0;have hg:=tP hg0;have hni:=nB hnn0 hg0;have hput:=wI (jY true 0 (f.params.take j)) s true (j:Int) (by rw[gS];simpa using hni);have htk:=mY true f.params 0 j s hg0;rw[Nat.zero_add]at htk;rw[←htk]at hput;generalize(jY true 0 (f.params.take j)).map nN=es at hput hb73;refine aM ?_;try simp only[RR]
   refine aH ?_;refine aI ?_;refine aB fun _ q=>aA rfl ?_;simp only[f75,f77,hg,RR,seval];apply q;clear q;refine aA rfl ?_;simp only[f13,hb73,hput,RR,seval];refine aA rfl ?_;simp only[f77,RR,seval]
   try rw[aR _ (by omega)]
   refine hK8 _ _ hlt8 ⟨by first|rfl|(simp only[aJ,seval];rfl),(by first|exact e8_b1|(simp only[nb1_b73,aJ,seval];first|done|exact e8_b1)),(by first|exact e8_b64|(simp only[nb64_b73,aJ,seval];first|done|exact e8_b64)),(by first|exact e8_b12|(simp only[nb12_b73,aJ,seval];first|done|exact e8_b12)),bO _ _ _⟩ (by repeat (first|exact ag8|refine bE.upd rfl ?_))
  have hkn8:j=f.params.length:=by have:=aE hc;omega
  clear hc;rw[hkn8,List.take_length]at hb73;refine bH ?_;simp only[RR,seval];refine aH ?_;refine aB fun _ q=>aA rfl ?_;simp only[f12,hb12,aD,RR,seval];apply q;clear q;refine bL fun F13 M13 hfr hH=>?_;have g2:=hfr 2;have g3:=hfr 3;have g10:=hfr 10;have g11:=hfr 11;have g12:=hfr 12;have g13:=hfr 13;have g66:=hfr 66;have g67:=hfr 67;have g68:=hfr 68;have g75:=hfr 75;have g76:=hfr 76;have g77:=hfr 77;have g88:=hfr 88;have g89:=hfr 89;have g90:=hfr 90;have gb1:=hH b1;have gb64:=hH b64;have gb12:=hH b12;have gb73:=hH b73
  try simp only[f2,f3,f10,f11,f12,f13,f66,f67,f68,f75,f76,f77,hb1,hb64,hb12,hb73,RR,seval]at g2 g3 g10 g11 g12 g13 g66 g67 g68 g75 g76 g77 g88 g89 g90 gb1 gb64 gb12 gb73
  have ag6:bE [2,3,10,66,67] F10 F13:=bE.same hfr (by repeat (first|exact ag6|refine bE.upd rfl ?_));have e6_b1:=(hH b1).trans (by first|exact e6_b1|(simp only[nb19_b1,nb1_b19,nb64_b1,nb1_b64,nb12_b1,nb1_b12,nb12_b64,nb64_b12,nb73_b1,nb1_b73,nb73_b64,nb64_b73,nb73_b12,nb12_b73,aJ,seval];first|done|exact e6_b1));have f2:=g2;clear g2;have f3:=g3;clear g3;have f10:=g10;clear g10;have f11:=g11;clear g11;have f12:=g12;clear g12;have f13:=g13;clear g13;have f66:=g66;clear g66;have f67:=g67;clear g67;have f68:=g68;clear g68;have f75:=g75;clear g75;have f76:=g76;clear g76;have f77:=g77;clear g77;have f88:=g88;clear g88;have f89:=g89;clear g89;have f90:=g90;clear g90;have hb1:=gb1;clear gb1;have hb64:=gb64;clear gb64;have hb12:=gb12;clear gb12;have hb73:=gb73;clear gb73;clear hfr hH;refine aI ?_;refine cP [2,3,10,11,12,13,66,67,68,75,76,77,88,89] (f.locs.length) (fun j fr M=>fr 90= .int .i64 (j:Nat)∧M b1=M13 b1∧M b64=M13 b64∧M b12=M13 b12∧M b73=some (.amap ((jY true 0 f.params++jY true f.params.length (f.locs.take j)).map nN))) ⟨f90,rfl,rfl,rfl,by rw[hb73];simp [jY]⟩ ?_;rintro j F14 M14 hk10 ⟨fx,gb1,gb64,gb12,hb73⟩ agx K10 hK10;have f2:=(agx 2 rfl).trans f2;have f3:=(agx 3 rfl).trans f3;have f10:=(agx 10 rfl).trans f10;have f11:=(agx 11 rfl).trans f11;have f12:=(agx 12 rfl).trans f12;have f13:=(agx 13 rfl).trans f13;have f66:=(agx 66 rfl).trans f66;have f67:=(agx 67 rfl).trans f67;have f68:=(agx 68 rfl).trans f68;have f75:=(agx 75 rfl).trans f75;have f76:=(agx 76 rfl).trans f76;have f77:=(agx 77 rfl).trans f77;have f88:=(agx 88 rfl).trans f88;have f89:=(agx 89 rfl).trans f89;have f90:=fx;clear fx;have hb1:=gb1.trans hb1;have hb64:=gb64.trans hb64;have hb12:=gb12.trans hb12;have ag6:bE [2,3,10,66,67] F10 F14:=bE.sub agx rfl ag6;have e6_b1:=gb1.trans e6_b1;have ag10:=bE.refl [2,3,10,11,12,13,66,67,68,75,76,77,88,89] F14;have e10_b1:=gb1;clear gb1;have e10_b64:=gb64;clear gb64;have e10_b12:=gb12;clear gb12;clear agx;refine aB fun _ q=>aA rfl ?_;simp only[f89,f90,RR,seval];apply q;clear q;refine aH ?_;refine aF _ rfl (fun hc=>?_) (fun hc=>?_)
  ·have hlt10:j<f.locs.length:=by have:=aC hc;omega
   clear hc;have hg0:=aG hlt10;generalize f.locs[j]=s at hg0;have hg:=tP hg0;have hni:=nB hnn hg0;have ej:IntKind.wrap .i64 ((f.params.length:Int)+(j:Int))=((f.params.length+j:Nat):Int):=by rw[aR _ (by omega)];omega
   have hput:=wI (jY true 0 f.params++jY true f.params.length (f.locs.take j)) s true ((f.params.length+j:Nat):Int) (by rw[List.map_append,gS,gS];exact hni);have htk:=mY true f.locs f.params.length j s hg0;rw[List.append_assoc,←htk]at hput;generalize(jY true 0 f.params++jY true f.params.length (f.locs.take j)).map nN=es at hput hb73;refine aM ?_;try simp only[RR]
   refine aH ?_;refine aI ?_;refine aB fun _ q=>aA rfl ?_;simp only[f88,f90,hg,RR,seval];apply q;clear q;refine aA rfl ?_;simp only[f12,f13,hb12,hb73,aD,hput,ej,RR,seval];refine aA rfl ?_;simp only[f90,RR,seval]
   try rw[aR _ (by omega)]
   refine hK10 _ _ hlt10 ⟨by first|rfl|(simp only[aJ,seval];rfl),(by first|exact e10_b1|(simp only[nb1_b73,aJ,seval];first|done|exact e10_b1)),(by first|exact e10_b64|(simp only[nb64_b73,aJ,seval];first|done|exact e10_b64)),(by first|exact e10_b12|(simp only[nb12_b73,aJ,seval];first|done|exact e10_b12)),by simp only[aJ,seval];first|rfl|done⟩ (by repeat (first|exact ag10|refine bE.upd rfl ?_))
  have hkn10:j=f.locs.length:=by have:=aE hc;omega
  clear hc;rw[hkn10,List.take_length]at hb73;have hin:jY true 0 f.params++jY true f.params.length f.locs=qH f:=by unfold qH;rw[Kt,Nat.zero_add]
  rw[hin]at hb73;refine bH ?_;simp only[RR,seval];refine bL fun F15 M15 hfr hH=>?_;have g2:=hfr 2;have g3:=hfr 3;have g10:=hfr 10;have g11:=hfr 11;have g12:=hfr 12;have g13:=hfr 13;have g66:=hfr 66;have g67:=hfr 67;have g68:=hfr 68;have g75:=hfr 75;have g76:=hfr 76;have g77:=hfr 77;have g88:=hfr 88;have g89:=hfr 89;have g90:=hfr 90;have gb1:=hH b1;have gb64:=hH b64;have gb12:=hH b12;have gb73:=hH b73
  try simp only[f2,f3,f10,f11,f12,f13,f66,f67,f68,f75,f76,f77,f88,f89,f90,hb1,hb64,hb12,hb73,RR,seval]at g2 g3 g10 g11 g12 g13 g66 g67 g68 g75 g76 g77 g88 g89 g90 gb1 gb64 gb12 gb73
  have ag6:bE [2,3,10,66,67] F10 F15:=bE.same hfr (by repeat (first|exact ag6|refine bE.upd rfl ?_));have e6_b1:=(hH b1).trans (by first|exact e6_b1|(simp only[nb19_b1,nb1_b19,nb64_b1,nb1_b64,nb12_b1,nb1_b12,nb12_b64,nb64_b12,nb73_b1,nb1_b73,nb73_b64,nb64_b73,nb73_b12,nb12_b73,aJ,seval];first|done|exact e6_b1));have f2:=g2;clear g2;have f3:=g3;clear g3;have f10:=g10;clear g10;have f11:=g11;clear g11;have f12:=g12;clear g12;have f13:=g13;clear g13;have f66:=g66;clear g66;have f67:=g67;clear g67;have f68:=g68;clear g68;have f75:=g75;clear g75;have f76:=g76;clear g76;have f77:=g77;clear g77;have f88:=g88;clear g88;have f89:=g89;clear g89;have f90:=g90;clear g90;have hb1:=gb1;clear gb1;have hb64:=gb64;clear gb64;have hb12:=gb12;clear gb12;have hb73:=gb73;clear gb73;clear hfr hH;refine kB hb73 ?_;refine bL fun F16 M16 hfr hH=>?_;have g2:=hfr 2;have g3:=hfr 3;have g10:=hfr 10;have g11:=hfr 11;have g12:=hfr 12;have g13:=hfr 13;have g66:=hfr 66;have g67:=hfr 67;have g68:=hfr 68;have g75:=hfr 75;have g76:=hfr 76;have g77:=hfr 77;have g88:=hfr 88;have g89:=hfr 89;have g90:=hfr 90;have gb1:=hH b1;have gb64:=hH b64;have gb12:=hH b12
  try simp only[SM,List.map_cons,List.map_nil,Option.map_some,f2,f3,f10,f11,f12,f13,f66,f67,f68,f75,f76,f77,f88,f89,f90,hb1,hb64,hb12,nb1_b73,nb64_b73,nb12_b73,hsm,seval]at g2 g3 g10 g11 g12 g13 g66 g67 g68 g75 g76 g77 g88 g89 g90 gb1 gb64 gb12
  have ag6:bE [2,3,10,66,67] F10 F16:=bE.cons (g2.trans (f2.symm.trans (ag6 2 rfl)))<|bE.cons (g3.trans (f3.symm.trans (ag6 3 rfl)))<|bE.cons (g10.trans (f10.symm.trans (ag6 10 rfl)))<|bE.cons (g66.trans (f66.symm.trans (ag6 66 rfl)))<|bE.cons (g67.trans (f67.symm.trans (ag6 67 rfl)))<|bE.nil _ _
  have e6_b1:=by first|exact(hH b1).trans (by first|exact e6_b1|(simp only[nb1_b73,seval];first|done|exact e6_b1))|exact gb1.trans (hb1.symm.trans e6_b1)
  have f2:=g2;clear g2;have f3:=g3;clear g3;have f10:=g10;clear g10;have f11:=g11;clear g11;have f12:=g12;clear g12;have f13:=g13;clear g13;have f66:=g66;clear g66;have f67:=g67;clear g67;have f68:=g68;clear g68;have f75:=g75;clear g75;have f76:=g76;clear g76;have f77:=g77;clear g77;have f88:=g88;clear g88;have f89:=g89;clear g89;have f90:=g90;clear g90;have hb1:=gb1;clear gb1;have hb64:=gb64;clear gb64;have hb12:=gb12;clear gb12;clear hfr hH;refine aB fun _ q=>aA rfl ?_;simp only[f3,f13,RR,seval];refine aO fun b18 hn18=>?_;have nb18_b1:b18≠b1:=fun e=>by rw[e]at hn18;simp only[hb1,seval,reduceCtorEq]at hn18
  have nb1_b18:b1≠b18:=fun e=>nb18_b1 e.symm;have nb18_b64:b18≠b64:=fun e=>by rw[e]at hn18;simp only[hb64,seval,reduceCtorEq]at hn18
  have nb64_b18:b64≠b18:=fun e=>nb18_b64 e.symm;have nb18_b12:b18≠b12:=fun e=>by rw[e]at hn18;simp only[hb12,seval,reduceCtorEq]at hn18
  have nb12_b18:b12≠b18:=fun e=>nb18_b12 e.symm;simp only[RR,seval];apply q;clear q;refine bL fun F17 M17 hfr hH=>?_;have g2:=hfr 2;have g3:=hfr 3;have g10:=hfr 10;have g11:=hfr 11;have g12:=hfr 12;have g13:=hfr 13;have g18:=hfr 18;have g66:=hfr 66;have g67:=hfr 67;have g68:=hfr 68;have g75:=hfr 75;have g76:=hfr 76;have g77:=hfr 77;have g88:=hfr 88;have g89:=hfr 89;have g90:=hfr 90;have gb1:=hH b1;have gb64:=hH b64;have gb12:=hH b12;have gb18:=hH b18
  try simp only[f2,f3,f10,f11,f12,f13,f66,f67,f68,f75,f76,f77,f88,f89,f90,hb1,hb64,hb12,nb1_b18,nb64_b18,nb12_b18,RR,seval]at g2 g3 g10 g11 g12 g13 g18 g66 g67 g68 g75 g76 g77 g88 g89 g90 gb1 gb64 gb12 gb18
  have ag6:bE [2,3,10,66,67] F10 F17:=bE.same hfr (by repeat (first|exact ag6|refine bE.upd rfl ?_));have e6_b1:=(hH b1).trans (by first|exact e6_b1|(simp only[nb1_b18,aJ,seval];first|done|exact e6_b1));have f2:=g2;clear g2;have f3:=g3;clear g3;have f10:=g10;clear g10;have f11:=g11;clear g11;have f12:=g12;clear g12;have f13:=g13;clear g13;have f18:=g18;clear g18;have f66:=g66;clear g66;have f67:=g67;clear g67;have f68:=g68;clear g68;have f75:=g75;clear g75;have f76:=g76;clear g76;have f77:=g77;clear g77;have f88:=g88;clear g88;have f89:=g89;clear g89;have f90:=g90;clear g90;have hb1:=gb1;clear gb1;have hb64:=gb64;clear gb64;have hb12:=gb12;clear gb12;have hb18:=gb18;clear gb18;clear hfr hH;refine bB (fun x=>x≠b12∧x≠b18∧x≠b1) [(0,3),(1,3),(2,3),(3,0),(4,3),(5,3),(6,0),(7,3),(8,3),(9,1),(10,3),(11,1),(12,1),(13,3),(14,3)] [(15,1)] cX (by kernel_rfl) rfl rfl ?_;simp only[cH,dY,f10,f11,f12,f18,hb12,hb18,nb12_b1,nb12_b18,aD,ew,RR,seval];refine aU (hkd) ?_;simp only[hb64,hz,zk,RR,seval];refine aA rfl ?_;simp only[f68,RR,seval]
  try rw[aR _ (by omega)]
  refine hK6 _ _ hlt6 ⟨by first|rfl|(simp only[aJ,seval];rfl),(by first|exact e6_b1|(simp only[nb1_b64,aJ,seval];first|done|exact e6_b1)),by rw[←hs];first|exact bO _ _ _|(simp only[aJ,seval];rfl)⟩ (by repeat (first|exact ag6|refine bE.upd rfl ?_))
 have hkn6:k=fs.length:=by have:=aE hc;omega
 clear hc;rw[hkn6,List.take_length,Nat.sub_self,List.replicate_zero,List.append_nil]at hb64;have emm:fs.map (fun f=>Cf.row (oD G f))=(fs.map (oD G)).map Cf.row:=by rw[List.map_map];rfl
 rw[emm]at hb64;refine bH ?_;simp only[RR,seval];refine aB fun _ q=>aA rfl ?_;simp only[f10,RR,seval];apply q;clear q;refine aQ ?_;simp only[aX,aN,bI,RR,seval];exact dS.gives1 (.inr ⟨b64,by rw[aD,aD],hb64⟩) rfl;skip
end Go.Proofs.YtnfbbjhdflhmjaaGreatDoor
namespace Go.Al
theorem nD: ∀l:List UInt8,iU (l.map jX)=some l
 |[]=>rfl
 |c::l=>by
  have h:UInt8.ofNat ((c.toNat:Int).toNat)=c:=by simp
  simp only[List.map_cons,jX,iU,tT,h,Option.bind_some];rw[nD l];rfl
theorem eJ.seal {cx:Cx} {r v:Nat} {abs:List Nat} {st:RS} {vo:AV} {H:Hp} {E:fY} {N:Nat} {Q:dI} {c:Code} {fr:Fr} (hR:eJ cx r v abs st vo H)
  (h: ∀fr' H',(∀j,xB (fr j)=true→fr' j=fr j)→H' r=some (.rows 8 [[.isl 2 (cx.funs.map Cf.row), .osl 1 v st.vars.length, .isl 1 (dL abs st.arrs), .str cx.inp, .int .i64 st.read, .isl 1 (st.out.map jX), .int .i64 st.ticks, .int .i64 cx.fuel]])→
   (∀b s l,b≠r→off vo b→(∀r∈l, ∀x∈r,xB x=true)→H b=some (.rows s l)→H' b=some (.rows s l))→jD E N c Q fr' H'):jD E N c Q fr H:=by
 have h0:H r=some (.rows 8 [[AV.isl 2 (cx.funs.map Cf.row), .osl 1 v st.vars.length, .isl 1 (dL abs st.arrs), .str cx.inp, .int .i64 st.read]++vo::[.int .i64 st.ticks, .int .i64 cx.fuel]]):=hR.r;refine kS hR.o h0 (fun x hx=>?_) (fun x hx=>?_) (hR.o.offsz hR.r (by decide)) fun fr' H' h1 h2 h3=>h fr' H' (fun j hj=>h1 j (cJ hj)) h2 fun b s l g1 g2 g3 g4=>h3 b s l g1 g2 (fun r hr x hx=>cJ (g3 r hr x hx)) g4
 ·simp only[List.mem_cons,List.not_mem_nil,or_false]at hx
  rcases hx with rfl|rfl|rfl|rfl|rfl
  ·exact cJ rfl
  ·intro s b n e
   cases e;exact hR.ov
  ·exact cJ rfl
  ·exact cJ rfl
  exact cJ rfl
 simp only[List.mem_cons,List.not_mem_nil,or_false]at hx;rcases hx with rfl|rfl<;>exact cJ rfl
end Go.Al
namespace Go.Proofs.YtnfbbjhdflhmjaaGreatDoor
open Go.Al
def Ev (b6:Nat):Fr:=upd (fun _=> .undef) 6 (.ptr 3 b6 0 0)
noncomputable def C9:Code:=Qz Tryz.f38.body
def uL (e:Int) (out:cR) (t:Nat):AV:= .agg [.int .i64 e, .str out, .int .i64 t]
theorem Va (b7 b6:Nat) (H:Hp) (R:kD→Hp→Prop) (e:Int) (out:cR) (t:Nat) (h6:H b6=some (.rows 3 [[.int .i64 e, .str out, .int .i64 t]])) (hR:R (.ret (uL e out t)) oV):
  vI cN 23 C9 [.ptr 1 b7 0 0, .ptr 3 b6 0 0] 5 [.cell 6 43] (Ev b6) R .nif H:=by
 unfold vI C9
 have hres:aN cN.P (Ev b6) H [.cell 6 43]=some (uL e out t):=by
  simp only[aN,bI,Ev,h6,RR,seval];rfl
 refine aI ?_;refine aB fun _ q=>aA rfl ?_;simp only[Gt.eq_1,G4.eq_1,RR,seval];apply q;clear q;refine aF true rfl (fun _=>?_) (fun hc=>by cases hc);refine aA rfl ?_;simp only[RR,seval];exact⟨.inl trivial,_,hres,⟨_,oV,jM.drop (lD _),hR⟩⟩
theorem Uz {cx:Cx} {r v:Nat} {abs:List Nat} {st:RS} {vo:AV} (b7 b6:Nat) (H:Hp) (R:kD→Hp→Prop) (e:Int) (hR:eJ cx r v abs st vo H) (h7:H b7=some (.rows 1 [[.ptr 8 r 0 0]])) (o7:off vo b7) (h6:H b6=some (.rows 3 [[.int .i64 0, .str [], .int .i64 0]])) (hRR:R (.ret (uL e st.out st.ticks)) oV):
  vI cN 23 C9 [.ptr 1 b7 0 0, .ptr 3 b6 0 0] 5 [.cell 6 43] (Ev b6) R (wL e) H:=by
 unfold vI C9 wL;have n67:b6≠b7:=fun c=>by rw[c,h7]at h6;cases h6
 have n6r:b6≠r:=fun c=>by rw[c,hR.r]at h6;cases h6
 have n7r:b7≠r:=fun c=>by rw[c,hR.r]at h7;cases h7
 refine eJ.seal hR fun fr' H' hfr hr' hkp=>?_;have h7:=hkp b7 _ _ n7r o7 (fun r hr x hx=>by simp only[List.mem_singleton]at hr;subst hr;simp only[List.mem_singleton]at hx;subst hx;rfl) h7;have h6:=hkp b6 _ _ n6r (hR.o.offsz h6 (by decide)) (fun r hr x hx=>by simp only[List.mem_singleton]at hr;subst hr;simp only[List.mem_cons,List.not_mem_nil,or_false]at hx;rcases hx with rfl|rfl|rfl<;>rfl) h6;have f0:fr' 0= .ptr 1 b7 0 0:=hfr 0 rfl;have f1:fr' 1= .ptr 3 b6 0 0:=hfr 1 rfl;have f5:fr' 5= .ifc 89 (.agg [.int .i64 e]):=hfr 5 rfl;have hb:=nD st.out;have hb6:=h6;have hb7:=h7;have hr:=hr';clear h6 h7 hr' hkp hfr;have hC:= @iS;refine aI ?_;refine aB fun _ q=>aA rfl ?_;simp only[f5,Gt.eq_1,aq,RR,seval];apply q;clear q;refine aF false rfl (fun hc=>by cases hc) (fun _=>?_);refine aB fun _ q=>aA rfl ?_;simp only[f5,iS,aq,RR,seval];apply q;clear q;refine aF true rfl (fun _=>?_) (fun hc=>by cases hc);refine aB fun _ q=>aA rfl ?_;simp only[RR,seval];refine aO fun b3 hn3=>?_;have nb3_b6:b3≠b6:=fun e=>by rw[e]at hn3;simp only[hb6,seval,reduceCtorEq]at hn3
 have nb6_b3:b6≠b3:=fun e=>nb3_b6 e.symm;have nb3_b7:b3≠b7:=fun e=>by rw[e]at hn3;simp only[hb7,seval,reduceCtorEq]at hn3
 have nb7_b3:b7≠b3:=fun e=>nb3_b7 e.symm;have nb3_r:b3≠r:=fun e=>by rw[e]at hn3;simp only[hr,seval,reduceCtorEq]at hn3
 have nr_b3:r≠b3:=fun e=>nb3_r e.symm;simp only[RR,seval];apply q;clear q;refine bB (fun x=>x≠b7∧x≠r) [(0,3),(1,1),(2,1),(3,3),(4,3),(5,1),(6,3),(7,1),(8,3),(9,3),(10,1),(11,3)] [(12,1)] cX (by kernel_rfl) rfl rfl ?_;simp only[cH,f0,f1,hb6,hb7,hr,nb6_b3,nb7_b3,nr_b3,aq,hb,RR,seval]
 try simp only[aN,bI,RR,seval]
 refine⟨.inl trivial,uL e st.out st.ticks, ?_,⟨_,oV,jM.drop (lD _),hRR⟩⟩;simp only[Ev,RR,seval];rfl
end Go.Proofs.YtnfbbjhdflhmjaaGreatDoor
namespace Go.Al
structure zK (b7 bv:Nat) (bs:List Nat) (A:List (List Int)) (va:AV) (H:Hp):Prop where
 l:bs.length=A.length
 o:dS 1 va (dL bs A) H
 a: ∀(i:Nat) b l,bs[i]?=some b→A[i]?=some l→H b=some (.rows 1 (l.map cZ))
 nd:bs.Nodup
 nv:bv∉bs
 n7:b7∉bs
 ov:off va bv
 o7:off va b7
 ob: ∀b∈bs,off va b
theorem zK.some {b7 bv:Nat} {bs:List Nat} {A:List (List Int)} {va:AV} {H:Hp} (h:zK b7 bv bs A va H) {b:Nat} (hb:b∈bs): ∃l,H b=some (.rows 1 l):=by
 obtain⟨i,hi⟩:=List.getElem?_of_mem hb;have hl:i<A.length:=by have:=(aZ.1 hi).1;rw[←h.l];exact this
 exact⟨_,h.a i b _ hi (aG hl)⟩
theorem Ku {sz:Nat} {v:AV} {rows:List (List AV)} {H H':Hp} (h:dS sz v rows H) (hk: ∀b o,H b=Option.some o→H' b=Option.some o):dS sz v rows H':=by
 rcases h with g|⟨b,g1,g2⟩
 ·exact .inl g
 exact .inr ⟨b,g1,hk _ _ g2⟩
theorem zK.keep {b7 bv:Nat} {bs:List Nat} {A:List (List Int)} {va:AV} {H H':Hp} (h:zK b7 bv bs A va H) (hk: ∀b o,H b=Option.some o→H' b=Option.some o):zK b7 bv bs A va H':=
 {h with o:=Ku h.o hk,a:=fun i b l h1 h2=>hk _ _ (h.a i b l h1 h2)}
theorem sL: ∀(bs:List Nat) (A:List (List Int)) (b:Nat) (l:List Int),bs.length=A.length→dL (bs++[b]) (A++[l])=dL bs A++[[.osl 1 b l.length]]
 |[],[],_,_,_=>rfl
 |x::bs,y::A,b,l,h=>by simp only[List.cons_append,dL,sL bs A b l (by simpa using h)]
 |[],_::_,_,_,h=>by simp at h
 |_::_,[],_,_,h=>by simp at h
theorem zK.snoc {b7 bv:Nat} {bs:List Nat} {A:List (List Int)} {va v':AV} {H H':Hp} (h:zK b7 bv bs A va H) {b:Nat} {l:List Int} (hn:H b=none) (h7:H b7≠none) (hv:H bv≠none) (ho:dS 1 v' (dL bs A++[[.osl 1 b l.length]]) H')
  (hk: ∀x o,upd H b (Option.some (.rows 1 (l.map cZ))) x=Option.some o→va≠ .osl 1 x (dL bs A).length→H' x=Option.some o) (hg: ∀x,off va x→upd H b (Option.some (.rows 1 (l.map cZ))) x≠none→off v' x) {b8 sz8:Nat} {r8:List (List AV)} (h8:H' b8=Option.some (.rows sz8 r8)) (o8:eS) (hs8:sz8≠1:=by decide):
  zK b7 bv (bs++[b]) (A++[l]) v' (upd H' b8 (Option.some o8)):=by
 have nb: ∀x,H x≠none→x≠b:=fun x hx e=>hx (by rw[e];exact hn);have obn:off va b:=h.o.new hn;have hup: ∀x,x≠b→upd H b (Option.some (.rows 1 (l.map cZ))) x=H x:=fun x hx=>bY _ _ hx;have hbs: ∀x∈bs,H x≠none:=fun x hx=>by obtain⟨l,hl⟩:=h.some hx;rw[hl];exact bS _
 have hb':H' b=Option.some (.rows 1 (l.map cZ)):=hk b _ (bO _ _ _) (obn _ _);have h1: ∀x l',H' x=Option.some (.rows 1 l')→x≠b8:=fun x l' hx e=>by rw[e,h8]at hx;cases hx;exact hs8 rfl
 have ob8:off v' b8:=ho.offsz h8 hs8;refine⟨by simp [h.l],by rw[sL _ _ _ _ h.l];exact ho.off ob8 _,fun i x l' hx hl=>?_, ?_, ?_, ?_,hg bv h.ov (by rw[hup _ (nb _ hv)];exact hv),hg b7 h.o7 (by rw[hup _ (nb _ h7)];exact h7),fun x hx=>?_⟩
 ·by_cases hi:i<bs.length
  ·rw[List.getElem?_append_left hi]at hx
   rw[List.getElem?_append_left (by rw[←h.l];exact hi)]at hl;have hxb:=h.a i x l' hx hl;have hx':=hk x _ (by rw[hup _ (nb _ (by rw[hxb];exact bS _))];exact hxb) (h.ob x (aL hx) _ _);rw[bY _ _ (h1 _ _ hx')];exact hx'
  rw[List.getElem?_append_right (by omega)]at hx;rw[List.getElem?_append_right (by rw[←h.l];omega),←h.l]at hl;obtain⟨q1,q2⟩:=aZ.1 hx;have q3:i-bs.length=0:=by simpa using q1
  rw[q3]at hx hl;simp only[List.getElem?_cons_zero,Option.some.injEq]at hx hl;subst hx;subst hl;rw[bY _ _ (h1 _ _ hb')];exact hb'
 ·rw[List.nodup_append]
  refine⟨h.nd,by simp,fun x hx y hy e=>?_⟩;rw[List.mem_singleton]at hy;subst hy;subst e;exact hbs _ hx hn
 ·simp only[List.mem_append,List.mem_singleton,not_or]
  exact⟨h.nv,nb _ hv⟩
 ·simp only[List.mem_append,List.mem_singleton,not_or]
  exact⟨h.n7,nb _ h7⟩
 rcases List.mem_append.1 hx with hx|hx
 ·exact hg x (h.ob x hx) (by rw[hup _ (nb _ (hbs x hx))];exact hbs x hx)
 rw[List.mem_singleton]at hx;subst hx;exact hg x obn (by rw[bO];exact bS _)
theorem eJ.sub {cx:Cx} {r v:Nat} {abs:List Nat} {st:RS} {vo:AV} {H H':Hp} (h:eJ cx r v abs st vo H) (hk: ∀b o,H b=Option.some o→H' b=Option.some o):eJ cx r v abs st vo H':=
 {h with r:=hk _ _ h.r,v:=hk _ _ h.v,a:=fun i b l h1 h2=>hk _ _ (h.a i b l h1 h2),o:=Ku h.o hk}
end Go.Al
namespace Go.Proofs.YtnfbbjhdflhmjaaGreatDoor
open Go.Al
theorem Jp {F:Nat→Prop} {ds:List (Option Nat)} {Q:dI} {d:Option Nat} {rest:List Oper} {fr:Fr} {H:Hp} {g:FuncId} {args:List AV} {cx:Cx} {r v:Nat} {abs:List Nat} {vo:AV} {bo n b7:Nat} {l7:List (List AV)} {o:Rz (Option Int×List Int)}
  (hc:gK cN g args (upd H b7 none) (uI cx r v abs vo bo n (upd H b7 none) o)) (h7:H b7=some (.rows 1 l7)) (hF: ∀b,b≠b7→F b)
  (hp: ∀e s vo' H',o= .fin e s→eJ cx r v abs s vo' H'→H' b7=some (.rows 1 l7)→off vo' b7→(∀b x,H b=some x→b≠r→b≠v→b∉abs→off vo b→b≠bo→H' b=some x)→Q (.pan (wL e)) An H')
  (hv: ∀p s vo' H',o= .val p s→eJ cx r v abs s vo' H'→H' b7=some (.rows 1 l7)→off vo' b7→(∀b x,H b=some x→b≠r→b≠v→b∉abs→off vo b→b≠bo→H' b=some x)→cQ cN F ds Q rest (dR fr d (.tup [.int .u32 (p.1.getD 0), .bool p.1.isSome])) H'):nQ cN F ds Q d rest fr H g args:=by
 have nI:nI (upd H b7 none) H:=fun b x hb=>by
  by_cases e:b=b7
  ·subst e;rw[bO]at hb;cases hb
  rw[bY _ _ e]at hb;exact hb
 refine lL hc (fB.refl _) nI (fun b hb=>hF b fun e=>hb (by rw[e,bO])) fun ae H' ⟨vo',h1,h2,h3⟩ hnew=>?_
 have hn7:H' b7=none:=by
  cases hq:H' b7 with
  |none=>rfl
  |some x=>
   rcases hnew b7 (by rw[hq];exact bS _)with h|h
   ·exact absurd (bO _ _ _) h
   rw[h7]at h;cases h
 have hk: ∀b x,H' b=some x→gE H' (upd H b7 none) H b=some x:=fun b x hb=>by simp only[gE,hb]
 have g7:gE H' (upd H b7 none) H b7=some (.rows 1 l7):=by simp only[gE,hn7,bO,Option.isSome_none,Bool.false_eq_true,if_false];exact h7
 have go7:off vo' b7:=fun s n e=>h2.o.there s b7 n e hn7
 have gk: ∀b x,H b=some x→b≠r→b≠v→b∉abs→off vo b→b≠bo→gE H' (upd H b7 none) H b=some x:=fun b x hb q1 q2 q3 q4 q5=>by
  by_cases e:b=b7
  ·subst e;rw[g7,←h7,hb]
  exact hk b x (h3 b x (by rw[bY _ _ e];exact hb) q1 q2 q3 q4 q5).1
 have gR:=h2.sub hk
 cases o with
 |val p s=>
  obtain⟨h1,_⟩:=h1;subst h1;exact hv p s vo' _ rfl gR g7 go7 gk
 |fin e s=>
  subst h1;exact hp e s vo' _ rfl gR g7 go7 gk
def zz (a:Ar):List Int:=List.replicate a.size.toNat 0
def vG (p:Pg) (inp:cR) (fu:Int):Cx:=⟨p.funs.map (oD (eW p)),inp,(if fu<0 then 0 else fu).toNat⟩
structure Ma (p:Pg):Prop where
 ok:p.ok
 n:(fD p).Nodup
 nl: ∀f∈p.funs,(dT f).Nodup
 v:p.vars.length≤10000
 a:p.arrs.length≤10000
 f:p.funs.length≤10000
 f1:1≤p.funs.length
 fs: ∀f∈p.funs,f.params.length≤10000∧f.locs.length≤1100000∧gA f.body≤1000000
 sz: ∀a∈p.arrs,0≤a.size∧a.size≤4096
set_option maxHeartbeats 8000000 in
theorem Rk (p:Pg) (hp:Ma p) (inp:cR) (hin:inp.length≤2000000) (fu:Int) (hfu:dA fu) {n:Nat} {e:Int} {out:cR} {t:Nat} (hrun:Br (vG p inp fu) n p.vars.length (p.arrs.map fun a=>a.size.toNat)=some (e,out,t)):
  dD cN 19 [p.av, .str inp, .int .i64 fu] (uL e out t):=by
 have hprep:=Eo p hp.n hp.nl (by have:=hp.v;omega) (by have:=hp.a;omega) (by have:=hp.f;omega) (fun f hf=>by have:=hp.fs f hf;omega)
 have hfl:((vG p inp fu).fuel:Int)=if fu<0 then 0 else fu:=by
  show(((if fu<0 then 0 else fu).toNat:Nat):Int)=_;split<;>omega
 have hx:yP (vG p inp fu):=⟨hin,by have:=hfu.2;split at hfl<;>omega,fun f hf=>by
  obtain⟨g,hg,rfl⟩:=List.mem_map.1 hf;have:=hp.fs g hg;show g.params.length+g.locs.length≤_
  omega,fun f hf=>by
  obtain⟨g,hg,rfl⟩:=List.mem_map.1 hf
  exact(hp.ok.funs g hg).body⟩
 have hlast:p.funs.length- 1<p.funs.length:=by have:=hp.f1;omega
 have hg0:=aG hlast;have hgs:=hp.fs _ (bJ hlast);have hgok:=(hp.ok.funs _ (bJ hlast)).body;generalize p.funs[p.funs.length- 1]=g at hg0 hgs hgok
 have hmain:(vG p inp fu).main=some (oD (eW p) g):=by
  show(p.funs.map (oD (eW p)))[(p.funs.map (oD (eW p))).length- 1]?=_;rw[aD,bN,hg0];rfl
 have hrowg:(((p.funs.map (oD (eW p))).map Cf.row)[p.funs.length- 1]?)=some [.int .i64 ((g.params.length+g.locs.length:Nat):Int), .isl 6 (g.body.map (cS (oD (eW p) g).res))]:=by
  rw[bN,bN,hg0];rfl
 obtain⟨o,hev,hend⟩: ∃o,iH (vG p inp fu) n (oD (eW p) g).res (List.replicate (g.params.length+g.locs.length) 0) g.body (RS.init p.vars.length (p.arrs.map fun a=>a.size.toNat))=some o∧sF o=(e,out,t):=by
  unfold Br at hrun;rw[hmain]at hrun;simp only[Option.bind_some,aV]at hrun;exact hrun
 clear hrun hmain;have hC:=I6 (cx:=vG p inp fu) hx;have hinit:RS.init p.vars.length (p.arrs.map fun a=>a.size.toNat)=⟨List.replicate p.vars.length 0,p.arrs.map zz,0,[],0⟩:=by simp [RS.init,zz,List.map_map]
 rw[hinit]at hev;have hcf:(vG p inp fu).funs=p.funs.map (oD (eW p)):=rfl;have hci:(vG p inp fu).inp=inp:=rfl;have hfu2:=hx.fuel;generalize(oD (eW p) g).res=rsg at *;generalize eW p=G at *;generalize vG p inp fu=cx at *;obtain⟨vs,aa,fs⟩:=p;obtain⟨hok,_,_,hv,ha,hf,hf1,_,hsz⟩:=hp;simp only[Pg.av,Pg.row]at hprep⊢;simp only at hev hcf hrowg hg0 hv ha hf hf1 hsz;clear hok hfu hin hx;generalize hwn:g.params.length+g.locs.length=wn at *;have hwb:wn≤1110000:=by omega
 have e1:(4:Int) *(vs.length:Int)≤281474976710656:=by omega
 have e2:(4:Int) *(wn:Int)≤281474976710656:=by omega
 have e3:IntKind.wrap .i64 ((fs.length:Int)- 1)=((fs.length- 1:Nat):Int):=by rw[aR _ (by omega)];omega
 have hFR:(fs.map (oD G)).map Cf.row=cx.funs.map Cf.row:=by rw[hcf]
 have hFl:(cx.funs.map Cf.row).length=fs.length:=by rw[hcf,aD,aD]
 rw[hFR]at hprep hrowg;obtain⟨fl,hfl2⟩: ∃fl:Int,fl=(cx.fuel:Int):=⟨_,rfl⟩;have hflx:(if fu<0 then 0 else fu)=fl:=by rw[hfl2,hfl]
 generalize hFRe:cx.funs.map Cf.row=FR at *;refine Fw 75 Tryz.func19 rfl rfl rfl ?_;refine oE fun _ q=>aA rfl ?_;simp only[RR,seval];refine aO fun b3 hn3=>?_;simp only[RR,seval];refine aO fun b6 hn6=>?_;have nb6_b3:b6≠b3:=fun e=>by rw[e]at hn6;simp only[RR,seval,reduceCtorEq]at hn6
 have nb3_b6:b3≠b6:=fun e=>nb6_b3 e.symm;simp only[RR,seval];apply q;clear q;refine oE fun K q=>?_;refine gP (fun fr M=> ∃b7 b16 b21,fr 3= .ptr 3 b3 0 0∧fr 6= .ptr 3 b6 0 0∧fr 7= .ptr 1 b7 0 0∧M b3=some (.rows 3 [[.isl 1 (vs.map bK), .isl 2 (aa.map Ar.row), .isl 5 (fs.map Fu.row)]])∧M b6=some (.rows 3 [[.int .i64 0, .str [], .int .i64 0]])∧M b7=some (.rows 1 [[.ptr 8 b21 0 0]])∧M b16=some (.rows 1 (List.replicate vs.length [.int .u32 0]))∧M b21=some (.rows 8 [[.isl 2 FR, .osl 1 b16 vs.length, .nsl, .str inp, .int .i64 0, .nsl, .int .i64 0, .int .i64 fl]])∧b7≠b16∧b3≠b6) (fun KR1 hKR1=>?_) ?_
 ·refine lJ (fun x=>x≠b3) cX (by kernel_rfl) fun hd=>?_
  refine eR [(0,0),(2,3),(3,0),(4,3),(6,3),(7,3),(8,3)] hd (m:=6) rfl (by kernel_rfl) rfl rfl ?_;simp only[cH,dY,nb3_b6,hflx,aD,RR,seval];refine gL hd (by kernel_rfl:Region.ready .any _ _=[1,5,11]) (by simp) ⟨?_, ?_, ?_,trivial⟩
  ·simp only[RR,seval]
   refine aU (hprep) ?_;simp only[RR,seval];refine gL hd (by kernel_rfl:Region.ready .any _ _=[5,11]) (by simp) ⟨?_, ?_,trivial⟩
   ·simp only[e1,RR,seval]
    refine aO fun b16 hn16=>?_;have nb16_b3:b16≠b3:=fun e=>by rw[e]at hn16;simp only[nb3_b6,RR,seval,reduceCtorEq]at hn16
    have nb3_b16:b3≠b16:=fun e=>nb16_b3 e.symm;have nb16_b6:b16≠b6:=fun e=>by rw[e]at hn16;simp only[RR,seval,reduceCtorEq]at hn16
    have nb6_b16:b6≠b16:=fun e=>nb16_b6 e.symm;simp only[RR,seval];refine eR [(9,3)] hd (m:=3) rfl (by kernel_rfl) rfl rfl ?_;simp only[cH,RR,seval];refine gL hd (by kernel_rfl:Region.ready .any _ _=[10,11]) (by simp) ⟨?_, ?_,trivial⟩
    ·simp only[RR,seval]
     refine aO fun b21 hn21=>?_;have nb21_b3:b21≠b3:=fun e=>by rw[e]at hn21;simp only[nb3_b6,nb3_b16,RR,seval,reduceCtorEq]at hn21
     have nb3_b21:b3≠b21:=fun e=>nb21_b3 e.symm;have nb21_b6:b21≠b6:=fun e=>by rw[e]at hn21;simp only[nb6_b16,RR,seval,reduceCtorEq]at hn21
     have nb6_b21:b6≠b21:=fun e=>nb21_b6 e.symm;have nb21_b16:b21≠b16:=fun e=>by rw[e]at hn21;simp only[RR,seval,reduceCtorEq]at hn21
     have nb16_b21:b16≠b21:=fun e=>nb21_b16 e.symm;simp only[RR,seval];refine eR [(11,1),(12,1)] hd (m:=0) rfl (by kernel_rfl) rfl rfl ?_;simp only[cH,RR,seval];refine aO fun b7 hn7=>?_;have nb7_b3:b7≠b3:=fun e=>by rw[e]at hn7;simp only[nb3_b6,nb3_b16,nb3_b21,RR,seval,reduceCtorEq]at hn7
     have nb3_b7:b3≠b7:=fun e=>nb7_b3 e.symm;have nb7_b6:b7≠b6:=fun e=>by rw[e]at hn7;simp only[nb6_b16,nb6_b21,RR,seval,reduceCtorEq]at hn7
     have nb6_b7:b6≠b7:=fun e=>nb7_b6 e.symm;have nb7_b16:b7≠b16:=fun e=>by rw[e]at hn7;simp only[nb16_b21,RR,seval,reduceCtorEq]at hn7
     have nb16_b7:b16≠b7:=fun e=>nb7_b16 e.symm;have nb7_b21:b7≠b21:=fun e=>by rw[e]at hn7;simp only[RR,seval,reduceCtorEq]at hn7
     have nb21_b7:b21≠b7:=fun e=>nb7_b21 e.symm;simp only[nb7_b3,RR,seval];refine gF (by kernel_rfl) ?_;simp only[RR,seval];refine hKR1 _ _ ⟨b7,b16,b21,rfl,rfl,rfl, ?_, ?_, ?_, ?_, ?_,nb7_b16,nb3_b6⟩<;>first|rfl|(simp only[nb3_b6,nb3_b16,nb6_b16,nb3_b21,nb6_b21,nb16_b21,nb3_b7,nb6_b7,nb16_b7,nb21_b7,aJ,seval];done)|(simp only[nb6_b3,nb3_b6,nb16_b3,nb3_b16,nb16_b6,nb6_b16,nb21_b3,nb3_b21,nb21_b6,nb6_b21,nb21_b16,nb16_b21,nb7_b3,nb3_b7,nb7_b6,nb6_b7,nb7_b16,nb16_b7,nb7_b21,nb21_b7,e1,e2,e3,hflx,aD,aJ,RR,seval];rfl)
    simp only[RR,seval];refine aO fun b7 hn7=>?_;have nb7_b3:b7≠b3:=fun e=>by rw[e]at hn7;simp only[nb3_b6,nb3_b16,RR,seval,reduceCtorEq]at hn7
    have nb3_b7:b3≠b7:=fun e=>nb7_b3 e.symm;have nb7_b6:b7≠b6:=fun e=>by rw[e]at hn7;simp only[nb6_b16,RR,seval,reduceCtorEq]at hn7
    have nb6_b7:b6≠b7:=fun e=>nb7_b6 e.symm;have nb7_b16:b7≠b16:=fun e=>by rw[e]at hn7;simp only[RR,seval,reduceCtorEq]at hn7
    have nb16_b7:b16≠b7:=fun e=>nb7_b16 e.symm;simp only[RR,seval];refine eR [(10,1),(12,1)] hd (m:=0) rfl (by kernel_rfl) rfl rfl ?_;simp only[cH,RR,seval];refine aO fun b21 hn21=>?_;have nb21_b3:b21≠b3:=fun e=>by rw[e]at hn21;simp only[nb3_b6,nb3_b16,nb3_b7,RR,seval,reduceCtorEq]at hn21
    have nb3_b21:b3≠b21:=fun e=>nb21_b3 e.symm;have nb21_b6:b21≠b6:=fun e=>by rw[e]at hn21;simp only[nb6_b16,nb6_b7,RR,seval,reduceCtorEq]at hn21
    have nb6_b21:b6≠b21:=fun e=>nb21_b6 e.symm;have nb21_b16:b21≠b16:=fun e=>by rw[e]at hn21;simp only[nb16_b7,RR,seval,reduceCtorEq]at hn21
    have nb16_b21:b16≠b21:=fun e=>nb21_b16 e.symm;have nb21_b7:b21≠b7:=fun e=>by rw[e]at hn21;simp only[RR,seval,reduceCtorEq]at hn21
    have nb7_b21:b7≠b21:=fun e=>nb21_b7 e.symm;simp only[nb7_b3,nb7_b21,RR,seval];refine gF (by kernel_rfl) ?_;simp only[RR,seval];refine hKR1 _ _ ⟨b7,b16,b21,rfl,rfl,rfl, ?_, ?_, ?_, ?_, ?_,nb7_b16,nb3_b6⟩<;>first|rfl|(simp only[nb3_b6,nb3_b16,nb6_b16,nb3_b7,nb6_b7,nb16_b7,nb3_b21,nb6_b21,nb16_b21,nb21_b7,aJ,seval];done)|(simp only[nb6_b3,nb3_b6,nb16_b3,nb3_b16,nb16_b6,nb6_b16,nb7_b3,nb3_b7,nb7_b6,nb6_b7,nb7_b16,nb16_b7,nb21_b3,nb3_b21,nb21_b6,nb6_b21,nb21_b16,nb16_b21,nb21_b7,nb7_b21,e1,e2,e3,hflx,aD,aJ,RR,seval];rfl)
   simp only[RR,seval];refine aO fun b7 hn7=>?_;have nb7_b3:b7≠b3:=fun e=>by rw[e]at hn7;simp only[nb3_b6,RR,seval,reduceCtorEq]at hn7
   have nb3_b7:b3≠b7:=fun e=>nb7_b3 e.symm;have nb7_b6:b7≠b6:=fun e=>by rw[e]at hn7;simp only[RR,seval,reduceCtorEq]at hn7
   have nb6_b7:b6≠b7:=fun e=>nb7_b6 e.symm;simp only[RR,seval];refine eR [(5,1),(9,3),(10,1),(12,1)] hd (m:=0) rfl (by kernel_rfl) rfl rfl ?_;simp only[cH,e1,RR,seval];refine aO fun b16 hn16=>?_;have nb16_b3:b16≠b3:=fun e=>by rw[e]at hn16;simp only[nb3_b6,nb3_b7,RR,seval,reduceCtorEq]at hn16
   have nb3_b16:b3≠b16:=fun e=>nb16_b3 e.symm;have nb16_b6:b16≠b6:=fun e=>by rw[e]at hn16;simp only[nb6_b7,RR,seval,reduceCtorEq]at hn16
   have nb6_b16:b6≠b16:=fun e=>nb16_b6 e.symm;have nb16_b7:b16≠b7:=fun e=>by rw[e]at hn16;simp only[RR,seval,reduceCtorEq]at hn16
   have nb7_b16:b7≠b16:=fun e=>nb16_b7 e.symm;simp only[RR,seval];refine aO fun b21 hn21=>?_;have nb21_b3:b21≠b3:=fun e=>by rw[e]at hn21;simp only[nb3_b6,nb3_b7,nb3_b16,RR,seval,reduceCtorEq]at hn21
   have nb3_b21:b3≠b21:=fun e=>nb21_b3 e.symm;have nb21_b6:b21≠b6:=fun e=>by rw[e]at hn21;simp only[nb6_b7,nb6_b16,RR,seval,reduceCtorEq]at hn21
   have nb6_b21:b6≠b21:=fun e=>nb21_b6 e.symm;have nb21_b7:b21≠b7:=fun e=>by rw[e]at hn21;simp only[nb7_b16,RR,seval,reduceCtorEq]at hn21
   have nb7_b21:b7≠b21:=fun e=>nb21_b7 e.symm;have nb21_b16:b21≠b16:=fun e=>by rw[e]at hn21;simp only[RR,seval,reduceCtorEq]at hn21
   have nb16_b21:b16≠b21:=fun e=>nb21_b16 e.symm;simp only[nb7_b3,nb7_b16,nb7_b21,RR,seval];refine gF (by kernel_rfl) ?_;simp only[RR,seval];refine hKR1 _ _ ⟨b7,b16,b21,rfl,rfl,rfl, ?_, ?_, ?_, ?_, ?_,nb7_b16,nb3_b6⟩<;>first|rfl|(simp only[nb3_b6,nb3_b7,nb6_b7,nb3_b16,nb6_b16,nb16_b7,nb3_b21,nb6_b21,nb21_b7,nb16_b21,aJ,seval];done)|(simp only[nb6_b3,nb3_b6,nb7_b3,nb3_b7,nb7_b6,nb6_b7,nb16_b3,nb3_b16,nb16_b6,nb6_b16,nb16_b7,nb7_b16,nb21_b3,nb3_b21,nb21_b6,nb6_b21,nb21_b7,nb7_b21,nb21_b16,nb16_b21,e1,e2,e3,hflx,aD,aJ,RR,seval];rfl)
  ·simp only[e1,RR,seval]
   refine aO fun b16 hn16=>?_;have nb16_b3:b16≠b3:=fun e=>by rw[e]at hn16;simp only[nb3_b6,RR,seval,reduceCtorEq]at hn16
   have nb3_b16:b3≠b16:=fun e=>nb16_b3 e.symm;have nb16_b6:b16≠b6:=fun e=>by rw[e]at hn16;simp only[RR,seval,reduceCtorEq]at hn16
   have nb6_b16:b6≠b16:=fun e=>nb16_b6 e.symm;simp only[RR,seval];refine gL hd (by kernel_rfl:Region.ready .any _ _=[1,11]) (by simp) ⟨?_, ?_,trivial⟩
   ·simp only[RR,seval]
    refine aU (hprep) ?_;simp only[RR,seval];refine eR [(9,3)] hd (m:=3) rfl (by kernel_rfl) rfl rfl ?_;simp only[cH,RR,seval];refine gL hd (by kernel_rfl:Region.ready .any _ _=[10,11]) (by simp) ⟨?_, ?_,trivial⟩
    ·simp only[RR,seval]
     refine aO fun b21 hn21=>?_;have nb21_b3:b21≠b3:=fun e=>by rw[e]at hn21;simp only[nb3_b6,nb3_b16,RR,seval,reduceCtorEq]at hn21
     have nb3_b21:b3≠b21:=fun e=>nb21_b3 e.symm;have nb21_b6:b21≠b6:=fun e=>by rw[e]at hn21;simp only[nb6_b16,RR,seval,reduceCtorEq]at hn21
     have nb6_b21:b6≠b21:=fun e=>nb21_b6 e.symm;have nb21_b16:b21≠b16:=fun e=>by rw[e]at hn21;simp only[RR,seval,reduceCtorEq]at hn21
     have nb16_b21:b16≠b21:=fun e=>nb21_b16 e.symm;simp only[RR,seval];refine eR [(11,1),(12,1)] hd (m:=0) rfl (by kernel_rfl) rfl rfl ?_;simp only[cH,RR,seval];refine aO fun b7 hn7=>?_;have nb7_b3:b7≠b3:=fun e=>by rw[e]at hn7;simp only[nb3_b6,nb3_b16,nb3_b21,RR,seval,reduceCtorEq]at hn7
     have nb3_b7:b3≠b7:=fun e=>nb7_b3 e.symm;have nb7_b6:b7≠b6:=fun e=>by rw[e]at hn7;simp only[nb6_b16,nb6_b21,RR,seval,reduceCtorEq]at hn7
     have nb6_b7:b6≠b7:=fun e=>nb7_b6 e.symm;have nb7_b16:b7≠b16:=fun e=>by rw[e]at hn7;simp only[nb16_b21,RR,seval,reduceCtorEq]at hn7
     have nb16_b7:b16≠b7:=fun e=>nb7_b16 e.symm;have nb7_b21:b7≠b21:=fun e=>by rw[e]at hn7;simp only[RR,seval,reduceCtorEq]at hn7
     have nb21_b7:b21≠b7:=fun e=>nb7_b21 e.symm;simp only[nb7_b3,RR,seval];refine gF (by kernel_rfl) ?_;simp only[RR,seval];refine hKR1 _ _ ⟨b7,b16,b21,rfl,rfl,rfl, ?_, ?_, ?_, ?_, ?_,nb7_b16,nb3_b6⟩<;>first|rfl|(simp only[nb3_b6,nb3_b16,nb6_b16,nb3_b21,nb6_b21,nb16_b21,nb3_b7,nb6_b7,nb16_b7,nb21_b7,aJ,seval];done)|(simp only[nb6_b3,nb3_b6,nb16_b3,nb3_b16,nb16_b6,nb6_b16,nb21_b3,nb3_b21,nb21_b6,nb6_b21,nb21_b16,nb16_b21,nb7_b3,nb3_b7,nb7_b6,nb6_b7,nb7_b16,nb16_b7,nb7_b21,nb21_b7,e1,e2,e3,hflx,aD,aJ,RR,seval];rfl)
    simp only[RR,seval];refine aO fun b7 hn7=>?_;have nb7_b3:b7≠b3:=fun e=>by rw[e]at hn7;simp only[nb3_b6,nb3_b16,RR,seval,reduceCtorEq]at hn7
    have nb3_b7:b3≠b7:=fun e=>nb7_b3 e.symm;have nb7_b6:b7≠b6:=fun e=>by rw[e]at hn7;simp only[nb6_b16,RR,seval,reduceCtorEq]at hn7
    have nb6_b7:b6≠b7:=fun e=>nb7_b6 e.symm;have nb7_b16:b7≠b16:=fun e=>by rw[e]at hn7;simp only[RR,seval,reduceCtorEq]at hn7
    have nb16_b7:b16≠b7:=fun e=>nb7_b16 e.symm;simp only[RR,seval];refine eR [(10,1),(12,1)] hd (m:=0) rfl (by kernel_rfl) rfl rfl ?_;simp only[cH,RR,seval];refine aO fun b21 hn21=>?_;have nb21_b3:b21≠b3:=fun e=>by rw[e]at hn21;simp only[nb3_b6,nb3_b16,nb3_b7,RR,seval,reduceCtorEq]at hn21
    have nb3_b21:b3≠b21:=fun e=>nb21_b3 e.symm;have nb21_b6:b21≠b6:=fun e=>by rw[e]at hn21;simp only[nb6_b16,nb6_b7,RR,seval,reduceCtorEq]at hn21
    have nb6_b21:b6≠b21:=fun e=>nb21_b6 e.symm;have nb21_b16:b21≠b16:=fun e=>by rw[e]at hn21;simp only[nb16_b7,RR,seval,reduceCtorEq]at hn21
    have nb16_b21:b16≠b21:=fun e=>nb21_b16 e.symm;have nb21_b7:b21≠b7:=fun e=>by rw[e]at hn21;simp only[RR,seval,reduceCtorEq]at hn21
    have nb7_b21:b7≠b21:=fun e=>nb21_b7 e.symm;simp only[nb7_b3,nb7_b21,RR,seval];refine gF (by kernel_rfl) ?_;simp only[RR,seval];refine hKR1 _ _ ⟨b7,b16,b21,rfl,rfl,rfl, ?_, ?_, ?_, ?_, ?_,nb7_b16,nb3_b6⟩<;>first|rfl|(simp only[nb3_b6,nb3_b16,nb6_b16,nb3_b7,nb6_b7,nb16_b7,nb3_b21,nb6_b21,nb16_b21,nb21_b7,aJ,seval];done)|(simp only[nb6_b3,nb3_b6,nb16_b3,nb3_b16,nb16_b6,nb6_b16,nb7_b3,nb3_b7,nb7_b6,nb6_b7,nb7_b16,nb16_b7,nb21_b3,nb3_b21,nb21_b6,nb6_b21,nb21_b16,nb16_b21,nb21_b7,nb7_b21,e1,e2,e3,hflx,aD,aJ,RR,seval];rfl)
   simp only[RR,seval];refine aO fun b7 hn7=>?_;have nb7_b3:b7≠b3:=fun e=>by rw[e]at hn7;simp only[nb3_b6,nb3_b16,RR,seval,reduceCtorEq]at hn7
   have nb3_b7:b3≠b7:=fun e=>nb7_b3 e.symm;have nb7_b6:b7≠b6:=fun e=>by rw[e]at hn7;simp only[nb6_b16,RR,seval,reduceCtorEq]at hn7
   have nb6_b7:b6≠b7:=fun e=>nb7_b6 e.symm;have nb7_b16:b7≠b16:=fun e=>by rw[e]at hn7;simp only[RR,seval,reduceCtorEq]at hn7
   have nb16_b7:b16≠b7:=fun e=>nb7_b16 e.symm;simp only[RR,seval];refine eR [(1,1),(9,3),(10,1),(12,1)] hd (m:=0) rfl (by kernel_rfl) rfl rfl ?_;simp only[cH,RR,seval];refine aU (hprep) ?_;simp only[RR,seval];refine aO fun b21 hn21=>?_;have nb21_b3:b21≠b3:=fun e=>by rw[e]at hn21;simp only[nb3_b6,nb3_b16,nb3_b7,RR,seval,reduceCtorEq]at hn21
   have nb3_b21:b3≠b21:=fun e=>nb21_b3 e.symm;have nb21_b6:b21≠b6:=fun e=>by rw[e]at hn21;simp only[nb6_b16,nb6_b7,RR,seval,reduceCtorEq]at hn21
   have nb6_b21:b6≠b21:=fun e=>nb21_b6 e.symm;have nb21_b16:b21≠b16:=fun e=>by rw[e]at hn21;simp only[nb16_b7,RR,seval,reduceCtorEq]at hn21
   have nb16_b21:b16≠b21:=fun e=>nb21_b16 e.symm;have nb21_b7:b21≠b7:=fun e=>by rw[e]at hn21;simp only[RR,seval,reduceCtorEq]at hn21
   have nb7_b21:b7≠b21:=fun e=>nb21_b7 e.symm;simp only[nb7_b3,nb7_b21,RR,seval];refine gF (by kernel_rfl) ?_;simp only[RR,seval];refine hKR1 _ _ ⟨b7,b16,b21,rfl,rfl,rfl, ?_, ?_, ?_, ?_, ?_,nb7_b16,nb3_b6⟩<;>first|rfl|(simp only[nb3_b6,nb3_b16,nb6_b16,nb3_b7,nb6_b7,nb16_b7,nb3_b21,nb6_b21,nb16_b21,nb21_b7,aJ,seval];done)|(simp only[nb6_b3,nb3_b6,nb16_b3,nb3_b16,nb16_b6,nb6_b16,nb7_b3,nb3_b7,nb7_b6,nb6_b7,nb7_b16,nb16_b7,nb21_b3,nb3_b21,nb21_b6,nb6_b21,nb21_b16,nb16_b21,nb21_b7,nb7_b21,e1,e2,e3,hflx,aD,aJ,RR,seval];rfl)
  simp only[RR,seval];refine aO fun b7 hn7=>?_;have nb7_b3:b7≠b3:=fun e=>by rw[e]at hn7;simp only[nb3_b6,RR,seval,reduceCtorEq]at hn7
  have nb3_b7:b3≠b7:=fun e=>nb7_b3 e.symm;have nb7_b6:b7≠b6:=fun e=>by rw[e]at hn7;simp only[RR,seval,reduceCtorEq]at hn7
  have nb6_b7:b6≠b7:=fun e=>nb7_b6 e.symm;simp only[RR,seval];refine gL hd (by kernel_rfl:Region.ready .any _ _=[1,5]) (by simp) ⟨?_, ?_,trivial⟩
  ·simp only[RR,seval]
   refine aU (hprep) ?_;simp only[RR,seval];refine eR [(5,1),(9,3),(10,1),(12,1)] hd (m:=0) rfl (by kernel_rfl) rfl rfl ?_;simp only[cH,e1,RR,seval];refine aO fun b16 hn16=>?_;have nb16_b3:b16≠b3:=fun e=>by rw[e]at hn16;simp only[nb3_b6,nb3_b7,RR,seval,reduceCtorEq]at hn16
   have nb3_b16:b3≠b16:=fun e=>nb16_b3 e.symm;have nb16_b6:b16≠b6:=fun e=>by rw[e]at hn16;simp only[nb6_b7,RR,seval,reduceCtorEq]at hn16
   have nb6_b16:b6≠b16:=fun e=>nb16_b6 e.symm;have nb16_b7:b16≠b7:=fun e=>by rw[e]at hn16;simp only[RR,seval,reduceCtorEq]at hn16
   have nb7_b16:b7≠b16:=fun e=>nb16_b7 e.symm;simp only[RR,seval];refine aO fun b21 hn21=>?_;have nb21_b3:b21≠b3:=fun e=>by rw[e]at hn21;simp only[nb3_b6,nb3_b7,nb3_b16,RR,seval,reduceCtorEq]at hn21
   have nb3_b21:b3≠b21:=fun e=>nb21_b3 e.symm;have nb21_b6:b21≠b6:=fun e=>by rw[e]at hn21;simp only[nb6_b7,nb6_b16,RR,seval,reduceCtorEq]at hn21
   have nb6_b21:b6≠b21:=fun e=>nb21_b6 e.symm;have nb21_b7:b21≠b7:=fun e=>by rw[e]at hn21;simp only[nb7_b16,RR,seval,reduceCtorEq]at hn21
   have nb7_b21:b7≠b21:=fun e=>nb21_b7 e.symm;have nb21_b16:b21≠b16:=fun e=>by rw[e]at hn21;simp only[RR,seval,reduceCtorEq]at hn21
   have nb16_b21:b16≠b21:=fun e=>nb21_b16 e.symm;simp only[nb7_b3,nb7_b16,nb7_b21,RR,seval];refine gF (by kernel_rfl) ?_;simp only[RR,seval];refine hKR1 _ _ ⟨b7,b16,b21,rfl,rfl,rfl, ?_, ?_, ?_, ?_, ?_,nb7_b16,nb3_b6⟩<;>first|rfl|(simp only[nb3_b6,nb3_b7,nb6_b7,nb3_b16,nb6_b16,nb16_b7,nb3_b21,nb6_b21,nb21_b7,nb16_b21,aJ,seval];done)|(simp only[nb6_b3,nb3_b6,nb7_b3,nb3_b7,nb7_b6,nb6_b7,nb16_b3,nb3_b16,nb16_b6,nb6_b16,nb16_b7,nb7_b16,nb21_b3,nb3_b21,nb21_b6,nb6_b21,nb21_b7,nb7_b21,nb21_b16,nb16_b21,e1,e2,e3,hflx,aD,aJ,RR,seval];rfl)
  simp only[e1,RR,seval];refine aO fun b16 hn16=>?_;have nb16_b3:b16≠b3:=fun e=>by rw[e]at hn16;simp only[nb3_b6,nb3_b7,RR,seval,reduceCtorEq]at hn16
  have nb3_b16:b3≠b16:=fun e=>nb16_b3 e.symm;have nb16_b6:b16≠b6:=fun e=>by rw[e]at hn16;simp only[nb6_b7,RR,seval,reduceCtorEq]at hn16
  have nb6_b16:b6≠b16:=fun e=>nb16_b6 e.symm;have nb16_b7:b16≠b7:=fun e=>by rw[e]at hn16;simp only[RR,seval,reduceCtorEq]at hn16
  have nb7_b16:b7≠b16:=fun e=>nb16_b7 e.symm;simp only[RR,seval];refine eR [(1,1),(9,3),(10,1),(12,1)] hd (m:=0) rfl (by kernel_rfl) rfl rfl ?_;simp only[cH,RR,seval];refine aU (hprep) ?_;simp only[RR,seval];refine aO fun b21 hn21=>?_;have nb21_b3:b21≠b3:=fun e=>by rw[e]at hn21;simp only[nb3_b6,nb3_b7,nb3_b16,RR,seval,reduceCtorEq]at hn21
  have nb3_b21:b3≠b21:=fun e=>nb21_b3 e.symm;have nb21_b6:b21≠b6:=fun e=>by rw[e]at hn21;simp only[nb6_b7,nb6_b16,RR,seval,reduceCtorEq]at hn21
  have nb6_b21:b6≠b21:=fun e=>nb21_b6 e.symm;have nb21_b7:b21≠b7:=fun e=>by rw[e]at hn21;simp only[nb7_b16,RR,seval,reduceCtorEq]at hn21
  have nb7_b21:b7≠b21:=fun e=>nb21_b7 e.symm;have nb21_b16:b21≠b16:=fun e=>by rw[e]at hn21;simp only[RR,seval,reduceCtorEq]at hn21
  have nb16_b21:b16≠b21:=fun e=>nb21_b16 e.symm;simp only[nb7_b3,nb7_b16,nb7_b21,RR,seval];refine gF (by kernel_rfl) ?_;simp only[RR,seval];refine hKR1 _ _ ⟨b7,b16,b21,rfl,rfl,rfl, ?_, ?_, ?_, ?_, ?_,nb7_b16,nb3_b6⟩<;>first|rfl|(simp only[nb3_b6,nb3_b7,nb6_b7,nb3_b16,nb6_b16,nb16_b7,nb3_b21,nb6_b21,nb21_b7,nb16_b21,aJ,seval];done)|(simp only[nb6_b3,nb3_b6,nb7_b3,nb3_b7,nb7_b6,nb6_b7,nb16_b3,nb3_b16,nb16_b6,nb6_b16,nb16_b7,nb7_b16,nb21_b3,nb3_b21,nb21_b6,nb6_b21,nb21_b7,nb7_b21,nb21_b16,nb16_b21,e1,e2,e3,hflx,aD,aJ,RR,seval];rfl)
 rintro F1 M1 ⟨b7,b16,b21,f3,f6,f7,hb3,hb6,hb7,hb16,hb21,nb7_b16,nb3_b6⟩;simp only[iE];apply q;clear q;have nb16_b7:b16≠b7:=fun e=>nb7_b16 e.symm;have nb6_b3:b6≠b3:=fun e=>nb3_b6 e.symm;have nb3_b7:b3≠b7:=fun e=>by rw[e,hb7]at hb3;cases hb3
 have nb3_b16:b3≠b16:=fun e=>by rw[e,hb16]at hb3;cases hb3
 have nb3_b21:b3≠b21:=fun e=>by rw[e,hb21]at hb3;cases hb3
 have nb6_b7:b6≠b7:=fun e=>by rw[e,hb7]at hb6;cases hb6
 have nb6_b16:b6≠b16:=fun e=>by rw[e,hb16]at hb6;cases hb6
 have nb6_b21:b6≠b21:=fun e=>by rw[e,hb21]at hb6;cases hb6
 have nb7_b3:b7≠b3:=fun e=>by rw[e,hb3]at hb7;cases hb7
 have nb7_b6:b7≠b6:=fun e=>by rw[e,hb6]at hb7;cases hb7
 have nb7_b21:b7≠b21:=fun e=>by rw[e,hb21]at hb7;cases hb7
 have nb16_b3:b16≠b3:=fun e=>by rw[e,hb3]at hb16;cases hb16
 have nb16_b6:b16≠b6:=fun e=>by rw[e,hb6]at hb16;cases hb16
 have nb16_b21:b16≠b21:=fun e=>by rw[e,hb21]at hb16;cases hb16
 have nb21_b3:b21≠b3:=fun e=>by rw[e,hb3]at hb21;cases hb21
 have nb21_b6:b21≠b6:=fun e=>by rw[e,hb6]at hb21;cases hb21
 have nb21_b7:b21≠b7:=fun e=>by rw[e,hb7]at hb21;cases hb21
 have nb21_b16:b21≠b16:=fun e=>by rw[e,hb16]at hb21;cases hb21
 refine Gh ?_;refine aB fun _ q=>aA rfl ?_;simp only[f3,hb3,aD,RR,seval];apply q;clear q;refine bL fun F2 M2 hfr hH=>?_;have g6:=hfr 6;have g7:=hfr 7;have g23:=hfr 23;have g24:=hfr 24;have g25:=hfr 25;have gb3:=hH b3;have gb6:=hH b6;have gb7:=hH b7;have gb16:=hH b16;have gb21:=hH b21
 try simp only[f6,f7,hb3,hb6,hb7,hb16,hb21,RR,seval]at g6 g7 g23 g24 g25 gb3 gb6 gb7 gb16 gb21
 have f6:=g6;clear g6;have f7:=g7;clear g7;have f23:=g23;clear g23;have f24:=g24;clear g24;have f25:=g25;clear g25;have hb3:=gb3;clear gb3;have hb6:=gb6;clear gb6;have hb7:=gb7;clear gb7;have hb16:=gb16;clear gb16;have hb21:=gb21;clear gb21;clear hfr hH;refine aI ?_;refine cP [6,7,23,24] (aa.length) (fun k fr M=>fr 25= .int .i64 (k:Nat)∧M b3=M2 b3∧M b6=M2 b6∧M b7=M2 b7∧M b16=M2 b16∧ ∃va bs,M b21=some (.rows 8 [[.isl 2 FR, .osl 1 b16 vs.length,va, .str inp, .int .i64 0, .nsl, .int .i64 0, .int .i64 fl]])∧zK b7 b16 bs ((aa.take k).map zz) va M) ⟨f25,rfl,rfl,rfl,rfl, .nsl,[],hb21,⟨rfl, .inl ⟨rfl,rfl⟩,(fun i b l h=>by simp at h),List.nodup_nil,(by simp),(by simp),(fun _ _ h=>by cases h),(fun _ _ h=>by cases h),(fun b hb=>by simp at hb)⟩⟩ ?_;rintro k F3 M3 hk0 ⟨fx,gb3,gb6,gb7,gb16,⟨va,bs,hb21,hA⟩⟩ agx K0 hK0;have f6:=(agx 6 rfl).trans f6;have f7:=(agx 7 rfl).trans f7;have f23:=(agx 23 rfl).trans f23;have f24:=(agx 24 rfl).trans f24;have f25:=fx;clear fx;have hb3:=gb3.trans hb3;have hb6:=gb6.trans hb6;have hb7:=gb7.trans hb7;have hb16:=gb16.trans hb16;have ag0:=bE.refl [6,7,23,24] F3;have e0_b3:=gb3;clear gb3;have e0_b6:=gb6;clear gb6;have e0_b7:=gb7;clear gb7;have e0_b16:=gb16;clear gb16;clear agx;refine aB fun _ q=>aA rfl ?_;simp only[f24,f25,RR,seval];apply q;clear q;refine aH ?_;refine aF _ rfl (fun hc=>?_) (fun hc=>?_)
 ·have hlt0:k<aa.length:=by have:=aC hc;omega
  clear hc;have hga:=aG hlt0;have htk:aa.take (k+1)=aa.take k++[aa[k]]:=bQ hlt0;have hsa:=hsz _ (bJ hlt0);have hlen:bs.length≤10000:=by rw[hA.l,aD,cF];omega
  generalize aa[k]=a at hga htk hsa;have hg:=Bx hga;have z0:=hsa.1;have z1:(4:Int) *a.size≤281474976710656:=by omega
  refine aM ?_;try simp only[RR]
  refine aH ?_;refine aI ?_;refine aB fun _ q=>aA rfl ?_;simp only[f23,f25,hg,RR,seval];refine aO fun b9 hn9=>?_;have nb9_b3:b9≠b3:=fun e=>by rw[e]at hn9;simp only[hb3,seval,reduceCtorEq]at hn9
  have nb3_b9:b3≠b9:=fun e=>nb9_b3 e.symm;have nb9_b6:b9≠b6:=fun e=>by rw[e]at hn9;simp only[hb6,seval,reduceCtorEq]at hn9
  have nb6_b9:b6≠b9:=fun e=>nb9_b6 e.symm;have nb9_b7:b9≠b7:=fun e=>by rw[e]at hn9;simp only[hb7,seval,reduceCtorEq]at hn9
  have nb7_b9:b7≠b9:=fun e=>nb9_b7 e.symm;have nb9_b16:b9≠b16:=fun e=>by rw[e]at hn9;simp only[hb16,seval,reduceCtorEq]at hn9
  have nb16_b9:b16≠b9:=fun e=>nb9_b16 e.symm;have nb9_b21:b9≠b21:=fun e=>by rw[e]at hn9;simp only[hb21,seval,reduceCtorEq]at hn9
  have nb21_b9:b21≠b9:=fun e=>nb9_b21 e.symm;simp only[RR,seval];apply q;clear q;refine bL fun F4 M4 hfr hH=>?_;have g6:=hfr 6;have g7:=hfr 7;have g9:=hfr 9;have g23:=hfr 23;have g24:=hfr 24;have g25:=hfr 25;have gb3:=hH b3;have gb6:=hH b6;have gb7:=hH b7;have gb16:=hH b16;have gb21:=hH b21;have gb9:=hH b9
  try simp only[f6,f7,f23,f24,f25,hb3,hb6,hb7,hb16,hb21,nb3_b9,nb6_b9,nb7_b9,nb16_b9,nb21_b9,RR,seval]at g6 g7 g9 g23 g24 g25 gb3 gb6 gb7 gb16 gb21 gb9
  have ag0:bE [6,7,23,24] F3 F4:=bE.same hfr (by repeat (first|exact ag0|refine bE.upd rfl ?_));have e0_b3:=(hH b3).trans (by first|exact e0_b3|(simp only[nb3_b9,aJ,seval];first|done|exact e0_b3));have e0_b6:=(hH b6).trans (by first|exact e0_b6|(simp only[nb6_b9,aJ,seval];first|done|exact e0_b6));have e0_b7:=(hH b7).trans (by first|exact e0_b7|(simp only[nb7_b9,aJ,seval];first|done|exact e0_b7));have e0_b16:=(hH b16).trans (by first|exact e0_b16|(simp only[nb16_b9,aJ,seval];first|done|exact e0_b16));have hA:=hA.keep (H':=M4) (fun b o hb=>by rw[hH];have hne:b≠b9:=(fun e=>by rw[e,hn9]at hb;cases hb);simp only[bY _ _ hne];exact hb);have f6:=g6;clear g6;have f7:=g7;clear g7;have f9:=g9;clear g9;have f23:=g23;clear g23;have f24:=g24;clear g24;have f25:=g25;clear g25;have hb3:=gb3;clear gb3;have hb6:=gb6;clear gb6;have hb7:=gb7;clear gb7;have hb16:=gb16;clear gb16;have hb21:=gb21;clear gb21;have hb9:=gb9;clear gb9;clear hfr hH;have hown:=hA.o;have ho7:=hA.o7;have ho16:=hA.ov;refine bB (fun x=>x≠b7∧x≠b9∧x≠b21) [(0,0),(1,0),(2,3),(3,3),(4,0),(5,3),(6,1),(7,1),(8,2),(9,1),(10,3),(11,3)] [(12,1)] cX (by kernel_rfl) rfl rfl ?_;simp only[cH,dY,f7,f9,hb7,hb21,hb9,nb7_b21,nb21_b7,nb7_b9,nb21_b9,z0,z1,RR,seval];refine aO fun b36 hn36=>?_;have n21:b21≠b36:=fun e=>by rw[e,hn36]at hb21;cases hb21
  have n7:b7≠b36:=fun e=>by rw[e,hn36]at hb7;cases hb7
  simp only[RR,seval];have hzr:List.replicate a.size.toNat [AV.int .u32 0]=(zz a).map cZ:=by simp [zz,cZ]
  have hzl:(zz a).length=a.size.toNat:=by simp [zz]
  rw[hzr];refine gT (hown.upd hn36 _) (by have:=pS bs ((aa.take k).map zz) hA.l;rw[this,aD,cF];simp only[bP,List.length_nil];omega) (fun b e=>⟨fun c=>?_,fun c=>?_,fun c=>?_⟩) fun v' H' own' hk' hg'=>?_
  ·subst c;exact ho7 _ _ e
  ·subst c;exact hown.offsz hb9 (by decide) _ _ e
  ·subst c;exact hown.offsz hb21 (by decide) _ _ e
  have hce:=own'.cells;have hoe:=own'.one1;have hb21':=hk' b21 _ (by rw[bY _ _ n21];exact hb21) (hown.offsz hb21 (by decide) _ _);have hb3':=hk' b3 _ (by rw[bY _ _ (fun e=>by rw[e,hn36]at hb3;cases hb3)];exact hb3) (hown.offsz hb3 (by decide) _ _);have hb6':=hk' b6 _ (by rw[bY _ _ (fun e=>by rw[e,hn36]at hb6;cases hb6)];exact hb6) (hown.offsz hb6 (by decide) _ _);have hb7':=hk' b7 _ (by rw[bY _ _ n7];exact hb7) (ho7 _ _);have hb16':=hk' b16 _ (by rw[bY _ _ (fun e=>by rw[e,hn36]at hb16;cases hb16)];exact hb16) (ho16 _ _);have e0_b3:=(hb3'.trans hb3.symm).trans e0_b3;have e0_b6:=(hb6'.trans hb6.symm).trans e0_b6;have e0_b7:=(hb7'.trans hb7.symm).trans e0_b7;have e0_b16:=(hb16'.trans hb16.symm).trans e0_b16;rw[←hzl]at own';have hA':=hA.snoc (l:=zz a) hn36 (by rw[hb7];exact bS _) (by rw[hb16];exact bS _) own' hk' hg' hb21' (.rows 8 [[.isl 2 FR, .osl 1 b16 vs.length,v', .str inp, .int .i64 0, .nsl, .int .i64 0, .int .i64 fl]]);simp only[hce,hoe,Option.bind_some,List.drop,hb21',RR,seval];refine aA rfl ?_;simp only[f25,RR,seval]
  try rw[aR _ (by omega)]
  refine hK0 _ _ hlt0 ⟨by first|rfl|(simp only[aJ,seval];rfl),(by first|exact e0_b3|(simp only[nb3_b21,aJ,seval];first|done|exact e0_b3)),(by first|exact e0_b6|(simp only[nb6_b21,aJ,seval];first|done|exact e0_b6)),(by first|exact e0_b7|(simp only[nb7_b21,aJ,seval];first|done|exact e0_b7)),(by first|exact e0_b16|(simp only[nb16_b21,aJ,seval];first|done|exact e0_b16)),v',bs++[b36],bO _ _ _,(by rw[htk,List.map_append];exact hA')⟩ (by repeat (first|exact ag0|refine bE.upd rfl ?_))
 have hkn0:k=aa.length:=by have:=aE hc;omega
 clear hc;rw[hkn0,List.take_length]at hA;refine bH ?_;simp only[RR,seval];refine xT (lo:=7) (caps:=[.ptr 1 b7 0 0, .ptr 3 b6 0 0]) (Q:=Cj (vI cN 23 C9 [.ptr 1 b7 0 0, .ptr 3 b6 0 0] 5 [.cell 6 43] (Ev b6) (fun ae H'=>ae= .ret (uL e out t)∧H'=oV))) (by simp only[List.map_cons,List.map_nil,aJ,f6,f7,RR,seval]) rfl (by decide) (by decide) (by decide) ?_ ?_
 rotate_left
 ·intro γ γ' e' a' w' g1 g2 g3 g4 hpin hl
  refine Ah (Ng:=23) (fn:=Tryz.f19) (gfn:=Tryz.f38) rfl Tryz.func38 rfl rfl rfl rfl (by decide) rfl rfl g1 g2 g3 g4 (fun hh S w tt=>?_) hl;show bM S w (Ev b6 tt) _;unfold Ev;by_cases ht:tt=6
  ·subst ht
   rw[bO,hh.2 6 (by decide),hpin 6 3 b6 0 0 (by decide) (by decide) (by simp only[aJ,f6,seval])];simp only[bM]
  rw[bY _ _ ht];simp only[bM]
 have h0:M3 b21=some (.rows 8 [[AV.isl 2 FR, .osl 1 b16 vs.length]++va::[.str inp, .int .i64 0, .nsl, .int .i64 0, .int .i64 fl]]):=hb21;refine kS hA.o h0 (fun x hx=>?_) (fun x hx=>?_) (hA.o.offsz hb21 (by decide)) fun FS HS hfr hb21 hkp=>?_
 ·simp only[List.mem_cons,List.not_mem_nil,or_false]at hx
  rcases hx with rfl|rfl
  ·exact cJ rfl
  intro s b n' e';cases e';exact hA.ov
 ·simp only[List.mem_cons,List.not_mem_nil,or_false]at hx
  rcases hx with rfl|rfl|rfl|rfl|rfl<;>exact cJ rfl
 have n6bs:b6∉bs:=fun hm=>by obtain⟨l,hl⟩:=hA.some hm;rw[hl]at hb6;cases hb6
 have f6:FS 6= .ptr 3 b6 0 0:=(hfr 6 (by simp only[aJ,f6,seval];exact cJ rfl)).trans (by simp only[aJ,f6,seval]);have f7:FS 7= .ptr 1 b7 0 0:=(hfr 7 (by simp only[aJ,f7,seval];exact cJ rfl)).trans (by simp only[aJ,f7,seval]);have hb7:=hkp b7 _ _ nb7_b21 hA.o7 (fun r hr x hx=>by simp only[List.mem_singleton]at hr;subst hr;simp only[List.mem_singleton]at hx;subst hx;exact cJ rfl) hb7;have hb6:=hkp b6 _ _ nb6_b21 (hA.o.offsz hb6 (by decide)) (fun r hr x hx=>by simp only[List.mem_singleton]at hr;subst hr;simp only[List.mem_cons,List.not_mem_nil,or_false]at hx;rcases hx with rfl|rfl|rfl<;>exact cJ rfl) hb6;have hb16:=hkp b16 _ _ nb16_b21 hA.ov (fun r hr x hx=>by rw[(List.mem_replicate.1 hr).2]at hx;simp only[List.mem_singleton]at hx;subst hx;exact cJ rfl) hb16
 have hR:eJ cx b21 b16 bs ⟨List.replicate vs.length 0,aa.map zz,0,[],0⟩ .nsl HS:=by
  refine⟨by rw[hFRe,hci,←hfl2];simpa using hb21,by simpa [cZ]using hb16,hA.l,fun i b l h1 h2=>?_,hA.nd,hA.nv, .inl ⟨rfl,rfl⟩,(fun _ _ h=>by cases h),(fun b hb s n' h=>by cases h),fun x hx=>?_,fun l hl=>?_,by simp,Nat.zero_le _,Nat.zero_le _⟩
  ·have hbx:=hA.a i b l h1 h2
   exact hkp b _ _ (fun e'=>by rw[e',h0]at hbx;cases hbx) (hA.ob b (aL h1)) (fun r hr x hx=>by obtain⟨y,_,rfl⟩:=List.mem_map.1 hr;simp only[cZ,List.mem_singleton]at hx;subst hx;exact cJ rfl) hbx
  ·rw[(List.mem_replicate.1 hx).2];simp [cC]
  obtain⟨a,ha',rfl⟩:=List.mem_map.1 hl;have:=hsz a ha';refine⟨by simp only[zz,cO];omega,fun x hx=>?_⟩;rw[(List.mem_replicate.1 hx).2];simp [cC]
 have hO7:iQ b16 bs .nsl b7 [[.ptr 8 b21 0 0]] HS:=⟨hb7,nb7_b16,hA.n7,fun _ _ h=>by cases h⟩;clear hkp hfr h0;refine aB fun K q=>?_;refine bB (fun x=>x≠b6∧x≠b7∧x≠b21) [(0,1),(1,3),(2,3),(3,1),(4,1),(5,3),(6,3),(7,1),(8,3),(9,3),(10,3),(11,3)] [] cX (by kernel_rfl) rfl rfl ?_;simp only[cH,f7,hb7,hb21,e3,hrowg,hFl,RR,seval];apply q;clear q;refine aB fun K q=>?_;refine bB (fun x=>x≠b7) [(0,0),(1,3),(2,3),(3,3),(4,0),(5,3),(6,3),(7,3),(8,1),(9,1),(10,1)] [] cX (by kernel_rfl) rfl rfl ?_;simp only[cH,dY,f7,hb7,e2,RR,seval];refine aO fun b63 hn63=>?_;have hzw:List.replicate wn [AV.int .u32 0]=(List.replicate wn (0:Int)).map cZ:=by simp [cZ]
 rw[hzw];have n7:b7≠b63:=fun e'=>by rw[e',hn63]at hb7;cases hb7
 have hR1:=(hR.new hn63 (some (.rows 1 ((List.replicate wn (0:Int)).map cZ)))).own (hO7.new hn63 (some (.rows 1 ((List.replicate wn (0:Int)).map cZ)))) none;have hO1:=(hR.fresh hn63 ((List.replicate wn (0:Int)).map cZ)).other (fun e'=>n7 e'.symm) none;have hL:=(hC b21 b16 bs n).L rsg (List.replicate wn 0) g.body _ .nsl _ b63 o hgok hR1 hO1 (fun x hx=>by rw[(List.mem_replicate.1 hx).2];simp [cC]) hev;rw[cO]at hL;simp only[RR,seval];refine Jp (b7:=b7) hL (by rw[bY _ _ n7];exact hb7) (fun b hb=>hb) ?_ ?_
 ·intro e' s vo' H' he' hR' h7' ho7' hk'
  subst he';simp only[sF,Prod.mk.injEq]at hend;obtain⟨rfl,rfl,rfl⟩:=hend;simp only[bR];exact Uz b7 b6 H' _ _ hR' h7' ho7' (hk' b6 _ (by rw[bY _ _ (fun e'=>by rw[e',hn63]at hb6;cases hb6)];exact hb6) nb6_b21 nb6_b16 n6bs (fun _ _ h=>by cases h) (fun e'=>by rw[e',hn63]at hb6;cases hb6)) ⟨rfl,rfl⟩
 intro p s vo' H' he' hR' h7' ho7' hk';subst he';simp only[sF,Prod.mk.injEq]at hend;obtain⟨rfl,rfl,rfl⟩:=hend;have hb6':=hk' b6 _ (by rw[bY _ _ (fun e'=>by rw[e',hn63]at hb6;cases hb6)];exact hb6) nb6_b21 nb6_b16 n6bs (fun _ _ h=>by cases h) (fun e'=>by rw[e',hn63]at hb6;cases hb6);simp only[RR,seval];apply q;clear q;refine eJ.seal hR' fun FT HT hft hr2 hk2=>?_;have f6:FT 6= .ptr 3 b6 0 0:=(hft 6 (by simp only[aJ,f6,seval];rfl)).trans (by simp only[aJ,f6,seval]);have f7:FT 7= .ptr 1 b7 0 0:=(hft 7 (by simp only[aJ,f7,seval];rfl)).trans (by simp only[aJ,f7,seval]);have hb7:=hk2 b7 _ _ nb7_b21 ho7' (fun r hr x hx=>by simp only[List.mem_singleton]at hr;subst hr;simp only[List.mem_singleton]at hx;subst hx;rfl) h7';have hb6:=hk2 b6 _ _ nb6_b21 (hR'.o.offsz hb6' (by decide)) (fun r hr x hx=>by simp only[List.mem_singleton]at hr;subst hr;simp only[List.mem_cons,List.not_mem_nil,or_false]at hx;rcases hx with rfl|rfl|rfl<;>rfl) hb6';have hb21:=hr2;have hbb:=nD s.out;clear hk2 hft hr2 hk';refine aB fun K q=>?_;refine bB (fun x=>x≠b6∧x≠b7∧x≠b21) [(0,1),(1,3),(2,3),(3,1),(4,3),(5,1),(6,3),(7,3),(8,1),(9,3)] [(10,1)] cX (by kernel_rfl) rfl rfl ?_;simp only[cH,f6,f7,hb6,hb7,hb21,hbb,RR,seval];apply q;clear q;refine aQ ?_;exact Va b7 b6 _ _ 1 s.out s.ticks (by first|exact bO _ _ _|(simp only[aJ,seval];rfl)) ⟨rfl,rfl⟩
end Go.Proofs.YtnfbbjhdflhmjaaGreatDoor
