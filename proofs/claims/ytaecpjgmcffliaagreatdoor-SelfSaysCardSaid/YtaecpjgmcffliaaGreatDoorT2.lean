/- T2 -/
import Derived.Test.YtaecpjgmcffliaaGreatDoorSc1
import Derived.Test.YtaecpjgmcffliaaGreatDoorSy3
import Derived.Test.YtaecpjgmcffliaaGreatDoorSc2
import Derived.Lib.AppendStr
import Derived.Lib.Builder
import Derived.Test.YtaecpjgmcffliaaGreatDoorProg
import Derived.BigCall
import Derived.BigGuard
import Derived.Shelf.Strings.Builder1
import Derived.Test.YtaecpjgmcffliaaGreatDoorAl3
import Derived.Shelf.RegionOpen
import Derived.Test.YtaecpjgmcffliaaGreatDoorSy2
import Derived.Test.YtaecpjgmcffliaaGreatDoorAl2
set_option linter.unusedSimpArgs false
set_option linter.unusedVariables false
set_option maxHeartbeats 4000000
set_option maxRecDepth 100000
namespace Go.Al
def Rb (m:List Fu) (f:Fu):List Fu:=if(m.find? fun g=>decide (g.name=f.name)).isSome then m else m++[f]
def mN (l:List Fu):List Fu:=l.foldl Rb []
theorem N5 (l:List Fu) (f:Fu):mN (l++[f])=Rb (mN l) f:=by simp [mN]
theorem Qg (s:dC): ∀(l m:List Fu),(l.foldl Rb m).find? (fun g=>decide (g.name=s))=(m++l).find? (fun g=>decide (g.name=s))
 |[],m=>by simp
 |f::l,m=>by
  rw[List.foldl_cons,Qg s l];unfold Rb;split
  ·rename_i h
   rw[List.find?_append,List.find?_append,List.find?_cons]
   cases hm:m.find? fun g=>decide (g.name=s)with
   |some x=>rfl
   |none=>
    have a:decide (f.name=s)=false:=by
     refine bA fun e=>?_;rw[e,hm]at h;cases h
    rw[a]
  rw[bU,List.singleton_append]
theorem Ey (s:dC) (l:List Fu):(mN l).find? (fun g=>decide (g.name=s))=l.find? (fun g=>decide (g.name=s)):=by
 rw[mN,Qg,cQ]
def BQ (f:Fu):AV×AV:=(.str f.name, .agg [.str f.name, .isl 1 (f.params.map bQ), .isl 1 (f.locs.map bQ), .bool f.word, .isl 5 (f.body.map Sm.row)])
theorem tR (s:dC): ∀(m:List Fu) (i:Nat),(m.find? (fun g=>decide (g.name=s))=none∧xB (.str s) (m.map BQ) i=some none)∨
  (∃j g,m.find? (fun g=>decide (g.name=s))=some g∧xB (.str s) (m.map BQ) i=some (some (j, .agg [.str g.name, .isl 1 (g.params.map bQ), .isl 1 (g.locs.map bQ), .bool g.word, .isl 5 (g.body.map Sm.row)])))
 |[],i=> .inl ⟨rfl,rfl⟩
 |t::m,i=>by
  simp only[cN,xB,LY,BQ,List.find?_cons];by_cases h:t.name=s
  ·right
   refine⟨i,t,by rw[cD h], ?_⟩;rw[cD h.symm]
  rw[bA h,bA (fun e=>h e.symm)];exact tR s m (i+1)
def BG (p:Pg):AV:= .imp (((mN p.funs).map BQ).map (·.1)) (((mN p.funs).map BQ).map (·.2))
theorem Ce: ∀l:List Ex,l.length≤sN l
 |[]=>cJ _
 |e::l=>by have:=Ce l;have:=e.sz_eq;simp only[sN,aQ];omega
theorem Cd: ∀l:List Sm,l.length≤oZ l
 |[]=>cJ _
 |e::l=>by have:=Cd l;have:=e.sz_eq;simp only[oZ,aQ];omega
theorem pQ {a:Type} {p:a→Bool} {l:List a} {k:Nat} {e:a} (h:l[k]?=some e) (b:p e=false):l.all p=false:=by
 rw[dQ];intro c;have:=dB.1 c e (aZ h);rw[b]at this;cases this
theorem nH {a:Type} {p:a→Bool} {l:List a} {k:Nat} {e:a} (h:l[k]?=some e) (b:(l.take k).all p=true) (d:p e=true):(l.take (k+1)).all p=true:=by
 obtain⟨c,rfl⟩:=bF.1 h;rw[cL c,List.all_append,b];simp only[dG,fO,d,hY]
section
open Go.Lib
theorem zW (w:World) (g:Nat) (a l:Array Value) (e:TypeId) (f:w.heap[g]?=some (.cells a e (0,0))) (i:l.size=a.size): ∀k d,w.shape? k=some d→(w.setRow g l).shape? k=some d:=by
 intro k d c;by_cases h:k=g
 ·subst h
  have b:=setRow_heap w k a l e _ f;simp only[World.shape?,f]at c;simp only[World.shape?,b,i];exact c
 have b:=setRow_other w g k l h;simp only[World.shape?,b]at *;exact c
theorem Zz {P:Program} (w:World) (t u ty e:TypeId) (i:TypeInfo) (C:P.underlying t=some (.slice e)) (D:P.underlying u=some .string) (z:P.info? e=some i) (L:i.zero=some (.int .u8 0))
  (B:i.size=1) (H:i.bytes=1) (v:Value) (n:Nat) (xs:List Value) (p:w.ownsRow 0 e 1 v n xs) (s:ByteArray) (O:n+s.size≤140737488355328):
  ∃l a,(Builtin.append_ #[t,u] ty #[v, .string s]).run P w= .ok l a∧a.ownsRow 0 e 1 l (n+s.size) (xs++strCells s)∧w.grownBy a v.ownBlock∧
   (∀k j,w.shape? k=some j→a.shape? k=some j)∧(∀g,l.ownBlock=some g→v.ownBlock=some g∨w.heap.size≤g)∧(l= .slice none 0 0↔v= .slice none 0 0∧s.size=0):=by
 have G:n+s.size≤maxLen:=by unfold maxLen;omega
 have grow: ∀a,w.grownBy a none→ ∀k j,w.shape? k=some j→a.shape? k=some j:=fun a d k j x=>by
  have f:k<w.heap.size:=by
   unfold World.shape? at x;split at x
   ·rename_i h;exact(fD.1 h).1
   cases x
  have:=d.block k f (by simp);simp only[World.shape?,this]at *;exact x
 rcases p.2 with⟨rfl,rfl⟩|⟨g,b,c,rfl,Q,d,a0,R,I,V⟩
 ·obtain⟨l,a,M,y,F,N⟩:=run_append_own_string (P:=P) w w.heap.size t u ty e i C D z L B H _ 0 xs ⟨p.1, .inl ⟨rfl,rfl⟩⟩ s G O (bI _)
  refine⟨l,a,M,⟨y.1, ?_⟩,F,grow a F,fun g d=> .inr ?_,N⟩
  ·rcases y.2 with h|⟨g,b,c,X,_,q⟩
   ·exact .inl h
   exact .inr ⟨g,b,c,X,cJ _,q⟩
  exact(y.lt g d).1
 have E:xs.length=n:=by simpa using p.1
 have o:(xs++strCells s).length=(n+s.size) *1:=by rw[aH,E,strCells_length,nA]
 have Z:c.size=b:=by simpa using I
 by_cases K:n+s.size≤b
 ·have A:=run_append_room_string (P:=P) w t u ty e i C D z B g n b c d s K (by omega)
  have J:(c.toList.take n++strCells s++c.toList.drop (n+s.size)).toArray.size=c.size:=by
   simp only[Gt,aH,dU,fL,nV,strCells_length];omega
  refine⟨_,_,A,⟨o, .inr ⟨g,b,_,rfl,Q,setRow_heap w g c _ e _ d,K,R,by rw[J];exact I, ?_⟩⟩,⟨rfl,rfl,rfl,by simp,fun k _ f=>setRow_other w g k _ (fun e=>f (by simp [Value.ownBlock,e]))⟩,zW w g c _ e d J,fun _ h=> .inl h,by simp⟩;have U:c.toList.take n=xs:=by simpa using V
  rw[U,←o];exact ZP
 have A:=run_append_grow_string (P:=P) w t u ty e i (.int .u8 0) C D z L ⟨g,0,none⟩ n b xs (by rw[B];simpa using E) (p.cells (g:=g) rfl) s (by omega) (by omega) (by rw[H];exact growslice_fits (by omega) (by omega));have T:=grownCap_ge w (n+s.size) b e;have S:w.grownBy (w.drew.alloc (.cells (xs.toArray++(strCells s).toArray++Builtin.zeroCells (Value.int .u8 0).cells (grownCap w (n+s.size) b e-(n+s.size))) e)) none:=⟨rfl,rfl,rfl,by simp,fun k f _=>by exact heap_alloc_old w.drew _ f⟩;refine⟨_,_,A,⟨o, .inr ⟨w.heap.size,_,_,rfl,cJ _,heap_alloc_new w.drew _,T,grownCap_le_maxLen w (n+s.size) b e G, ?_, ?_⟩⟩,⟨rfl,rfl,rfl,by simp,fun k f _=>by exact heap_alloc_old w.drew _ f⟩,grow _ S,fun Y h=> .inr ?_,by simp⟩
 ·have W:(Value.int IntKind.u8 0).cells.size=1:=rfl
  simp only[Array.size_append,Gt,size_zeroCells,W,E,strCells_length];omega
 ·simp only[Array.toList_append,bU]
  rw[←bU,←o];exact ZP
 simp only[Value.ownBlock,Option.some.injEq]at h;omega
end
end Go.Al
namespace Go.Proofs.YtaecpjgmcffliaaGreatDoor
open Go.Al Go.Proofs.Tryz
def iO (p:Pg) (b:Nat):List AV:=[BG p, .nfn, .fn (.func 131) [] [], .fn (.func 131) [] [], .fn (.func 133) [.ptr 11 b 0 0] [], .fn (.func 134) [.ptr 11 b 0 0] [],
 .fn (.func 131) [] [], .fn (.func 135) [.ptr 11 b 0 0] [], .fn (.func 132) [.ptr 11 b 0 0] [], .fn (.func 132) [.ptr 11 b 0 0] [], .fn (.func 132) [.ptr 11 b 0 0] []]
theorem Xf (p:Pg) (hp:fC p.funs):oN dV 90 [p.av] qZ (fun ae H'=> ∃v,ae= .ret v∧ ∃b,v= .ptr 11 b 0 0∧H'=H1 b (.rows 11 [iO p b])):=by
 have hR:=iO;unfold iO BG;obtain⟨vs,aa,l⟩:=p;simp only[Pg.av,Pg.row,fC]at *;clear hR;refine bX 91 [.tmp 2] func90 ?_;refine aA fun K a=>?_;simp only[RR,seval];refine aM fun i c8=>?_;simp only[RR,seval];refine a _ _ (aA fun K a=>?_);simp only[RR,seval];refine aM fun z a5=>?_;have b4:z≠i:=fun e=>by rw[e]at a5;simp only[RR,seval,reduceCtorEq]at a5
 have J:=b4.symm;simp only[RR,seval];refine aM fun c P=>?_;have b9:c≠i:=fun e=>by rw[e]at P;simp only[J,RR,seval,reduceCtorEq]at P
 have a9:=b9.symm;have V:c≠z:=fun e=>by rw[e]at P;simp only[RR,seval,reduceCtorEq]at P
 have b7:=V.symm;simp only[RR,seval];refine a _ _ (aI (aA fun K a=>?_));simp only[J,a9,aE,RR,seval];refine a _ _ (bM fun F1 Y n o=>?_);have E:=n 2;have d:=n 3;have L:=n 14;have N:=n 15;have D:=n 16;have y:=o i;have t:=o z;have u:=o c;simp only[J,a9,b7,RR,seval]at E d L N D y t u;refine aP ?_;refine eO [2,3,14,15] (l.length) (fun k fr M=>fr 16= .int .i64 (k:Nat)∧M i=Y i∧M c=Y c∧M z=some (.amap ((mN (l.take k)).map BQ))) ⟨D,rfl,rfl,by rw[t];rfl⟩ ?_;rintro k F2 M2 c7 ⟨fx,A,B,t⟩ F K0 a3;have E:=(F 2 rfl).trans E;have d:=(F 3 rfl).trans d;have L:=(F 14 rfl).trans L;have N:=(F 15 rfl).trans N;have D:=fx;clear fx;have y:=A.trans y;have u:=B.trans u;have Z:=aX.refl [2,3,14,15] F2;have a0:=A;have a1:=B;clear F;refine aA fun K a=>?_;simp only[N,D,RR,seval];refine a _ _ (aI (aU ?_ ?_))<;>intro R
 ·have O:k<l.length:=by have:=aB R;omega
  clear R;have hg:=qF (aF O);have a6:l.take (k+1)=l.take k++[l[k]]:=cL O;generalize l[k]=f at hg a6;have U:mN (l.take (k+1))=Rb (mN (l.take k)) f:=by rw[a6,N5]
  have b2:=tR f.name (mN (l.take k)) 0;unfold Rb at U;generalize mN (l.take k)=m at *;rcases b2 with⟨S,hr⟩|⟨j,g,S,hr⟩
  all_goals
   refine aK ?_;simp only[RR];refine aI (aP (aA fun K a=>?_));simp only[L,D,hg,RR,seval];refine aM fun Q T=>?_;have c0:=cY T y;have X:=c0.symm;have c2:=cY T u;have W:=c2.symm;have c1:=cY T t;have a7:=c1.symm;simp only[RR,seval];refine a _ _ (aC fun K a=>?_);refine bB (fun x=>x≠i∧x≠c∧x≠z∧x≠Q) [(0,3),(1,3),(2,3),(3,0),(4,3),(5,0),(6,0),(7,3),(8,3),(9,3),(10,1)] [(11,1),(12,3)] eF (by kernel_rfl) rfl rfl ?_;simp only[*,dR,fX,EM,jI,jJ,eQ,gG,RR,seval];refine aM fun G C=>?_;have c3:G≠i:=fun e=>by rw[e]at C;simp only[y,X,RR,seval,reduceCtorEq]at C
   have b0:=c3.symm;have c5:G≠c:=fun e=>by rw[e]at C;simp only[u,W,RR,seval,reduceCtorEq]at C
   have a8:=c5.symm;have c4:G≠z:=fun e=>by rw[e]at C;simp only[t,a7,RR,seval,reduceCtorEq]at C
   have b8:=c4.symm;have c6:G≠Q:=fun e=>by rw[e]at C;simp only[RR,seval,reduceCtorEq]at C
   have c9:=c6.symm;simp only[RR,seval];refine a _ _ (aA fun K a=>?_);simp only[RR,seval];refine a _ _ (aU ?_ ?_)<;>intro a4
   ·try (cases a4;done)
    all_goals
     refine bB (fun x=>x≠i∧x≠c∧x≠z∧x≠Q∧x≠G) [(0,3),(1,3),(2,3),(3,1),(4,3),(5,1),(6,1)] [(7,1)] eF (by kernel_rfl) rfl rfl ?_;simp only[*,dR,Zy,RR,seval];refine aG ?_;simp only[D,RR,seval];rw[aS _ (by omega)];refine a3 _ _ O ⟨by rfl,(by(simp only[J,X,b0,aT,seval];exact a0)),(by(simp only[V,W,a8,aT,seval];exact a1)), ?_⟩ (by repeat (first|exact Z|refine aX.upd rfl ?_));rw[U,S]
     (simp only[eQ,aT,cO,cN,dO,eQ,cH,seval];rfl)
   try (cases a4;done)
   all_goals
    refine aK ?_;simp only[RR];refine aG ?_;simp only[D,RR,seval];rw[aS _ (by omega)];refine a3 _ _ O ⟨by rfl,(by(simp only[X,b0,aT,seval];exact a0)),(by(simp only[W,a8,aT,seval];exact a1)), ?_⟩ (by repeat (first|exact Z|refine aX.upd rfl ?_));rw[U,S]
    (simp only[t,a7,b8,gG,aT,gG,seval];done)
 have b3:k=l.length:=by have:=aD R;omega
 rw[b3,dD]at t;refine cF ?_;simp only[RR,seval];refine bM fun F3 M3 n o=>?_;have H:=n 2;have I:=n 3;have A:=o i;have B:=o c;have a2:=o z;simp only[E,d,y,u,t,RR,seval]at H I A B a2;have E:=H;have d:=I;have y:=A;have u:=B;have t:=a2;refine Zk t ?_;refine bM fun F4 M4 n o=>?_;have H:=n 2;have I:=n 3;have A:=o i;have B:=o c;simp only[SM,cN,dO,dY,E,d,y,u,J,V,seval]at H I A B;have E:=H;have d:=I;have y:=A;have u:=B;refine aA fun K a=>?_;simp only[RR,seval];refine a _ _ (aA fun K a=>?_);simp only[d,RR,seval];refine a _ _ (aC fun K a=>?_);refine bB (fun x=>x≠i∧x≠c) [(0,3),(1,3),(2,3),(3,3),(4,3),(5,3),(6,3),(7,3),(8,3),(10,3),(11,3),(14,3),(15,3)] [(9,1),(12,3),(13,1),(16,3),(17,1)] eF (by kernel_rfl) rfl rfl ?_;simp only[dR,d,u,RR,seval];refine a _ _ (aA fun K a=>?_);simp only[d,RR,seval];refine a _ _ (aA fun K a=>?_);simp only[d,RR,seval];refine a _ _ (aA fun K a=>?_);simp only[d,RR,seval];refine a _ _ (aC fun K a=>?_);refine bB (fun x=>x≠i∧x≠c) [(0,3),(1,3),(2,3),(3,3),(4,3),(5,3),(6,3),(7,3),(8,3),(10,3),(11,3),(14,3),(15,3)] [(9,1),(12,3),(13,1),(16,3),(17,1)] eF (by kernel_rfl) rfl rfl ?_;simp only[dR,d,RR,seval];refine a _ _ (aA fun K a=>?_);simp only[d,RR,seval];apply a;refine aN ?_;simp only[aW,aJ,bN,RR,seval];exact⟨_,_,lN.drop (gJ (b:=c) (by(simp only[aT,seval];done))),_,rfl,c,rfl,rfl⟩
def Jd (p:Pg) (b:Nat):Hp:=H1 b (.rows 11 [iO p b])
theorem Iy (p:Pg) (s:dC):zG p s=((mN p.funs).find? fun g=>decide (g.name=s)).isSome:=by rw[Ey];rfl
theorem Hh (p:Pg) (s:dC):rW p s=match(mN p.funs).find? (fun g=>decide (g.name=s))with |some f=>f.word|none=>false:=by rw[Ey];rfl
theorem AS (p:Pg) (d:Nat) (n:Nat): ∀e:Ex,e.sz≤n→e.ok→Ed dV 136 [.ptr 11 d 0 0, .agg e.row] (Jd p d) (.bool (MM (zG p) e)):=by
 induction n using Nat.strongRecOn with
 |_ n ih=>
  intro e hn he;have hz:=e.sz_eq;have c0:=he.kids.fit;have b1:=he.kids.all;have I:=J1 (zG p) e;have a1:=Iy p e.name;have b9:=tR e.name (mN p.funs) 0;have a7: ∀x∈e.kids,Ed dV 136 [.ptr 11 d 0 0, .agg x.row] (Jd p d) (.bool (MM (zG p) x)):=fun x hx=>ih x.sz (by have:=nJ hx;omega) x (bI _) (b1 x hx);generalize MM (zG p) e=b6 at *;clear ih he b1;rw[e.row_eq];simp only[fC]at c0;generalize zG p e.name=K1 at I a1;obtain⟨K4,z4⟩: ∃c,decide (e.kind=4)=c:=⟨_,rfl⟩;rw[z4]at I
  cases K4<;>rcases b9 with⟨hl,hr⟩|⟨j,g,hl,hr⟩<;>rw[hl]at a1<;>subst a1<;>simp only[eQ,gG,Ri,DG,Bool.or_false,Bool.or_true,cB,fB]at I
  all_goals
   refine bX 36 [.tmp 4] func136 ?_;have f:(Jd p d) d=some (.rows 11 [iO p d]):=nN _ _;simp only[iO,BG]at f;refine aA fun K a=>?_;simp only[RR,seval];refine aM fun E c2=>?_;have c3:=cY c2 f;have T:=c3.symm;simp only[RR,seval];refine a _ _ (aI (aA fun K a=>?_));simp only[z4,RR,seval];refine a _ _ (aU ?_ ?_)<;>intro a8
   ·try (cases a8;done)
    all_goals
     refine aC fun K a=>?_;refine bB (fun x=>x≠d∧x≠E) [(0,3),(1,3),(2,3),(3,0),(4,3),(5,0),(6,0),(7,3),(8,3),(9,3),(10,1)] [(11,1),(12,3)] eF (by kernel_rfl) rfl rfl ?_;simp only[*,dR,fX,EM,pJ,jI,jJ,eQ,gG,RR,seval];refine aM fun N S=>?_;have c4:N≠d:=fun e=>by rw[e]at S;simp only[f,T,RR,seval,reduceCtorEq]at S
     have b2:=c4.symm;have c5:N≠E:=fun e=>by rw[e]at S;simp only[RR,seval,reduceCtorEq]at S
     have b4:=c5.symm;simp only[RR,seval];refine a _ _ (aA fun K a=>?_);simp only[RR,seval];refine a _ _ (aU ?_ ?_)<;>intro a9
     ·try (cases a9;done)
      all_goals
       refine aA fun K a=>?_;simp only[RR,seval];apply a;refine aN ?_;simp only[aW,aJ,bN,RR,seval];refine aY.q ?_ (gJ (b:=d) (by(simp only[f,T,b2,aT,seval];rfl)));rw[I]
     try (cases a9;done)
     all_goals
      refine aK ?_;simp only[RR];refine aI (aA fun K a=>?_);simp only[b4,aE,RR,seval];refine a _ _ (bM fun F1 U t H=>?_);have v:=t 0;have Y:=t 4;have y:=t 25;have z:=t 26;have i:=t 27;have o:=H d;have A:=H E;have R:=H N;simp only[f,T,b2,b4,RR,seval]at v Y y z i o A R;have f:=o;refine aP ?_;refine eO [0,25,26] (e.kids.length) (fun k Z M=>Z 27= .int .i64 (k:Nat)∧M d=U d∧M E=U E∧M N=U N∧b6=Tm (zG p) (e.kids.drop k)) ⟨i,rfl,rfl,rfl,by rw[dL];exact I⟩ ?_;rintro k F2 M2 c1 ⟨O,o,P,a6,l⟩ u K0 a0;have v:=(u 0 rfl).trans v;have y:=(u 25 rfl).trans y;have z:=(u 26 rfl).trans z;have i:=O;clear O;have f:=o.trans f;have A:=P.trans A;have R:=a6.trans R;have V:=aX.refl [0,25,26] F2;have W:=o;have X:=P;have b7:=a6;clear u;refine aA fun K a=>?_;simp only[z,i,RR,seval];refine a _ _ (aI (aU ?_ ?_))<;>intro F
      ·have C:k<e.kids.length:=by have:=aB F;omega
       clear F;have Q:=qG (aF C);have D:=a7 _ (bW C);rw[bG C,wK]at l;generalize e.kids[k]=x at Q l D;rw[x.row_eq]at D;generalize MM (zG p) x=L at l D;refine aK ?_;simp only[RR];refine aI (aP (aA fun K a=>?_));simp only[y,i,Q,RR,seval];refine aM fun b8 J=>?_;have a4:=cY J f;have G:=a4.symm;have a5:=cY J A;have a3:=a5.symm;have c7:=cY J R;have c6:=c7.symm;simp only[RR,seval];refine a _ _ (aA fun K a=>?_);simp only[v,RR,seval];refine kA (b:=d) D (by(simp only[f,G,aT,seval];rfl)) (fun _=>trivial) ?_;simp only[RR,seval];refine a _ _ (aU ?_ ?_)<;>intro B
       ·try (cases B;done)
        all_goals
         refine aA fun K a=>?_;simp only[RR,seval];apply a;refine aN ?_;simp only[aW,aJ,bN,RR,seval];refine aY.q ?_ (gJ (b:=d) (by(simp only[f,G,aT,seval];rfl)));rw[l,show L=false by simpa using B];rfl
       try (cases B;done)
       all_goals
        refine aK ?_;simp only[RR];refine aG ?_;simp only[i,RR,seval];rw[aS _ (by omega)];refine a0 _ _ C ⟨by rfl,(by(simp only[G,aT,seval];exact W)),(by(simp only[a3,aT,seval];exact X)),(by(simp only[c6,aT,seval];exact b7)),by rw[l,show L=true by simpa using B,cB]⟩ (by repeat (first|exact V|refine aX.upd rfl ?_))
      have a2:k=e.kids.length:=by have:=aD F;omega
      refine cF ?_;simp only[RR,seval];refine aA fun K a=>?_;simp only[RR,seval];apply a;refine aN ?_;simp only[aW,aJ,bN,RR,seval];refine aY.q ?_ (gJ (b:=d) f);rw[l,a2,cX,Ae]
   try (cases a8;done)
   all_goals
    refine aK ?_;simp only[RR];refine aI (aA fun K a=>?_);simp only[aE,RR,seval];refine a _ _ (bM fun F3 M3 t H=>?_);have v:=t 0;have Y:=t 4;have y:=t 25;have z:=t 26;have i:=t 27;have o:=H d;have A:=H E;simp only[f,T,RR,seval]at v Y y z i o A;have f:=o;refine aP ?_;refine eO [0,25,26] (e.kids.length) (fun k Z M=>Z 27= .int .i64 (k:Nat)∧M d=M3 d∧M E=M3 E∧b6=Tm (zG p) (e.kids.drop k)) ⟨i,rfl,rfl,by rw[dL];exact I⟩ ?_;rintro k F4 M4 c1 ⟨O,o,P,l⟩ u K0 a0;have v:=(u 0 rfl).trans v;have y:=(u 25 rfl).trans y;have z:=(u 26 rfl).trans z;have i:=O;clear O;have f:=o.trans f;have A:=P.trans A;have V:=aX.refl [0,25,26] F4;have W:=o;have X:=P;clear u;refine aA fun K a=>?_;simp only[z,i,RR,seval];refine a _ _ (aI (aU ?_ ?_))<;>intro F
    ·have C:k<e.kids.length:=by have:=aB F;omega
     clear F;have Q:=qG (aF C);have D:=a7 _ (bW C);rw[bG C,wK]at l;generalize e.kids[k]=x at Q l D;rw[x.row_eq]at D;generalize MM (zG p) x=L at l D;refine aK ?_;simp only[RR];refine aI (aP (aA fun K a=>?_));simp only[y,i,Q,RR,seval];refine aM fun b8 J=>?_;have a4:=cY J f;have G:=a4.symm;have a5:=cY J A;have a3:=a5.symm;simp only[RR,seval];refine a _ _ (aA fun K a=>?_);simp only[v,RR,seval];refine kA (b:=d) D (by(simp only[f,G,aT,seval];rfl)) (fun _=>trivial) ?_;simp only[RR,seval];refine a _ _ (aU ?_ ?_)<;>intro B
     ·try (cases B;done)
      all_goals
       refine aA fun K a=>?_;simp only[RR,seval];apply a;refine aN ?_;simp only[aW,aJ,bN,RR,seval];refine aY.q ?_ (gJ (b:=d) (by(simp only[f,G,aT,seval];rfl)));rw[l,show L=false by simpa using B];rfl
     try (cases B;done)
     all_goals
      refine aK ?_;simp only[RR];refine aG ?_;simp only[i,RR,seval];rw[aS _ (by omega)];refine a0 _ _ C ⟨by rfl,(by(simp only[G,aT,seval];exact W)),(by(simp only[a3,aT,seval];exact X)),by rw[l,show L=true by simpa using B,cB]⟩ (by repeat (first|exact V|refine aX.upd rfl ?_))
    have a2:k=e.kids.length:=by have:=aD F;omega
    refine cF ?_;simp only[RR,seval];refine aA fun K a=>?_;simp only[RR,seval];apply a;refine aN ?_;simp only[aW,aJ,bN,RR,seval];refine aY.q ?_ (gJ (b:=d) f);rw[l,a2,cX,Ae]
theorem DT (e:Ex):eN dV 131 [.agg e.row] (.int .i64 1):=by
 rw[e.row_eq];refine bX 3 [.tmp 2] func131 ?_;refine aA fun K a=>?_;simp only[RR,seval];refine aM fun b c=>?_;simp only[RR,seval];refine a _ _ (aA fun K a=>?_);simp only[RR,seval];apply a;refine aN ?_;simp only[aW,aJ,bN,RR,seval];refine aY.pure ?_;rfl
def P7 (p:Pg) (b0:Nat) (l:List Ex):Prop:= ∀e∈l,Ed dV 189 [.ptr 11 b0 0 0, .agg e.row] (Jd p b0) (.int .i64 (Y3 (rW p) e))
theorem Bh (p:Pg) (c:Nat) (l:List Ex) (R:fC l) (t:Int) (h:P7 p c l):Ed dV 137 [.ptr 11 c 0 0, .isl 5 (l.map Ex.row), .int .i64 t] (Jd p c) (.bool (lL (rW p) l t)):=by
 simp only[fC]at R;unfold P7 at h;generalize rW p=W at *;refine bX 21 [.tmp 6] func137 ?_;have d:(Jd p c) c=some (.rows 11 [iO p c]):=nN _ _;simp only[iO,BG]at d;refine aA fun K a=>?_;simp only[RR,seval];refine a _ _ (aI (aA fun K a=>?_));simp only[aE,RR,seval];refine a _ _ (bM fun U H i O=>?_);have o:=i 0;have x:=i 2;have L:=i 6;have y:=i 9;have v:=i 10;have f:=i 11;have n:=O c;simp only[d,RR,seval]at o x L y v f n;have d:=n;refine aP (eO [0,2,9,10] (l.length) (fun k N M=>N 11= .int .i64 (k:Nat)∧M c=H c∧lL W l t=lL W (l.drop k) t) ⟨f,rfl,by rw[dL]⟩ ?_);rintro k G X Z ⟨D,n,g⟩ j V P;have o:=(j 0 rfl).trans o;have x:=(j 2 rfl).trans x;have y:=(j 9 rfl).trans y;have v:=(j 10 rfl).trans v;have f:=D;clear D;have d:=n.trans d;have I:=aX.refl [0,2,9,10] G;have J:=n;clear j;refine aA fun K a=>?_;simp only[v,f,RR,seval];refine a _ _ (aI (aU ?_ ?_))<;>intro B
 ·have z:k<l.length:=by have:=aB B;omega
  clear B;have F:=qG (aF z);have A:=h _ (bW z);rw[bG z,xW]at g;generalize l[k]=e at F g A;rw[e.row_eq]at A;generalize Y3 W e=u at g A;refine aK ?_;simp only[RR];refine aI (aP (aA fun K a=>?_));simp only[y,f,F,RR,seval];refine aM fun Y S=>?_;have T:=cY S d;have C:=T.symm;simp only[RR,seval];refine a _ _ (aA fun K a=>?_);simp only[o,RR,seval];refine kA (b:=c) A (by(simp only[d,C,aT,seval];rfl)) (fun _=>trivial) ?_;simp only[x,RR,seval];refine a _ _ (aU ?_ ?_)<;>intro E
  ·refine aA fun K a=>?_
   simp only[RR,seval];apply a;refine aN ?_;simp only[aW,aJ,bN,RR,seval];refine aY.q ?_ (gJ (b:=c) (by(simp only[d,C,aT,seval];rfl)));rw[g,show decide (u=t)=false by simpa using E,fB]
  refine aK ?_;try simp only[RR]
  refine aG ?_;simp only[f,RR,seval];rw[aS _ (by omega)];refine P _ _ z ⟨by rfl,(by(simp only[C,aT,seval];exact J)),by rw[g,show decide (u=t)=true by simpa using E,cB]⟩ (by repeat (first|exact I|refine aX.upd rfl ?_))
 have Q:k=l.length:=by have:=aD B;omega
 refine cF ?_;simp only[RR,seval];refine aA fun K a=>?_;simp only[RR,seval];apply a;refine aN ?_;simp only[aW,aJ,bN,RR,seval];refine aY.q ?_ (gJ (b:=c) d);rw[g,Q,cX,Bi]
theorem LJ (p:Pg) (a:Nat) (e:Ex) (j:fC e.kids) (h:P7 p a e.kids):Ed dV 132 [.ptr 11 a 0 0, .agg e.row] (Jd p a) (.int .i64 (if lL (rW p) e.kids 2=true then 2 else 0)):=by
 have i:=Bh p a e.kids j 2 h;generalize lL (rW p) e.kids 2=A at *;rw[e.row_eq];refine bX 9 [.tmp 4] func132 ?_;have d:(Jd p a) a=some (.rows 11 [iO p a]):=nN _ _;simp only[iO,BG]at d;refine aA fun K c=>?_;simp only[RR,seval];refine aM fun n k=>?_;have l:=cY k d;have f:=l.symm;simp only[RR,seval];refine c _ _ (aI (aA fun K c=>?_));simp only[RR,seval];refine kA (b:=a) i (by(simp only[d,f,aT,seval];rfl)) (fun _=>trivial) ?_;simp only[RR,seval];refine c _ _ (aU ?_ ?_)<;>intro g
 ·refine aA fun K c=>?_
  simp only[RR,seval];apply c;refine aN ?_;simp only[aW,aJ,bN,RR,seval];refine aY.q ?_ (gJ (b:=a) (by(simp only[d,f,aT,seval];rfl)));rw[g];rfl
 refine aK ?_;try simp only[RR]
 refine aA fun K c=>?_;simp only[RR,seval];apply c;refine aN ?_;simp only[aW,aJ,bN,RR,seval];refine aY.q ?_ (gJ (b:=a) (by(simp only[d,f,aT,seval];rfl)));rw[g];rfl
theorem BF (p:Pg) (a:Nat) (e:Ex) (j:fC e.kids) (h:P7 p a e.kids):Ed dV 133 [.ptr 11 a 0 0, .agg e.row] (Jd p a) (.int .i64 (if lL (rW p) e.kids 1=true then 1 else 0)):=by
 have i:=Bh p a e.kids j 1 h;generalize lL (rW p) e.kids 1=A at *;rw[e.row_eq];refine bX 9 [.tmp 4] func133 ?_;have d:(Jd p a) a=some (.rows 11 [iO p a]):=nN _ _;simp only[iO,BG]at d;refine aA fun K c=>?_;simp only[RR,seval];refine aM fun n k=>?_;have l:=cY k d;have f:=l.symm;simp only[RR,seval];refine c _ _ (aI (aA fun K c=>?_));simp only[RR,seval];refine kA (b:=a) i (by(simp only[d,f,aT,seval];rfl)) (fun _=>trivial) ?_;simp only[RR,seval];refine c _ _ (aU ?_ ?_)<;>intro g
 ·refine aA fun K c=>?_
  simp only[RR,seval];apply c;refine aN ?_;simp only[aW,aJ,bN,RR,seval];refine aY.q ?_ (gJ (b:=a) (by(simp only[d,f,aT,seval];rfl)));rw[g];rfl
 refine aK ?_;try simp only[RR]
 refine aA fun K c=>?_;simp only[RR,seval];apply c;refine aN ?_;simp only[aW,aJ,bN,RR,seval];refine aY.q ?_ (gJ (b:=a) (by(simp only[d,f,aT,seval];rfl)));rw[g];rfl
theorem TM (p:Pg) (a:Nat) (e:Ex) (k:fC e.kids) (h:P7 p a e.kids):Ed dV 135 [.ptr 11 a 0 0, .agg e.row] (Jd p a) (.int .i64 (if lL (rW p) e.kids 1=true then(if e.op=14∨e.op=15 then 2 else 1)else 0)):=by
 have j:=Bh p a e.kids k 1 h;generalize lL (rW p) e.kids 1=A at *;rw[e.row_eq];refine bX 18 [.tmp 4] func135 ?_;have d:(Jd p a) a=some (.rows 11 [iO p a]):=nN _ _;simp only[iO,BG]at d;refine aA fun K c=>?_;simp only[RR,seval];refine aM fun o l=>?_;have n:=cY l d;have f:=n.symm;simp only[RR,seval];refine c _ _ (aI (aA fun K c=>?_));simp only[RR,seval];refine kA (b:=a) j (by(simp only[d,f,aT,seval];rfl)) (fun _=>trivial) ?_;simp only[RR,seval];refine c _ _ (aU ?_ ?_)<;>intro g
 ·refine aA fun K c=>?_
  simp only[RR,seval];apply c;refine aN ?_;simp only[aW,aJ,bN,RR,seval];refine aY.q ?_ (gJ (b:=a) (by(simp only[d,f,aT,seval];rfl)));rw[show A=false by simpa using g];rfl
 refine aK ?_;try simp only[RR]
 refine aI (aA fun K c=>?_);simp only[RR,seval]
 repeat' ((refine bZ (fun h=>?_) (fun h=>?_))<;>simp only[h,RR,seval])
 all_goals
  refine c _ _ (aU ?_ ?_)<;>intro i
  ·try (cases i;done)
   all_goals
    refine aA fun K c=>?_;simp only[RR,seval];apply c;refine aN ?_;simp only[aW,aJ,bN,RR,seval];refine aY.q ?_ (gJ (b:=a) (by(simp only[d,f,aT,seval];rfl)));rw[show A=true by simpa using g];simp_all
  try (cases i;done)
  all_goals
   refine aK ?_;simp only[RR];refine aA fun K c=>?_;simp only[RR,seval];apply c;refine aN ?_;simp only[aW,aJ,bN,RR,seval];refine aY.q ?_ (gJ (b:=a) (by(simp only[d,f,aT,seval];rfl)));rw[show A=true by simpa using g];simp_all
theorem LI (p:Pg) (a:Nat) (e:Ex) (y:fC e.kids) (h:P7 p a e.kids):Ed dV 134 [.ptr 11 a 0 0, .agg e.row] (Jd p a) (.int .i64 (if(rW p e.name&&lL (rW p) e.kids 1)=true then 1 else 0)):=by
 have x:=Bh p a e.kids y 1 h;have t:=Hh p e.name;have z:=tR e.name (mN p.funs) 0;generalize lL (rW p) e.kids 1=A at *;generalize rW p e.name=B at *;rw[e.row_eq];rcases z with⟨o,i⟩|⟨j,g,o,i⟩<;>rw[o]at t<;>subst t
 ·skip
  refine bX 19 [.tmp 4] func134 ?_;have d:(Jd p a) a=some (.rows 11 [iO p a]):=nN _ _;simp only[iO,BG]at d;refine aA fun K c=>?_;simp only[RR,seval];refine aM fun u l=>?_;have n:=cY l d;have f:=n.symm;simp only[RR,seval];refine c _ _ (aI (aC fun K c=>?_));refine bB (fun _=>True) [(0,3),(1,3),(2,3),(3,1),(4,3),(5,1),(6,1),(7,3),(8,3),(9,3),(10,3),(11,1),(12,1),(13,3)] [] eF (by kernel_rfl) rfl rfl ?_;simp only[dR,d,f,pJ,i,jJ,RR,seval]
  all_goals
   refine c _ _ (aU ?_ ?_)<;>intro k
   ·try (cases k;done)
    all_goals
     refine aA fun K c=>?_;simp only[pJ,i,jJ,eQ,RR,seval];apply c;refine aN ?_;simp only[aW,aJ,bN,pJ,i,jJ,eQ,RR,seval];refine aY.q ?_ (gJ (b:=a) d);simp_all
   try (cases k;done)
   all_goals
    refine aK ?_;simp only[RR];refine aA fun K c=>?_;simp only[RR,seval];apply c;refine aN ?_;simp only[aW,aJ,bN,RR,seval];refine aY.q ?_ (gJ (b:=a) (by(simp only[d,f,aT,seval];rfl)));simp_all
 obtain⟨D,E,gl,v,C⟩:=g;simp only at i⊢;cases v<;>cases A
 all_goals
  refine bX 19 [.tmp 4] func134 ?_;have d:(Jd p a) a=some (.rows 11 [iO p a]):=nN _ _;simp only[iO,BG]at d;refine aA fun K c=>?_;simp only[RR,seval];refine aM fun u l=>?_;have n:=cY l d;have f:=n.symm;simp only[RR,seval];refine c _ _ (aI (aC fun K c=>?_));refine bB (fun _=>True) [(0,3),(1,3),(2,3),(3,1),(4,3),(5,1),(6,1),(7,3),(8,3),(9,3),(10,3),(11,1),(12,1),(13,3)] [] eF (by kernel_rfl) rfl rfl ?_;simp only[dR,d,f,pJ,i,jI,RR,seval]
  all_goals try (refine kA (b:=a) x (by first|exact d|(simp only[d,f,aT,seval];rfl)) (fun _=>trivial) ?_;simp only[RR,seval])
  all_goals
   refine c _ _ (aU ?_ ?_)<;>intro k
   ·try (cases k;done)
    all_goals
     refine aA fun K c=>?_;simp only[RR,seval];apply c;refine aN ?_;simp only[aW,aJ,bN,RR,seval];refine aY.q ?_ (gJ (b:=a) (by(simp only[d,f,aT,seval];rfl)));rfl
   try (cases k;done)
   all_goals
    refine aK ?_;simp only[RR];refine aA fun K c=>?_;simp only[RR,seval];apply c;refine aN ?_;simp only[aW,aJ,bN,RR,seval];refine aY.q ?_ (gJ (b:=a) (by(simp only[d,f,aT,seval];rfl)));rfl
theorem E4 (p:Pg) (a:Nat) (n:Nat): ∀e:Ex,e.sz≤n→e.ok→Ed dV 189 [.ptr 11 a 0 0, .agg e.row] (Jd p a) (.int .i64 (Y3 (rW p) e)):=by
 induction n using Nat.strongRecOn with
 |_ n ih=>
  intro e N u;have O:=e.sz_eq;have j:=u.kids.fit;have z:=u.kids.all;have g:P7 p a e.kids:=fun x A=>ih x.sz (by have:=nJ A;omega) x (bI _) (z x A);have i:=E5 (rW p) e;have D:=DT e;have E:=LJ p a e j g;have F:=BF p a e j g;have G:=TM p a e j g;have H:=LI p a e j g;generalize Y3 (rW p) e=P at *;generalize rW p e.name=L at *;generalize lL (rW p) e.kids 1=I at *;generalize lL (rW p) e.kids 2=J at *;clear ih u z g;rw[e.row_eq]at *;by_cases M:1≤e.kind∧e.kind≤9
  ·have Q:decide (e.kind<1)=false:=bA (by omega)
   have R:decide (9<e.kind)=false:=bA (by omega);have C:e.kind=1∨e.kind=2∨e.kind=3∨e.kind=4∨e.kind=5∨e.kind=6∨e.kind=7∨e.kind=8∨e.kind=9:=by omega
   obtain⟨k,o,m,s,l⟩:=e;simp only[Ex.kind,Ex.op,Ex.num,Ex.name,Ex.kids]at *;rcases C with rfl|rfl|rfl|rfl|rfl|rfl|rfl|rfl|rfl
   all_goals
    simp only[Int.reduceEq,or_self,or_true,dF,cT,dK]at i;subst i;refine bX 22 [.tmp 4] func189 ?_;have c:(Jd p a) a=some (.rows 11 [iO p a]):=nN _ _;simp only[iO,BG]at c;refine aA fun K d=>?_;simp only[RR,seval];refine aM fun B v=>?_;have y:=cY v c;have f:=y.symm;simp only[RR,seval];refine d _ _ (aI (aA fun K d=>?_));simp only[RR,seval];refine d _ _ (bL ?_);refine aK ?_;simp only[RR];refine aC fun K d=>?_;refine bB (fun _=>True) [(0,3),(1,3),(2,1),(3,3),(4,3),(5,3),(6,1),(7,1),(8,1),(9,3)] [] eF (by kernel_rfl) rfl rfl ?_;simp only[dR,c,f,RR,seval]
    first|(refine aO D ?_)|(refine kA (b:=a) E (by(simp only[c,f,aT,seval];rfl)) (fun _=>trivial) ?_)|(refine kA (b:=a) F (by(simp only[c,f,aT,seval];rfl)) (fun _=>trivial) ?_)|(refine kA (b:=a) G (by(simp only[c,f,aT,seval];rfl)) (fun _=>trivial) ?_)|(refine kA (b:=a) H (by(simp only[c,f,aT,seval];rfl)) (fun _=>trivial) ?_)
    simp only[RR,seval];apply d;refine aN ?_;simp only[aW,aJ,bN,RR,seval];refine aY.q ?_ (gJ (b:=a) (by(simp only[c,f,aT,seval];rfl)));rfl
  rw[aL (by omega),aL (by omega),aL (by omega),aL (by omega),aL (by omega)]at i;subst i;refine bX 22 [.tmp 4] func189 ?_;have c:(Jd p a) a=some (.rows 11 [iO p a]):=nN _ _;simp only[iO,BG]at c;refine aA fun K d=>?_;simp only[RR,seval];refine aM fun B v=>?_;have y:=cY v c;have f:=y.symm;simp only[RR,seval];refine d _ _ (aI (aA fun K d=>?_));simp only[RR,seval]
  repeat' ((refine bZ (fun h=>?_) (fun h=>?_))<;>simp only[h,RR,seval])
  all_goals
   refine d _ _ (aU ?_ ?_)<;>intro t
   ·try (cases t;done)
    all_goals
     refine aA fun K d=>?_;simp only[RR,seval];apply d;refine aN ?_;simp only[aW,aJ,bN,RR,seval];refine aY.q ?_ (gJ (b:=a) (by(simp only[c,f,aT,seval];rfl)));rfl
   try (cases t;done)
   all_goals
    exfalso
    (have:=aD h;have:=aD t;omega)
theorem Uy (p:Pg) (f:Nat) (n:Nat): ∀l:List Sm,oZ l≤n→yM l→Ed dV 91 [.ptr 11 f 0 0, .isl 5 (l.map Sm.row)] (Jd p f) (.bool (wJ (zG p) l)):=by
 induction n using Nat.strongRecOn with
 |_ n ih=>
  intro l hn c2;have d2:=c2.fit;have hE:=fun(x:Ex) (h:x.ok)=>AS p f _ x (bI _) h;have a7:=fun s=>Iy p s;have a6:=fun s=>tR s (mN p.funs) 0;generalize zG p=K at *;simp only[fC]at d2;refine bX 57 [.tmp 4] func91 ?_;have o:(Jd p f) f=some (.rows 11 [iO p f]):=nN _ _;simp only[iO,BG]at o;refine aA fun K a=>?_;simp only[RR,seval];apply a;clear a K;refine aI ?_;refine aA fun K a=>?_;simp only[aE,RR,seval];apply a;clear a K;refine bM fun F1 M1 d C=>?_;have u:=d 0;have T:=d 4;have A:=d 11;have B:=d 12;have v:=d 13;have i:=C f;simp only[o,RR,seval]at u T A B v i;have o:=i;clear i;clear d C;refine aP ?_;refine eO [0,11,12] (l.length) (fun k U M=>U 13= .int .i64 (k:Nat)∧M f=M1 f∧wJ K l=wJ K (l.drop k)) ⟨v,rfl,by rw[dL]⟩ ?_;rintro k S M2 e7 ⟨V,i,y⟩ t K0 d0;have u:=(t 0 rfl).trans u;have A:=(t 11 rfl).trans A;have B:=(t 12 rfl).trans B;have v:=V;clear V;have o:=i.trans o;have F:=aX.refl [0,11,12] S;have H:=i;clear i;clear t;refine aA fun K a=>?_;simp only[B,v,RR,seval];apply a;clear a K;refine aI ?_;refine aU ?_ ?_<;>intro I
  ·have a2:k<l.length:=by have:=aB I;omega
   clear I;have hg:=Jg (aF a2);have hm:=bW a2;have W:=c2.all _ hm;have d8:=lU hm;rw[bG a2,Ad,Tj]at y;generalize l[k]=e at hg y W d8;have hz:=e.sz_eq;have Z:=ih (oZ e.thn) (by omega) e.thn (bI _) W.thn;have hU:=ih (oZ e.els) (by omega) e.els (bI _) W.els;have d6:=W.es.all;have d5:=W.es.fit;have a8:=a7 e.name;have a5:=a6 e.name;simp only[fC]at d5;generalize K e.name=K1 at y a8;generalize wJ K e.thn=K4 at y Z;generalize wJ K e.els=K5 at y hU;obtain⟨K6,z6⟩: ∃c,decide (e.kind=6)=c:=⟨_,rfl⟩;rw[z6]at y;refine aK ?_;simp only[RR];refine aI ?_;refine aP ?_;refine aA fun K a=>?_;simp only[A,v,hg,RR,seval];refine aM fun G d7=>?_;have c4:=cY d7 o;have b1:=c4.symm;simp only[RR,seval];apply a;clear a K;refine aI ?_;refine aA fun K a=>?_;simp only[z6,RR,seval];apply a;clear a K;refine bM fun F3 Q d C=>?_;have J:=d 0;have T:=d 4;have D:=d 6;have L:=d 11;have N:=d 12;have O:=d 13;have b3:=d 19;have i:=C f;have z:=C G;simp only[u,A,B,v,o,b1,RR,seval]at J T D L N O b3 i z;have F:aX [0,11,12] S F3:=aX.same d (by repeat (first|exact F|refine aX.upd rfl ?_));have H:=(C f).trans (by(simp only[b1,aT,seval];exact H));have u:=J;clear J;have A:=L;clear L;have B:=N;clear N;have v:=O;clear O;have o:=i;clear i;clear d C;refine fQ (fun U M=>aX [0,6,11,12,13] F3 U∧M f=Q f∧M G=Q G∧(!K6||K1)=true) (fun e5 b4=>?_) ?_
   ·have b2:=aX.refl [0,6,11,12,13] F3
    have c8:Q f=Q f:=rfl;have c9:Q G=Q G:=rfl;refine dN _ b3 (fun a1=>?_) (fun a1=>?_)
    ·try (cases a1;done)
     all_goals
      rcases a5 with⟨hl,hr⟩|⟨j,g,hl,hr⟩<;>rw[hl]at a8<;>subst a8
      all_goals
       refine aC fun K a=>?_;refine bB (fun x=>x≠f∧x≠G) [(0,3),(1,3),(2,3),(3,0),(4,3),(5,0),(6,0),(7,3),(8,3),(9,3),(10,1)] [(11,1),(12,3)] eF (by kernel_rfl) rfl rfl ?_;simp only[dR,fX,EM,u,D,o,z,c4,b1,pJ,jI,jJ,eQ,gG,hr,RR,seval];refine aM fun b7 c1=>?_;have e3:=cY c1 o;have c3:=e3.symm;have e4:=cY c1 z;have e2:=e4.symm;simp only[RR,seval];apply a;clear a K;refine aA fun K a=>?_;simp only[RR,seval];apply a;clear a K;refine aU ?_ ?_<;>intro b8
       ·try (cases b8;done)
        all_goals
         refine aA fun K a=>?_;simp only[RR,seval];apply a;clear a K;refine aN ?_;simp only[aW,aJ,bN,RR,seval];refine aY.q ?_ (gJ (b:=f) (by(simp only[o,c3,aT,seval];rfl)));rw[y,a1];simp
       try (cases b8;done)
       all_goals
        refine aK ?_;simp only[RR];refine b4 _ _ ⟨(by repeat (first|exact b2|refine aX.upd rfl ?_)),(by(simp only[c3,aT,seval];done)),(by(simp only[e2,aT,seval];done)),by simp_all⟩
    try (cases a1;done)
    all_goals
     refine aK ?_;simp only[RR];refine b4 _ _ ⟨(by repeat (exact b2)),c8,c9,by simp_all⟩
   rintro F4 M4 ⟨t,i,E,hA⟩;have u:=(t 0 rfl).trans u;have D:=(t 6 rfl).trans D;have A:=(t 11 rfl).trans A;have B:=(t 12 rfl).trans B;have v:=(t 13 rfl).trans v;have o:=i.trans o;have z:=E.trans z;have F:aX [0,11,12] S F4:=aX.sub t rfl F;have H:=i.trans H;clear t;clear i;clear E;simp only[RR,seval];rw[hA,cB]at y;refine aI ?_;refine aA fun K a=>?_;simp only[D,z,aE,RR,seval];apply a;clear a K;refine bM fun F5 M5 d C=>?_;have J:=d 0;have T:=d 4;have g6:=d 6;have f8:=d 8;have L:=d 11;have N:=d 12;have O:=d 13;have X:=d 33;have Y:=d 34;have R:=d 35;have i:=C f;have E:=C G;simp only[u,D,A,B,v,o,z,RR,seval]at J T g6 f8 L N O X Y R i E;have F:aX [0,11,12] S F5:=aX.same d (by repeat (first|exact F|refine aX.upd rfl ?_));have H:=(C f).trans H;have u:=J;clear J;have D:=g6;clear g6;have A:=L;clear L;have B:=N;clear N;have v:=O;clear O;have o:=i;clear i;have z:=E;clear E;clear d C;refine aP ?_;refine eO [0,6,8,11,12,13,33,34] (e.es.length) (fun j U M=>U 35= .int .i64 (j:Nat)∧M f=M5 f∧M G=M5 G∧Tm K e.es=Tm K (e.es.drop j)) ⟨R,rfl,rfl,by rw[dL]⟩ ?_;rintro j F6 M6 e8 ⟨V,i,E,P⟩ t K2 d1;have u:=(t 0 rfl).trans u;have D:=(t 6 rfl).trans D;have f8:=(t 8 rfl).trans f8;have A:=(t 11 rfl).trans A;have B:=(t 12 rfl).trans B;have v:=(t 13 rfl).trans v;have X:=(t 33 rfl).trans X;have Y:=(t 34 rfl).trans Y;have R:=V;clear V;have o:=i.trans o;have z:=E.trans z;have F:aX [0,11,12] S F6:=aX.sub t rfl F;have H:=i.trans H;have c5:=aX.refl [0,6,8,11,12,13,33,34] F6;have c6:=i;clear i;have c7:=E;clear E;clear t;refine aA fun K a=>?_;simp only[Y,R,RR,seval];apply a;clear a K;refine aI ?_;refine aU ?_ ?_<;>intro I
   ·have a3:j<e.es.length:=by have:=aB I;omega
    clear I;have b9:=qG (aF a3);have a4:=hE _ (d6 _ (bW a3));rw[bG a3,wK]at P;generalize e.es[j]=x at b9 P a4;rw[x.row_eq]at a4;generalize MM K x=KK at P a4;refine aK ?_;simp only[RR];refine aI ?_;refine aP ?_;refine aA fun K a=>?_;simp only[X,R,b9,RR,seval];refine aM fun e6 c0=>?_;have d9:=cY c0 o;have a9:=d9.symm;have e0:=cY c0 z;have e1:=e0.symm;simp only[RR,seval];apply a;clear a K;refine aA fun K a=>?_;simp only[u,RR,seval];refine kA (b:=f) a4 (by(simp only[o,a9,aT,seval];rfl)) (fun _=>trivial) ?_;simp only[RR,seval];apply a;clear a K;refine aU ?_ ?_<;>intro a0
    ·try (cases a0;done)
     all_goals
      refine aA fun K a=>?_;simp only[RR,seval];apply a;clear a K;refine aN ?_;simp only[aW,aJ,bN,RR,seval];refine aY.q ?_ (gJ (b:=f) (by(simp only[o,a9,aT,seval];rfl)));rw[y,P,show KK=false by simpa using a0];simp
    try (cases a0;done)
    all_goals
     refine aK ?_;simp only[RR];refine aG ?_;simp only[R,RR,seval];rw[aS _ (by omega)];refine d1 _ _ a3 ⟨by rfl,(by(simp only[a9,aT,seval];exact c6)),(by(simp only[e1,aT,seval];exact c7)),by rw[P,show KK=true by simpa using a0,cB]⟩ (by repeat (first|exact c5|refine aX.upd rfl ?_))
   have d4:j=e.es.length:=by have:=aD I;omega
   clear I;rw[d4,cX,Ae]at P;rw[P,cB]at y;refine cF ?_;simp only[RR,seval];refine aA fun K a=>?_;simp only[u,D,z,RR,seval]
   all_goals (refine kA (b:=f) Z o (fun _=>trivial) ?_;simp only[RR,seval])
   all_goals ((refine bZ (fun h=>?_) (fun h=>?_))<;>simp only[h,u,D,z,RR,seval])
   all_goals try (refine kA (b:=f) hU o (fun _=>trivial) ?_;simp only[RR,seval])
   all_goals
    apply a;clear a K;refine aU ?_ ?_<;>intro b5
    ·try (cases b5;done)
     all_goals
      refine aA fun K a=>?_;simp only[RR,seval];apply a;clear a K;refine aN ?_;simp only[aW,aJ,bN,RR,seval];refine aY.q ?_ (gJ (b:=f) o);rw[y];clear Z hU hE a7 a6 a5 ih;simp_all
    try (cases b5;done)
    all_goals
     refine aK ?_;simp only[RR];refine aG ?_;simp only[v,RR,seval];rw[aS _ (by omega)];refine d0 _ _ a2 ⟨by rfl,H,by rw[y];clear Z hU hE a7 a6 a5 ih;simp_all⟩ (by repeat (first|exact F|refine aX.upd rfl ?_))
  have d3:k=l.length:=by have:=aD I;omega
  clear I;refine cF ?_;simp only[RR,seval];refine aA fun K a=>?_;simp only[RR,seval];apply a;clear a K;refine aN ?_;simp only[aW,aJ,bN,RR,seval];refine aY.q ?_ (gJ (b:=f) o);rw[y,d3,cX,Gy]
theorem Ux (p:Pg) (a:Nat) (f:Fu) (n:Nat): ∀l:List Sm,oZ l≤n→yM l→Ed dV 92 [.ptr 11 a 0 0, .agg f.row, .isl 5 (l.map Sm.row)] (Jd p a) (.bool (nZ (rW p) f.word l)):=by
 induction n using Nat.strongRecOn with
 |_ n ih=>
  intro l hn b9;have e7:=b9.fit;have c5:=fun(x:List Ex) (h:Bt x) (t:Int)=>Bh p a x h.fit t fun e he=>E4 p a _ e (bI _) (h.all e he);have d3:=fun s=>Hh p s;have d1:=fun s=>tR s (mN p.funs) 0;generalize rW p=W at *;obtain⟨fn,fp,fl,w,fb⟩:=f;simp only[fC,Fu.row]at *;refine bX 65 [.tmp 6] func92 ?_;have o:(Jd p a) a=some (.rows 11 [iO p a]):=nN _ _;simp only[iO,BG]at o;refine aA fun K c=>?_;simp only[RR,seval];refine aM fun v d9=>?_;have e2:=cY d9 o;have e1:=e2.symm;simp only[RR,seval];refine c _ _ (aI (aA fun K c=>?_));simp only[aE,RR,seval];refine c _ _ (bM fun F1 M1 d y=>?_);have I:=d 0;have H:=d 4;have f6:=d 6;have F:=d 10;have G:=d 11;have C:=d 12;have u:=y a;have D:=y v;simp only[o,e1,RR,seval]at I H f6 F G C u D;have o:=u;refine aP (eO [0,4,10,11] (l.length) (fun k fr M=>fr 12= .int .i64 (k:Nat)∧M a=M1 a∧M v=M1 v∧nZ W w l=nZ W w (l.drop k)) ⟨C,rfl,rfl,by rw[dL]⟩ ?_);rintro k F2 M2 e8 ⟨fx,u,B,z⟩ i K0 d6;have I:=(i 0 rfl).trans I;have H:=(i 4 rfl).trans H;have F:=(i 10 rfl).trans F;have G:=(i 11 rfl).trans G;have C:=fx;clear fx;have o:=u.trans o;have D:=B.trans D;have R:=aX.refl [0,4,10,11] F2;have S:=u;have T:=B;clear i;refine aA fun K c=>?_;simp only[G,C,RR,seval];refine c _ _ (aI (aU ?_ ?_))<;>intro hc
  ·have b5:k<l.length:=by have:=aB hc;omega
   clear hc;have hg:=Jg (aF b5);have hm:=bW b5;have b1:=b9.all _ hm;have e0:=lU hm;rw[bG b5,Du,Ue]at z;generalize l[k]=e at hg z b1 e0;have hz:=e.sz_eq;have L:=c5 e.es b1.es (vC e.kind);have N:=ih (oZ e.thn) (by omega) e.thn (bI _) b1.thn;have O:=ih (oZ e.els) (by omega) e.els (bI _) b1.els;have b6:=d3 e.name;have a3:=d1 e.name;have b2:(e.kind=4∨e.kind=5)→vC e.kind=2:=fun h=>by simp only[vC,bH h]
   have a4: ¬(e.kind=4∨e.kind=5)→vC e.kind=1:=fun h=>by simp only[vC,aL h]
   generalize W e.name=WD at z b6;generalize lL W e.es (vC e.kind)=A at z L;generalize nZ W w e.thn=K4 at z N;generalize nZ W w e.els=K5 at z O;generalize vC e.kind=ws at *;have d8:decide ((0:Int)<(e.es.length:Int))=decide (0<e.es.length):=by rw[cU];simp only[bJ];omega
   obtain⟨K8,z8⟩: ∃b,decide (0<e.es.length)=b:=⟨_,rfl⟩;rw[z8]at z;clear ih c5 b9 hm d1 d3 b1;refine aK ?_;simp only[RR];refine aI (aP (aA fun K c=>?_));simp only[F,C,hg,RR,seval];refine aM fun E d2=>?_;have e3:=cY d2 o;have d4:=e3.symm;have e4:=cY d2 D;have d5:=e4.symm;simp only[RR,seval];refine c _ _ (aA fun K c=>?_);simp only[RR,seval];refine c _ _ (aI (aA fun K c=>?_));simp only[RR,seval];refine c _ _ (bM fun F3 P d y=>?_);have g0:=d 0;have g4:=d 4;have f6:=d 6;have f8:=d 8;have U:=d 9;have a7:=d 10;have a8:=d 11;have a9:=d 12;have J:=d 17;have u:=y a;have B:=y v;have a1:=y E;simp only[I,H,F,G,C,o,D,d4,d5,RR,seval]at g0 g4 f6 f8 U a7 a8 a9 J u B a1;have R:aX [0,4,10,11] F2 F3:=aX.same d (by repeat (first|exact R|refine aX.upd rfl ?_));have S:=(y a).trans (by(simp only[d4,aT,seval];exact S));have T:=(y v).trans (by(simp only[d5,aT,seval];exact T));have I:=g0;have H:=g4;have F:=a7;have G:=a8;have C:=a9;have o:=u;have D:=B;refine fQ (fun fr M=>aX [0,4,8,10,11,12,17] F3 fr∧M a=P a∧M v=P v∧M E=P E∧fr 9= .int .i64 ws∧(!(decide (e.kind=6)&&WD))=true∧(!(decide (e.kind=7)&&K8&& !w))=true) (fun e5 b3=>?_) ?_
   ·have X:=aX.refl [0,4,8,10,11,12,17] F3
    have Y:P a=P a:=rfl;have Z:P v=P v:=rfl;have a0:P E=P E:=rfl;refine aP (aI (aA fun K c=>?_));simp only[J,RR,seval];refine c _ _ (bM fun F4 Q d y=>?_);have g0:=d 0;have g4:=d 4;have g6:=d 6;have g8:=d 8;have g9:=d 9;have a7:=d 10;have a8:=d 11;have a9:=d 12;have c4:=d 17;have a6:=d 18;have u:=y a;have B:=y v;have a2:=y E;simp only[I,H,f6,f8,U,F,G,C,J,o,D,a1,RR,seval]at g0 g4 g6 g8 g9 a7 a8 a9 c4 a6 u B a2;have R:aX [0,4,10,11] F2 F4:=aX.same d (by repeat (first|exact R|refine aX.upd rfl ?_));have S:=(y a).trans S;have T:=(y v).trans T;have X:aX [0,4,8,10,11,12,17] F3 F4:=aX.same d (by repeat (first|exact X|refine aX.upd rfl ?_));have Y:=(y a).trans Y;have Z:=(y v).trans Z;have a0:=(y E).trans a0;have I:=g0;have H:=g4;have f6:=g6;have f8:=g8;have U:=g9;have F:=a7;have G:=a8;have C:=a9;have J:=c4;have o:=u;have D:=B;have a1:=a2;refine fQ (fun fr M=>aX [0,4,6,8,9,10,11,12,17] F4 fr∧M a=Q a∧M v=Q v∧M E=Q E∧fr 18= .bool (decide (e.kind=4∨e.kind=5))) (fun e6 c6=>?_) ?_
    ·have c0:=aX.refl [0,4,6,8,9,10,11,12,17] F4
     have c1:Q a=Q a:=rfl;have c2:Q v=Q v:=rfl;have c3:Q E=Q E:=rfl;refine dN _ a6 (fun a5=>?_) (fun a5=>?_)
     ·try (cases a5;done)
      all_goals
       refine aK ?_;simp only[RR];refine c6 _ _ ⟨(by repeat (exact c0)),c1,c2,c3, ?_⟩
       (rw[a6,a5];simp [aB a5])
     try (cases a5;done)
     all_goals
      refine aG ?_;simp only[J,RR,seval];refine c6 _ _ ⟨(by repeat (first|exact c0|refine aX.upd rfl ?_)),c1,c2,c3, ?_⟩
      (simp only[aT,seval];simp [aD a5])
    rintro F5 M5 ⟨i,u,B,a2,a6⟩;have I:=(i 0 rfl).trans I;have H:=(i 4 rfl).trans H;have f6:=(i 6 rfl).trans f6;have f8:=(i 8 rfl).trans f8;have U:=(i 9 rfl).trans U;have F:=(i 10 rfl).trans F;have G:=(i 11 rfl).trans G;have C:=(i 12 rfl).trans C;have J:=(i 17 rfl).trans J;have o:=u.trans o;have D:=B.trans D;have a1:=a2.trans a1;have R:aX [0,4,10,11] F2 F5:=aX.sub i rfl R;have S:=u.trans S;have T:=B.trans T;have X:aX [0,4,8,10,11,12,17] F3 F5:=aX.sub i rfl X;have Y:=u.trans Y;have Z:=B.trans Z;have a0:=a2.trans a0;clear i;simp only[RR,seval];refine dN _ a6 (fun V=>?_) (fun V=>?_)
    ·try (cases V;done)
     all_goals
      refine aG ?_;simp only[RR,seval];refine b3 _ _ ⟨(by repeat (first|exact X|refine aX.upd rfl ?_)),Y,Z,a0, ?_⟩;clear N O L z;clear a3;refine⟨?_, ?_, ?_⟩
      ·(simp only[aT,seval];rw[b2 (aB V)];done)
      ·(have hq:=aB V;rw[bA (show ¬e.kind=6 by omega)];rfl)
      (have hq:=aB V;rw[bA (show ¬e.kind=7 by omega)];rfl)
    try (cases V;done)
    all_goals
     refine aA fun K c=>?_;simp only[J,RR,seval];refine c _ _ (aU ?_ ?_)<;>intro b7
     ·try (cases b7;done)
      all_goals
       rcases a3 with⟨hl,hr⟩|⟨j,g,hl,hr⟩<;>rw[hl]at b6<;>simp only at b6<;>subst b6
       all_goals
        refine aC fun K c=>?_;refine bB (fun x=>x≠a∧x≠v∧x≠E) [(0,3),(1,3),(2,3),(3,1),(4,3),(5,1),(6,1),(7,3)] [] eF (by kernel_rfl) rfl rfl ?_;simp only[*,dR,pJ,jI,jJ,RR,seval];refine c _ _ (aU ?_ ?_)<;>intro c7
        ·try (cases c7;done)
         all_goals
          refine aA fun K c=>?_;simp only[RR,seval];apply c;refine aN ?_;simp only[aW,aJ,bN,RR,seval];refine aY.q ?_ (gJ (b:=a) o);rw[z];clear N O L b2 a4 hr;simp_all
        try (cases c7;done)
        all_goals
         refine aK ?_;simp only[RR];refine b3 _ _ ⟨(by repeat (first|exact X|refine aX.upd rfl ?_)),Y,Z,a0, ?_⟩;clear N O L z;refine⟨?_, ?_, ?_⟩
         ·(simp only[aT,seval,U];rw[a4 (aD V)])
         ·simp_all
         (have hq:=aB b7;rw[bA (show ¬e.kind=7 by omega)];rfl)
     try (cases b7;done)
     all_goals
      refine aA fun K c=>?_;simp only[J,RR,seval];refine c _ _ (aU ?_ ?_)<;>intro c8
      ·try (cases c8;done)
       all_goals
        refine aA fun K c=>?_;simp only[f8,a1,aE,d8,z8,RR,seval]
        repeat' ((refine eE (fun h=>?_) (fun h=>?_))<;>simp only[h,H,D,RR,seval])
        all_goals
         refine c _ _ (aU ?_ ?_)<;>intro c9
         ·try (cases c9;done)
          all_goals
           refine aA fun K c=>?_;simp only[RR,seval];apply c;refine aN ?_;simp only[aW,aJ,bN,RR,seval];refine aY.q ?_ (gJ (b:=a) o);rw[z];clear N O L a3 b2 a4;simp_all
         try (cases c9;done)
         all_goals
          refine aK ?_;simp only[RR];refine b3 _ _ ⟨(by repeat (first|exact X|refine aX.upd rfl ?_)),Y,Z,a0, ?_⟩;clear N O L z;clear a3;refine⟨?_, ?_, ?_⟩
          ·(simp only[aT,seval,U];rw[a4 (aD V)])
          ·simp_all
          simp_all
      try (cases c8;done)
      all_goals
       refine aK ?_;simp only[RR];refine b3 _ _ ⟨(by repeat (first|exact X|refine aX.upd rfl ?_)),Y,Z,a0, ?_⟩;clear N O L z;clear a3;refine⟨?_, ?_, ?_⟩
       ·(simp only[aT,seval,U];rw[a4 (aD V)])
       ·simp_all
       simp_all
   rintro F6 M6 ⟨i,u,B,a2,U,hA,hB⟩;have I:=(i 0 rfl).trans I;have H:=(i 4 rfl).trans H;have f8:=(i 8 rfl).trans f8;have F:=(i 10 rfl).trans F;have G:=(i 11 rfl).trans G;have C:=(i 12 rfl).trans C;have J:=(i 17 rfl).trans J;have o:=u.trans o;have D:=B.trans D;have a1:=a2.trans a1;have R:aX [0,4,10,11] F2 F6:=aX.sub i rfl R;have S:=u.trans S;have T:=B.trans T;clear i;simp only[RR,seval];rw[hA,hB,hY,hY]at z;refine aA fun K c=>?_;simp only[*,RR,seval]
   all_goals (refine kA (b:=a) L o (fun _=>trivial) ?_;simp only[RR,seval])
   all_goals ((refine bZ (fun h=>?_) (fun h=>?_))<;>simp only[*,RR,seval])
   all_goals try (refine kA (b:=a) N o (fun _=>trivial) ?_;simp only[RR,seval])
   all_goals try ((refine bZ (fun h=>?_) (fun h=>?_))<;>simp only[*,RR,seval])
   all_goals try (refine kA (b:=a) O o (fun _=>trivial) ?_;simp only[RR,seval])
   all_goals
    refine c _ _ (aU ?_ ?_)<;>intro d0
    ·try (cases d0;done)
     all_goals
      refine aA fun K c=>?_;simp only[RR,seval];apply c;refine aN ?_;simp only[aW,aJ,bN,RR,seval];refine aY.q ?_ (gJ (b:=a) o);rw[z];clear N O L a3 b2 a4;simp_all
    try (cases d0;done)
    all_goals
     refine aK ?_;simp only[RR];refine aG ?_;simp only[C,RR,seval];rw[aS _ (by omega)];refine d6 _ _ b5 ⟨by rfl,S,T,by rw[z];clear N O L a3 b2 a4;simp_all⟩ (by repeat (first|exact R|refine aX.upd rfl ?_))
  have d7:k=l.length:=by have:=aD hc;omega
  refine cF ?_;simp only[RR,seval];refine aA fun K c=>?_;simp only[RR,seval];apply c;refine aN ?_;simp only[aW,aJ,bN,RR,seval];refine aY.q ?_ (gJ (b:=a) o);rw[z,d7,cX,Ap]
theorem Xx (p:Pg) (Y:p.ok):eN dV 59 [p.av] (.int .i64 (qH p)):=by
 have L:qH p=if(p.funs.all fun f=>wJ (zG p) f.body)=true then(if(p.funs.all fun f=>nZ (rW p) f.word f.body)=true then 0 else 5)else 4:=rfl
 have a0:=Y.funs;have c2:=Y.ffit;have a2:=Xf p Y.ffit;have U:=fun b (x:List Sm) (h:yM x)=>Uy p b _ x (bI _) h;have T:=fun b (f:Fu) (x:List Sm) (h:yM x)=>Ux p b f _ x (bI _) h;generalize qH p=d7 at *;generalize rW p=W at *;generalize zG p=Z at *;clear Y;obtain⟨vs,aa,i⟩:=p;simp only[Pg.av,Pg.row,fC]at a2 c2 a0 L⊢;refine bX 37 [.tmp 2] func59 ?_;refine aA fun K a=>?_;simp only[RR,seval];refine aM fun y d5=>?_;simp only[RR,seval];refine a _ _ (bM fun F1 M1 g B=>?_);have z:=g 1;have I:=g 2;have c:=B y;simp only[RR,seval]at z I c;refine aA fun K a=>?_;simp only[z,c,RR,seval];refine uR a2 (fF.refl _) fun v H' M9 ⟨d,hv,a1⟩ A hn=>?_;subst hv;have l:M9 d=some (.rows 11 [iO ⟨vs,aa,i⟩ d]):=(hn d _ (by rw[a1];exact nN _ _)).1;have a7:=(hn d _ (by rw[a1];exact nN _ _)).2;have c5:d≠y:=fun e=>by rw[e,c]at a7;cases a7
 have d6:=c5.symm;have c:=A _ _ (fun h=>h) c;have U:=U d;have T:=T d;unfold Jd at U T;generalize iO ⟨vs,aa,i⟩ d=d2 at *;simp only[RR,seval];refine a _ _ (aI (aA fun K a=>?_));simp only[z,c,aE,RR,seval];refine a _ _ (bM fun F2 M2 g B=>?_);have g1:=g 1;have g2:=g 2;have u:=g 3;have P:=g 11;have Q:=g 12;have E:=g 13;have n:=B y;have o:=B d;simp only[z,I,c,l,RR,seval]at g1 g2 u P Q E n o;have z:=g1;have I:=g2;have c:=n;have l:=o;refine aP (eO [1,3,11,12] (i.length) (fun k fr M=>fr 13= .int .i64 (k:Nat)∧M y=M2 y∧M d=M2 d∧(i.all fun f=>wJ Z f.body)=((i.drop k).all fun f=>wJ Z f.body)) ⟨E,rfl,rfl,by rw[dL]⟩ ?_);rintro k F3 M3 d3 ⟨J,n,o,C⟩ t K0 c0;have z:=(t 1 rfl).trans z;have u:=(t 3 rfl).trans u;have P:=(t 11 rfl).trans P;have Q:=(t 12 rfl).trans Q;have E:=J;clear J;have c:=n.trans c;have l:=o.trans l;have b0:=aX.refl [1,3,11,12] F3;have b3:=n;have b4:=o;clear t;refine aA fun K a=>?_;simp only[Q,E,RR,seval];refine a _ _ (aI (aU ?_ ?_))<;>intro D
 ·have V:k<i.length:=by have:=aB D;omega
  clear D;have N:=qF (aF V);have O:=(a0 _ (bW V)).body;rw[bG V,dG]at C;generalize i[k]=f at N C O;have A:=U f.body O;generalize wJ Z f.body=H at A C;refine aK ?_;simp only[RR];refine aI (aP (aA fun K a=>?_));simp only[P,E,N,RR,seval];refine aM fun b5 a5=>?_;have c8:=cY a5 c;have c6:=c8.symm;have c9:=cY a5 l;have a8:=c9.symm;simp only[RR,seval];refine a _ _ (aA fun K a=>?_);simp only[u,RR,seval];refine kA (b:=d) A (by(simp only[l,a8,aT,seval];done)) (fun _=>trivial) ?_;simp only[RR,seval];refine a _ _ (aU ?_ ?_)<;>intro a4
  ·refine aA fun K a=>?_
   simp only[RR,seval];apply a;refine aN ?_;simp only[aW,aJ,bN,RR,seval];refine aY.pure ?_;rw[L,aL (by rw[C,show H=false by simpa using a4];simp)]
  refine aK ?_;try simp only[RR]
  refine aG ?_;simp only[E,RR,seval];rw[aS _ (by omega)];refine c0 _ _ V ⟨by rfl,(by(simp only[c6,aT,seval];exact b3)),(by(simp only[a8,aT,seval];exact b4)),by rw[C,show H=true by simpa using a4,cB]⟩ (by repeat (first|exact b0|refine aX.upd rfl ?_))
 have c3:k=i.length:=by have:=aD D;omega
 rw[c3,cX,fO]at C;rw[bH C]at L;refine cF ?_;simp only[RR,seval];refine aI (aA fun K a=>?_);simp only[z,c,aE,RR,seval];refine a _ _ (bM fun F4 M4 g B=>?_);have I:=g 2;have g3:=g 3;have R:=g 24;have S:=g 25;have F:=g 26;have n:=B y;have o:=B d;simp only[u,c,l,RR,seval]at I g3 R S F n o;have u:=g3;have c:=n;have l:=o;refine aP (eO [3,24,25] (i.length) (fun j fr M=>fr 26= .int .i64 (j:Nat)∧M y=M4 y∧M d=M4 d∧(i.all fun f=>nZ W f.word f.body)=((i.drop j).all fun f=>nZ W f.word f.body)) ⟨F,rfl,rfl,by rw[dL]⟩ ?_);rintro j F5 M5 d4 ⟨J,n,o,G⟩ t K2 c1;have u:=(t 3 rfl).trans u;have R:=(t 24 rfl).trans R;have S:=(t 25 rfl).trans S;have F:=J;clear J;have c:=n.trans c;have l:=o.trans l;have b2:=aX.refl [3,24,25] F5;have b6:=n;have b8:=o;clear t;refine aA fun K a=>?_;simp only[S,F,RR,seval];refine a _ _ (aI (aU ?_ ?_))<;>intro D
 ·have X:j<i.length:=by have:=aB D;omega
  clear D;have N:=qF (aF X);have O:=(a0 _ (bW X)).body;rw[bG X,dG]at G;generalize i[j]=f at N G O;have A:=T f f.body O;simp only[Fu.row]at A;generalize nZ W f.word f.body=H at A G;refine aK ?_;simp only[RR];refine aI (aP (aA fun K a=>?_));simp only[R,F,N,RR,seval];refine aM fun b7 a6=>?_;have d0:=cY a6 c;have c7:=d0.symm;have d1:=cY a6 l;have a9:=d1.symm;simp only[RR,seval];refine a _ _ (aA fun K a=>?_);simp only[u,RR,seval];refine kA (b:=d) A (by(simp only[l,a9,aT,seval];done)) (fun _=>trivial) ?_;simp only[RR,seval];refine a _ _ (aU ?_ ?_)<;>intro a3
  ·refine aA fun K a=>?_
   simp only[RR,seval];apply a;refine aN ?_;simp only[aW,aJ,bN,RR,seval];refine aY.pure ?_;rw[L,aL (by rw[G,show H=false by simpa using a3];simp)]
  refine aK ?_;try simp only[RR]
  refine aG ?_;simp only[F,RR,seval];rw[aS _ (by omega)];refine c1 _ _ X ⟨by rfl,(by(simp only[c7,aT,seval];exact b6)),(by(simp only[a9,aT,seval];exact b8)),by rw[G,show H=true by simpa using a3,cB]⟩ (by repeat (first|exact b2|refine aX.upd rfl ?_))
 have c4:j=i.length:=by have:=aD D;omega
 refine cF ?_;simp only[RR,seval];refine aA fun K a=>?_;simp only[RR,seval];apply a;refine aN ?_;simp only[aW,aJ,bN,RR,seval];refine aY.pure ?_;rw[L,bH (by rw[G,c4,cX];rfl)]
theorem wA (p:Pg) (g:p.ok) (f:gD p=true→p.few):eN dV 32 [p.av] (.int .i64 (gZ p)):=by
 have d:=I5 p g
 have j:gD p=true→1≤p.funs.length:=fun h=>by
  simp only[gD,bC,bJ]at h;exact h.1.1.1.2
 have c:=fun h=>DF p (f h) (j h);have k:=Xx p g;clear f;have b:gZ p=if gD p=true then(if lA p=0 then qH p else lA p)else 7:=rfl
 generalize gZ p=u at *;generalize qH p=t at *;generalize lA p=o at *;generalize gD p=n at *;simp only[Pg.av,Pg.row]at *
 cases n with
 |false=>
  refine bX 14 [.tmp 2] func32 ?_;refine aA fun K a=>?_;simp only[RR,seval];refine aM fun i l=>?_;simp only[RR,seval];refine a _ _ (aI (aA fun K a=>?_));simp only[RR,seval];refine aO (d) ?_;simp only[RR,seval];refine a _ _ (cR (aA fun K a=>?_));simp only[RR,seval];apply a;refine aN ?_;simp only[aW,aJ,bN,RR,seval];refine aY.pure ?_;rw[b];rfl
 |true=>
  have c:=c rfl;rw[bH rfl]at b;refine bX 14 [.tmp 2] func32 ?_;refine aA fun K a=>?_;simp only[RR,seval];refine aM fun i l=>?_;simp only[RR,seval];refine a _ _ (aI (aA fun K a=>?_));simp only[RR,seval];refine aO (d) ?_;simp only[RR,seval];refine a _ _ (bL ?_);refine aK ?_;simp only[RR];refine aI (aA fun K a=>?_);simp only[RR,seval];refine aO (c) ?_;simp only[RR,seval];refine a _ _ (aA fun K a=>?_);simp only[RR,seval];refine a _ _ (aU ?_ ?_)<;>intro e
  ·refine aA fun K a=>?_
   simp only[RR,seval];apply a;refine aN ?_;simp only[aW,aJ,bN,RR,seval];refine aY.pure ?_;rw[b,aL (by simpa using e)]
  refine aK ?_;try simp only[RR]
  refine aA fun K a=>?_;simp only[RR,seval];refine aO (k) ?_;simp only[RR,seval];apply a;refine aN ?_;simp only[aW,aJ,bN,RR,seval];refine aY.pure ?_;rw[b,bH (by simpa using e)]
theorem Xv (s:dC):eN dV 33 [.str s] (.bool (vQ s)):=by
 rcases s with _|⟨c,_|⟨d,l⟩⟩
 ·skip
  refine bX 20 [.tmp 2] func33 ?_;refine aA fun K a=>?_;simp only[RR,seval];refine a _ _ (aA fun K a=>?_);simp only[RR,seval];apply a;refine aN ?_;simp only[aW,aJ,bN,RR,seval];refine aY.pure ?_;rfl
 ·skip
  refine bX 20 [.tmp 2] func33 ?_;refine aA fun K a=>?_;simp only[RR,seval];refine a _ _ (aA fun K a=>?_);simp only[RR,seval]
  repeat' ((refine eE (fun h=>?_) (fun h=>?_))<;>simp only[h,RR,seval])
  all_goals
   apply a;refine aN ?_;simp only[aW,aJ,bN,RR,seval];refine aY.pure ?_;simp [vQ, *]
 have z:decide (((c::d::l).length:Int)=1)=false:=bA (by simp only[aQ];omega);refine bX 20 [.tmp 2] func33 ?_;refine aA fun K a=>?_;simp only[RR,seval];refine a _ _ (aA fun K a=>?_);simp only[RR,seval];apply a;refine aN ?_;simp only[aW,aJ,bN,RR,seval];refine aY.pure ?_;rfl
theorem I3 (n:Nat): ∀l:List Ex,sN l≤n→n≤1000000000→eN dV 60 [.isl 5 (l.map Ex.row)] (.bool (l.all (As rJ))):=by
 induction n using Nat.strongRecOn with
 |_ n ih=>
  intro l hn hb;have b1:=Ce l
  have a1: ∀e∈l,eN dV 60 [.isl 5 (e.kids.map Ex.row)] (.bool (e.kids.all (As rJ))):=fun e he=>by
   have P:=nJ he;have h2:=e.sz_eq;exact ih (sN e.kids) (by omega) e.kids (bI _) (by omega)
  have Y: ∀{k:Nat} {e:Ex},l[k]?=some e→As rJ e=false→AV.bool false=AV.bool (l.all (As rJ)):=fun W P=>by rw[pQ W P]
  clear ih;refine bX 25 [.tmp 2] func60 ?_;refine aA fun K a=>?_;simp only[RR,seval];refine a _ _ (aI (aA fun K a=>?_));simp only[aE,RR,seval];refine a _ _ (bM fun F1 M1 c Q=>?_);have v:=c 2;have g:=c 5;have i:=c 6;have d:=c 7;simp only[RR,seval]at v g i d;refine aP (eO [5,6] (l.length) (fun k y M=>y 7= .int .i64 (k:Nat)∧(l.take k).all (As rJ)=true) ⟨d,rfl⟩ ?_);rintro k A M2 b0 ⟨J,G⟩ b K0 X;have g:=(b 5 rfl).trans g;have i:=(b 6 rfl).trans i;have d:=J;clear J;have t:=aX.refl [5,6] A;clear b;refine aA fun K a=>?_;simp only[i,d,RR,seval];refine a _ _ (aI (aU ?_ ?_))<;>intro E
  ·have H:k<l.length:=by have:=aB E;omega
   clear E;have F:=aF H;have a0:=a1 _ (bW H);have D:=Y F;have S:=nH F G;have hg:=qG F;generalize l[k]=e at *;rw[Dv]at D S;generalize e.kids.all (As rJ)=I at *;refine aK ?_;simp only[RR];refine aI (aP (aA fun K a=>?_));simp only[g,d,hg,RR,seval];refine aM fun u b2=>?_;simp only[RR,seval];refine a _ _ (aI (aA fun K a=>?_));simp only[RR,seval];refine a _ _ (aP (aI (bM fun B C c Q=>?_)));have v:=c 2;have x:=c 4;have L:=c 5;have N:=c 6;have O:=c 7;have f:=c 12;have z:=Q u;simp only[g,i,d,RR,seval]at v x L N O f z;have t:aX [5,6] A B:=aX.same c (by repeat (first|exact t|refine aX.upd rfl ?_));have g:=L;have i:=N;have d:=O;refine fQ (fun y M=>aX [2,4,5,6,7,12] B y∧M u=C u∧y 13= .bool (rJ e.kind)) (fun a3 p=>?_) ?_
   ·have j:=aX.refl [2,4,5,6,7,12] B
    have o:C u=C u:=rfl;refine aA fun K a=>?_;simp only[f,RR,seval];refine a _ _ (aU ?_ ?_)<;>intro a5
    ·refine aK ?_;try simp only[RR]
     refine p _ _ ⟨(by repeat (first|exact j|refine aX.upd rfl ?_)),o, ?_⟩;simp only[aT,seval];simp_all [rJ]
    refine aA fun K a=>?_;simp only[f,RR,seval];refine a _ _ (aU ?_ ?_)<;>intro a7
    ·refine aK ?_;try simp only[RR]
     refine p _ _ ⟨(by repeat (first|exact j|refine aX.upd rfl ?_)),o, ?_⟩;simp only[aT,seval];simp_all [rJ]
    refine aA fun K a=>?_;simp only[f,RR,seval];refine a _ _ (aU ?_ ?_)<;>intro a8
    ·refine aK ?_;try simp only[RR]
     refine p _ _ ⟨(by repeat (first|exact j|refine aX.upd rfl ?_)),o, ?_⟩;simp only[aT,seval];simp_all [rJ]
    refine aA fun K a=>?_;simp only[f,RR,seval];refine a _ _ (aU ?_ ?_)<;>intro a9
    ·refine aK ?_;try simp only[RR]
     refine p _ _ ⟨(by repeat (first|exact j|refine aX.upd rfl ?_)),o, ?_⟩;simp only[aT,seval];simp_all [rJ]
    refine aA fun K a=>?_;simp only[f,RR,seval];refine a _ _ (aU ?_ ?_)<;>intro a4
    ·refine aK ?_;try simp only[RR]
     refine p _ _ ⟨(by repeat (first|exact j|refine aX.upd rfl ?_)),o, ?_⟩;simp only[aT,seval];simp_all [rJ]
    refine aG ?_;simp only[f,RR,seval];refine p _ _ ⟨(by repeat (first|exact j|refine aX.upd rfl ?_)),o, ?_⟩;simp only[aT,seval];simp_all [rJ]
   rintro T M4 ⟨b,V,U⟩;have v:=(b 2 rfl).trans v;have x:=(b 4 rfl).trans x;have g:=(b 5 rfl).trans g;have i:=(b 6 rfl).trans i;have d:=(b 7 rfl).trans d;have f:=(b 12 rfl).trans f;have z:=V.trans z;have t:aX [5,6] A T:=aX.sub b rfl t;clear b;simp only[RR,seval];refine dN _ U (fun Z=>?_) (fun Z=>?_)
   ·refine aK ?_;try simp only[RR]
    refine aA fun K a=>?_;simp only[x,z,RR,seval];refine aO (a0) ?_;simp only[RR,seval];refine a _ _ (aU ?_ ?_)<;>intro R
    ·refine aA fun K a=>?_
     simp only[RR,seval];apply a;refine aN ?_;simp only[aW,aJ,bN,RR,seval];refine aY.pure ?_;exact D (by rw[(by simpa using R:I=false)];simp only[lG])
    refine aK ?_;try simp only[RR]
    refine aG ?_;simp only[d,RR,seval];rw[aS _ (by omega)];refine X _ _ H ⟨by rfl,S (by rw[‹rJ e.kind=true›,(by simpa using R:I=true)];rfl)⟩ (by repeat (first|exact t|refine aX.upd rfl ?_))
   refine aA fun K a=>?_;simp only[RR,seval];apply a;refine aN ?_;simp only[aW,aJ,bN,RR,seval];refine aY.pure ?_;exact D (by rw[‹rJ e.kind=false›];rfl)
  have a2:k=l.length:=by have:=aD E;omega
  refine cF ?_;simp only[RR,seval];refine aA fun K a=>?_;simp only[RR,seval];apply a;refine aN ?_;simp only[aW,aJ,bN,RR,seval];refine aY.pure ?_
  (rw[a2,dD]at G;rw[G])
theorem I2 (n:Nat): ∀l:List Sm,oZ l≤n→n≤1000000000→eN dV 34 [.isl 5 (l.map Sm.row)] (.bool (l.all vP)):=by
 induction n using Nat.strongRecOn with
 |_ n ih=>
  intro l hn hb;have c3:=Cd l
  have b5: ∀e∈l,eN dV 34 [.isl 5 (e.thn.map Sm.row)] (.bool (e.thn.all vP)):=fun e V=>by
   have h1:=lU V;have h2:=e.sz_eq;exact ih (oZ e.thn) (by omega) e.thn (bI _) (by omega)
  have b3: ∀e∈l,eN dV 60 [.isl 5 (e.es.map Ex.row)] (.bool (e.es.all (As rJ))):=fun e V=>I3 _ e.es (bI _) (by have:=lU V;have:=e.sz_eq;omega);have a7: ∀{k:Nat} {e:Sm},l[k]?=some e→vP e=false→AV.bool false=AV.bool (l.all vP):=fun h0 h1=>by rw[pQ h0 h1]
  clear ih;refine bX 35 [.tmp 2] func34 ?_;refine aA fun K a=>?_;simp only[RR,seval];refine a _ _ (aI (aA fun K a=>?_));simp only[aE,RR,seval];refine a _ _ (bM fun F1 M1 c H=>?_);have u:=c 2;have g:=c 5;have i:=c 6;have d:=c 7;simp only[RR,seval]at u g i d;refine aP (eO [5,6] (l.length) (fun k z M=>z 7= .int .i64 (k:Nat)∧(l.take k).all vP=true) ⟨d,rfl⟩ ?_);rintro k B M2 c2 ⟨fx,X⟩ b K0 a4;have g:=(b 5 rfl).trans g;have i:=(b 6 rfl).trans i;have d:=fx;clear fx;have t:=aX.refl [5,6] B;clear b;refine aA fun K a=>?_;simp only[i,d,RR,seval];refine a _ _ (aI (aU ?_ ?_))<;>intro U
  ·have R:k<l.length:=by have:=aB U;omega
   clear U;have W:=aF R;have b1:=b5 _ (bW R);have b2:=b3 _ (bW R);have A:=a7 W;have Y:=nH W X;have hg:=Jg W;generalize l[k]=e at *;rw[Si]at A Y;generalize e.thn.all vP=a6 at *;generalize e.es.all (As rJ)=L at *;obtain⟨D,I⟩: ∃D,(if e.kind=4 then decide (e.els.length=0)else decide (e.kind=1)||decide (e.kind=2)||decide (e.kind=3)||decide (e.kind=5))=D:=⟨_,rfl⟩;rw[I]at A Y;refine aK ?_;simp only[RR];refine aI (aP (aA fun K a=>?_));simp only[g,d,hg,RR,seval];refine aM fun j c4=>?_;simp only[RR,seval];refine a _ _ (aI (aA fun K a=>?_));simp only[RR,seval];refine a _ _ (bM fun C S c H=>?_);have u:=c 2;have o:=c 4;have E:=c 5;have F:=c 6;have G:=c 7;have f:=c 12;have p:=H j;simp only[g,i,d,RR,seval]at u o E F G f p;have t:aX [5,6] B C:=aX.same c (by repeat (first|exact t|refine aX.upd rfl ?_));have g:=E;have i:=F;have d:=G;refine fQ (fun z M=>aX [4,5,6,7,12] C z∧M j=S j∧D=true) (fun b7 a1=>?_) ?_
   ·have x:=aX.refl [4,5,6,7,12] C
    have y:S j=S j:=rfl;refine aP (aI (bM fun J T c H=>?_));have g2:=c 2;have g4:=c 4;have E:=c 5;have F:=c 6;have G:=c 7;have a0:=c 12;have v:=H j;simp only[u,o,g,i,d,f,p,seval]at g2 g4 E F G a0 v;have t:aX [5,6] B J:=aX.same c (by repeat (exact t));have x:aX [4,5,6,7,12] C J:=aX.same c (by repeat (exact x));have y:=(H j).trans y;have u:=g2;have o:=g4;have g:=E;have i:=F;have d:=G;have f:=a0;have p:=v;refine fQ (fun z M=>aX [2,4,5,6,7,12] J z∧M j=T j∧z 13= .bool (decide (e.kind=1)||decide (e.kind=2)||decide (e.kind=3)||decide (e.kind=5))) (fun b8 P=>?_) ?_
    ·have N:=aX.refl [2,4,5,6,7,12] J
     have O:T j=T j:=rfl;refine aA fun K a=>?_;simp only[f,RR,seval];refine a _ _ (aU ?_ ?_)<;>intro b9
     ·refine aK ?_;try simp only[RR]
      refine P _ _ ⟨(by repeat (first|exact N|refine aX.upd rfl ?_)),O, ?_⟩;simp only[aT,seval];simp_all
     refine aA fun K a=>?_;simp only[f,RR,seval];refine a _ _ (aU ?_ ?_)<;>intro c0
     ·refine aK ?_;try simp only[RR]
      refine P _ _ ⟨(by repeat (first|exact N|refine aX.upd rfl ?_)),O, ?_⟩;simp only[aT,seval];simp_all
     refine aA fun K a=>?_;simp only[f,RR,seval];refine a _ _ (aU ?_ ?_)<;>intro c1
     ·refine aK ?_;try simp only[RR]
      refine P _ _ ⟨(by repeat (first|exact N|refine aX.upd rfl ?_)),O, ?_⟩;simp only[aT,seval];simp_all
     refine aG ?_;simp only[f,RR,seval];refine P _ _ ⟨(by repeat (first|exact N|refine aX.upd rfl ?_)),O, ?_⟩;simp only[aT,seval];simp_all
    rintro Z M5 ⟨b,v,a3⟩;have u:=(b 2 rfl).trans u;have o:=(b 4 rfl).trans o;have g:=(b 5 rfl).trans g;have i:=(b 6 rfl).trans i;have d:=(b 7 rfl).trans d;have f:=(b 12 rfl).trans f;have p:=v.trans p;have t:aX [5,6] B Z:=aX.sub b rfl t;have x:aX [4,5,6,7,12] C Z:=aX.sub b rfl x;have y:=v.trans y;clear b;simp only[RR,seval];refine dN _ a3 (fun a9=>?_) (fun a9=>?_)
    ·refine aK ?_;try simp only[RR]
     refine a1 _ _ ⟨(by repeat (exact x)),y, ?_⟩;rw[←I];split
     ·simp_all
     simp_all
    refine aA fun K a=>?_;simp only[f,RR,seval];refine a _ _ (aU ?_ ?_)<;>intro a2
    ·refine aA fun K a=>?_
     simp only[o,p,aE,RR,seval];refine a _ _ (aU ?_ ?_)<;>intro a8
     ·refine aA fun K a=>?_
      simp only[RR,seval];apply a;refine aN ?_;simp only[aW,aJ,bN,RR,seval];refine aY.pure ?_;exact A (by rw[show D=false by(rw[←I,bH (aB a2)];exact bA (by have:=aB a8;omega))];rfl)
     refine aK ?_;try simp only[RR]
     refine a1 _ _ ⟨(by repeat (first|exact x|refine aX.upd rfl ?_)),y, ?_⟩;rw[←I];split
     ·simp_all
     simp_all
    refine aA fun K a=>?_;simp only[RR,seval];apply a;refine aN ?_;simp only[aW,aJ,bN,RR,seval];refine aY.pure ?_;exact A (by rw[show D=false by(rw[←I,aL (aD a2)];exact ‹(decide (e.kind=1)||decide (e.kind=2)||decide (e.kind=3)||decide (e.kind=5))=false›)];rfl)
   rintro F6 M6 ⟨b,v,b0⟩;have o:=(b 4 rfl).trans o;have g:=(b 5 rfl).trans g;have i:=(b 6 rfl).trans i;have d:=(b 7 rfl).trans d;have f:=(b 12 rfl).trans f;have p:=v.trans p;have t:aX [5,6] B F6:=aX.sub b rfl t;clear b;simp only[RR,seval];refine aA fun K a=>?_;simp only[o,p,RR,seval]
   all_goals (refine aO (b2) ?_;simp only[RR,seval])
   all_goals ((refine bZ (fun h=>?_) (fun h=>?_))<;>simp only[h,o,p,RR,seval])
   all_goals try (refine aO (b1) ?_;simp only[RR,seval])
   all_goals
    refine a _ _ (aU ?_ ?_)<;>intro Q
    ·try (cases Q;done)
     all_goals
      refine aA fun K a=>?_;simp only[RR,seval];apply a;refine aN ?_;simp only[aW,aJ,bN,RR,seval];refine aY.pure ?_
      first|exact A (by rw[(by simpa using ‹(!L)=true› :L=false)];simp only[lG,fB])|exact A (by rw[(by simpa using Q:a6=false)];simp only[lG])
    try (cases Q;done)
    all_goals
     refine aK ?_;simp only[RR];refine aG ?_;simp only[d,RR,seval];rw[aS _ (by omega)];refine a4 _ _ R ⟨by rfl,Y (by rw[b0,(by simpa using ‹(!L)=false› :L=true),(by simpa using Q:a6=true)];rfl)⟩ (by repeat (first|exact t|refine aX.upd rfl ?_))
  have b6:k=l.length:=by have:=aD U;omega
  refine cF ?_;simp only[RR,seval];refine aA fun K a=>?_;simp only[RR,seval];apply a;refine aN ?_;simp only[aW,aJ,bN,RR,seval];refine aY.pure ?_
  (rw[b6,dD]at X;rw[X])
theorem Ip (p:Pg) (T:p.ok) (a3:gD p=true→p.few) (B:eN dV 32 [p.av] (.int .i64 (gZ p))):eN dV 14 [p.av] (.bool (jB (fun l=>l.all vP) p)):=by
 have c:jB (fun l=>l.all vP) p=(decide (gZ p=0)&&(decide (p.funs.length=1)&&(p.funs.all (fun g=>decide (g.locs.length=0))&&(decide (p.arrs.length≤1)&&(p.vars.all vQ&&(p.arrs.all Nl&&p.funs.all fun g=>g.body.all vP)))))):=rfl;have fv:p.vars.length≤9223372036854775807:=T.vars.fit;have fa:p.arrs.length≤9223372036854775807:=T.afit;have a0:gZ p=0→ ∀g∈p.funs,eN dV 34 [.isl 5 (g.body.map Sm.row)] (.bool (g.body.all vP)):=fun h g Q=>I2 _ g.body (bI _) (by have:=(a3 (pB h)).fs g Q;omega);clear a3 T;generalize gZ p=so at *;generalize jB (fun l=>l.all vP) p=a8 at *;obtain⟨vs,n,fs⟩:=p;simp only[Pg.av,Pg.row]at *;by_cases X:so=0
 rotate_left
 ·rw[bA X,fB]at c
  subst c;refine bX 64 [.tmp 2] func14 ?_;refine aA fun K b=>?_;simp only[RR,seval];refine aM fun e H=>?_;simp only[RR,seval];refine b _ _ (aI (aA fun K b=>?_));simp only[RR,seval];refine aO (B) ?_;simp only[X,RR,seval];refine b _ _ (cR (aA fun K b=>?_));simp only[RR,seval];apply b;refine aN ?_;simp only[aW,aJ,bN,RR,seval];refine aY.pure ?_;rfl
 subst X;by_cases Y:fs.length=1
 rotate_left
 ·rw[bA Y,fB,lG]at c
  subst c;have V:decide ((fs.length:Int)=1)=false:=bA (by omega);refine bX 64 [.tmp 2] func14 ?_;refine aA fun K b=>?_;simp only[RR,seval];refine aM fun e H=>?_;simp only[RR,seval];refine b _ _ (aI (aA fun K b=>?_));simp only[RR,seval];refine aO (B) ?_;simp only[aE,V,RR,seval];refine b _ _ (cR (aA fun K b=>?_));simp only[RR,seval];apply b;refine aN ?_;simp only[aW,aJ,bN,RR,seval];refine aY.pure ?_;rfl
 obtain⟨f,rfl⟩:=List.length_eq_one_iff.1 Y;have hb:=a0 rfl f (bD.2 rfl);have U:f.row=[.str f.name, .isl 1 (f.params.map bQ), .isl 1 (f.locs.map bQ), .bool f.word, .isl 5 (f.body.map Sm.row)]:=rfl;have w1:decide ((([f]:List Fu).length:Int)=1)=true:=rfl;have w2:(0:Int)<(([f]:List Fu).length:Int):=by simp
 simp only[dG,fO,hY,aQ,aV,bT,mZ,cB]at c;clear Y a0;by_cases z2:f.locs.length=0
 rotate_left
 ·rw[bA z2,fB]at c
  subst c;have V:decide ((0:Int)<(f.locs.length:Int))=true:=cD (by omega);have Q:([f].map Fu.row)[0]?=some [.str f.name, .isl 1 (f.params.map bQ), .isl 1 (f.locs.map bQ), .bool f.word, .isl 5 (f.body.map Sm.row)]:=qF rfl;refine bX 64 [.tmp 2] func14 ?_;refine aA fun K b=>?_;simp only[U,RR,seval];refine aM fun e H=>?_;simp only[RR,seval];refine b _ _ (aI (aA fun K b=>?_));simp only[RR,seval];refine aO (B) ?_;simp only[aE,V,RR,seval];refine b _ _ (cR (aA fun K b=>?_));simp only[RR,seval];apply b;refine aN ?_;simp only[aW,aJ,bN,RR,seval];refine aY.pure ?_;rfl
 rw[cD z2,cB]at c;have y2:decide ((0:Int)<(f.locs.length:Int))=false:=bA (by omega);have Q:([f].map Fu.row)[0]?=some [.str f.name, .isl 1 (f.params.map bQ), .isl 1 (f.locs.map bQ), .bool f.word, .isl 5 (f.body.map Sm.row)]:=qF rfl;by_cases z3:n.length≤1
 rotate_left
 ·rw[bA z3,fB]at c
  subst c;have W:decide ((1:Int)<(n.length:Int))=true:=cD (by omega);refine bX 64 [.tmp 2] func14 ?_;refine aA fun K b=>?_;simp only[U,RR,seval];refine aM fun e H=>?_;simp only[RR,seval];refine b _ _ (aI (aA fun K b=>?_));simp only[RR,seval];refine aO (B) ?_;simp only[aE,y2,W,RR,seval];refine b _ _ (cR (aA fun K b=>?_));simp only[RR,seval];apply b;refine aN ?_;simp only[aW,aJ,bN,RR,seval];refine aY.pure ?_;rfl
 rw[cD z3,cB]at c;have W:decide ((1:Int)<(n.length:Int))=false:=bA (by omega);have b8: ∀{k:Nat} {s:dC},vs[k]?=some s→vQ s=false→AV.bool false=AV.bool a8:=fun N O=>by rw[c,pQ N O];rfl
 have b7: ∀{k:Nat} {a:Ar},n[k]?=some a→Nl a=false→AV.bool false=AV.bool a8:=fun N O=>by rw[c,pQ N O];simp only[fB,lG]
 generalize f.body.all vP=a6 at *;refine bX 64 [.tmp 2] func14 ?_;refine aA fun K b=>?_;simp only[U,RR,seval];refine aM fun e H=>?_;simp only[RR,seval];refine b _ _ (aI (aA fun K b=>?_));simp only[RR,seval];refine aO (B) ?_;simp only[aE,y2,W,RR,seval];refine b _ _ (bL ?_);refine aK ?_;simp only[RR];refine aI (aA fun K b=>?_);simp only[aE,RR,seval];refine b _ _ (bM fun F1 M1 d P=>?_);have t:=d 1;have J:=d 2;have C:=d 32;have D:=d 33;have y:=d 34;have i:=P e;simp only[RR,seval]at t J C D y i;refine aP (eO [1,32,33] (vs.length) (fun k L M=>L 34= .int .i64 (k:Nat)∧M e=M1 e∧(vs.take k).all vQ=true) ⟨y,rfl,rfl⟩ ?_);rintro k F2 M2 d0 ⟨A,u,S⟩ o K0 b4;have t:=(o 1 rfl).trans t;have C:=(o 32 rfl).trans C;have D:=(o 33 rfl).trans D;have y:=A;clear A;have i:=u.trans i;have a9:=aX.refl [1,32,33] F2;have b2:=u;clear o;refine aA fun K b=>?_;simp only[D,y,RR,seval];refine b _ _ (aI (aU ?_ ?_))<;>intro v
 ·have a4:k<vs.length:=by have:=aB v;omega
  clear v;have x:=aF a4;have c3:=Xv vs[k];have G:=b8 x;have I:=nH x S;have c0:=Nv x;generalize vs[k]=s at *;generalize vQ s=a5 at *;refine aK ?_;simp only[RR];refine aI (aP (aA fun K b=>?_));simp only[C,y,c0,RR,seval];refine b _ _ (aA fun K b=>?_);simp only[RR,seval];refine aO (c3) ?_;simp only[RR,seval];refine b _ _ (aU ?_ ?_)<;>intro a2
  ·refine aA fun K b=>?_
   simp only[RR,seval];apply b;refine aN ?_;simp only[aW,aJ,bN,RR,seval];refine aY.pure ?_;exact G (by simpa using a2)
  refine aK ?_;try simp only[RR]
  refine aG ?_;simp only[y,RR,seval];rw[aS _ (by omega)];refine b4 _ _ a4 ⟨by rfl,b2,I (by simpa using a2)⟩ (by repeat (first|exact a9|refine aX.upd rfl ?_))
 have c1:k=vs.length:=by have:=aD v;omega
 rw[c1,dD]at S;rw[S,cB]at c;refine cF ?_;simp only[RR,seval];refine aI (aA fun K b=>?_);simp only[t,i,aE,RR,seval];refine b _ _ (bM fun F3 M3 d P=>?_);have Z:=d 1;have J:=d 2;have E:=d 43;have F:=d 44;have z:=d 45;have u:=P e;simp only[t,i,RR,seval]at Z J E F z u;have t:=Z;have i:=u;refine aP (eO [1,43,44] (n.length) (fun j L M=>L 45= .int .i64 (j:Nat)∧M e=M3 e∧(n.take j).all Nl=true) ⟨z,rfl,rfl⟩ ?_);rintro j F4 M4 d1 ⟨A,u,R⟩ o K2 b5;have t:=(o 1 rfl).trans t;have E:=(o 43 rfl).trans E;have F:=(o 44 rfl).trans F;have z:=A;clear A;have i:=u.trans i;have b0:=aX.refl [1,43,44] F4;have b3:=u;clear o;refine aA fun K b=>?_;simp only[F,z,RR,seval];refine b _ _ (aI (aU ?_ ?_))<;>intro v
 ·have a7:j<n.length:=by have:=aB v;omega
  clear v;have x:=aF a7;have G:=b7 x;have I:=nH x R;have b9:=N2 x;generalize n[j]=a at *;have c5:Nl a=(decide (a.name=[116])&&decide (a.size=4096)):=rfl;rw[c5]at G I;generalize c6:decide (a.name=[116])=x1 at *;generalize c7:decide (a.size=4096)=x2 at *;refine aK ?_;simp only[RR];refine aI (aP (aA fun K b=>?_));simp only[E,z,b9,RR,seval];refine aM fun b6 c4=>?_;have c9:=cY c4 i;have c8:=c9.symm;simp only[RR,seval];refine b _ _ (aA fun K b=>?_);simp only[c6,RR,seval]
  repeat' ((refine bZ (fun h=>?_) (fun h=>?_))<;>simp only[h,c7,RR,seval])
  all_goals
   refine b _ _ (aU ?_ ?_)<;>intro a1
   ·try (cases a1;done)
    all_goals
     refine aA fun K b=>?_;simp only[RR,seval];apply b;refine aN ?_;simp only[aW,aJ,bN,RR,seval];refine aY.pure ?_;exact G (by simp_all)
   try (cases a1;done)
   all_goals
    refine aK ?_;simp only[RR];refine aG ?_;simp only[z,RR,seval];rw[aS _ (by omega)];refine b5 _ _ a7 ⟨by rfl,(by(simp only[c8,aT,seval];exact b3)),I (by simp_all)⟩ (by repeat (first|exact b0|refine aX.upd rfl ?_))
 have c2:j=n.length:=by have:=aD v;omega
 rw[c2,dD]at R;rw[R,cB]at c;refine cF ?_;simp only[RR,seval];refine aA fun K b=>?_;simp only[t,i,RR,seval];refine aO (hb) ?_;simp only[RR,seval];apply b;refine aN ?_;simp only[aW,aJ,bN,RR,seval];refine aY.pure ?_;rw[c]
end Go.Proofs.YtaecpjgmcffliaaGreatDoor
namespace Go.Proofs
open Go.Al Go.Proofs.Tryz
section
open Go.Lib Go.RowKit Go.Al
abbrev TB:TypeId:=73
abbrev TQ:TypeId:=71
abbrev TU:TypeId:=5
theorem W6:(Tryz.prog.info? TQ).map (·.size)=some 2:=by kernel_rfl
theorem PN:liesAt Tryz.prog Tryz.prog.depth TB (2/Tryz.prog.cellsOf TB) 0 TQ 1=true:=by kernel_rfl
theorem Jr (b:Nat) (w:World) (d:w.cell? ⟨b,0,none⟩=some (.pointer (some ⟨b,0,none⟩))):
  Calls Tryz.prog 55 #[.pointer (some ⟨b,0,none⟩)] w fun e c=>e= .returned (.tuple #[])∧c=w:=by
 obtain⟨j,a,_⟩:=bR.1 W6
 go_enter func55,Tryz.ntmps55
 go_wp2
 rw[Lib.run_neq_ptr_same w _ Tryz.underlying68 a]
 go_wp2
 go_end0
 exact⟨rfl,rfl⟩
theorem Gm (b:Nat) (w:World) (g:w.cell? ⟨b,0,none⟩=some (.pointer none)) (c:w.shape? b=some (TB,2)) (i:w.frozen? ⟨b,0,none⟩=false):
  Calls Tryz.prog 55 #[.pointer (some ⟨b,0,none⟩)] w fun e f=>e= .returned (.tuple #[])∧f=w.setCell ⟨b,0,none⟩ (.pointer (some ⟨b,0,none⟩)):=by
 obtain⟨j,a,d⟩:=bR.1 W6
 go_enter func55,Tryz.ntmps55
 go_wp2
 rw[Lib.run_to_unsafe w ⟨b,0,none⟩ Tryz.underlying68 Tryz.underlying136 a (by rw[d];decide) c (Nat.zero_lt_succ 1)];simp only[Result.andThen];rw[Oper.upon_value]
 go_wp2
 rw[run_callFunc_extern func80 (by kernel_rfl) (by kernel_rfl) (by kernel_rfl) (e:=Extern.AbiNoEscape.same) (by kernel_rfl)];rw[Lib.run_noEscape];simp only[Result.andThen];rw[Oper.upon_value]
 go_wp2
 rw[Lib.run_from_unsafe w ⟨b,0,none⟩ Tryz.underlying136 Tryz.underlying68 a c PN];simp only[Result.andThen];rw[Oper.upon_value]
 go_wp2
 go_end0
 exact⟨rfl,rfl⟩
theorem Fb (b:Nat) (p v:Value) (w:World) (a:w.heap[b]?=some (.cells #[p,v] TB (0,0))) (f:p= .pointer none∨p= .pointer (some ⟨b,0,none⟩)):
  Calls Tryz.prog 55 #[.pointer (some ⟨b,0,none⟩)] w fun e c=>e= .returned (.tuple #[])∧c.heap[b]?=some (.cells #[.pointer (some ⟨b,0,none⟩),v] TB (0,0))∧nU (fun k=>k=b) w c:=by
 have d:w.cell? ⟨b,0,none⟩=some p:=by rw[Lib.cell_of_heap a];rfl
 rcases f with rfl|rfl
 ·refine(Gm b w d (by simp [World.shape?,a]) (Lib.frozen_of_heap a 0)).mono ?_
  rintro e c ⟨rfl,rfl⟩;exact⟨rfl,by simp [World.setCell,tW,a],nU.setCell w _ _ rfl⟩
 refine(Jr b w d).mono ?_;rintro e c ⟨rfl,rfl⟩;exact⟨rfl,a,nU.refl _ _⟩
end
section
open Go.Lib Go.RowKit Go.Al
theorem Qa:(Tryz.prog.info? TU).map (fun i=>(i.zero,i.size,i.bytes))=some (some (.int .u8 0),1,1):=by kernel_rfl
theorem yY {P:Program} {w:World} {ops:Array Oper} {d:List Oper} {o:Oper} {a:Act} {Q:Exit→Act→World→Prop} (E:o.guard=none) (j x:Operand) (t u:TypeId)
  (M:o.op= .call {callee:= .builtin .append,args:= #[j,x],argTypes:= #[t,u]})
  (e:TypeId) (i:TypeInfo) (I:P.underlying t=some (.slice e)) (J:P.underlying u=some .string) (F:P.info? e=some i) (L:i.zero=some (.int .u8 0))
  (H:i.size=1) (D:i.bytes=1)
  (v:Value) (n:Nat) (xs:List Value) (O:a.eval j=v) (G:w.ownsRow 0 e 1 v n xs) (s:ByteArray) (R:a.eval x= .string s) (C:n+s.size≤140737488355328)
  (h: ∀b c,c.ownsRow 0 e 1 b (n+s.size) (xs++strCells s)→w.grownBy c v.ownBlock→(∀k f,w.shape? k=some f→c.shape? k=some f)→(∀g,b.ownBlock=some g→v.ownBlock=some g∨w.heap.size≤g)→(b= .slice none 0 0↔v= .slice none 0 0∧s.size=0)→wpList P ops Q d (a.put o.dst b) c):wpList P ops Q (o::d) a w:=by
 refine wpList_plain E fun K B=>?_;obtain⟨b,c,N,l,p,y,z,A⟩:=Zz (P:=P) w t u o.type e i I J F L H D v n xs G s C;unfold Oper.wp execOp;simp only[*,resolve,invoke,builtin,Sem.run_bind,Sem.run_pure,Result.andThen_ok,List.map_toArray,cN,dO];exact B _ _ (h b c l p y z A)
theorem Qh {M:Nat→Prop} {w a:World} {r:Option Nat} (h:w.grownBy a r) (g: ∀k b,w.shape? k=some b→a.shape? k=some b) (f: ∀k,r=some k→M k):nU M w a:=
 ⟨h.os,h.tape,h.output,h.size,fun k c d=>h.block k c fun e=>d (f k e.symm),g⟩
theorem Ni (b:Nat) (p v:Value) (n:Nat) (xs:List Value) (s:ByteArray) (w:World) (A:w.heap[b]?=some (.cells #[p,v] TB (0,0))) (P:p= .pointer none∨p= .pointer (some ⟨b,0,none⟩))
  (E:w.ownsRow 0 TU 1 v n xs) (I:n+s.size≤140737488355328):
  Calls Tryz.prog 29 #[.pointer (some ⟨b,0,none⟩), .string s] w fun e z=>e= .returned (.tuple #[.int .i64 s.size, .nilIface])∧
   ∃c,z.heap[b]?=some (.cells #[.pointer (some ⟨b,0,none⟩),c] TB (0,0))∧z.ownsRow 0 TU 1 c (n+s.size) (xs++strCells s)∧
    nU (fun k=>k=b∨v.ownBlock=some k) w z∧(∀g,c.ownBlock=some g→v.ownBlock=some g∨w.heap.size≤g)∧(c= .slice none 0 0↔v= .slice none 0 0∧s.size=0):=by
 obtain⟨U,H,R,S,T⟩:=info_parts Qa;have D:TB≠TU:=by decide
 have C:v.ownBlock≠some b:=Lib.ownBlock_ne E A D
 go_enter func29,Tryz.ntmps29
 go_wp2_with (go_at_call 55;refine(Fb b p v _ A P).mono ?_)
 rintro e t ⟨rfl,l,a⟩;have O:t.ownsRow 0 TU 1 v n xs:=E.kept (row:=some b) ⟨a.os,a.tape,a.output,a.size,fun k u K=>a.keep k u (fun e=>K (by rw[e]))⟩ (.inr C);have V:t.cell? ⟨b,0,none⟩=some (.pointer (some ⟨b,0,none⟩)):=by rw[Lib.cell_of_heap l];rfl
 have W:t.cell? ⟨b,1,none⟩=some v:=by rw[Lib.cell_of_heap l];rfl
 go_wp2_with (at_builtin;refine yY rfl _ _ 69 9 rfl TU U Tryz.underlying69 Tryz.underlying9 H R S T _ _ _ rfl O s rfl I ?_)
 intro c i x B Q M N;have J:b<t.heap.size:=(fD.1 l).1
 have f:i.heap[b]?=some (.cells #[.pointer (some ⟨b,0,none⟩),v] TB (0,0)):=by
  rw[B.block b J (fun e=>C e.symm)];exact l
 have Y:i.cell? ⟨b,0,none⟩=some (.pointer (some ⟨b,0,none⟩)):=by rw[Lib.cell_of_heap f];rfl
 have Z:i.cell? ⟨b,1,none⟩=some v:=by rw[Lib.cell_of_heap f];rfl
 have f1:i.frozen? ⟨b,1,none⟩=false:=Lib.frozen_of_heap f 1
 obtain⟨j,o,d,rfl⟩: ∃j o d,c= .slice j o d:=by
  rcases x.2 with⟨y,_⟩|⟨g,d,X,y,_⟩
  ·exact⟨_,_,_,y⟩
  exact⟨_,_,_,y⟩
 have L:(Value.slice j o d).ownBlock≠some b:=Lib.ownBlock_ne x f D;have a0:=a.size
 go_wp2
 go_ret2
 refine⟨rfl, .slice j o d,by simp [World.setCell,tW,f], ?_, ?_, ?_,by simpa using N⟩
 ·exact x.kept (row:=some b) ⟨rfl,rfl,rfl,by simp [World.setCell],fun k _ u=>Below.heap_setCell _ _ _ _ (fun e=>u (by simp [e]))⟩ (.inr L)
 ·exact((a.mono fun _ _ h=> .inl h).trans (Qh B (fun k F=>Q k F.1 F.2) fun k h=> .inr h)).trans (nU.setCell i _ _ (.inl rfl))
 intro g G;rcases M g G with h|h
 ·exact .inl h
 exact .inr (by omega)
end
section
open Go.Lib Go.RowKit Go.Al
theorem LM:Tryz.prog.cellsOf TU=1:=by kernel_rfl
theorem HN (b g cap:Nat) (p:Value) (l:List UInt8) (w:World) (d:l≠[]) (n:w.heap[b]?=some (.cells #[p, .slice (some ⟨g,0,none⟩) l.length cap] TB (0,0)))
  (a:Array Value) (k:w.heap[g]?=some (.cells a TU (0,0))) (o:a.size=cap) (t:l.length≤cap) (i:cap≤maxLen) (f: ∀(j:Nat) (x:UInt8),l[j]?=some x→a[j]?=some (.int .u8 x.toNat)):
  Calls Tryz.prog 30 #[.pointer (some ⟨b,0,none⟩)] w fun e v=>e= .returned (.string ⟨l.toArray⟩)∧v=w.drew.freeze ⟨g,0,none⟩ l.length:=by
 have B:l.length≠0:=by simpa using d
 have y:w.drew.cell? ⟨b,1,none⟩=some (.slice (some ⟨g,0,none⟩) l.length cap):=by
  have :w.drew.heap[b]?=some (.cells #[p, .slice (some ⟨g,0,none⟩) l.length cap] TB (0,0)):=n;rw[Lib.cell_of_heap this];rfl
 have z:(Builtin.unsafeSliceData_ #[69] 110 #[.slice (some ⟨g,0,none⟩) l.length cap]).run Tryz.prog w.drew= .ok (.pointer (some ⟨g,0,none⟩)) w.drew:=
  Lib.run_unsafeSliceData_row _ _ _ _ _ _ (by omega)
 have c:w.drew.heap[g]?=some (.cells a TU (0,0)):=k
 have A:(Builtin.unsafeString_ #[110,3] 9 #[.pointer (some ⟨g,0,none⟩), .int .i64 l.length]).run Tryz.prog w.drew= .ok (.string ⟨l.toArray⟩) (w.drew.freeze ⟨g,0,none⟩ l.length):=by
  refine Lib.run_unsafeString_row w.drew 110 3 9 TU Tryz.underlying110 LM g a.size (by simp [World.shape?,c]) l d (by omega) (by unfold maxLen at i;omega) ?_;intro j x u;rw[Addr.add_lit,Lib.cell_of_heap c,bT];exact f j x u
 clear k c f o i t
 go_enter func30,Tryz.ntmps30
 go_wp2
 go_region
 all_goals (go_wp2;go_ret;exact⟨rfl,rfl⟩)
theorem Rq (b:Nat) (p:Value) (w:World) (a:w.heap[b]?=some (.cells #[p, .slice none 0 0] TB (0,0))):
  Calls Tryz.prog 30 #[.pointer (some ⟨b,0,none⟩)] w fun e c=>e= .returned (.string ⟨#[]⟩)∧c=w.drew:=by
 have d:w.drew.cell? ⟨b,1,none⟩=some (.slice none 0 0):=by
  have :w.drew.heap[b]?=some (.cells #[p, .slice none 0 0] TB (0,0)):=a;rw[Lib.cell_of_heap this];rfl
 have f:(Builtin.unsafeSliceData_ #[69] 110 #[.slice none 0 0]).run Tryz.prog w.drew= .ok (.pointer none) w.drew:=rfl;have g: ∀(W:World) (q:Option Addr),(Builtin.unsafeString_ #[110,3] 9 #[.pointer q, .int .i64 0]).run Tryz.prog W= .ok (.string .empty) W:=fun W q=>Lib.run_unsafeString_none W _ _ _ q
 go_enter func30,Tryz.ntmps30
 go_wp2
 go_region
 all_goals (go_wp2;go_ret;exact⟨rfl,rfl⟩)
end
end Go.Proofs
namespace Go.Al
section
open Go.Proofs Go.Lib Go.RowKit
def mV (b:Nat) (bs:List UInt8) (H:Hp):Prop:=
 (bs=[]∧H b=some (.bld TB none 0))∨(bs≠[]∧ ∃g cap,H b=some (.bld TB (some (g,cap)) bs.length)∧H g=some (.buf TU bs cap))
def B9 (b:Nat) (bs:List UInt8) (H:Hp):Prop:=
 (bs=[]∧H=upd qZ b (some (.bld TB none 0)))∨(bs≠[]∧ ∃g cap,g≠b∧H=upd (upd qZ b (some (.bld TB (some (g,cap)) bs.length))) g (some (.buf TU bs cap)))
def pZ:iG→Prop
 | .rows _ _=>True
 | .amap _=>True
 |_=>False
theorem B9.h {b:Nat} {a:List UInt8} {H:Hp} (h:B9 b a H):mV b a H:=by
 rcases h with⟨e,rfl⟩|⟨e,g,c,d,rfl⟩
 ·exact .inl ⟨e,bE _ _ _⟩
 exact .inr ⟨e,g,c,by rw[cI _ _ (Ne.symm d),bE],bE _ _ _⟩
theorem mV.ne {b:Nat} {a:List UInt8} {H:Hp} {g cap:Nat} (d:H b=some (.bld TB (some (g,cap)) a.length)) (c:H g=some (.buf TU a cap)):g≠b:=fun e=>by
 rw[e,d]at c;cases c
theorem mV.least {b:Nat} {l:List UInt8} {H:Hp} (h:mV b l H): ∃j,B9 b l j∧sR j H∧ ∀x o,H x=some o→pZ o→j x=none:=by
 rcases h with⟨e,d⟩|⟨e,g,n,d,k⟩
 ·refine⟨_, .inl ⟨e,rfl⟩,fun x o a=>?_,fun x o a i=>?_⟩
  ·by_cases c:x=b
   ·subst c;rw[bE]at a;rw[d];exact a
   rw[cI _ _ c]at a;cases a
  by_cases c:x=b
  ·subst c;rw[d]at a;cases a;exact i.elim
  rw[cI _ _ c];rfl
 have p:=mV.ne d k;refine⟨_, .inr ⟨e,g,n,p,rfl⟩,fun x o a=>?_,fun x o a i=>?_⟩
 ·by_cases c:x=g
  ·subst c;rw[bE]at a;rw[k];exact a
  rw[cI _ _ c]at a;by_cases f:x=b
  ·subst f;rw[bE]at a;rw[d];exact a
  rw[cI _ _ f]at a;cases a
 have c:x≠g:=fun c=>by subst c;rw[k]at a;cases a;exact i
 have f:x≠b:=fun c=>by subst c;rw[d]at a;cases a;exact i
 rw[cI _ _ c,cI _ _ f];rfl
theorem mV.keep {b:Nat} {d:List UInt8} {H H':Hp} (h:mV b d H) (c: ∀x o,H x=some o→ ¬pZ o→H' x=some o):mV b d H':=by
 rcases h with⟨e,a⟩|⟨e,g,f,a,i⟩
 ·exact .inl ⟨e,c _ _ a (fun h=>h)⟩
 exact .inr ⟨e,g,f,c _ _ a (fun h=>h),c _ _ i (fun h=>h)⟩
theorem mV.new {b:Nat} {c:List UInt8} {H:Hp} (h:mV b c H) {x:Nat} (d:H x=none) (o:Option iG):mV b c (upd H x o):=
 h.keep fun y f a _=>by rw[cI _ _ (fun e=>by subst e;rw[d]at a;cases a)];exact a
theorem mV.new2 {b:Nat} {d:List UInt8} {H:Hp} (h:mV b d H) {x:Nat} (f:H x=none) (o g:Option iG):mV b d (upd (upd H x o) x g):=
 h.keep fun y i a _=>by
  have c:y≠x:=fun e=>by subst e;rw[f]at a;cases a
  rw[cI _ _ c,cI _ _ c];exact a
theorem mV.set {b:Nat} {c:List UInt8} {H:Hp} (h:mV b c H) {x:Nat} {o:iG} (g:H x=some o) (f:pZ o) (i:Option iG):mV b c (upd H x i):=
 h.keep fun y j a d=>by rw[cI _ _ (fun e=>by subst e;rw[g]at a;cases a;exact d f)];exact a
def Vb (E:kC) (g:FuncId) (args:List AV) (b:Nat) (bs:List UInt8) (v:AV) (out:List UInt8):Prop:= ∀H0,B9 b bs H0→oN E g args H0 (fun ae H'=>ae= .ret v∧B9 b (bs++out) H')
theorem Kz {E:kC} {F:Nat→Prop} {y:List (Option Nat)} {Q:fN} {d:Option Nat} {D:List Oper} {fr:Fr} {H:Hp} {g:FuncId} {p t:List AV} {b:Nat} {k C:List UInt8} {v:AV}
  (K:Vb E g t b k v C) (J:mV b k H) (N:fF p t) (I: ∀x o,H x=some o→ ¬pZ o→F x) (h: ∀i,mV b (k++C) i→(∀x o,H x=some o→pZ o→i x=some o)→(∀x o,i x=some o→pZ o→H x=some o)→eI E F y Q D (eW fr d v) i):qU E F y Q d D fr H g p:=by
 obtain⟨n,L,l,B⟩:=J.least
 refine nG (K n L) N l (fun x a=>by
  cases e:n x with
  |none=>exact absurd e a
  |some o=>exact I x o (l x o e) fun f=>by rw[B x o (l x o e) f]at e;cases e) fun R j ⟨e,A⟩ M=>?_
 subst e
 have O: ∀x o,j x=some o→ ¬pZ o:=fun x o a f=>by
  rcases A with⟨_,rfl⟩|⟨_,g,S,T,rfl⟩
  ·by_cases c:x=b
   ·subst c;rw[bE]at a;cases a;exact f
   rw[cI _ _ c]at a;cases a
  by_cases c:x=g
  ·subst c;rw[bE]at a;cases a;exact f
  rw[cI _ _ c]at a;by_cases u:x=b
  ·subst u;rw[bE]at a;cases a;exact f
  rw[cI _ _ u]at a;cases a
 refine h _ (A.h.keep fun x o a _=>by simp only[lJ,a]) (fun x o a f=>?_) (fun x o a f=>?_)
 ·have z:=B x o a f
  have G:j x=none:=by
   cases e:j x with
   |none=>rfl
   |some P=>
    rcases M x (by rw[e];simp)with c|c
    ·exact absurd z c
    rw[a]at c;cases c
  simp only[lJ,G,z,eQ,cH,dK,a]
 unfold lJ at a;split at a
 ·rename_i P e
  cases a;exact absurd f (O _ _ e)
 split at a
 ·cases a
 exact a
theorem CJ {E:kC} {F:Nat→Prop} {i:List (Option Nat)} {Q:fN} {d:Option Nat} {k:List Oper} {fr:Fr} {H:Hp} {g:FuncId} {e f:List AV} {b:Nat} {c j:List UInt8} {v:AV}
  (p:Vb E g f b c v j) (n:mV b c H) (t:fF e f) (l: ∀b,F b) (h: ∀a,mV b (c++j) a→(∀x o,H x=some o→pZ o→a x=some o)→(∀x o,a x=some o→pZ o→H x=some o)→eI E F i Q k (eW fr d v) a):qU E F i Q d k fr H g e:=by
 exact Kz p n t (fun x _ _ _=>l x) h
theorem uQ {E:kC} {F:Nat→Prop} {i:List (Option Nat)} {Q:fN} {d:Option Nat} {k:List Oper} {fr:Fr} {H:Hp} {g:FuncId} {e f:List AV} {b:Nat} {c j:List UInt8} {v:AV}
  (n:mV b c H) (p:Vb E g f b c v j) (t:fF e f) (l: ∀x o,H x=some o→ ¬pZ o→F x) (h: ∀a,mV b (c++j) a→(∀x o,H x=some o→pZ o→a x=some o)→(∀x o,a x=some o→pZ o→H x=some o)→eI E F i Q k (eW fr d v) a):qU E F i Q d k fr H g e:=
 Kz p n t l h
theorem gR {E:kC} {F:Nat→Prop} {i:List (Option Nat)} {Q:fN} {d:Option Nat} {k:List Oper} {fr:Fr} {H:Hp} {g:FuncId} {e f:List AV} {b:Nat} {c j:List UInt8} {v:AV}
  (n:mV b c H) (p:Vb E g f b c v j) (t:fF e f) (l: ∀b,F b) (h: ∀a,mV b (c++j) a→(∀x o,H x=some o→pZ o→a x=some o)→(∀x o,a x=some o→pZ o→H x=some o)→eI E F i Q k (eW fr d v) a):qU E F i Q d k fr H g e:=
 CJ p n t l h
theorem mV.gives {b:Nat} {a:List UInt8} {H:Hp} {v v':AV} (h:mV b a H) (e:v=v'):aY (fun f c=>f= .ret v'∧B9 b a c) v H:=by
 obtain⟨d,g,i,_⟩:=h.least;exact⟨v,d,lN.drop i,by rw[e],g⟩
theorem PO {E:kC} {N id d:Nat} {ty:TypeId} {e:String} {c:Array Edge} {T:TypeId} {g:TI} {Q:fN} {fr:Fr} {H:Hp} (hd:kY N ⟨some d, .alloc T,ty,e,c,none⟩=true) (D:cG E.P T=some g) (F:cellsOf g.zero=some [.npt, .nsl])
  (h: ∀b,H b=none→Q .normal (upd fr d (.ptr 2 b 0 0)) (upd H b (some (.bld T none 0)))):mD E N (.region id #[⟨some d, .alloc T,ty,e,c,none⟩] false) Q fr H:=fun O a w B=>by
 obtain⟨t,u,S,C,y⟩:=B;refine wp_region_list (wpList_plain rfl fun K x=>?_);obtain⟨z,G,k⟩:=mI D w;have f:=nL (nM S w z) (by rw[←k];exact F);simp only[dJ,cK]at f;obtain⟨I,L,i,rfl,J,M,rfl,rfl,rfl⟩:=f
 have A:(execOp a.eval ⟨some d, .alloc T,ty,e,c,none⟩).run E.P w= .ok (.value (.pointer (some ⟨w.heap.size,0,none⟩))) (w.alloc (.cells #[.pointer none, .slice none 0 0] T)):=by
  have j:z.cells= #[.pointer none, .slice none 0 0]:=by rw[←eU (xs:=z.cells),i]
  simp only[execOp,Instr.alloc,Sem.run_bind,G,Result.andThen_ok,newVar,newRow,run_newObj,Sem.run_pure,j];rfl
 obtain⟨l,n,p⟩:=C.alloc (ob:= .cells #[.pointer none, .slice none 0 0] T) (o:= .bld T none 0) (by simp only[jK];exact⟨_,heap_alloc_new w _, .inl rfl⟩);simp only[Oper.wp,A,Oper.upon_value];apply x;exact⟨_,_,Hf.put (o:=⟨some d, .alloc T,ty,e,c,none⟩) p (y.keeps n) t u hd (v:= .ptr 2 w.heap.size 0 0) (by simp only[cK]),h _ l⟩
end
section
open Go.Proofs Go.Lib Go.RowKit Go.Proofs.YtaecpjgmcffliaaGreatDoor
theorem O7 (a:List UInt8) (s:List UInt8):(a.map fun c=>Value.int .u8 (c.toNat:Int))++strCells ⟨s.toArray⟩=(a++s).map fun c=>Value.int .u8 (c.toNat:Int):=by
 rw[cO];rfl
theorem W4 {S:gK} {w:World} {g cap:Nat} {a:List UInt8} (h:jK S w g (.buf TU a cap)):w.ownsRow 0 TU 1 (.slice (some ⟨g,0,none⟩) a.length cap) a.length (a.map fun c=>Value.int .u8 (c.toNat:Int)):=by
 simp only[jK]at h;obtain⟨d,e,n,f,j,k⟩:=h;refine⟨by simp, .inr ⟨g,cap,d,rfl,cJ _,e,f,j,by omega, ?_⟩⟩;apply lF;intro i;rw[nA,eJ,dT];split
 ·rename_i l
  obtain⟨c,b⟩: ∃c,a[i]?=some c:=⟨_,aF l⟩;have:=k i c b;rw[Array.getElem?_toList,this,b];rfl
 rw[dS (by omega)];rfl
theorem U0 {S:gK} {w:World} {v:Value} {a:List UInt8} (o:v≠ .slice none 0 0) (h:w.ownsRow 0 TU 1 v a.length (a.map fun c=>Value.int .u8 (c.toNat:Int))): ∃g b,v= .slice (some ⟨g,0,none⟩) a.length b∧jK S w g (.buf TU a b):=by
 rcases h.2 with⟨h,_⟩|⟨g,b,e,rfl,_,f,j,k,p,l⟩
 ·exact absurd h o
 refine⟨g,b,rfl, ?_⟩;simp only[jK];refine⟨e,f,by omega,j,k,fun i c d=>?_⟩;have n:i<a.length:=(bF.1 d).1;have:=congrArg (·[i]?) l;simp only[nA,eJ,n,cT,dT,d,dY,Array.getElem?_toList]at this;exact this
theorem Hr {g:lS} {S:gK} {H:Hp} {w c:World} (hst:St dV g S H w) {M:Nat→Prop} (f:nU M w c) (l: ∀k,M k→H k≠none) {H':Hp} (j: ∀b o,H' b=some o→jK S c b o∧(H b≠none∨w.heap.size≤b)):St dV g S H' c:=
 hst.step f (fun k h _=>l k h) (fun _ h=>h) (fun k a=>sC (hst.lt k a) f.size) (fun k a=> .inl a) fun b o n=>by
  obtain⟨i,h2⟩:=j b o n;refine⟨fun d=>?_, .inr ⟨i,h2⟩⟩;rcases h2 with h2|h2
  ·cases e:H b with
   |none=>exact h2 e
   |some o'=>exact(hst.obj b o' e).2.1 d
  exact PZ _ (sC (hst.lt b d) h2)
theorem fH (b:Nat) (d s:List UInt8) (R:(d++s).length≤140737488355328):Vb dV 29 [.ptr 2 b 0 0, .str s] b d (.tup [.int .i64 (s.length:Nat), .nif]) s:=by
 intro t T;refine⟨⟨_,Tryz.func29,by kernel_rfl,by kernel_rfl⟩,fun w S vs n G=>?_⟩;simp only[dJ,cK]at G;obtain⟨_,_,rfl,rfl,_,_,rfl,rfl,rfl⟩:=G;have J:(⟨s.toArray⟩:ByteArray).size=s.length:=rfl
 -- the builder's block, and its buffer
 obtain⟨p,v,j,W,V,K,L,hd⟩: ∃p v,w.heap[b]?=some (.cells #[p,v] TB (0,0))∧(p= .pointer none∨p= .pointer (some ⟨b,0,none⟩))∧w.ownsRow 0 TU 1 v d.length (d.map fun c=>Value.int .u8 (c.toNat:Int))∧(v= .slice none 0 0↔d=[])∧(∀g,v.ownBlock=some g→t g≠none)∧t b≠none:=by
  rcases T with⟨rfl,rfl⟩|⟨e,g,i,I,rfl⟩
  ·have f:=(n.obj b _ (bE _ _ _)).1
   simp only[jK]at f;obtain⟨p,j,u⟩:=f;exact⟨p,_,j,u,⟨rfl, .inl ⟨rfl,rfl⟩⟩,by simp,fun g h=>(by simp [Value.ownBlock]at h),by rw[bE];simp⟩
  have f:=(n.obj b (.bld TB (some (g,i)) d.length) (by rw[cI _ _ (Ne.symm I),bE])).1;have U:=(n.obj g _ (bE _ _ _)).1;have X:=W4 U;simp only[jK]at f;obtain⟨p,j,u⟩:=f;refine⟨p,_,j,u,X,by simp [e],fun g' h=>?_,by rw[cI _ _ (Ne.symm I),bE];simp⟩;simp only[Value.ownBlock,Option.some.injEq]at h;subst h;rw[bE];simp
 have H:=Ni b p v d.length _ ⟨s.toArray⟩ w j W V (by rw[J,←aH];exact R);rw[O7,J]at H;refine H.mono fun e Z ⟨P,O,z,A,M,Y,N⟩=>?_
 have F: ∀k,(k=b∨v.ownBlock=some k)→t k≠none:=fun k hk=>by
  rcases hk with rfl|hk
  ·exact hd
  exact L k hk
 have E:vB S Z (.ret (.tup [.int .i64 (s.length:Nat), .nif])) e:=by
  subst P;simp only[vB,cK,dJ];exact⟨_,rfl,_,rfl,_,_,rfl,rfl,_,_,rfl,rfl,rfl⟩
 by_cases l:d++s=[]
 ·have y:O= .slice none 0 0:=N.2 ⟨K.2 (List.append_eq_nil_iff.1 l).1,by have:=(List.append_eq_nil_iff.1 l).2;simp [this]⟩
  subst y;refine⟨_,_,S,Hr n M F (H':=upd qZ b (some (.bld TB none 0))) fun x o a=>?_,E,rfl, .inl ⟨l,rfl⟩⟩;by_cases c:x=b
  ·subst c
   rw[bE]at a;cases a;exact⟨by simp only[jK];exact⟨_,z, .inr rfl⟩, .inl hd⟩
  rw[cI _ _ c]at a;cases a
 have y:O≠ .slice none 0 0:=fun e=>by
  obtain⟨B,C⟩:=N.1 e;rw[K]at B;rw[List.length_eq_zero_iff]at C;exact l (by rw[B,C];rfl)
 rw[←aH]at A;obtain⟨g,i,rfl,f⟩:=U0 (S:=S) y A;have Q:g≠b:=fun e=>Lib.ownBlock_ne A z (by decide) (by simp [Value.ownBlock,e]);refine⟨_,_,S,Hr n M F (H':=upd (upd qZ b (some (.bld TB (some (g,i)) (d++s).length))) g (some (.buf TU (d++s) i))) fun x o a=>?_,E,rfl, .inr ⟨l,g,i,Q,rfl⟩⟩;by_cases c:x=g
 ·subst c
  rw[bE]at a;cases a;refine⟨f, ?_⟩;rcases Y x rfl with h|h
  ·exact .inl (L x h)
  exact .inr h
 rw[cI _ _ c]at a;by_cases D:x=b
 ·subst D
  rw[bE]at a;cases a;exact⟨by simp only[jK];exact⟨_,z, .inr rfl⟩, .inl hd⟩
 rw[cI _ _ D]at a;cases a
theorem P8 (b:Nat) (a:List UInt8) (y:Hp) (P:B9 b a y):oN dV 30 [.ptr 2 b 0 0] y (fun H G=>H= .ret (.str a)∧G=qZ):=by
 refine⟨⟨_,Tryz.func30,by kernel_rfl,by kernel_rfl⟩,fun w S vs i C=>?_⟩;simp only[dJ,cK]at C;obtain⟨_,_,rfl,rfl,rfl⟩:=C
 have B: ∀d e,e= .returned (.string ⟨a.toArray⟩)→vB S d (.ret (.str a)) e:=fun d e h=>by
  simp only[vB,cK];exact⟨_,h,rfl⟩
 rcases P with⟨rfl,rfl⟩|⟨e,g,z,O,rfl⟩
 ·have f:=(i.obj b _ (bE _ _ _)).1
  simp only[jK]at f;obtain⟨p,n,_⟩:=f;refine(Rq b p w n).mono fun e d ⟨j,l⟩=>⟨_,qZ,S, ?_,B d e j,rfl,rfl⟩;subst l;exact Hr i (M:=fun _=>False) (nU.drew _ w) (fun _ h=>h.elim) fun x o v=>by cases v
 have f:=(i.obj b (.bld TB (some (g,z)) a.length) (by rw[cI _ _ (Ne.symm O),bE])).1;have E:=(i.obj g _ (bE _ _ _)).1;simp only[jK]at f E;obtain⟨p,n,_⟩:=f;obtain⟨A,t,J,K,L,N⟩:=E;refine(HN b g z p a w e n A t J K L N).mono fun e d ⟨j,l⟩=>⟨_,qZ,S, ?_,B d e j,rfl,rfl⟩;subst l;refine Hr i (M:=fun k=>k=g) ?_ (fun k h=>by subst h;rw[bE];simp) fun x o v=>by cases v
 refine(nU.drew _ w).trans ?_
 have D: ∀k,k≠g→(w.drew.freeze ⟨g,0,none⟩ a.length).heap[k]?=w.drew.heap[k]?:=fun k c=>by
  unfold World.freeze;split
  ·rfl
  simp only[tW];rw[aL (Ne.symm c)]
 refine⟨?_, ?_, ?_, ?_,fun k _ c=>D k c,fun k Q u=>?_⟩
 ·unfold World.freeze;split<;>rfl
 ·unfold World.freeze;split<;>rfl
 ·unfold World.freeze;split<;>rfl
 ·unfold World.freeze;split<;>simp
 by_cases c:k=g
 ·subst c
  have I:w.drew.heap[k]?=some (.cells A TU (0,0)):=t;unfold World.freeze;split
  ·exact u
  have F:w.shape? k=some Q:=u;simp only[World.shape?,t]at F;simp only[World.shape?,tW,cT,I,dY];exact F
 rw[rD (D k c)];exact u
end
section
open Go.Lib
theorem A0 {P:Program} (w:World) (t ty e:TypeId) (i:TypeInfo) (G:P.underlying t=some (.slice e)) (E:P.info? e=some i) (S:i.zero=some (.int .u8 0))
  (o:i.size=1) (M:i.bytes=1) (v:Value) (n:Nat) (xs:List Value) (B:w.ownsRow 0 e 1 v n xs) (k c:Nat) (z:Int) (f:w.cell? ⟨k,0,none⟩=some (.int .u8 z)) (hb:n+1≤140737488355328):
  ∃x a,(Builtin.append_ #[t,t] ty #[v, .slice (some ⟨k,0,none⟩) 1 c]).run P w= .ok x a∧a.ownsRow 0 e 1 x (n+1) (xs++[.int .u8 z])∧w.grownBy a v.ownBlock∧
   (∀k p,w.shape? k=some p→a.shape? k=some p)∧(∀g,x.ownBlock=some g→v.ownBlock=some g∨w.heap.size≤g)∧x≠ .slice none 0 0:=by
 have L:n+1≤maxLen:=by unfold maxLen;omega
 have F: ∀(j:Nat) u,([.int .u8 z]:List Value)[j]?=some u→w.cell? ((⟨k,0,none⟩:Addr).add j)=some u:=fun j u y=>by
  match j,y with
  |0,y=>simp at y;subst y;simpa [Addr.add]using f
 have K: ∀u∈([.int .u8 z]:List Value),u.oneCell'=true:=fun u R=>by simp at R;subst R;rfl
 have grow: ∀a,w.grownBy a none→ ∀k p,w.shape? k=some p→a.shape? k=some p:=fun a l k p D=>by
  have f:k<w.heap.size:=by
   unfold World.shape? at D;split at D
   ·rename_i h;exact(fD.1 h).1
   cases D
  have:=l.block k f (by simp);simp only[World.shape?,this]at *;exact D
 rcases B.2 with⟨rfl,rfl⟩|⟨g,b,d,rfl,U,l,a2,V,N,Z⟩
 ·obtain⟨x,a,I,J,T,q4⟩:=run_append_own (P:=P) w w.heap.size t ty e i (.int .u8 0) 1 1 G E S o M rfl (by decide) _ 0 xs ⟨B.1, .inl ⟨rfl,rfl⟩⟩ ⟨k,0,none⟩ 1 c _ rfl F K L (by omega) (bI _)
  refine⟨x,a,I,⟨J.1, ?_⟩,T,grow a T,fun g l=> .inr ?_,fun e=>by have:=(q4.1 e).2;omega⟩
  ·rcases J.2 with h|⟨g,b,d,I,_,q⟩
   ·exact .inl h
   exact .inr ⟨g,b,d,I,cJ _,q⟩
  exact(J.lt g l).1
 have H:xs.length=n:=by simpa using B.1
 have A:(xs++[Value.int .u8 z]).length=(n+1) *1:=by rw[aH,H];simp
 have a1:d.size=b:=by simpa using N
 by_cases Q:n+1≤b
 ·have C:=yK P w t ty e e i G E g n b d (0,0) l (.inl (bI _)) ⟨k,0,none⟩ 1 c [.int .u8 z] (by rw[o];rfl) F K Q (by rw[o];simp;omega)
  rw[o]at C
  have O:(d.toList.take (n *1)++[Value.int .u8 z]++d.toList.drop (n *1+[Value.int .u8 z].length)).toArray.size=d.size:=by
   simp only[Gt,aH,dU,fL,nV,bV];omega
  refine⟨_,_,C,⟨A, .inr ⟨g,b,_,rfl,U,setRow_heap w g d _ e _ l,Q,V,by rw[O];exact N, ?_⟩⟩,⟨rfl,rfl,rfl,by simp,fun k _ f=>setRow_other w g k _ (fun e=>f (by simp [Value.ownBlock,e]))⟩,zW w g d _ e l O,fun _ h=> .inl h,by simp⟩;have Y:d.toList.take (n *1)=xs:=by simpa using Z
  rw[Y,←A];exact ZP
 have C:=run_append_grow (P:=P) w t ty e i (.int .u8 0) G E S ⟨g,0,none⟩ n b xs (by rw[o];simpa using H) (B.cells (g:=g) rfl) ⟨k,0,none⟩ 1 c [.int .u8 z] (by rw[o];rfl) F (by omega) (by omega) (by rw[M];exact growslice_fits (by omega) (by omega));have X:=grownCap_ge w (n+1) b e;have W:w.grownBy (w.drew.alloc (.cells (xs.toArray++[Value.int .u8 z].toArray++Builtin.zeroCells (Value.int .u8 0).cells (grownCap w (n+1) b e-(n+1))) e)) none:=⟨rfl,rfl,rfl,by simp,fun k f _=>by exact heap_alloc_old w.drew _ f⟩;refine⟨_,_,C,⟨A, .inr ⟨w.heap.size,_,_,rfl,cJ _,heap_alloc_new w.drew _,X,grownCap_le_maxLen w (n+1) b e L, ?_, ?_⟩⟩,⟨rfl,rfl,rfl,by simp,fun k f _=>by exact heap_alloc_old w.drew _ f⟩,grow _ W,fun g' h=> .inr ?_,by simp⟩
 ·have a0:(Value.int IntKind.u8 0).cells.size=1:=rfl
  simp only[Array.size_append,Gt,size_zeroCells,a0,H,bV];omega
 ·simp only[Array.toList_append,bU]
  rw[←bU,←A];exact ZP
 simp only[Value.ownBlock,Option.some.injEq]at h;omega
end
end Go.Al
namespace Go.Proofs
open Go.Al Go.Proofs.Tryz
section
open Go.Lib Go.RowKit Go.Al
theorem yZ {P:Program} {w:World} {ops:Array Oper} {f:List Oper} {o:Oper} {a:Act} {Q:Exit→Act→World→Prop} (F:o.guard=none) (l x:Operand) (t:TypeId)
  (N:o.op= .call {callee:= .builtin .append,args:= #[l,x],argTypes:= #[t,t]})
  (e:TypeId) (i:TypeInfo) (L:P.underlying t=some (.slice e)) (G:P.info? e=some i) (M:i.zero=some (.int .u8 0))
  (J:i.size=1) (E:i.bytes=1)
  (v:Value) (n:Nat) (xs:List Value) (R:a.eval l=v) (I:w.ownsRow 0 e 1 v n xs) (k c:Nat) (z:Int) (S:a.eval x= .slice (some ⟨k,0,none⟩) 1 c) (H:w.cell? ⟨k,0,none⟩=some (.int .u8 z)) (D:n+1≤140737488355328)
  (h: ∀b d,d.ownsRow 0 e 1 b (n+1) (xs++[.int .u8 z])→w.grownBy d v.ownBlock→(∀k j,w.shape? k=some j→d.shape? k=some j)→(∀g,b.ownBlock=some g→v.ownBlock=some g∨w.heap.size≤g)→b≠ .slice none 0 0→wpList P ops Q f (a.put o.dst b) d):wpList P ops Q (o::f) a w:=by
 refine wpList_plain F fun K C=>?_;obtain⟨b,d,O,p,u,y,A,B⟩:=A0 (P:=P) w t o.type e i L G M J E v n xs I k c z H D;unfold Oper.wp execOp;simp only[*,resolve,invoke,builtin,Sem.run_bind,Sem.run_pure,Result.andThen_ok,List.map_toArray,cN,dO];exact C _ _ (h b d p u y A B)
theorem Vo (b:Nat) (p v:Value) (n:Nat) (xs:List Value) (c:Int) (w:World) (B:w.heap[b]?=some (.cells #[p,v] TB (0,0))) (Q:p= .pointer none∨p= .pointer (some ⟨b,0,none⟩))
  (F:w.ownsRow 0 TU 1 v n xs) (J:n+1≤140737488355328):
  Calls Tryz.prog 123 #[.pointer (some ⟨b,0,none⟩), .int .u8 c] w fun e A=>e= .returned .nilIface∧
   ∃f,A.heap[b]?=some (.cells #[.pointer (some ⟨b,0,none⟩),f] TB (0,0))∧A.ownsRow 0 TU 1 f (n+1) (xs++[.int .u8 c])∧
    nU (fun k=>k=b∨v.ownBlock=some k) w A∧(∀g,f.ownBlock=some g→v.ownBlock=some g∨w.heap.size≤g)∧f≠ .slice none 0 0:=by
 obtain⟨V,I,S,T,U⟩:=info_parts Qa;have E:TB≠TU:=by decide
 have D:v.ownBlock≠some b:=Lib.ownBlock_ne F B E
 go_enter func123,Tryz.ntmps123
 go_wp2_with (go_at_call 55;refine(Fb b p v _ B Q).mono ?_)
 rintro e d ⟨rfl,t,a⟩;have P:d.ownsRow 0 TU 1 v n xs:=F.kept (row:=some b) ⟨a.os,a.tape,a.output,a.size,fun k x L=>a.keep k x (fun e=>L (by rw[e]))⟩ (.inr D);have W:d.cell? ⟨b,0,none⟩=some (.pointer (some ⟨b,0,none⟩)):=by rw[Lib.cell_of_heap t];rfl
 have X:d.cell? ⟨b,1,none⟩=some v:=by rw[Lib.cell_of_heap t];rfl
 have K:b<d.heap.size:=(fD.1 t).1
 go_wp2_with (at_builtin;refine yZ rfl _ _ 69 rfl TU V Tryz.underlying69 I S T U _ _ _ rfl (P.alloc _) d.heap.size 1 c rfl (by simp) J ?_)
 intro f l y C R N O
 have j:l.heap[b]?=some (.cells #[.pointer (some ⟨b,0,none⟩),v] TB (0,0)):=by
  rw[C.block b (by simp;omega) (fun e=>D e.symm),Lib.alloc_old d _ b K];exact t
 have Z:l.cell? ⟨b,0,none⟩=some (.pointer (some ⟨b,0,none⟩)):=by rw[Lib.cell_of_heap j];rfl
 have d1:l.cell? ⟨b,1,none⟩=some v:=by rw[Lib.cell_of_heap j];rfl
 have f1:l.frozen? ⟨b,1,none⟩=false:=Lib.frozen_of_heap j 1
 obtain⟨o,u,i,rfl⟩: ∃o u i,f= .slice o u i:=by
  rcases y.2 with⟨z,_⟩|⟨g,i,Y,z,_⟩
  ·exact⟨_,_,_,z⟩
  exact⟨_,_,_,z⟩
 have M:(Value.slice o u i).ownBlock≠some b:=Lib.ownBlock_ne y j E;have a0:=a.size
 go_wp2
 go_ret
 refine⟨rfl, .slice o u i,by simp [World.setCell,tW,j], ?_, ?_, ?_,O⟩
 ·exact y.kept (row:=some b) ⟨rfl,rfl,rfl,by simp [World.setCell],fun k _ x=>Below.heap_setCell _ _ _ _ (fun e=>x (by simp [e]))⟩ (.inr M)
 ·exact(((a.mono fun _ _ h=> .inl h).trans (nU.alloc _ d _)).trans (Qh C (fun k G=>R k G.1 G.2) fun k h=> .inr h)).trans (nU.setCell l _ _ (.inl rfl))
 intro g H;rcases N g H with h|h
 ·exact .inl h
 exact .inr (by omega)
end
end Go.Proofs
namespace Go.Al
section
open Go.Proofs Go.Lib Go.RowKit Go.Proofs.YtaecpjgmcffliaaGreatDoor
theorem Oa (b:Nat) (a:List UInt8) (c:UInt8) (I:a.length+1≤140737488355328):Vb dV 123 [.ptr 2 b 0 0, .int .u8 (c.toNat:Nat)] b a .nif [c]:=by
 intro n J;refine⟨⟨_,Tryz.func123,by kernel_rfl,by kernel_rfl⟩,fun w S vs l z=>?_⟩;simp only[dJ,cK]at z;obtain⟨_,_,rfl,rfl,_,_,rfl,rfl,rfl⟩:=z
 obtain⟨p,v,j,M,L,C,hd⟩: ∃p v,w.heap[b]?=some (.cells #[p,v] TB (0,0))∧(p= .pointer none∨p= .pointer (some ⟨b,0,none⟩))∧w.ownsRow 0 TU 1 v a.length (a.map fun c=>Value.int .u8 (c.toNat:Int))∧(∀g,v.ownBlock=some g→n g≠none)∧n b≠none:=by
  rcases J with⟨rfl,rfl⟩|⟨e,g,i,B,rfl⟩
  ·have d:=(l.obj b _ (bE _ _ _)).1
   simp only[jK]at d;obtain⟨p,j,t⟩:=d;exact⟨p,_,j,t,⟨rfl, .inl ⟨rfl,rfl⟩⟩,fun g h=>(by simp [Value.ownBlock]at h),by rw[bE];simp⟩
  have d:=(l.obj b (.bld TB (some (g,i)) a.length) (by rw[cI _ _ (Ne.symm B),bE])).1;have K:=(l.obj g _ (bE _ _ _)).1;have O:=W4 K;simp only[jK]at d;obtain⟨p,j,t⟩:=d;refine⟨p,_,j,t,O,fun T h=>?_,by rw[cI _ _ (Ne.symm B),bE];simp⟩;simp only[Value.ownBlock,Option.some.injEq]at h;subst h;rw[bE];simp
 have A:=Vo b p v a.length _ (c.toNat:Int) w j M L I;rw[show(a.map fun c=>Value.int .u8 (c.toNat:Int))++[.int .u8 (c.toNat:Int)]=(a++[c]).map fun c=>Value.int .u8 (c.toNat:Int)by rw[cO];rfl]at A;refine A.mono fun e R ⟨E,U,D,u,P,Q,N⟩=>?_
 have G: ∀k,(k=b∨v.ownBlock=some k)→n k≠none:=fun k hk=>by
  rcases hk with rfl|hk
  ·exact hd
  exact C k hk
 have F:vB S R (.ret .nif) e:=by
  subst E;simp only[vB,cK];exact⟨_,rfl,rfl⟩
 rw[show a.length+1=(a++[c]).length by rw[aH];rfl]at u;obtain⟨g,i,rfl,d⟩:=U0 (S:=S) N u;have H:g≠b:=fun e=>Lib.ownBlock_ne u D (by decide) (by simp [Value.ownBlock,e]);refine⟨_,_,S,Hr l P G (H':=upd (upd qZ b (some (.bld TB (some (g,i)) (a++[c]).length))) g (some (.buf TU (a++[c]) i))) fun x o f=>?_,F,rfl, .inr ⟨by simp,g,i,H,rfl⟩⟩;by_cases c:x=g
 ·subst c
  rw[bE]at f;cases f;refine⟨d, ?_⟩;rcases Q x rfl with h|h
  ·exact .inl (C x h)
  exact .inr h
 rw[cI _ _ c]at f;by_cases y:x=b
 ·subst y
  rw[bE]at f;cases f;exact⟨by simp only[jK];exact⟨_,D, .inr rfl⟩, .inl hd⟩
 rw[cI _ _ y]at f;cases f
end
end Go.Al
