/- T2 -/
import Derived.Test.YtaecpjgmcffliaaGreatDoorSc1
import Derived.Lib.AppendStr
import Derived.Lib.Builder
import Derived.Test.YtaecpjgmcffliaaGreatDoorProg
import Derived.BigCall
import Derived.BigGuard
import Derived.Shelf.Strings.Builder1
import Derived.Test.YtaecpjgmcffliaaGreatDoorAl3
import Derived.Shelf.RegionOpen
import Derived.Test.YtaecpjgmcffliaaGreatDoorSy2
import Derived.Test.YtaecpjgmcffliaaGreatDoorAl2
import Derived.Shelf.Strconv.Itoa0
import Derived.Shelf.Strconv.Itoa1
import Derived.Shelf.LaysM
import Derived.Shelf.Strconv.Itoa2
import Derived.Lib.ItoaMem
import Derived.Lib.AppendIntMem
set_option linter.unusedSimpArgs false
set_option linter.unusedVariables false
set_option maxHeartbeats 4000000
set_option maxRecDepth 100000
namespace Go.Al
def Rl (m:List Fu) (f:Fu):List Fu:=if(m.find? fun g=>decide (g.name=f.name)).isSome then m else m++[f]
def mQ (l:List Fu):List Fu:=l.foldl Rl []
theorem H4 (l:List Fu) (f:Fu):mQ (l++[f])=Rl (mQ l) f:=by simp [mQ]
theorem Qn (s:dE): ∀(l m:List Fu),(l.foldl Rl m).find? (fun g=>decide (g.name=s))=(m++l).find? (fun g=>decide (g.name=s))
 |[],m=>by simp
 |f::l,m=>by
  rw[List.foldl_cons,Qn s l];unfold Rl;split
  ·rename_i h
   rw[List.find?_append,List.find?_append,List.find?_cons]
   cases hm:m.find? fun g=>decide (g.name=s)with
   |some x=>rfl
   |none=>
    have a:decide (f.name=s)=false:=by
     refine bI fun e=>?_;rw[e,hm]at h;cases h
    rw[a]
  rw[bV,List.singleton_append]
theorem Ep (s:dE) (l:List Fu):(mQ l).find? (fun g=>decide (g.name=s))=l.find? (fun g=>decide (g.name=s)):=by
 rw[mQ,Qn,cC]
def AQ (f:Fu):AV×AV:=(.str f.name, .agg [.str f.name, .isl 1 (f.params.map bT), .isl 1 (f.locs.map bT), .bool f.word, .isl 5 (f.body.map Sm.row)])
theorem tY (s:dE): ∀(m:List Fu) (i:Nat),(m.find? (fun g=>decide (g.name=s))=none∧iR (.str s) (m.map AQ) i=some none)∨
  (∃j g,m.find? (fun g=>decide (g.name=s))=some g∧iR (.str s) (m.map AQ) i=some (some (j, .agg [.str g.name, .isl 1 (g.params.map bT), .isl 1 (g.locs.map bT), .bool g.word, .isl 5 (g.body.map Sm.row)])))
 |[],i=> .inl ⟨rfl,rfl⟩
 |t::m,i=>by
  simp only[cX,iR,nV,AQ,List.find?_cons];by_cases h:t.name=s
  ·right
   refine⟨i,t,by rw[cV h], ?_⟩;rw[cV h.symm]
  rw[bI h,bI (fun e=>h e.symm)];exact tY s m (i+1)
def AE (p:Pg):AV:= .imp (((mQ p.funs).map AQ).map (·.1)) (((mQ p.funs).map AQ).map (·.2))
theorem Ou: ∀l:List Ex,l.length≤pB l
 |[]=>cN _
 |e::l=>by have:=Ou l;have:=e.sz_eq;simp only[pB,aJ];omega
theorem Ot: ∀l:List Sm,l.length≤lQ l
 |[]=>cN _
 |e::l=>by have:=Ot l;have:=e.sz_eq;simp only[lQ,aJ];omega
theorem Dt {a:Type} {p:a→Bool} {l:List a} {k:Nat} {e:a} (h:l[k]?=some e) (b:p e=false):l.all p=false:=by
 rw[dL];intro c;have:=cI.1 c e (aW h);rw[b]at this;cases this
theorem vE {a:Type} {p:a→Bool} {l:List a} {k:Nat} {e:a} (h:l[k]?=some e) (b:(l.take k).all p=true) (d:p e=true):(l.take (k+1)).all p=true:=by
 obtain⟨c,rfl⟩:=bD.1 h;rw[bQ c,List.all_append,b];simp only[eD,gW,d,zS]
section
open Go.Lib
theorem Aa (w:World) (g:Nat) (a l:Array Value) (e:TypeId) (f:w.heap[g]?=some (.cells a e (0,0))) (i:l.size=a.size): ∀k d,w.shape? k=some d→(w.setRow g l).shape? k=some d:=by
 intro k d c;by_cases h:k=g
 ·subst h
  have b:=setRow_heap w k a l e _ f;simp only[World.shape?,f]at c;simp only[World.shape?,b,i];exact c
 have b:=setRow_other w g k l h;simp only[World.shape?,b]at *;exact c
theorem Zm {P:Program} (w:World) (t u ty e:TypeId) (i:TypeInfo) (C:P.underlying t=some (.slice e)) (D:P.underlying u=some .string) (z:P.info? e=some i) (L:i.zero=some (.int .u8 0))
  (B:i.size=1) (H:i.bytes=1) (v:Value) (n:Nat) (xs:List Value) (p:w.ownsRow 0 e 1 v n xs) (s:ByteArray) (O:n+s.size≤140737488355328):
  ∃l a,(Builtin.append_ #[t,u] ty #[v, .string s]).run P w= .ok l a∧a.ownsRow 0 e 1 l (n+s.size) (xs++strCells s)∧w.grownBy a v.ownBlock∧
   (∀k j,w.shape? k=some j→a.shape? k=some j)∧(∀g,l.ownBlock=some g→v.ownBlock=some g∨w.heap.size≤g)∧(l= .slice none 0 0↔v= .slice none 0 0∧s.size=0):=by
 have G:n+s.size≤maxLen:=by unfold maxLen;omega
 have grow: ∀a,w.grownBy a none→ ∀k j,w.shape? k=some j→a.shape? k=some j:=fun a d k j x=>by
  have f:k<w.heap.size:=by
   unfold World.shape? at x;split at x
   ·rename_i h;exact(eM.1 h).1
   cases x
  have:=d.block k f (by simp);simp only[World.shape?,this]at *;exact x
 rcases p.2 with⟨rfl,rfl⟩|⟨g,b,c,rfl,Q,d,a0,R,I,V⟩
 ·obtain⟨l,a,M,y,F,N⟩:=run_append_own_string (P:=P) w w.heap.size t u ty e i C D z L B H _ 0 xs ⟨p.1, .inl ⟨rfl,rfl⟩⟩ s G O (aZ _)
  refine⟨l,a,M,⟨y.1, ?_⟩,F,grow a F,fun g d=> .inr ?_,N⟩
  ·rcases y.2 with h|⟨g,b,c,X,_,q⟩
   ·exact .inl h
   exact .inr ⟨g,b,c,X,cN _,q⟩
  exact(y.lt g d).1
 have E:xs.length=n:=by simpa using p.1
 have o:(xs++strCells s).length=(n+s.size) *1:=by rw[aB,E,strCells_length,nE]
 have Z:c.size=b:=by simpa using I
 by_cases K:n+s.size≤b
 ·have A:=run_append_room_string (P:=P) w t u ty e i C D z B g n b c d s K (by omega)
  have J:(c.toList.take n++strCells s++c.toList.drop (n+s.size)).toArray.size=c.size:=by
   simp only[Gn,aB,dS,fK,lK,strCells_length];omega
  refine⟨_,_,A,⟨o, .inr ⟨g,b,_,rfl,Q,setRow_heap w g c _ e _ d,K,R,by rw[J];exact I, ?_⟩⟩,⟨rfl,rfl,rfl,by simp,fun k _ f=>setRow_other w g k _ (fun e=>f (by simp [Value.ownBlock,e]))⟩,Aa w g c _ e d J,fun _ h=> .inl h,by simp⟩;have U:c.toList.take n=xs:=by simpa using V
  rw[U,←o];exact ZM
 have A:=run_append_grow_string (P:=P) w t u ty e i (.int .u8 0) C D z L ⟨g,0,none⟩ n b xs (by rw[B];simpa using E) (p.cells (g:=g) rfl) s (by omega) (by omega) (by rw[H];exact growslice_fits (by omega) (by omega));have T:=grownCap_ge w (n+s.size) b e;have S:w.grownBy (w.drew.alloc (.cells (xs.toArray++(strCells s).toArray++Builtin.zeroCells (Value.int .u8 0).cells (grownCap w (n+s.size) b e-(n+s.size))) e)) none:=⟨rfl,rfl,rfl,by simp,fun k f _=>by exact heap_alloc_old w.drew _ f⟩;refine⟨_,_,A,⟨o, .inr ⟨w.heap.size,_,_,rfl,cN _,heap_alloc_new w.drew _,T,grownCap_le_maxLen w (n+s.size) b e G, ?_, ?_⟩⟩,⟨rfl,rfl,rfl,by simp,fun k f _=>by exact heap_alloc_old w.drew _ f⟩,grow _ S,fun Y h=> .inr ?_,by simp⟩
 ·have W:(Value.int IntKind.u8 0).cells.size=1:=rfl
  simp only[Array.size_append,Gn,size_zeroCells,W,E,strCells_length];omega
 ·simp only[Array.toList_append,bV]
  rw[←bV,←o];exact ZM
 simp only[Value.ownBlock,Option.some.injEq]at h;omega
end
end Go.Al
namespace Go.Proofs.YtaecpjgmcffliaaGreatDoor
open Go.Al Go.Proofs.Tryz
def iS (p:Pg) (b:Nat):List AV:=[AE p, .nfn, .fn (.func 131) [] [], .fn (.func 131) [] [], .fn (.func 133) [.ptr 11 b 0 0] [], .fn (.func 134) [.ptr 11 b 0 0] [],
 .fn (.func 131) [] [], .fn (.func 135) [.ptr 11 b 0 0] [], .fn (.func 132) [.ptr 11 b 0 0] [], .fn (.func 132) [.ptr 11 b 0 0] [], .fn (.func 132) [.ptr 11 b 0 0] []]
theorem Xf (p:Pg) (hp:eY p.funs):pP dR 90 [p.av] oN (fun ae H'=> ∃v,ae= .ret v∧ ∃b,v= .ptr 11 b 0 0∧H'=H1 b (.rows 11 [iS p b])):=by
 have hR:=iS;unfold iS AE;obtain⟨vs,aa,l⟩:=p;simp only[Pg.av,Pg.row,eY]at *;clear hR;refine bU 91 [.tmp 2] func90 ?_;refine aA fun K a=>?_;simp only[RR,seval];refine aN fun i c8=>?_;simp only[RR,seval];refine a _ _ (aA fun K a=>?_);simp only[RR,seval];refine aN fun z a5=>?_;have b4:z≠i:=fun e=>by rw[e]at a5;simp only[RR,seval,reduceCtorEq]at a5
 have J:=b4.symm;simp only[RR,seval];refine aN fun c P=>?_;have b9:c≠i:=fun e=>by rw[e]at P;simp only[J,RR,seval,reduceCtorEq]at P
 have a9:=b9.symm;have V:c≠z:=fun e=>by rw[e]at P;simp only[RR,seval,reduceCtorEq]at P
 have b7:=V.symm;simp only[RR,seval];refine a _ _ (aH (aA fun K a=>?_));simp only[J,a9,aF,RR,seval];refine a _ _ (bN fun F1 Y n o=>?_);have E:=n 2;have d:=n 3;have L:=n 14;have N:=n 15;have D:=n 16;have y:=o i;have t:=o z;have u:=o c;simp only[J,a9,b7,RR,seval]at E d L N D y t u;refine aQ ?_;refine eT [2,3,14,15] (l.length) (fun k fr M=>fr 16= .int .i64 (k:Nat)∧M i=Y i∧M c=Y c∧M z=some (.amap ((mQ (l.take k)).map AQ))) ⟨D,rfl,rfl,by rw[t];rfl⟩ ?_;rintro k F2 M2 c7 ⟨fx,A,B,t⟩ F K0 a3;have E:=(F 2 rfl).trans E;have d:=(F 3 rfl).trans d;have L:=(F 14 rfl).trans L;have N:=(F 15 rfl).trans N;have D:=fx;clear fx;have y:=A.trans y;have u:=B.trans u;have Z:=bC.refl [2,3,14,15] F2;have a0:=A;have a1:=B;clear F;refine aA fun K a=>?_;simp only[N,D,RR,seval];refine a _ _ (aH (aX ?_ ?_))<;>intro R
 ·have O:k<l.length:=by have:=aD R;omega
  clear R;have hg:=tP (aC O);have a6:l.take (k+1)=l.take k++[l[k]]:=bQ O;generalize l[k]=f at hg a6;have U:mQ (l.take (k+1))=Rl (mQ (l.take k)) f:=by rw[a6,H4]
  have b2:=tY f.name (mQ (l.take k)) 0;unfold Rl at U;generalize mQ (l.take k)=m at *;rcases b2 with⟨S,hr⟩|⟨j,g,S,hr⟩
  all_goals
   refine aL ?_;simp only[RR];refine aH (aQ (aA fun K a=>?_));simp only[L,D,hg,RR,seval];refine aN fun Q T=>?_;have c0:=cR T y;have X:=c0.symm;have c2:=cR T u;have W:=c2.symm;have c1:=cR T t;have a7:=c1.symm;simp only[RR,seval];refine a _ _ (aG fun K a=>?_);refine bA (fun x=>x≠i∧x≠c∧x≠z∧x≠Q) [(0,3),(1,3),(2,3),(3,0),(4,3),(5,0),(6,0),(7,3),(8,3),(9,3),(10,1)] [(11,1),(12,3)] eB (by kernel_rfl) rfl rfl ?_;simp only[*,dI,fP,EM,mK,mM,fS,mJ,RR,seval];refine aN fun G C=>?_;have c3:G≠i:=fun e=>by rw[e]at C;simp only[y,X,RR,seval,reduceCtorEq]at C
   have b0:=c3.symm;have c5:G≠c:=fun e=>by rw[e]at C;simp only[u,W,RR,seval,reduceCtorEq]at C
   have a8:=c5.symm;have c4:G≠z:=fun e=>by rw[e]at C;simp only[t,a7,RR,seval,reduceCtorEq]at C
   have b8:=c4.symm;have c6:G≠Q:=fun e=>by rw[e]at C;simp only[RR,seval,reduceCtorEq]at C
   have c9:=c6.symm;simp only[RR,seval];refine a _ _ (aA fun K a=>?_);simp only[RR,seval];refine a _ _ (aX ?_ ?_)<;>intro a4
   ·try (cases a4;done)
    all_goals
     refine bA (fun x=>x≠i∧x≠c∧x≠z∧x≠Q∧x≠G) [(0,3),(1,3),(2,3),(3,1),(4,3),(5,1),(6,1)] [(7,1)] eB (by kernel_rfl) rfl rfl ?_;simp only[*,dI,nU,RR,seval];refine aM ?_;simp only[D,RR,seval];rw[aU _ (by omega)];refine a3 _ _ O ⟨by rfl,(by(simp only[J,X,b0,aS,seval];exact a0)),(by(simp only[V,W,a8,aS,seval];exact a1)), ?_⟩ (by repeat (first|exact Z|refine bC.upd rfl ?_));rw[U,S]
     (simp only[fS,aS,cP,cX,dH,fS,cK,seval];rfl)
   try (cases a4;done)
   all_goals
    refine aL ?_;simp only[RR];refine aM ?_;simp only[D,RR,seval];rw[aU _ (by omega)];refine a3 _ _ O ⟨by rfl,(by(simp only[X,b0,aS,seval];exact a0)),(by(simp only[W,a8,aS,seval];exact a1)), ?_⟩ (by repeat (first|exact Z|refine bC.upd rfl ?_));rw[U,S]
    (simp only[t,a7,b8,mJ,aS,mJ,seval];done)
 have b3:k=l.length:=by have:=aE R;omega
 rw[b3,dV]at t;refine cH ?_;simp only[RR,seval];refine bN fun F3 M3 n o=>?_;have H:=n 2;have I:=n 3;have A:=o i;have B:=o c;have a2:=o z;simp only[E,d,y,u,t,RR,seval]at H I A B a2;have E:=H;have d:=I;have y:=A;have u:=B;have t:=a2;refine Yy t ?_;refine bN fun F4 M4 n o=>?_;have H:=n 2;have I:=n 3;have A:=o i;have B:=o c;simp only[SM,cX,dH,eE,E,d,y,u,J,V,seval]at H I A B;have E:=H;have d:=I;have y:=A;have u:=B;refine aA fun K a=>?_;simp only[RR,seval];refine a _ _ (aA fun K a=>?_);simp only[d,RR,seval];refine a _ _ (aG fun K a=>?_);refine bA (fun x=>x≠i∧x≠c) [(0,3),(1,3),(2,3),(3,3),(4,3),(5,3),(6,3),(7,3),(8,3),(10,3),(11,3),(14,3),(15,3)] [(9,1),(12,3),(13,1),(16,3),(17,1)] eB (by kernel_rfl) rfl rfl ?_;simp only[dI,d,u,RR,seval];refine a _ _ (aA fun K a=>?_);simp only[d,RR,seval];refine a _ _ (aA fun K a=>?_);simp only[d,RR,seval];refine a _ _ (aA fun K a=>?_);simp only[d,RR,seval];refine a _ _ (aG fun K a=>?_);refine bA (fun x=>x≠i∧x≠c) [(0,3),(1,3),(2,3),(3,3),(4,3),(5,3),(6,3),(7,3),(8,3),(10,3),(11,3),(14,3),(15,3)] [(9,1),(12,3),(13,1),(16,3),(17,1)] eB (by kernel_rfl) rfl rfl ?_;simp only[dI,d,RR,seval];refine a _ _ (aA fun K a=>?_);simp only[d,RR,seval];apply a;refine aP ?_;simp only[aY,aK,bP,RR,seval];exact⟨_,_,kY.drop (gH (b:=c) (by(simp only[aS,seval];done))),_,rfl,c,rfl,rfl⟩
def Jd (p:Pg) (b:Nat):Hp:=H1 b (.rows 11 [iS p b])
theorem Iy (p:Pg) (s:dE):zT p s=((mQ p.funs).find? fun g=>decide (g.name=s)).isSome:=by rw[Ep];rfl
theorem Hh (p:Pg) (s:dE):sB p s=match(mQ p.funs).find? (fun g=>decide (g.name=s))with |some f=>f.word|none=>false:=by rw[Ep];rfl
theorem Z2 (p:Pg) (d:Nat) (n:Nat): ∀e:Ex,e.sz≤n→e.ok→Dx dR 136 [.ptr 11 d 0 0, .agg e.row] (Jd p d) (.bool (LS (zT p) e)):=by
 induction n using Nat.strongRecOn with
 |_ n ih=>
  intro e hn he;have hz:=e.sz_eq;have c0:=he.kids.fit;have b1:=he.kids.all;have I:=IW (zT p) e;have a1:=Iy p e.name;have b9:=tY e.name (mQ p.funs) 0;have a7: ∀x∈e.kids,Dx dR 136 [.ptr 11 d 0 0, .agg x.row] (Jd p d) (.bool (LS (zT p) x)):=fun x hx=>ih x.sz (by have:=nM hx;omega) x (aZ _) (b1 x hx);generalize LS (zT p) e=b6 at *;clear ih he b1;rw[e.row_eq];simp only[eY]at c0;generalize zT p e.name=K1 at I a1;obtain⟨K4,z4⟩: ∃c,decide (e.kind=4)=c:=⟨_,rfl⟩;rw[z4]at I
  cases K4<;>rcases b9 with⟨hl,hr⟩|⟨j,g,hl,hr⟩<;>rw[hl]at a1<;>subst a1<;>simp only[fS,mJ,Rq,Bool.not_false,Bool.or_false,Bool.or_true,cO,pH]at I
  all_goals
   refine bU 36 [.tmp 4] func136 ?_;have f:(Jd p d) d=some (.rows 11 [iS p d]):=nR _ _;simp only[iS,AE]at f;refine aA fun K a=>?_;simp only[RR,seval];refine aN fun E c2=>?_;have c3:=cR c2 f;have T:=c3.symm;simp only[RR,seval];refine a _ _ (aH (aA fun K a=>?_));simp only[z4,RR,seval];refine a _ _ (aX ?_ ?_)<;>intro a8
   ·try (cases a8;done)
    all_goals
     refine aG fun K a=>?_;refine bA (fun x=>x≠d∧x≠E) [(0,3),(1,3),(2,3),(3,0),(4,3),(5,0),(6,0),(7,3),(8,3),(9,3),(10,1)] [(11,1),(12,3)] eB (by kernel_rfl) rfl rfl ?_;simp only[*,dI,fP,EM,pU,mK,mM,fS,mJ,RR,seval];refine aN fun N S=>?_;have c4:N≠d:=fun e=>by rw[e]at S;simp only[f,T,RR,seval,reduceCtorEq]at S
     have b2:=c4.symm;have c5:N≠E:=fun e=>by rw[e]at S;simp only[RR,seval,reduceCtorEq]at S
     have b4:=c5.symm;simp only[RR,seval];refine a _ _ (aA fun K a=>?_);simp only[RR,seval];refine a _ _ (aX ?_ ?_)<;>intro a9
     ·try (cases a9;done)
      all_goals
       refine aA fun K a=>?_;simp only[RR,seval];apply a;refine aP ?_;simp only[aY,aK,bP,RR,seval];refine bB.q ?_ (gH (b:=d) (by(simp only[f,T,b2,aS,seval];rfl)));rw[I]
     try (cases a9;done)
     all_goals
      refine aL ?_;simp only[RR];refine aH (aA fun K a=>?_);simp only[b4,aF,RR,seval];refine a _ _ (bN fun F1 U t H=>?_);have v:=t 0;have Y:=t 4;have y:=t 25;have z:=t 26;have i:=t 27;have o:=H d;have A:=H E;have R:=H N;simp only[f,T,b2,b4,RR,seval]at v Y y z i o A R;have f:=o;refine aQ ?_;refine eT [0,25,26] (e.kids.length) (fun k Z M=>Z 27= .int .i64 (k:Nat)∧M d=U d∧M E=U E∧M N=U N∧b6=Ti (zT p) (e.kids.drop k)) ⟨i,rfl,rfl,rfl,by rw[dP];exact I⟩ ?_;rintro k F2 M2 c1 ⟨O,o,P,a6,l⟩ u K0 a0;have v:=(u 0 rfl).trans v;have y:=(u 25 rfl).trans y;have z:=(u 26 rfl).trans z;have i:=O;clear O;have f:=o.trans f;have A:=P.trans A;have R:=a6.trans R;have V:=bC.refl [0,25,26] F2;have W:=o;have X:=P;have b7:=a6;clear u;refine aA fun K a=>?_;simp only[z,i,RR,seval];refine a _ _ (aH (aX ?_ ?_))<;>intro F
      ·have C:k<e.kids.length:=by have:=aD F;omega
       clear F;have Q:=qO (aC C);have D:=a7 _ (bZ C);rw[bM C,Ah]at l;generalize e.kids[k]=x at Q l D;rw[x.row_eq]at D;generalize LS (zT p) x=L at l D;refine aL ?_;simp only[RR];refine aH (aQ (aA fun K a=>?_));simp only[y,i,Q,RR,seval];refine aN fun b8 J=>?_;have a4:=cR J f;have G:=a4.symm;have a5:=cR J A;have a3:=a5.symm;have c7:=cR J R;have c6:=c7.symm;simp only[RR,seval];refine a _ _ (aA fun K a=>?_);simp only[v,RR,seval];refine kA (b:=d) D (by(simp only[f,G,aS,seval];rfl)) (fun _=>trivial) ?_;simp only[RR,seval];refine a _ _ (aX ?_ ?_)<;>intro B
       ·try (cases B;done)
        all_goals
         refine aA fun K a=>?_;simp only[RR,seval];apply a;refine aP ?_;simp only[aY,aK,bP,RR,seval];refine bB.q ?_ (gH (b:=d) (by(simp only[f,G,aS,seval];rfl)));rw[l,show L=false by simpa using B];rfl
       try (cases B;done)
       all_goals
        refine aL ?_;simp only[RR];refine aM ?_;simp only[i,RR,seval];rw[aU _ (by omega)];refine a0 _ _ C ⟨by rfl,(by(simp only[G,aS,seval];exact W)),(by(simp only[a3,aS,seval];exact X)),(by(simp only[c6,aS,seval];exact b7)),by rw[l,show L=true by simpa using B,cO]⟩ (by repeat (first|exact V|refine bC.upd rfl ?_))
      have a2:k=e.kids.length:=by have:=aE F;omega
      refine cH ?_;simp only[RR,seval];refine aA fun K a=>?_;simp only[RR,seval];apply a;refine aP ?_;simp only[aY,aK,bP,RR,seval];refine bB.q ?_ (gH (b:=d) f);rw[l,a2,dF,Gu]
   try (cases a8;done)
   all_goals
    refine aL ?_;simp only[RR];refine aH (aA fun K a=>?_);simp only[aF,RR,seval];refine a _ _ (bN fun F3 M3 t H=>?_);have v:=t 0;have Y:=t 4;have y:=t 25;have z:=t 26;have i:=t 27;have o:=H d;have A:=H E;simp only[f,T,RR,seval]at v Y y z i o A;have f:=o;refine aQ ?_;refine eT [0,25,26] (e.kids.length) (fun k Z M=>Z 27= .int .i64 (k:Nat)∧M d=M3 d∧M E=M3 E∧b6=Ti (zT p) (e.kids.drop k)) ⟨i,rfl,rfl,by rw[dP];exact I⟩ ?_;rintro k F4 M4 c1 ⟨O,o,P,l⟩ u K0 a0;have v:=(u 0 rfl).trans v;have y:=(u 25 rfl).trans y;have z:=(u 26 rfl).trans z;have i:=O;clear O;have f:=o.trans f;have A:=P.trans A;have V:=bC.refl [0,25,26] F4;have W:=o;have X:=P;clear u;refine aA fun K a=>?_;simp only[z,i,RR,seval];refine a _ _ (aH (aX ?_ ?_))<;>intro F
    ·have C:k<e.kids.length:=by have:=aD F;omega
     clear F;have Q:=qO (aC C);have D:=a7 _ (bZ C);rw[bM C,Ah]at l;generalize e.kids[k]=x at Q l D;rw[x.row_eq]at D;generalize LS (zT p) x=L at l D;refine aL ?_;simp only[RR];refine aH (aQ (aA fun K a=>?_));simp only[y,i,Q,RR,seval];refine aN fun b8 J=>?_;have a4:=cR J f;have G:=a4.symm;have a5:=cR J A;have a3:=a5.symm;simp only[RR,seval];refine a _ _ (aA fun K a=>?_);simp only[v,RR,seval];refine kA (b:=d) D (by(simp only[f,G,aS,seval];rfl)) (fun _=>trivial) ?_;simp only[RR,seval];refine a _ _ (aX ?_ ?_)<;>intro B
     ·try (cases B;done)
      all_goals
       refine aA fun K a=>?_;simp only[RR,seval];apply a;refine aP ?_;simp only[aY,aK,bP,RR,seval];refine bB.q ?_ (gH (b:=d) (by(simp only[f,G,aS,seval];rfl)));rw[l,show L=false by simpa using B];rfl
     try (cases B;done)
     all_goals
      refine aL ?_;simp only[RR];refine aM ?_;simp only[i,RR,seval];rw[aU _ (by omega)];refine a0 _ _ C ⟨by rfl,(by(simp only[G,aS,seval];exact W)),(by(simp only[a3,aS,seval];exact X)),by rw[l,show L=true by simpa using B,cO]⟩ (by repeat (first|exact V|refine bC.upd rfl ?_))
    have a2:k=e.kids.length:=by have:=aE F;omega
    refine cH ?_;simp only[RR,seval];refine aA fun K a=>?_;simp only[RR,seval];apply a;refine aP ?_;simp only[aY,aK,bP,RR,seval];refine bB.q ?_ (gH (b:=d) f);rw[l,a2,dF,Gu]
theorem CG (e:Ex):eG dR 131 [.agg e.row] (.int .i64 1):=by
 rw[e.row_eq];refine bU 3 [.tmp 2] func131 ?_;refine aA fun K a=>?_;simp only[RR,seval];refine aN fun b c=>?_;simp only[RR,seval];refine a _ _ (aA fun K a=>?_);simp only[RR,seval];apply a;refine aP ?_;simp only[aY,aK,bP,RR,seval];refine bB.pure ?_;rfl
def J6 (p:Pg) (b0:Nat) (l:List Ex):Prop:= ∀e∈l,Dx dR 189 [.ptr 11 b0 0 0, .agg e.row] (Jd p b0) (.int .i64 (V5 (sB p) e))
theorem Bf (p:Pg) (c:Nat) (l:List Ex) (R:eY l) (t:Int) (h:J6 p c l):Dx dR 137 [.ptr 11 c 0 0, .isl 5 (l.map Ex.row), .int .i64 t] (Jd p c) (.bool (lN (sB p) l t)):=by
 simp only[eY]at R;unfold J6 at h;generalize sB p=W at *;refine bU 21 [.tmp 6] func137 ?_;have d:(Jd p c) c=some (.rows 11 [iS p c]):=nR _ _;simp only[iS,AE]at d;refine aA fun K a=>?_;simp only[RR,seval];refine a _ _ (aH (aA fun K a=>?_));simp only[aF,RR,seval];refine a _ _ (bN fun U H i O=>?_);have o:=i 0;have x:=i 2;have L:=i 6;have y:=i 9;have v:=i 10;have f:=i 11;have n:=O c;simp only[d,RR,seval]at o x L y v f n;have d:=n;refine aQ (eT [0,2,9,10] (l.length) (fun k N M=>N 11= .int .i64 (k:Nat)∧M c=H c∧lN W l t=lN W (l.drop k) t) ⟨f,rfl,by rw[dP]⟩ ?_);rintro k G X Z ⟨D,n,g⟩ j V P;have o:=(j 0 rfl).trans o;have x:=(j 2 rfl).trans x;have y:=(j 9 rfl).trans y;have v:=(j 10 rfl).trans v;have f:=D;clear D;have d:=n.trans d;have I:=bC.refl [0,2,9,10] G;have J:=n;clear j;refine aA fun K a=>?_;simp only[v,f,RR,seval];refine a _ _ (aH (aX ?_ ?_))<;>intro B
 ·have z:k<l.length:=by have:=aD B;omega
  clear B;have F:=qO (aC z);have A:=h _ (bZ z);rw[bM z,Du]at g;generalize l[k]=e at F g A;rw[e.row_eq]at A;generalize V5 W e=u at g A;refine aL ?_;simp only[RR];refine aH (aQ (aA fun K a=>?_));simp only[y,f,F,RR,seval];refine aN fun Y S=>?_;have T:=cR S d;have C:=T.symm;simp only[RR,seval];refine a _ _ (aA fun K a=>?_);simp only[o,RR,seval];refine kA (b:=c) A (by(simp only[d,C,aS,seval];rfl)) (fun _=>trivial) ?_;simp only[x,RR,seval];refine a _ _ (aX ?_ ?_)<;>intro E
  ·refine aA fun K a=>?_
   simp only[RR,seval];apply a;refine aP ?_;simp only[aY,aK,bP,RR,seval];refine bB.q ?_ (gH (b:=c) (by(simp only[d,C,aS,seval];rfl)));rw[g,show decide (u=t)=false by simpa using E,pH]
  refine aL ?_;try simp only[RR]
  refine aM ?_;simp only[f,RR,seval];rw[aU _ (by omega)];refine P _ _ z ⟨by rfl,(by(simp only[C,aS,seval];exact J)),by rw[g,show decide (u=t)=true by simpa using E,cO]⟩ (by repeat (first|exact I|refine bC.upd rfl ?_))
 have Q:k=l.length:=by have:=aE B;omega
 refine cH ?_;simp only[RR,seval];refine aA fun K a=>?_;simp only[RR,seval];apply a;refine aP ?_;simp only[aY,aK,bP,RR,seval];refine bB.q ?_ (gH (b:=c) d);rw[g,Q,dF,Lj]
theorem KO (p:Pg) (a:Nat) (e:Ex) (j:eY e.kids) (h:J6 p a e.kids):Dx dR 132 [.ptr 11 a 0 0, .agg e.row] (Jd p a) (.int .i64 (if lN (sB p) e.kids 2=true then 2 else 0)):=by
 have i:=Bf p a e.kids j 2 h;generalize lN (sB p) e.kids 2=A at *;rw[e.row_eq];refine bU 9 [.tmp 4] func132 ?_;have d:(Jd p a) a=some (.rows 11 [iS p a]):=nR _ _;simp only[iS,AE]at d;refine aA fun K c=>?_;simp only[RR,seval];refine aN fun n k=>?_;have l:=cR k d;have f:=l.symm;simp only[RR,seval];refine c _ _ (aH (aA fun K c=>?_));simp only[RR,seval];refine kA (b:=a) i (by(simp only[d,f,aS,seval];rfl)) (fun _=>trivial) ?_;simp only[RR,seval];refine c _ _ (aX ?_ ?_)<;>intro g
 ·refine aA fun K c=>?_
  simp only[RR,seval];apply c;refine aP ?_;simp only[aY,aK,bP,RR,seval];refine bB.q ?_ (gH (b:=a) (by(simp only[d,f,aS,seval];rfl)));rw[g];rfl
 refine aL ?_;try simp only[RR]
 refine aA fun K c=>?_;simp only[RR,seval];apply c;refine aP ?_;simp only[aY,aK,bP,RR,seval];refine bB.q ?_ (gH (b:=a) (by(simp only[d,f,aS,seval];rfl)));rw[g];rfl
theorem AD (p:Pg) (a:Nat) (e:Ex) (j:eY e.kids) (h:J6 p a e.kids):Dx dR 133 [.ptr 11 a 0 0, .agg e.row] (Jd p a) (.int .i64 (if lN (sB p) e.kids 1=true then 1 else 0)):=by
 have i:=Bf p a e.kids j 1 h;generalize lN (sB p) e.kids 1=A at *;rw[e.row_eq];refine bU 9 [.tmp 4] func133 ?_;have d:(Jd p a) a=some (.rows 11 [iS p a]):=nR _ _;simp only[iS,AE]at d;refine aA fun K c=>?_;simp only[RR,seval];refine aN fun n k=>?_;have l:=cR k d;have f:=l.symm;simp only[RR,seval];refine c _ _ (aH (aA fun K c=>?_));simp only[RR,seval];refine kA (b:=a) i (by(simp only[d,f,aS,seval];rfl)) (fun _=>trivial) ?_;simp only[RR,seval];refine c _ _ (aX ?_ ?_)<;>intro g
 ·refine aA fun K c=>?_
  simp only[RR,seval];apply c;refine aP ?_;simp only[aY,aK,bP,RR,seval];refine bB.q ?_ (gH (b:=a) (by(simp only[d,f,aS,seval];rfl)));rw[g];rfl
 refine aL ?_;try simp only[RR]
 refine aA fun K c=>?_;simp only[RR,seval];apply c;refine aP ?_;simp only[aY,aK,bP,RR,seval];refine bB.q ?_ (gH (b:=a) (by(simp only[d,f,aS,seval];rfl)));rw[g];rfl
theorem SO (p:Pg) (a:Nat) (e:Ex) (k:eY e.kids) (h:J6 p a e.kids):Dx dR 135 [.ptr 11 a 0 0, .agg e.row] (Jd p a) (.int .i64 (if lN (sB p) e.kids 1=true then(if e.op=14∨e.op=15 then 2 else 1)else 0)):=by
 have j:=Bf p a e.kids k 1 h;generalize lN (sB p) e.kids 1=A at *;rw[e.row_eq];refine bU 18 [.tmp 4] func135 ?_;have d:(Jd p a) a=some (.rows 11 [iS p a]):=nR _ _;simp only[iS,AE]at d;refine aA fun K c=>?_;simp only[RR,seval];refine aN fun o l=>?_;have n:=cR l d;have f:=n.symm;simp only[RR,seval];refine c _ _ (aH (aA fun K c=>?_));simp only[RR,seval];refine kA (b:=a) j (by(simp only[d,f,aS,seval];rfl)) (fun _=>trivial) ?_;simp only[RR,seval];refine c _ _ (aX ?_ ?_)<;>intro g
 ·refine aA fun K c=>?_
  simp only[RR,seval];apply c;refine aP ?_;simp only[aY,aK,bP,RR,seval];refine bB.q ?_ (gH (b:=a) (by(simp only[d,f,aS,seval];rfl)));rw[show A=false by simpa using g];rfl
 refine aL ?_;try simp only[RR]
 refine aH (aA fun K c=>?_);simp only[RR,seval]
 repeat' ((refine cL (fun h=>?_) (fun h=>?_))<;>simp only[h,RR,seval])
 all_goals
  refine c _ _ (aX ?_ ?_)<;>intro i
  ·try (cases i;done)
   all_goals
    refine aA fun K c=>?_;simp only[RR,seval];apply c;refine aP ?_;simp only[aY,aK,bP,RR,seval];refine bB.q ?_ (gH (b:=a) (by(simp only[d,f,aS,seval];rfl)));rw[show A=true by simpa using g];simp_all
  try (cases i;done)
  all_goals
   refine aL ?_;simp only[RR];refine aA fun K c=>?_;simp only[RR,seval];apply c;refine aP ?_;simp only[aY,aK,bP,RR,seval];refine bB.q ?_ (gH (b:=a) (by(simp only[d,f,aS,seval];rfl)));rw[show A=true by simpa using g];simp_all
theorem KJ (p:Pg) (a:Nat) (e:Ex) (y:eY e.kids) (h:J6 p a e.kids):Dx dR 134 [.ptr 11 a 0 0, .agg e.row] (Jd p a) (.int .i64 (if(sB p e.name&&lN (sB p) e.kids 1)=true then 1 else 0)):=by
 have x:=Bf p a e.kids y 1 h;have t:=Hh p e.name;have z:=tY e.name (mQ p.funs) 0;generalize lN (sB p) e.kids 1=A at *;generalize sB p e.name=B at *;rw[e.row_eq];rcases z with⟨o,i⟩|⟨j,g,o,i⟩<;>rw[o]at t<;>subst t
 ·skip
  refine bU 19 [.tmp 4] func134 ?_;have d:(Jd p a) a=some (.rows 11 [iS p a]):=nR _ _;simp only[iS,AE]at d;refine aA fun K c=>?_;simp only[RR,seval];refine aN fun u l=>?_;have n:=cR l d;have f:=n.symm;simp only[RR,seval];refine c _ _ (aH (aG fun K c=>?_));refine bA (fun _=>True) [(0,3),(1,3),(2,3),(3,1),(4,3),(5,1),(6,1),(7,3),(8,3),(9,3),(10,3),(11,1),(12,1),(13,3)] [] eB (by kernel_rfl) rfl rfl ?_;simp only[dI,d,f,pU,i,mM,RR,seval]
  all_goals
   refine c _ _ (aX ?_ ?_)<;>intro k
   ·try (cases k;done)
    all_goals
     refine aA fun K c=>?_;simp only[pU,i,mM,fS,RR,seval];apply c;refine aP ?_;simp only[aY,aK,bP,pU,i,mM,fS,RR,seval];refine bB.q ?_ (gH (b:=a) d);simp_all
   try (cases k;done)
   all_goals
    refine aL ?_;simp only[RR];refine aA fun K c=>?_;simp only[RR,seval];apply c;refine aP ?_;simp only[aY,aK,bP,RR,seval];refine bB.q ?_ (gH (b:=a) (by(simp only[d,f,aS,seval];rfl)));simp_all
 obtain⟨D,E,gl,v,C⟩:=g;simp only at i⊢;cases v<;>cases A
 all_goals
  refine bU 19 [.tmp 4] func134 ?_;have d:(Jd p a) a=some (.rows 11 [iS p a]):=nR _ _;simp only[iS,AE]at d;refine aA fun K c=>?_;simp only[RR,seval];refine aN fun u l=>?_;have n:=cR l d;have f:=n.symm;simp only[RR,seval];refine c _ _ (aH (aG fun K c=>?_));refine bA (fun _=>True) [(0,3),(1,3),(2,3),(3,1),(4,3),(5,1),(6,1),(7,3),(8,3),(9,3),(10,3),(11,1),(12,1),(13,3)] [] eB (by kernel_rfl) rfl rfl ?_;simp only[dI,d,f,pU,i,mK,RR,seval]
  all_goals try (refine kA (b:=a) x (by first|exact d|(simp only[d,f,aS,seval];rfl)) (fun _=>trivial) ?_;simp only[RR,seval])
  all_goals
   refine c _ _ (aX ?_ ?_)<;>intro k
   ·try (cases k;done)
    all_goals
     refine aA fun K c=>?_;simp only[RR,seval];apply c;refine aP ?_;simp only[aY,aK,bP,RR,seval];refine bB.q ?_ (gH (b:=a) (by(simp only[d,f,aS,seval];rfl)));rfl
   try (cases k;done)
   all_goals
    refine aL ?_;simp only[RR];refine aA fun K c=>?_;simp only[RR,seval];apply c;refine aP ?_;simp only[aY,aK,bP,RR,seval];refine bB.q ?_ (gH (b:=a) (by(simp only[d,f,aS,seval];rfl)));rfl
theorem C0 (p:Pg) (a:Nat) (n:Nat): ∀e:Ex,e.sz≤n→e.ok→Dx dR 189 [.ptr 11 a 0 0, .agg e.row] (Jd p a) (.int .i64 (V5 (sB p) e)):=by
 induction n using Nat.strongRecOn with
 |_ n ih=>
  intro e N u;have O:=e.sz_eq;have j:=u.kids.fit;have z:=u.kids.all;have g:J6 p a e.kids:=fun x A=>ih x.sz (by have:=nM A;omega) x (aZ _) (z x A);have i:=GF (sB p) e;have D:=CG e;have E:=KO p a e j g;have F:=AD p a e j g;have G:=SO p a e j g;have H:=KJ p a e j g;generalize V5 (sB p) e=P at *;generalize sB p e.name=L at *;generalize lN (sB p) e.kids 1=I at *;generalize lN (sB p) e.kids 2=J at *;clear ih u z g;rw[e.row_eq]at *;by_cases M:1≤e.kind∧e.kind≤9
  ·have Q:decide (e.kind<1)=false:=bI (by omega)
   have R:decide (9<e.kind)=false:=bI (by omega);have C:e.kind=1∨e.kind=2∨e.kind=3∨e.kind=4∨e.kind=5∨e.kind=6∨e.kind=7∨e.kind=8∨e.kind=9:=by omega
   obtain⟨k,o,m,s,l⟩:=e;simp only[Ex.kind,Ex.op,Ex.num,Ex.name,Ex.kids]at *;rcases C with rfl|rfl|rfl|rfl|rfl|rfl|rfl|rfl|rfl
   all_goals
    simp only[Int.reduceEq,or_self,or_true,dD,cQ,dT]at i;subst i;refine bU 22 [.tmp 4] func189 ?_;have c:(Jd p a) a=some (.rows 11 [iS p a]):=nR _ _;simp only[iS,AE]at c;refine aA fun K d=>?_;simp only[RR,seval];refine aN fun B v=>?_;have y:=cR v c;have f:=y.symm;simp only[RR,seval];refine d _ _ (aH (aA fun K d=>?_));simp only[RR,seval];refine d _ _ (bK ?_);refine aL ?_;simp only[RR];refine aG fun K d=>?_;refine bA (fun _=>True) [(0,3),(1,3),(2,1),(3,3),(4,3),(5,3),(6,1),(7,1),(8,1),(9,3)] [] eB (by kernel_rfl) rfl rfl ?_;simp only[dI,c,f,RR,seval]
    first|(refine aI D ?_)|(refine kA (b:=a) E (by(simp only[c,f,aS,seval];rfl)) (fun _=>trivial) ?_)|(refine kA (b:=a) F (by(simp only[c,f,aS,seval];rfl)) (fun _=>trivial) ?_)|(refine kA (b:=a) G (by(simp only[c,f,aS,seval];rfl)) (fun _=>trivial) ?_)|(refine kA (b:=a) H (by(simp only[c,f,aS,seval];rfl)) (fun _=>trivial) ?_)
    simp only[RR,seval];apply d;refine aP ?_;simp only[aY,aK,bP,RR,seval];refine bB.q ?_ (gH (b:=a) (by(simp only[c,f,aS,seval];rfl)));rfl
  rw[aO (by omega),aO (by omega),aO (by omega),aO (by omega),aO (by omega)]at i;subst i;refine bU 22 [.tmp 4] func189 ?_;have c:(Jd p a) a=some (.rows 11 [iS p a]):=nR _ _;simp only[iS,AE]at c;refine aA fun K d=>?_;simp only[RR,seval];refine aN fun B v=>?_;have y:=cR v c;have f:=y.symm;simp only[RR,seval];refine d _ _ (aH (aA fun K d=>?_));simp only[RR,seval]
  repeat' ((refine cL (fun h=>?_) (fun h=>?_))<;>simp only[h,RR,seval])
  all_goals
   refine d _ _ (aX ?_ ?_)<;>intro t
   ·try (cases t;done)
    all_goals
     refine aA fun K d=>?_;simp only[RR,seval];apply d;refine aP ?_;simp only[aY,aK,bP,RR,seval];refine bB.q ?_ (gH (b:=a) (by(simp only[c,f,aS,seval];rfl)));rfl
   try (cases t;done)
   all_goals
    exfalso
    (have:=aE h;have:=aE t;omega)
theorem Va (p:Pg) (f:Nat) (n:Nat): ∀l:List Sm,lQ l≤n→zG l→Dx dR 91 [.ptr 11 f 0 0, .isl 5 (l.map Sm.row)] (Jd p f) (.bool (yM (zT p) l)):=by
 induction n using Nat.strongRecOn with
 |_ n ih=>
  intro l hn c2;have d2:=c2.fit;have hE:=fun(x:Ex) (h:x.ok)=>Z2 p f _ x (aZ _) h;have a7:=fun s=>Iy p s;have a6:=fun s=>tY s (mQ p.funs) 0;generalize zT p=K at *;simp only[eY]at d2;refine bU 57 [.tmp 4] func91 ?_;have o:(Jd p f) f=some (.rows 11 [iS p f]):=nR _ _;simp only[iS,AE]at o;refine aA fun K a=>?_;simp only[RR,seval];apply a;clear a K;refine aH ?_;refine aA fun K a=>?_;simp only[aF,RR,seval];apply a;clear a K;refine bN fun F1 M1 d C=>?_;have u:=d 0;have T:=d 4;have A:=d 11;have B:=d 12;have v:=d 13;have i:=C f;simp only[o,RR,seval]at u T A B v i;have o:=i;clear i;clear d C;refine aQ ?_;refine eT [0,11,12] (l.length) (fun k U M=>U 13= .int .i64 (k:Nat)∧M f=M1 f∧yM K l=yM K (l.drop k)) ⟨v,rfl,by rw[dP]⟩ ?_;rintro k S M2 e7 ⟨V,i,y⟩ t K0 d0;have u:=(t 0 rfl).trans u;have A:=(t 11 rfl).trans A;have B:=(t 12 rfl).trans B;have v:=V;clear V;have o:=i.trans o;have F:=bC.refl [0,11,12] S;have H:=i;clear i;clear t;refine aA fun K a=>?_;simp only[B,v,RR,seval];apply a;clear a K;refine aH ?_;refine aX ?_ ?_<;>intro I
  ·have a2:k<l.length:=by have:=aD I;omega
   clear I;have hg:=Oa (aC a2);have hm:=bZ a2;have W:=c2.all _ hm;have d8:=nA hm;rw[bM a2,Ix,E6]at y;generalize l[k]=e at hg y W d8;have hz:=e.sz_eq;have Z:=ih (lQ e.thn) (by omega) e.thn (aZ _) W.thn;have hU:=ih (lQ e.els) (by omega) e.els (aZ _) W.els;have d6:=W.es.all;have d5:=W.es.fit;have a8:=a7 e.name;have a5:=a6 e.name;simp only[eY]at d5;generalize K e.name=K1 at y a8;generalize yM K e.thn=K4 at y Z;generalize yM K e.els=K5 at y hU;obtain⟨K6,z6⟩: ∃c,decide (e.kind=6)=c:=⟨_,rfl⟩;rw[z6]at y;refine aL ?_;simp only[RR];refine aH ?_;refine aQ ?_;refine aA fun K a=>?_;simp only[A,v,hg,RR,seval];refine aN fun G d7=>?_;have c4:=cR d7 o;have b1:=c4.symm;simp only[RR,seval];apply a;clear a K;refine aH ?_;refine aA fun K a=>?_;simp only[z6,RR,seval];apply a;clear a K;refine bN fun F3 Q d C=>?_;have J:=d 0;have T:=d 4;have D:=d 6;have L:=d 11;have N:=d 12;have O:=d 13;have b3:=d 19;have i:=C f;have z:=C G;simp only[u,A,B,v,o,b1,RR,seval]at J T D L N O b3 i z;have F:bC [0,11,12] S F3:=bC.same d (by repeat (first|exact F|refine bC.upd rfl ?_));have H:=(C f).trans (by(simp only[b1,aS,seval];exact H));have u:=J;clear J;have A:=L;clear L;have B:=N;clear N;have v:=O;clear O;have o:=i;clear i;clear d C;refine gP (fun U M=>bC [0,6,11,12,13] F3 U∧M f=Q f∧M G=Q G∧(!K6||K1)=true) (fun e5 b4=>?_) ?_
   ·have b2:=bC.refl [0,6,11,12,13] F3
    have c8:Q f=Q f:=rfl;have c9:Q G=Q G:=rfl;refine eO _ b3 (fun a1=>?_) (fun a1=>?_)
    ·try (cases a1;done)
     all_goals
      rcases a5 with⟨hl,hr⟩|⟨j,g,hl,hr⟩<;>rw[hl]at a8<;>subst a8
      all_goals
       refine aG fun K a=>?_;refine bA (fun x=>x≠f∧x≠G) [(0,3),(1,3),(2,3),(3,0),(4,3),(5,0),(6,0),(7,3),(8,3),(9,3),(10,1)] [(11,1),(12,3)] eB (by kernel_rfl) rfl rfl ?_;simp only[dI,fP,EM,u,D,o,z,c4,b1,pU,mK,mM,fS,mJ,hr,RR,seval];refine aN fun b7 c1=>?_;have e3:=cR c1 o;have c3:=e3.symm;have e4:=cR c1 z;have e2:=e4.symm;simp only[RR,seval];apply a;clear a K;refine aA fun K a=>?_;simp only[RR,seval];apply a;clear a K;refine aX ?_ ?_<;>intro b8
       ·try (cases b8;done)
        all_goals
         refine aA fun K a=>?_;simp only[RR,seval];apply a;clear a K;refine aP ?_;simp only[aY,aK,bP,RR,seval];refine bB.q ?_ (gH (b:=f) (by(simp only[o,c3,aS,seval];rfl)));rw[y,a1];simp
       try (cases b8;done)
       all_goals
        refine aL ?_;simp only[RR];refine b4 _ _ ⟨(by repeat (first|exact b2|refine bC.upd rfl ?_)),(by(simp only[c3,aS,seval];done)),(by(simp only[e2,aS,seval];done)),by simp_all⟩
    try (cases a1;done)
    all_goals
     refine aL ?_;simp only[RR];refine b4 _ _ ⟨(by repeat (exact b2)),c8,c9,by simp_all⟩
   rintro F4 M4 ⟨t,i,E,hA⟩;have u:=(t 0 rfl).trans u;have D:=(t 6 rfl).trans D;have A:=(t 11 rfl).trans A;have B:=(t 12 rfl).trans B;have v:=(t 13 rfl).trans v;have o:=i.trans o;have z:=E.trans z;have F:bC [0,11,12] S F4:=bC.sub t rfl F;have H:=i.trans H;clear t;clear i;clear E;simp only[RR,seval];rw[hA,cO]at y;refine aH ?_;refine aA fun K a=>?_;simp only[D,z,aF,RR,seval];apply a;clear a K;refine bN fun F5 M5 d C=>?_;have J:=d 0;have T:=d 4;have g6:=d 6;have f8:=d 8;have L:=d 11;have N:=d 12;have O:=d 13;have X:=d 33;have Y:=d 34;have R:=d 35;have i:=C f;have E:=C G;simp only[u,D,A,B,v,o,z,RR,seval]at J T g6 f8 L N O X Y R i E;have F:bC [0,11,12] S F5:=bC.same d (by repeat (first|exact F|refine bC.upd rfl ?_));have H:=(C f).trans H;have u:=J;clear J;have D:=g6;clear g6;have A:=L;clear L;have B:=N;clear N;have v:=O;clear O;have o:=i;clear i;have z:=E;clear E;clear d C;refine aQ ?_;refine eT [0,6,8,11,12,13,33,34] (e.es.length) (fun j U M=>U 35= .int .i64 (j:Nat)∧M f=M5 f∧M G=M5 G∧Ti K e.es=Ti K (e.es.drop j)) ⟨R,rfl,rfl,by rw[dP]⟩ ?_;rintro j F6 M6 e8 ⟨V,i,E,P⟩ t K2 d1;have u:=(t 0 rfl).trans u;have D:=(t 6 rfl).trans D;have f8:=(t 8 rfl).trans f8;have A:=(t 11 rfl).trans A;have B:=(t 12 rfl).trans B;have v:=(t 13 rfl).trans v;have X:=(t 33 rfl).trans X;have Y:=(t 34 rfl).trans Y;have R:=V;clear V;have o:=i.trans o;have z:=E.trans z;have F:bC [0,11,12] S F6:=bC.sub t rfl F;have H:=i.trans H;have c5:=bC.refl [0,6,8,11,12,13,33,34] F6;have c6:=i;clear i;have c7:=E;clear E;clear t;refine aA fun K a=>?_;simp only[Y,R,RR,seval];apply a;clear a K;refine aH ?_;refine aX ?_ ?_<;>intro I
   ·have a3:j<e.es.length:=by have:=aD I;omega
    clear I;have b9:=qO (aC a3);have a4:=hE _ (d6 _ (bZ a3));rw[bM a3,Ah]at P;generalize e.es[j]=x at b9 P a4;rw[x.row_eq]at a4;generalize LS K x=KK at P a4;refine aL ?_;simp only[RR];refine aH ?_;refine aQ ?_;refine aA fun K a=>?_;simp only[X,R,b9,RR,seval];refine aN fun e6 c0=>?_;have d9:=cR c0 o;have a9:=d9.symm;have e0:=cR c0 z;have e1:=e0.symm;simp only[RR,seval];apply a;clear a K;refine aA fun K a=>?_;simp only[u,RR,seval];refine kA (b:=f) a4 (by(simp only[o,a9,aS,seval];rfl)) (fun _=>trivial) ?_;simp only[RR,seval];apply a;clear a K;refine aX ?_ ?_<;>intro a0
    ·try (cases a0;done)
     all_goals
      refine aA fun K a=>?_;simp only[RR,seval];apply a;clear a K;refine aP ?_;simp only[aY,aK,bP,RR,seval];refine bB.q ?_ (gH (b:=f) (by(simp only[o,a9,aS,seval];rfl)));rw[y,P,show KK=false by simpa using a0];simp
    try (cases a0;done)
    all_goals
     refine aL ?_;simp only[RR];refine aM ?_;simp only[R,RR,seval];rw[aU _ (by omega)];refine d1 _ _ a3 ⟨by rfl,(by(simp only[a9,aS,seval];exact c6)),(by(simp only[e1,aS,seval];exact c7)),by rw[P,show KK=true by simpa using a0,cO]⟩ (by repeat (first|exact c5|refine bC.upd rfl ?_))
   have d4:j=e.es.length:=by have:=aE I;omega
   clear I;rw[d4,dF,Gu]at P;rw[P,cO]at y;refine cH ?_;simp only[RR,seval];refine aA fun K a=>?_;simp only[u,D,z,RR,seval]
   all_goals (refine kA (b:=f) Z o (fun _=>trivial) ?_;simp only[RR,seval])
   all_goals ((refine cL (fun h=>?_) (fun h=>?_))<;>simp only[h,u,D,z,RR,seval])
   all_goals try (refine kA (b:=f) hU o (fun _=>trivial) ?_;simp only[RR,seval])
   all_goals
    apply a;clear a K;refine aX ?_ ?_<;>intro b5
    ·try (cases b5;done)
     all_goals
      refine aA fun K a=>?_;simp only[RR,seval];apply a;clear a K;refine aP ?_;simp only[aY,aK,bP,RR,seval];refine bB.q ?_ (gH (b:=f) o);rw[y];clear Z hU hE a7 a6 a5 ih;simp_all
    try (cases b5;done)
    all_goals
     refine aL ?_;simp only[RR];refine aM ?_;simp only[v,RR,seval];rw[aU _ (by omega)];refine d0 _ _ a2 ⟨by rfl,H,by rw[y];clear Z hU hE a7 a6 a5 ih;simp_all⟩ (by repeat (first|exact F|refine bC.upd rfl ?_))
  have d3:k=l.length:=by have:=aE I;omega
  clear I;refine cH ?_;simp only[RR,seval];refine aA fun K a=>?_;simp only[RR,seval];apply a;clear a K;refine aP ?_;simp only[aY,aK,bP,RR,seval];refine bB.q ?_ (gH (b:=f) o);rw[y,d3,dF,Q2]
theorem Uz (p:Pg) (a:Nat) (f:Fu) (n:Nat): ∀l:List Sm,lQ l≤n→zG l→Dx dR 92 [.ptr 11 a 0 0, .agg f.row, .isl 5 (l.map Sm.row)] (Jd p a) (.bool (pN (sB p) f.word l)):=by
 induction n using Nat.strongRecOn with
 |_ n ih=>
  intro l hn b9;have e7:=b9.fit;have c5:=fun(x:List Ex) (h:By x) (t:Int)=>Bf p a x h.fit t fun e he=>C0 p a _ e (aZ _) (h.all e he);have d3:=fun s=>Hh p s;have d1:=fun s=>tY s (mQ p.funs) 0;generalize sB p=W at *;obtain⟨fn,fp,fl,w,fb⟩:=f;simp only[eY,Fu.row]at *;refine bU 65 [.tmp 6] func92 ?_;have o:(Jd p a) a=some (.rows 11 [iS p a]):=nR _ _;simp only[iS,AE]at o;refine aA fun K c=>?_;simp only[RR,seval];refine aN fun v d9=>?_;have e2:=cR d9 o;have e1:=e2.symm;simp only[RR,seval];refine c _ _ (aH (aA fun K c=>?_));simp only[aF,RR,seval];refine c _ _ (bN fun F1 M1 d y=>?_);have I:=d 0;have H:=d 4;have f6:=d 6;have F:=d 10;have G:=d 11;have C:=d 12;have u:=y a;have D:=y v;simp only[o,e1,RR,seval]at I H f6 F G C u D;have o:=u;refine aQ (eT [0,4,10,11] (l.length) (fun k fr M=>fr 12= .int .i64 (k:Nat)∧M a=M1 a∧M v=M1 v∧pN W w l=pN W w (l.drop k)) ⟨C,rfl,rfl,by rw[dP]⟩ ?_);rintro k F2 M2 e8 ⟨fx,u,B,z⟩ i K0 d6;have I:=(i 0 rfl).trans I;have H:=(i 4 rfl).trans H;have F:=(i 10 rfl).trans F;have G:=(i 11 rfl).trans G;have C:=fx;clear fx;have o:=u.trans o;have D:=B.trans D;have R:=bC.refl [0,4,10,11] F2;have S:=u;have T:=B;clear i;refine aA fun K c=>?_;simp only[G,C,RR,seval];refine c _ _ (aH (aX ?_ ?_))<;>intro hc
  ·have b5:k<l.length:=by have:=aD hc;omega
   clear hc;have hg:=Oa (aC b5);have hm:=bZ b5;have b1:=b9.all _ hm;have e0:=nA hm;rw[bM b5,Ql,S3]at z;generalize l[k]=e at hg z b1 e0;have hz:=e.sz_eq;have L:=c5 e.es b1.es (vX e.kind);have N:=ih (lQ e.thn) (by omega) e.thn (aZ _) b1.thn;have O:=ih (lQ e.els) (by omega) e.els (aZ _) b1.els;have b6:=d3 e.name;have a3:=d1 e.name;have b2:(e.kind=4∨e.kind=5)→vX e.kind=2:=fun h=>by simp only[vX,bF h]
   have a4: ¬(e.kind=4∨e.kind=5)→vX e.kind=1:=fun h=>by simp only[vX,aO h]
   generalize W e.name=WD at z b6;generalize lN W e.es (vX e.kind)=A at z L;generalize pN W w e.thn=K4 at z N;generalize pN W w e.els=K5 at z O;generalize vX e.kind=ws at *;have d8:decide ((0:Int)<(e.es.length:Int))=decide (0<e.es.length):=by rw[eW];simp only[bH];omega
   obtain⟨K8,z8⟩: ∃b,decide (0<e.es.length)=b:=⟨_,rfl⟩;rw[z8]at z;clear ih c5 b9 hm d1 d3 b1;refine aL ?_;simp only[RR];refine aH (aQ (aA fun K c=>?_));simp only[F,C,hg,RR,seval];refine aN fun E d2=>?_;have e3:=cR d2 o;have d4:=e3.symm;have e4:=cR d2 D;have d5:=e4.symm;simp only[RR,seval];refine c _ _ (aA fun K c=>?_);simp only[RR,seval];refine c _ _ (aH (aA fun K c=>?_));simp only[RR,seval];refine c _ _ (bN fun F3 P d y=>?_);have g0:=d 0;have g4:=d 4;have f6:=d 6;have f8:=d 8;have U:=d 9;have a7:=d 10;have a8:=d 11;have a9:=d 12;have J:=d 17;have u:=y a;have B:=y v;have a1:=y E;simp only[I,H,F,G,C,o,D,d4,d5,RR,seval]at g0 g4 f6 f8 U a7 a8 a9 J u B a1;have R:bC [0,4,10,11] F2 F3:=bC.same d (by repeat (first|exact R|refine bC.upd rfl ?_));have S:=(y a).trans (by(simp only[d4,aS,seval];exact S));have T:=(y v).trans (by(simp only[d5,aS,seval];exact T));have I:=g0;have H:=g4;have F:=a7;have G:=a8;have C:=a9;have o:=u;have D:=B;refine gP (fun fr M=>bC [0,4,8,10,11,12,17] F3 fr∧M a=P a∧M v=P v∧M E=P E∧fr 9= .int .i64 ws∧(!(decide (e.kind=6)&&WD))=true∧(!(decide (e.kind=7)&&K8&& !w))=true) (fun e5 b3=>?_) ?_
   ·have X:=bC.refl [0,4,8,10,11,12,17] F3
    have Y:P a=P a:=rfl;have Z:P v=P v:=rfl;have a0:P E=P E:=rfl;refine aQ (aH (aA fun K c=>?_));simp only[J,RR,seval];refine c _ _ (bN fun F4 Q d y=>?_);have g0:=d 0;have g4:=d 4;have g6:=d 6;have g8:=d 8;have g9:=d 9;have a7:=d 10;have a8:=d 11;have a9:=d 12;have c4:=d 17;have a6:=d 18;have u:=y a;have B:=y v;have a2:=y E;simp only[I,H,f6,f8,U,F,G,C,J,o,D,a1,RR,seval]at g0 g4 g6 g8 g9 a7 a8 a9 c4 a6 u B a2;have R:bC [0,4,10,11] F2 F4:=bC.same d (by repeat (first|exact R|refine bC.upd rfl ?_));have S:=(y a).trans S;have T:=(y v).trans T;have X:bC [0,4,8,10,11,12,17] F3 F4:=bC.same d (by repeat (first|exact X|refine bC.upd rfl ?_));have Y:=(y a).trans Y;have Z:=(y v).trans Z;have a0:=(y E).trans a0;have I:=g0;have H:=g4;have f6:=g6;have f8:=g8;have U:=g9;have F:=a7;have G:=a8;have C:=a9;have J:=c4;have o:=u;have D:=B;have a1:=a2;refine gP (fun fr M=>bC [0,4,6,8,9,10,11,12,17] F4 fr∧M a=Q a∧M v=Q v∧M E=Q E∧fr 18= .bool (decide (e.kind=4∨e.kind=5))) (fun e6 c6=>?_) ?_
    ·have c0:=bC.refl [0,4,6,8,9,10,11,12,17] F4
     have c1:Q a=Q a:=rfl;have c2:Q v=Q v:=rfl;have c3:Q E=Q E:=rfl;refine eO _ a6 (fun a5=>?_) (fun a5=>?_)
     ·try (cases a5;done)
      all_goals
       refine aL ?_;simp only[RR];refine c6 _ _ ⟨(by repeat (exact c0)),c1,c2,c3, ?_⟩
       (rw[a6,a5];simp [aD a5])
     try (cases a5;done)
     all_goals
      refine aM ?_;simp only[J,RR,seval];refine c6 _ _ ⟨(by repeat (first|exact c0|refine bC.upd rfl ?_)),c1,c2,c3, ?_⟩
      (simp only[aS,seval];simp [aE a5])
    rintro F5 M5 ⟨i,u,B,a2,a6⟩;have I:=(i 0 rfl).trans I;have H:=(i 4 rfl).trans H;have f6:=(i 6 rfl).trans f6;have f8:=(i 8 rfl).trans f8;have U:=(i 9 rfl).trans U;have F:=(i 10 rfl).trans F;have G:=(i 11 rfl).trans G;have C:=(i 12 rfl).trans C;have J:=(i 17 rfl).trans J;have o:=u.trans o;have D:=B.trans D;have a1:=a2.trans a1;have R:bC [0,4,10,11] F2 F5:=bC.sub i rfl R;have S:=u.trans S;have T:=B.trans T;have X:bC [0,4,8,10,11,12,17] F3 F5:=bC.sub i rfl X;have Y:=u.trans Y;have Z:=B.trans Z;have a0:=a2.trans a0;clear i;simp only[RR,seval];refine eO _ a6 (fun V=>?_) (fun V=>?_)
    ·try (cases V;done)
     all_goals
      refine aM ?_;simp only[RR,seval];refine b3 _ _ ⟨(by repeat (first|exact X|refine bC.upd rfl ?_)),Y,Z,a0, ?_⟩;clear N O L z;clear a3;refine⟨?_, ?_, ?_⟩
      ·(simp only[aS,seval];rw[b2 (aD V)];done)
      ·(have hq:=aD V;rw[bI (show ¬e.kind=6 by omega)];rfl)
      (have hq:=aD V;rw[bI (show ¬e.kind=7 by omega)];rfl)
    try (cases V;done)
    all_goals
     refine aA fun K c=>?_;simp only[J,RR,seval];refine c _ _ (aX ?_ ?_)<;>intro b7
     ·try (cases b7;done)
      all_goals
       rcases a3 with⟨hl,hr⟩|⟨j,g,hl,hr⟩<;>rw[hl]at b6<;>simp only at b6<;>subst b6
       all_goals
        refine aG fun K c=>?_;refine bA (fun x=>x≠a∧x≠v∧x≠E) [(0,3),(1,3),(2,3),(3,1),(4,3),(5,1),(6,1),(7,3)] [] eB (by kernel_rfl) rfl rfl ?_;simp only[*,dI,pU,mK,mM,RR,seval];refine c _ _ (aX ?_ ?_)<;>intro c7
        ·try (cases c7;done)
         all_goals
          refine aA fun K c=>?_;simp only[RR,seval];apply c;refine aP ?_;simp only[aY,aK,bP,RR,seval];refine bB.q ?_ (gH (b:=a) o);rw[z];clear N O L b2 a4 hr;simp_all
        try (cases c7;done)
        all_goals
         refine aL ?_;simp only[RR];refine b3 _ _ ⟨(by repeat (first|exact X|refine bC.upd rfl ?_)),Y,Z,a0, ?_⟩;clear N O L z;refine⟨?_, ?_, ?_⟩
         ·(simp only[aS,seval,U];rw[a4 (aE V)])
         ·simp_all
         (have hq:=aD b7;rw[bI (show ¬e.kind=7 by omega)];rfl)
     try (cases b7;done)
     all_goals
      refine aA fun K c=>?_;simp only[J,RR,seval];refine c _ _ (aX ?_ ?_)<;>intro c8
      ·try (cases c8;done)
       all_goals
        refine aA fun K c=>?_;simp only[f8,a1,aF,d8,z8,RR,seval]
        repeat' ((refine fJ (fun h=>?_) (fun h=>?_))<;>simp only[h,H,D,RR,seval])
        all_goals
         refine c _ _ (aX ?_ ?_)<;>intro c9
         ·try (cases c9;done)
          all_goals
           refine aA fun K c=>?_;simp only[RR,seval];apply c;refine aP ?_;simp only[aY,aK,bP,RR,seval];refine bB.q ?_ (gH (b:=a) o);rw[z];clear N O L a3 b2 a4;simp_all
         try (cases c9;done)
         all_goals
          refine aL ?_;simp only[RR];refine b3 _ _ ⟨(by repeat (first|exact X|refine bC.upd rfl ?_)),Y,Z,a0, ?_⟩;clear N O L z;clear a3;refine⟨?_, ?_, ?_⟩
          ·(simp only[aS,seval,U];rw[a4 (aE V)])
          ·simp_all
          simp_all
      try (cases c8;done)
      all_goals
       refine aL ?_;simp only[RR];refine b3 _ _ ⟨(by repeat (first|exact X|refine bC.upd rfl ?_)),Y,Z,a0, ?_⟩;clear N O L z;clear a3;refine⟨?_, ?_, ?_⟩
       ·(simp only[aS,seval,U];rw[a4 (aE V)])
       ·simp_all
       simp_all
   rintro F6 M6 ⟨i,u,B,a2,U,hA,hB⟩;have I:=(i 0 rfl).trans I;have H:=(i 4 rfl).trans H;have f8:=(i 8 rfl).trans f8;have F:=(i 10 rfl).trans F;have G:=(i 11 rfl).trans G;have C:=(i 12 rfl).trans C;have J:=(i 17 rfl).trans J;have o:=u.trans o;have D:=B.trans D;have a1:=a2.trans a1;have R:bC [0,4,10,11] F2 F6:=bC.sub i rfl R;have S:=u.trans S;have T:=B.trans T;clear i;simp only[RR,seval];rw[hA,hB,zS,zS]at z;refine aA fun K c=>?_;simp only[*,RR,seval]
   all_goals (refine kA (b:=a) L o (fun _=>trivial) ?_;simp only[RR,seval])
   all_goals ((refine cL (fun h=>?_) (fun h=>?_))<;>simp only[*,RR,seval])
   all_goals try (refine kA (b:=a) N o (fun _=>trivial) ?_;simp only[RR,seval])
   all_goals try ((refine cL (fun h=>?_) (fun h=>?_))<;>simp only[*,RR,seval])
   all_goals try (refine kA (b:=a) O o (fun _=>trivial) ?_;simp only[RR,seval])
   all_goals
    refine c _ _ (aX ?_ ?_)<;>intro d0
    ·try (cases d0;done)
     all_goals
      refine aA fun K c=>?_;simp only[RR,seval];apply c;refine aP ?_;simp only[aY,aK,bP,RR,seval];refine bB.q ?_ (gH (b:=a) o);rw[z];clear N O L a3 b2 a4;simp_all
    try (cases d0;done)
    all_goals
     refine aL ?_;simp only[RR];refine aM ?_;simp only[C,RR,seval];rw[aU _ (by omega)];refine d6 _ _ b5 ⟨by rfl,S,T,by rw[z];clear N O L a3 b2 a4;simp_all⟩ (by repeat (first|exact R|refine bC.upd rfl ?_))
  have d7:k=l.length:=by have:=aE hc;omega
  refine cH ?_;simp only[RR,seval];refine aA fun K c=>?_;simp only[RR,seval];apply c;refine aP ?_;simp only[aY,aK,bP,RR,seval];refine bB.q ?_ (gH (b:=a) o);rw[z,d7,dF,Yh]
theorem Xq (p:Pg) (Y:p.ok):eG dR 59 [p.av] (.int .i64 (qP p)):=by
 have L:qP p=if(p.funs.all fun f=>yM (zT p) f.body)=true then(if(p.funs.all fun f=>pN (sB p) f.word f.body)=true then 0 else 5)else 4:=rfl
 have a0:=Y.funs;have c2:=Y.ffit;have a2:=Xf p Y.ffit;have U:=fun b (x:List Sm) (h:zG x)=>Va p b _ x (aZ _) h;have T:=fun b (f:Fu) (x:List Sm) (h:zG x)=>Uz p b f _ x (aZ _) h;generalize qP p=d7 at *;generalize sB p=W at *;generalize zT p=Z at *;clear Y;obtain⟨vs,aa,i⟩:=p;simp only[Pg.av,Pg.row,eY]at a2 c2 a0 L⊢;refine bU 37 [.tmp 2] func59 ?_;refine aA fun K a=>?_;simp only[RR,seval];refine aN fun y d5=>?_;simp only[RR,seval];refine a _ _ (bN fun F1 M1 g B=>?_);have z:=g 1;have I:=g 2;have c:=B y;simp only[RR,seval]at z I c;refine aA fun K a=>?_;simp only[z,c,RR,seval];refine Kz a2 (gK.refl _) fun v H' M9 ⟨d,hv,a1⟩ A hn=>?_;subst hv;have l:M9 d=some (.rows 11 [iS ⟨vs,aa,i⟩ d]):=(hn d _ (by rw[a1];exact nR _ _)).1;have a7:=(hn d _ (by rw[a1];exact nR _ _)).2;have c5:d≠y:=fun e=>by rw[e,c]at a7;cases a7
 have d6:=c5.symm;have c:=A _ _ (fun h=>h) c;have U:=U d;have T:=T d;unfold Jd at U T;generalize iS ⟨vs,aa,i⟩ d=d2 at *;simp only[RR,seval];refine a _ _ (aH (aA fun K a=>?_));simp only[z,c,aF,RR,seval];refine a _ _ (bN fun F2 M2 g B=>?_);have g1:=g 1;have g2:=g 2;have u:=g 3;have P:=g 11;have Q:=g 12;have E:=g 13;have n:=B y;have o:=B d;simp only[z,I,c,l,RR,seval]at g1 g2 u P Q E n o;have z:=g1;have I:=g2;have c:=n;have l:=o;refine aQ (eT [1,3,11,12] (i.length) (fun k fr M=>fr 13= .int .i64 (k:Nat)∧M y=M2 y∧M d=M2 d∧(i.all fun f=>yM Z f.body)=((i.drop k).all fun f=>yM Z f.body)) ⟨E,rfl,rfl,by rw[dP]⟩ ?_);rintro k F3 M3 d3 ⟨J,n,o,C⟩ t K0 c0;have z:=(t 1 rfl).trans z;have u:=(t 3 rfl).trans u;have P:=(t 11 rfl).trans P;have Q:=(t 12 rfl).trans Q;have E:=J;clear J;have c:=n.trans c;have l:=o.trans l;have b0:=bC.refl [1,3,11,12] F3;have b3:=n;have b4:=o;clear t;refine aA fun K a=>?_;simp only[Q,E,RR,seval];refine a _ _ (aH (aX ?_ ?_))<;>intro D
 ·have V:k<i.length:=by have:=aD D;omega
  clear D;have N:=tP (aC V);have O:=(a0 _ (bZ V)).body;rw[bM V,eD]at C;generalize i[k]=f at N C O;have A:=U f.body O;generalize yM Z f.body=H at A C;refine aL ?_;simp only[RR];refine aH (aQ (aA fun K a=>?_));simp only[P,E,N,RR,seval];refine aN fun b5 a5=>?_;have c8:=cR a5 c;have c6:=c8.symm;have c9:=cR a5 l;have a8:=c9.symm;simp only[RR,seval];refine a _ _ (aA fun K a=>?_);simp only[u,RR,seval];refine kA (b:=d) A (by(simp only[l,a8,aS,seval];done)) (fun _=>trivial) ?_;simp only[RR,seval];refine a _ _ (aX ?_ ?_)<;>intro a4
  ·refine aA fun K a=>?_
   simp only[RR,seval];apply a;refine aP ?_;simp only[aY,aK,bP,RR,seval];refine bB.pure ?_;rw[L,aO (by rw[C,show H=false by simpa using a4];simp)]
  refine aL ?_;try simp only[RR]
  refine aM ?_;simp only[E,RR,seval];rw[aU _ (by omega)];refine c0 _ _ V ⟨by rfl,(by(simp only[c6,aS,seval];exact b3)),(by(simp only[a8,aS,seval];exact b4)),by rw[C,show H=true by simpa using a4,cO]⟩ (by repeat (first|exact b0|refine bC.upd rfl ?_))
 have c3:k=i.length:=by have:=aE D;omega
 rw[c3,dF,gW]at C;rw[bF C]at L;refine cH ?_;simp only[RR,seval];refine aH (aA fun K a=>?_);simp only[z,c,aF,RR,seval];refine a _ _ (bN fun F4 M4 g B=>?_);have I:=g 2;have g3:=g 3;have R:=g 24;have S:=g 25;have F:=g 26;have n:=B y;have o:=B d;simp only[u,c,l,RR,seval]at I g3 R S F n o;have u:=g3;have c:=n;have l:=o;refine aQ (eT [3,24,25] (i.length) (fun j fr M=>fr 26= .int .i64 (j:Nat)∧M y=M4 y∧M d=M4 d∧(i.all fun f=>pN W f.word f.body)=((i.drop j).all fun f=>pN W f.word f.body)) ⟨F,rfl,rfl,by rw[dP]⟩ ?_);rintro j F5 M5 d4 ⟨J,n,o,G⟩ t K2 c1;have u:=(t 3 rfl).trans u;have R:=(t 24 rfl).trans R;have S:=(t 25 rfl).trans S;have F:=J;clear J;have c:=n.trans c;have l:=o.trans l;have b2:=bC.refl [3,24,25] F5;have b6:=n;have b8:=o;clear t;refine aA fun K a=>?_;simp only[S,F,RR,seval];refine a _ _ (aH (aX ?_ ?_))<;>intro D
 ·have X:j<i.length:=by have:=aD D;omega
  clear D;have N:=tP (aC X);have O:=(a0 _ (bZ X)).body;rw[bM X,eD]at G;generalize i[j]=f at N G O;have A:=T f f.body O;simp only[Fu.row]at A;generalize pN W f.word f.body=H at A G;refine aL ?_;simp only[RR];refine aH (aQ (aA fun K a=>?_));simp only[R,F,N,RR,seval];refine aN fun b7 a6=>?_;have d0:=cR a6 c;have c7:=d0.symm;have d1:=cR a6 l;have a9:=d1.symm;simp only[RR,seval];refine a _ _ (aA fun K a=>?_);simp only[u,RR,seval];refine kA (b:=d) A (by(simp only[l,a9,aS,seval];done)) (fun _=>trivial) ?_;simp only[RR,seval];refine a _ _ (aX ?_ ?_)<;>intro a3
  ·refine aA fun K a=>?_
   simp only[RR,seval];apply a;refine aP ?_;simp only[aY,aK,bP,RR,seval];refine bB.pure ?_;rw[L,aO (by rw[G,show H=false by simpa using a3];simp)]
  refine aL ?_;try simp only[RR]
  refine aM ?_;simp only[F,RR,seval];rw[aU _ (by omega)];refine c1 _ _ X ⟨by rfl,(by(simp only[c7,aS,seval];exact b6)),(by(simp only[a9,aS,seval];exact b8)),by rw[G,show H=true by simpa using a3,cO]⟩ (by repeat (first|exact b2|refine bC.upd rfl ?_))
 have c4:j=i.length:=by have:=aE D;omega
 refine cH ?_;simp only[RR,seval];refine aA fun K a=>?_;simp only[RR,seval];apply a;refine aP ?_;simp only[aY,aK,bP,RR,seval];refine bB.pure ?_;rw[L,bF (by rw[G,c4,dF];rfl)]
end Go.Proofs.YtaecpjgmcffliaaGreatDoor
namespace Go.Proofs
open Go.Al Go.Proofs.Tryz
section
open Go.Lib Go.RowKit Go.Al
abbrev TB:TypeId:=73
abbrev TQ:TypeId:=71
abbrev TU:TypeId:=5
theorem T9:(Tryz.prog.info? TQ).map (·.size)=some 2:=by kernel_rfl
theorem OO:liesAt Tryz.prog Tryz.prog.depth TB (2/Tryz.prog.cellsOf TB) 0 TQ 1=true:=by kernel_rfl
theorem Jo (b:Nat) (w:World) (d:w.cell? ⟨b,0,none⟩=some (.pointer (some ⟨b,0,none⟩))):
  Calls Tryz.prog 55 #[.pointer (some ⟨b,0,none⟩)] w fun e c=>e= .returned (.tuple #[])∧c=w:=by
 obtain⟨j,a,_⟩:=bG.1 T9
 go_enter func55,Tryz.ntmps55
 go_wp2
 rw[Lib.run_neq_ptr_same w _ Tryz.underlying68 a]
 go_wp2
 go_end0
 exact⟨rfl,rfl⟩
theorem Gj (b:Nat) (w:World) (g:w.cell? ⟨b,0,none⟩=some (.pointer none)) (c:w.shape? b=some (TB,2)) (i:w.frozen? ⟨b,0,none⟩=false):
  Calls Tryz.prog 55 #[.pointer (some ⟨b,0,none⟩)] w fun e f=>e= .returned (.tuple #[])∧f=w.setCell ⟨b,0,none⟩ (.pointer (some ⟨b,0,none⟩)):=by
 obtain⟨j,a,d⟩:=bG.1 T9
 go_enter func55,Tryz.ntmps55
 go_wp2
 rw[Lib.run_to_unsafe w ⟨b,0,none⟩ Tryz.underlying68 Tryz.underlying136 a (by rw[d];decide) c (Nat.zero_lt_succ 1)];simp only[Result.andThen];rw[Oper.upon_value]
 go_wp2
 rw[run_callFunc_extern func80 (by kernel_rfl) (by kernel_rfl) (by kernel_rfl) (e:=Extern.AbiNoEscape.same) (by kernel_rfl)];rw[Lib.run_noEscape];simp only[Result.andThen];rw[Oper.upon_value]
 go_wp2
 rw[Lib.run_from_unsafe w ⟨b,0,none⟩ Tryz.underlying136 Tryz.underlying68 a c OO];simp only[Result.andThen];rw[Oper.upon_value]
 go_wp2
 go_end0
 exact⟨rfl,rfl⟩
theorem Et (b:Nat) (p v:Value) (w:World) (a:w.heap[b]?=some (.cells #[p,v] TB (0,0))) (f:p= .pointer none∨p= .pointer (some ⟨b,0,none⟩)):
  Calls Tryz.prog 55 #[.pointer (some ⟨b,0,none⟩)] w fun e c=>e= .returned (.tuple #[])∧c.heap[b]?=some (.cells #[.pointer (some ⟨b,0,none⟩),v] TB (0,0))∧oI (fun k=>k=b) w c:=by
 have d:w.cell? ⟨b,0,none⟩=some p:=by rw[Lib.cell_of_heap a];rfl
 rcases f with rfl|rfl
 ·refine(Gj b w d (by simp [World.shape?,a]) (Lib.frozen_of_heap a 0)).mono ?_
  rintro e c ⟨rfl,rfl⟩;exact⟨rfl,by simp [World.setCell,uD,a],oI.setCell w _ _ rfl⟩
 refine(Jo b w d).mono ?_;rintro e c ⟨rfl,rfl⟩;exact⟨rfl,a,oI.refl _ _⟩
end
section
open Go.Lib Go.RowKit Go.Al
theorem Qg:(Tryz.prog.info? TU).map (fun i=>(i.zero,i.size,i.bytes))=some (some (.int .u8 0),1,1):=by kernel_rfl
theorem yW {P:Program} {w:World} {ops:Array Oper} {d:List Oper} {o:Oper} {a:Act} {Q:Exit→Act→World→Prop} (E:o.guard=none) (j x:Operand) (t u:TypeId)
  (M:o.op= .call {callee:= .builtin .append,args:= #[j,x],argTypes:= #[t,u]})
  (e:TypeId) (i:TypeInfo) (I:P.underlying t=some (.slice e)) (J:P.underlying u=some .string) (F:P.info? e=some i) (L:i.zero=some (.int .u8 0))
  (H:i.size=1) (D:i.bytes=1)
  (v:Value) (n:Nat) (xs:List Value) (O:a.eval j=v) (G:w.ownsRow 0 e 1 v n xs) (s:ByteArray) (R:a.eval x= .string s) (C:n+s.size≤140737488355328)
  (h: ∀b c,c.ownsRow 0 e 1 b (n+s.size) (xs++strCells s)→w.grownBy c v.ownBlock→(∀k f,w.shape? k=some f→c.shape? k=some f)→(∀g,b.ownBlock=some g→v.ownBlock=some g∨w.heap.size≤g)→(b= .slice none 0 0↔v= .slice none 0 0∧s.size=0)→wpList P ops Q d (a.put o.dst b) c):wpList P ops Q (o::d) a w:=by
 refine wpList_plain E fun K B=>?_;obtain⟨b,c,N,l,p,y,z,A⟩:=Zm (P:=P) w t u o.type e i I J F L H D v n xs G s C;unfold Oper.wp execOp;simp only[*,resolve,invoke,builtin,Sem.run_bind,Sem.run_pure,Result.andThen_ok,List.map_toArray,cX,dH];exact B _ _ (h b c l p y z A)
theorem Qo {M:Nat→Prop} {w a:World} {r:Option Nat} (h:w.grownBy a r) (g: ∀k b,w.shape? k=some b→a.shape? k=some b) (f: ∀k,r=some k→M k):oI M w a:=
 ⟨h.os,h.tape,h.output,h.size,fun k c d=>h.block k c fun e=>d (f k e.symm),g⟩
theorem Nl (b:Nat) (p v:Value) (n:Nat) (xs:List Value) (s:ByteArray) (w:World) (A:w.heap[b]?=some (.cells #[p,v] TB (0,0))) (P:p= .pointer none∨p= .pointer (some ⟨b,0,none⟩))
  (E:w.ownsRow 0 TU 1 v n xs) (I:n+s.size≤140737488355328):
  Calls Tryz.prog 29 #[.pointer (some ⟨b,0,none⟩), .string s] w fun e z=>e= .returned (.tuple #[.int .i64 s.size, .nilIface])∧
   ∃c,z.heap[b]?=some (.cells #[.pointer (some ⟨b,0,none⟩),c] TB (0,0))∧z.ownsRow 0 TU 1 c (n+s.size) (xs++strCells s)∧
    oI (fun k=>k=b∨v.ownBlock=some k) w z∧(∀g,c.ownBlock=some g→v.ownBlock=some g∨w.heap.size≤g)∧(c= .slice none 0 0↔v= .slice none 0 0∧s.size=0):=by
 obtain⟨U,H,R,S,T⟩:=info_parts Qg;have D:TB≠TU:=by decide
 have C:v.ownBlock≠some b:=Lib.ownBlock_ne E A D
 go_enter func29,Tryz.ntmps29
 go_wp2_with (go_at_call 55;refine(Et b p v _ A P).mono ?_)
 rintro e t ⟨rfl,l,a⟩;have O:t.ownsRow 0 TU 1 v n xs:=E.kept (row:=some b) ⟨a.os,a.tape,a.output,a.size,fun k u K=>a.keep k u (fun e=>K (by rw[e]))⟩ (.inr C);have V:t.cell? ⟨b,0,none⟩=some (.pointer (some ⟨b,0,none⟩)):=by rw[Lib.cell_of_heap l];rfl
 have W:t.cell? ⟨b,1,none⟩=some v:=by rw[Lib.cell_of_heap l];rfl
 go_wp2_with (at_builtin;refine yW rfl _ _ 69 9 rfl TU U Tryz.underlying69 Tryz.underlying9 H R S T _ _ _ rfl O s rfl I ?_)
 intro c i x B Q M N;have J:b<t.heap.size:=(eM.1 l).1
 have f:i.heap[b]?=some (.cells #[.pointer (some ⟨b,0,none⟩),v] TB (0,0)):=by
  rw[B.block b J (fun e=>C e.symm)];exact l
 have Y:i.cell? ⟨b,0,none⟩=some (.pointer (some ⟨b,0,none⟩)):=by rw[Lib.cell_of_heap f];rfl
 have Z:i.cell? ⟨b,1,none⟩=some v:=by rw[Lib.cell_of_heap f];rfl
 have f1:i.frozen? ⟨b,1,none⟩=false:=Lib.frozen_of_heap f 1
 obtain⟨j,o,d,rfl⟩: ∃j o d,c= .slice j o d:=by
  rcases x.2 with⟨y,_⟩|⟨g,d,X,y,_⟩
  ·exact⟨_,_,_,y⟩
  exact⟨_,_,_,y⟩
 have L:(Value.slice j o d).ownBlock≠some b:=Lib.ownBlock_ne x f D;have a0:=a.size
 go_wp2
 go_ret2
 refine⟨rfl, .slice j o d,by simp [World.setCell,uD,f], ?_, ?_, ?_,by simpa using N⟩
 ·exact x.kept (row:=some b) ⟨rfl,rfl,rfl,by simp [World.setCell],fun k _ u=>Below.heap_setCell _ _ _ _ (fun e=>u (by simp [e]))⟩ (.inr L)
 ·exact((a.mono fun _ _ h=> .inl h).trans (Qo B (fun k F=>Q k F.1 F.2) fun k h=> .inr h)).trans (oI.setCell i _ _ (.inl rfl))
 intro g G;rcases M g G with h|h
 ·exact .inl h
 exact .inr (by omega)
end
section
open Go.Lib Go.RowKit Go.Al
theorem KT:Tryz.prog.cellsOf TU=1:=by kernel_rfl
theorem GO (b g cap:Nat) (p:Value) (l:List UInt8) (w:World) (d:l≠[]) (n:w.heap[b]?=some (.cells #[p, .slice (some ⟨g,0,none⟩) l.length cap] TB (0,0)))
  (a:Array Value) (k:w.heap[g]?=some (.cells a TU (0,0))) (o:a.size=cap) (t:l.length≤cap) (i:cap≤maxLen) (f: ∀(j:Nat) (x:UInt8),l[j]?=some x→a[j]?=some (.int .u8 x.toNat)):
  Calls Tryz.prog 30 #[.pointer (some ⟨b,0,none⟩)] w fun e v=>e= .returned (.string ⟨l.toArray⟩)∧v=w.drew.freeze ⟨g,0,none⟩ l.length:=by
 have B:l.length≠0:=by simpa using d
 have y:w.drew.cell? ⟨b,1,none⟩=some (.slice (some ⟨g,0,none⟩) l.length cap):=by
  have :w.drew.heap[b]?=some (.cells #[p, .slice (some ⟨g,0,none⟩) l.length cap] TB (0,0)):=n;rw[Lib.cell_of_heap this];rfl
 have z:(Builtin.unsafeSliceData_ #[69] 110 #[.slice (some ⟨g,0,none⟩) l.length cap]).run Tryz.prog w.drew= .ok (.pointer (some ⟨g,0,none⟩)) w.drew:=
  Lib.run_unsafeSliceData_row _ _ _ _ _ _ (by omega)
 have c:w.drew.heap[g]?=some (.cells a TU (0,0)):=k
 have A:(Builtin.unsafeString_ #[110,3] 9 #[.pointer (some ⟨g,0,none⟩), .int .i64 l.length]).run Tryz.prog w.drew= .ok (.string ⟨l.toArray⟩) (w.drew.freeze ⟨g,0,none⟩ l.length):=by
  refine Lib.run_unsafeString_row w.drew 110 3 9 TU Tryz.underlying110 KT g a.size (by simp [World.shape?,c]) l d (by omega) (by unfold maxLen at i;omega) ?_;intro j x u;rw[Addr.add_lit,Lib.cell_of_heap c,cD];exact f j x u
 clear k c f o i t
 go_enter func30,Tryz.ntmps30
 go_wp2
 go_region
 all_goals (go_wp2;go_ret;exact⟨rfl,rfl⟩)
theorem Ry (b:Nat) (p:Value) (w:World) (a:w.heap[b]?=some (.cells #[p, .slice none 0 0] TB (0,0))):
  Calls Tryz.prog 30 #[.pointer (some ⟨b,0,none⟩)] w fun e c=>e= .returned (.string ⟨#[]⟩)∧c=w.drew:=by
 have d:w.drew.cell? ⟨b,1,none⟩=some (.slice none 0 0):=by
  have :w.drew.heap[b]?=some (.cells #[p, .slice none 0 0] TB (0,0)):=a;rw[Lib.cell_of_heap this];rfl
 have f:(Builtin.unsafeSliceData_ #[69] 110 #[.slice none 0 0]).run Tryz.prog w.drew= .ok (.pointer none) w.drew:=rfl;have g: ∀(W:World) (q:Option Addr),(Builtin.unsafeString_ #[110,3] 9 #[.pointer q, .int .i64 0]).run Tryz.prog W= .ok (.string .empty) W:=fun W q=>Lib.run_unsafeString_none W _ _ _ q
 go_enter func30,Tryz.ntmps30
 go_wp2
 go_region
 all_goals (go_wp2;go_ret;exact⟨rfl,rfl⟩)
end
end Go.Proofs
namespace Go.Al
section
open Go.Proofs Go.Lib Go.RowKit
def mZ (b:Nat) (bs:List UInt8) (H:Hp):Prop:=
 (bs=[]∧H b=some (.bld TB none 0))∨(bs≠[]∧ ∃g cap,H b=some (.bld TB (some (g,cap)) bs.length)∧H g=some (.buf TU bs cap))
def A0 (b:Nat) (bs:List UInt8) (H:Hp):Prop:=
 (bs=[]∧H=upd oN b (some (.bld TB none 0)))∨(bs≠[]∧ ∃g cap,g≠b∧H=upd (upd oN b (some (.bld TB (some (g,cap)) bs.length))) g (some (.buf TU bs cap)))
def qJ:iG→Prop
 | .rows _ _=>True
 | .amap _=>True
 |_=>False
theorem A0.h {b:Nat} {a:List UInt8} {H:Hp} (h:A0 b a H):mZ b a H:=by
 rcases h with⟨e,rfl⟩|⟨e,g,c,d,rfl⟩
 ·exact .inl ⟨e,bO _ _ _⟩
 exact .inr ⟨e,g,c,by rw[cG _ _ (Ne.symm d),bO],bO _ _ _⟩
theorem mZ.ne {b:Nat} {a:List UInt8} {H:Hp} {g cap:Nat} (d:H b=some (.bld TB (some (g,cap)) a.length)) (c:H g=some (.buf TU a cap)):g≠b:=fun e=>by
 rw[e,d]at c;cases c
theorem mZ.least {b:Nat} {l:List UInt8} {H:Hp} (h:mZ b l H): ∃j,A0 b l j∧sD j H∧ ∀x o,H x=some o→qJ o→j x=none:=by
 rcases h with⟨e,d⟩|⟨e,g,n,d,k⟩
 ·refine⟨_, .inl ⟨e,rfl⟩,fun x o a=>?_,fun x o a i=>?_⟩
  ·by_cases c:x=b
   ·subst c;rw[bO]at a;rw[d];exact a
   rw[cG _ _ c]at a;cases a
  by_cases c:x=b
  ·subst c;rw[d]at a;cases a;exact i.elim
  rw[cG _ _ c];rfl
 have p:=mZ.ne d k;refine⟨_, .inr ⟨e,g,n,p,rfl⟩,fun x o a=>?_,fun x o a i=>?_⟩
 ·by_cases c:x=g
  ·subst c;rw[bO]at a;rw[k];exact a
  rw[cG _ _ c]at a;by_cases f:x=b
  ·subst f;rw[bO]at a;rw[d];exact a
  rw[cG _ _ f]at a;cases a
 have c:x≠g:=fun c=>by subst c;rw[k]at a;cases a;exact i
 have f:x≠b:=fun c=>by subst c;rw[d]at a;cases a;exact i
 rw[cG _ _ c,cG _ _ f];rfl
theorem mZ.keep {b:Nat} {d:List UInt8} {H H':Hp} (h:mZ b d H) (c: ∀x o,H x=some o→ ¬qJ o→H' x=some o):mZ b d H':=by
 rcases h with⟨e,a⟩|⟨e,g,f,a,i⟩
 ·exact .inl ⟨e,c _ _ a (fun h=>h)⟩
 exact .inr ⟨e,g,f,c _ _ a (fun h=>h),c _ _ i (fun h=>h)⟩
theorem mZ.new {b:Nat} {c:List UInt8} {H:Hp} (h:mZ b c H) {x:Nat} (d:H x=none) (o:Option iG):mZ b c (upd H x o):=
 h.keep fun y f a _=>by rw[cG _ _ (fun e=>by subst e;rw[d]at a;cases a)];exact a
theorem mZ.new2 {b:Nat} {d:List UInt8} {H:Hp} (h:mZ b d H) {x:Nat} (f:H x=none) (o g:Option iG):mZ b d (upd (upd H x o) x g):=
 h.keep fun y i a _=>by
  have c:y≠x:=fun e=>by subst e;rw[f]at a;cases a
  rw[cG _ _ c,cG _ _ c];exact a
theorem mZ.set {b:Nat} {c:List UInt8} {H:Hp} (h:mZ b c H) {x:Nat} {o:iG} (g:H x=some o) (f:qJ o) (i:Option iG):mZ b c (upd H x i):=
 h.keep fun y j a d=>by rw[cG _ _ (fun e=>by subst e;rw[g]at a;cases a;exact d f)];exact a
def Vd (E:kB) (g:FuncId) (args:List AV) (b:Nat) (bs:List UInt8) (v:AV) (out:List UInt8):Prop:= ∀H0,A0 b bs H0→pP E g args H0 (fun ae H'=>ae= .ret v∧A0 b (bs++out) H')
theorem Ky {E:kB} {F:Nat→Prop} {y:List (Option Nat)} {Q:fF} {d:Option Nat} {D:List Oper} {fr:Fr} {H:Hp} {g:FuncId} {p t:List AV} {b:Nat} {k C:List UInt8} {v:AV}
  (K:Vd E g t b k v C) (J:mZ b k H) (N:gK p t) (I: ∀x o,H x=some o→ ¬qJ o→F x) (h: ∀i,mZ b (k++C) i→(∀x o,H x=some o→qJ o→i x=some o)→(∀x o,i x=some o→qJ o→H x=some o)→eC E F y Q D (fH fr d v) i):pC E F y Q d D fr H g p:=by
 obtain⟨n,L,l,B⟩:=J.least
 refine kW (K n L) N l (fun x a=>by
  cases e:n x with
  |none=>exact absurd e a
  |some o=>exact I x o (l x o e) fun f=>by rw[B x o (l x o e) f]at e;cases e) fun R j ⟨e,A⟩ M=>?_
 subst e
 have O: ∀x o,j x=some o→ ¬qJ o:=fun x o a f=>by
  rcases A with⟨_,rfl⟩|⟨_,g,S,T,rfl⟩
  ·by_cases c:x=b
   ·subst c;rw[bO]at a;cases a;exact f
   rw[cG _ _ c]at a;cases a
  by_cases c:x=g
  ·subst c;rw[bO]at a;cases a;exact f
  rw[cG _ _ c]at a;by_cases u:x=b
  ·subst u;rw[bO]at a;cases a;exact f
  rw[cG _ _ u]at a;cases a
 refine h _ (A.h.keep fun x o a _=>by simp only[kT,a]) (fun x o a f=>?_) (fun x o a f=>?_)
 ·have z:=B x o a f
  have G:j x=none:=by
   cases e:j x with
   |none=>rfl
   |some P=>
    rcases M x (by rw[e];simp)with c|c
    ·exact absurd z c
    rw[a]at c;cases c
  simp only[kT,G,z,fS,cK,dT,a]
 unfold kT at a;split at a
 ·rename_i P e
  cases a;exact absurd f (O _ _ e)
 split at a
 ·cases a
 exact a
theorem BG {E:kB} {F:Nat→Prop} {i:List (Option Nat)} {Q:fF} {d:Option Nat} {k:List Oper} {fr:Fr} {H:Hp} {g:FuncId} {e f:List AV} {b:Nat} {c j:List UInt8} {v:AV}
  (p:Vd E g f b c v j) (n:mZ b c H) (t:gK e f) (l: ∀b,F b) (h: ∀a,mZ b (c++j) a→(∀x o,H x=some o→qJ o→a x=some o)→(∀x o,a x=some o→qJ o→H x=some o)→eC E F i Q k (fH fr d v) a):pC E F i Q d k fr H g e:=by
 exact Ky p n t (fun x _ _ _=>l x) h
theorem vA {E:kB} {F:Nat→Prop} {i:List (Option Nat)} {Q:fF} {d:Option Nat} {k:List Oper} {fr:Fr} {H:Hp} {g:FuncId} {e f:List AV} {b:Nat} {c j:List UInt8} {v:AV}
  (n:mZ b c H) (p:Vd E g f b c v j) (t:gK e f) (l: ∀x o,H x=some o→ ¬qJ o→F x) (h: ∀a,mZ b (c++j) a→(∀x o,H x=some o→qJ o→a x=some o)→(∀x o,a x=some o→qJ o→H x=some o)→eC E F i Q k (fH fr d v) a):pC E F i Q d k fr H g e:=
 Ky p n t l h
theorem gQ {E:kB} {F:Nat→Prop} {i:List (Option Nat)} {Q:fF} {d:Option Nat} {k:List Oper} {fr:Fr} {H:Hp} {g:FuncId} {e f:List AV} {b:Nat} {c j:List UInt8} {v:AV}
  (n:mZ b c H) (p:Vd E g f b c v j) (t:gK e f) (l: ∀b,F b) (h: ∀a,mZ b (c++j) a→(∀x o,H x=some o→qJ o→a x=some o)→(∀x o,a x=some o→qJ o→H x=some o)→eC E F i Q k (fH fr d v) a):pC E F i Q d k fr H g e:=
 BG p n t l h
theorem mZ.gives {b:Nat} {a:List UInt8} {H:Hp} {v v':AV} (h:mZ b a H) (e:v=v'):bB (fun f c=>f= .ret v'∧A0 b a c) v H:=by
 obtain⟨d,g,i,_⟩:=h.least;exact⟨v,d,kY.drop i,by rw[e],g⟩
theorem OP {E:kB} {N id d:Nat} {ty:TypeId} {e:String} {c:Array Edge} {T:TypeId} {g:TI} {Q:fF} {fr:Fr} {H:Hp} (hd:kU N ⟨some d, .alloc T,ty,e,c,none⟩=true) (D:cF E.P T=some g) (F:cellsOf g.zero=some [.npt, .nsl])
  (h: ∀b,H b=none→Q .normal (upd fr d (.ptr 2 b 0 0)) (upd H b (some (.bld T none 0)))):mB E N (.region id #[⟨some d, .alloc T,ty,e,c,none⟩] false) Q fr H:=fun O a w B=>by
 obtain⟨t,u,S,C,y⟩:=B;refine wp_region_list (wpList_plain rfl fun K x=>?_);obtain⟨z,G,k⟩:=mN D w;have f:=nP (nQ S w z) (by rw[←k];exact F);simp only[cY,cB]at f;obtain⟨I,L,i,rfl,J,M,rfl,rfl,rfl⟩:=f
 have A:(execOp a.eval ⟨some d, .alloc T,ty,e,c,none⟩).run E.P w= .ok (.value (.pointer (some ⟨w.heap.size,0,none⟩))) (w.alloc (.cells #[.pointer none, .slice none 0 0] T)):=by
  have j:z.cells= #[.pointer none, .slice none 0 0]:=by rw[←eS (xs:=z.cells),i]
  simp only[execOp,Instr.alloc,Sem.run_bind,G,Result.andThen_ok,newVar,newRow,run_newObj,Sem.run_pure,j];rfl
 obtain⟨l,n,p⟩:=C.alloc (ob:= .cells #[.pointer none, .slice none 0 0] T) (o:= .bld T none 0) (by simp only[jQ];exact⟨_,heap_alloc_new w _, .inl rfl⟩);simp only[Oper.wp,A,Oper.upon_value];apply x;exact⟨_,_,He.put (o:=⟨some d, .alloc T,ty,e,c,none⟩) p (y.keeps n) t u hd (v:= .ptr 2 w.heap.size 0 0) (by simp only[cB]),h _ l⟩
end
section
open Go.Proofs Go.Lib Go.RowKit Go.Proofs.YtaecpjgmcffliaaGreatDoor
theorem I8 (a:List UInt8) (s:List UInt8):(a.map fun c=>Value.int .u8 (c.toNat:Int))++strCells ⟨s.toArray⟩=(a++s).map fun c=>Value.int .u8 (c.toNat:Int):=by
 rw[cP];rfl
theorem T0 {S:gG} {w:World} {g cap:Nat} {a:List UInt8} (h:jQ S w g (.buf TU a cap)):w.ownsRow 0 TU 1 (.slice (some ⟨g,0,none⟩) a.length cap) a.length (a.map fun c=>Value.int .u8 (c.toNat:Int)):=by
 simp only[jQ]at h;obtain⟨d,e,n,f,j,k⟩:=h;refine⟨by simp, .inr ⟨g,cap,d,rfl,cN _,e,f,j,by omega, ?_⟩⟩;apply lJ;intro i;rw[nE,eH,cT];split
 ·rename_i l
  obtain⟨c,b⟩: ∃c,a[i]?=some c:=⟨_,aC l⟩;have:=k i c b;rw[Array.getElem?_toList,this,b];rfl
 rw[dO (by omega)];rfl
theorem P2 {S:gG} {w:World} {v:Value} {a:List UInt8} (o:v≠ .slice none 0 0) (h:w.ownsRow 0 TU 1 v a.length (a.map fun c=>Value.int .u8 (c.toNat:Int))): ∃g b,v= .slice (some ⟨g,0,none⟩) a.length b∧jQ S w g (.buf TU a b):=by
 rcases h.2 with⟨h,_⟩|⟨g,b,e,rfl,_,f,j,k,p,l⟩
 ·exact absurd h o
 refine⟨g,b,rfl, ?_⟩;simp only[jQ];refine⟨e,f,by omega,j,k,fun i c d=>?_⟩;have n:i<a.length:=(bD.1 d).1;have:=congrArg (·[i]?) l;simp only[nE,eH,n,cQ,cT,d,eE,Array.getElem?_toList]at this;exact this
theorem Hr {g:lR} {S:gG} {H:Hp} {w c:World} (hst:St dR g S H w) {M:Nat→Prop} (f:oI M w c) (l: ∀k,M k→H k≠none) {H':Hp} (j: ∀b o,H' b=some o→jQ S c b o∧(H b≠none∨w.heap.size≤b)):St dR g S H' c:=
 hst.step f (fun k h _=>l k h) (fun _ h=>h) (fun k a=>sG (hst.lt k a) f.size) (fun k a=> .inl a) fun b o n=>by
  obtain⟨i,h2⟩:=j b o n;refine⟨fun d=>?_, .inr ⟨i,h2⟩⟩;rcases h2 with h2|h2
  ·cases e:H b with
   |none=>exact h2 e
   |some o'=>exact(hst.obj b o' e).2.1 d
  exact OZ _ (sG (hst.lt b d) h2)
theorem fE (b:Nat) (d s:List UInt8) (R:(d++s).length≤140737488355328):Vd dR 29 [.ptr 2 b 0 0, .str s] b d (.tup [.int .i64 (s.length:Nat), .nif]) s:=by
 intro t T;refine⟨⟨_,Tryz.func29,by kernel_rfl,by kernel_rfl⟩,fun w S vs n G=>?_⟩;simp only[cY,cB]at G;obtain⟨_,_,rfl,rfl,_,_,rfl,rfl,rfl⟩:=G;have J:(⟨s.toArray⟩:ByteArray).size=s.length:=rfl
 -- the builder's block, and its buffer
 obtain⟨p,v,j,W,V,K,L,hd⟩: ∃p v,w.heap[b]?=some (.cells #[p,v] TB (0,0))∧(p= .pointer none∨p= .pointer (some ⟨b,0,none⟩))∧w.ownsRow 0 TU 1 v d.length (d.map fun c=>Value.int .u8 (c.toNat:Int))∧(v= .slice none 0 0↔d=[])∧(∀g,v.ownBlock=some g→t g≠none)∧t b≠none:=by
  rcases T with⟨rfl,rfl⟩|⟨e,g,i,I,rfl⟩
  ·have f:=(n.obj b _ (bO _ _ _)).1
   simp only[jQ]at f;obtain⟨p,j,u⟩:=f;exact⟨p,_,j,u,⟨rfl, .inl ⟨rfl,rfl⟩⟩,by simp,fun g h=>(by simp [Value.ownBlock]at h),by rw[bO];simp⟩
  have f:=(n.obj b (.bld TB (some (g,i)) d.length) (by rw[cG _ _ (Ne.symm I),bO])).1;have U:=(n.obj g _ (bO _ _ _)).1;have X:=T0 U;simp only[jQ]at f;obtain⟨p,j,u⟩:=f;refine⟨p,_,j,u,X,by simp [e],fun g' h=>?_,by rw[cG _ _ (Ne.symm I),bO];simp⟩;simp only[Value.ownBlock,Option.some.injEq]at h;subst h;rw[bO];simp
 have H:=Nl b p v d.length _ ⟨s.toArray⟩ w j W V (by rw[J,←aB];exact R);rw[I8,J]at H;refine H.mono fun e Z ⟨P,O,z,A,M,Y,N⟩=>?_
 have F: ∀k,(k=b∨v.ownBlock=some k)→t k≠none:=fun k hk=>by
  rcases hk with rfl|hk
  ·exact hd
  exact L k hk
 have E:vH S Z (.ret (.tup [.int .i64 (s.length:Nat), .nif])) e:=by
  subst P;simp only[vH,cB,cY];exact⟨_,rfl,_,rfl,_,_,rfl,rfl,_,_,rfl,rfl,rfl⟩
 by_cases l:d++s=[]
 ·have y:O= .slice none 0 0:=N.2 ⟨K.2 (List.append_eq_nil_iff.1 l).1,by have:=(List.append_eq_nil_iff.1 l).2;simp [this]⟩
  subst y;refine⟨_,_,S,Hr n M F (H':=upd oN b (some (.bld TB none 0))) fun x o a=>?_,E,rfl, .inl ⟨l,rfl⟩⟩;by_cases c:x=b
  ·subst c
   rw[bO]at a;cases a;exact⟨by simp only[jQ];exact⟨_,z, .inr rfl⟩, .inl hd⟩
  rw[cG _ _ c]at a;cases a
 have y:O≠ .slice none 0 0:=fun e=>by
  obtain⟨B,C⟩:=N.1 e;rw[K]at B;rw[List.length_eq_zero_iff]at C;exact l (by rw[B,C];rfl)
 rw[←aB]at A;obtain⟨g,i,rfl,f⟩:=P2 (S:=S) y A;have Q:g≠b:=fun e=>Lib.ownBlock_ne A z (by decide) (by simp [Value.ownBlock,e]);refine⟨_,_,S,Hr n M F (H':=upd (upd oN b (some (.bld TB (some (g,i)) (d++s).length))) g (some (.buf TU (d++s) i))) fun x o a=>?_,E,rfl, .inr ⟨l,g,i,Q,rfl⟩⟩;by_cases c:x=g
 ·subst c
  rw[bO]at a;cases a;refine⟨f, ?_⟩;rcases Y x rfl with h|h
  ·exact .inl (L x h)
  exact .inr h
 rw[cG _ _ c]at a;by_cases D:x=b
 ·subst D
  rw[bO]at a;cases a;exact⟨by simp only[jQ];exact⟨_,z, .inr rfl⟩, .inl hd⟩
 rw[cG _ _ D]at a;cases a
theorem J7 (b:Nat) (a:List UInt8) (y:Hp) (P:A0 b a y):pP dR 30 [.ptr 2 b 0 0] y (fun H G=>H= .ret (.str a)∧G=oN):=by
 refine⟨⟨_,Tryz.func30,by kernel_rfl,by kernel_rfl⟩,fun w S vs i C=>?_⟩;simp only[cY,cB]at C;obtain⟨_,_,rfl,rfl,rfl⟩:=C
 have B: ∀d e,e= .returned (.string ⟨a.toArray⟩)→vH S d (.ret (.str a)) e:=fun d e h=>by
  simp only[vH,cB];exact⟨_,h,rfl⟩
 rcases P with⟨rfl,rfl⟩|⟨e,g,z,O,rfl⟩
 ·have f:=(i.obj b _ (bO _ _ _)).1
  simp only[jQ]at f;obtain⟨p,n,_⟩:=f;refine(Ry b p w n).mono fun e d ⟨j,l⟩=>⟨_,oN,S, ?_,B d e j,rfl,rfl⟩;subst l;exact Hr i (M:=fun _=>False) (oI.drew _ w) (fun _ h=>h.elim) fun x o v=>by cases v
 have f:=(i.obj b (.bld TB (some (g,z)) a.length) (by rw[cG _ _ (Ne.symm O),bO])).1;have E:=(i.obj g _ (bO _ _ _)).1;simp only[jQ]at f E;obtain⟨p,n,_⟩:=f;obtain⟨A,t,J,K,L,N⟩:=E;refine(GO b g z p a w e n A t J K L N).mono fun e d ⟨j,l⟩=>⟨_,oN,S, ?_,B d e j,rfl,rfl⟩;subst l;refine Hr i (M:=fun k=>k=g) ?_ (fun k h=>by subst h;rw[bO];simp) fun x o v=>by cases v
 refine(oI.drew _ w).trans ?_
 have D: ∀k,k≠g→(w.drew.freeze ⟨g,0,none⟩ a.length).heap[k]?=w.drew.heap[k]?:=fun k c=>by
  unfold World.freeze;split
  ·rfl
  simp only[uD];rw[aO (Ne.symm c)]
 refine⟨?_, ?_, ?_, ?_,fun k _ c=>D k c,fun k Q u=>?_⟩
 ·unfold World.freeze;split<;>rfl
 ·unfold World.freeze;split<;>rfl
 ·unfold World.freeze;split<;>rfl
 ·unfold World.freeze;split<;>simp
 by_cases c:k=g
 ·subst c
  have I:w.drew.heap[k]?=some (.cells A TU (0,0)):=t;unfold World.freeze;split
  ·exact u
  have F:w.shape? k=some Q:=u;simp only[World.shape?,t]at F;simp only[World.shape?,uD,cQ,I,eE];exact F
 rw[rI (D k c)];exact u
end
section
open Go.Lib
theorem Zn {P:Program} (w:World) (t ty e:TypeId) (i:TypeInfo) (G:P.underlying t=some (.slice e)) (E:P.info? e=some i) (S:i.zero=some (.int .u8 0))
  (o:i.size=1) (M:i.bytes=1) (v:Value) (n:Nat) (xs:List Value) (B:w.ownsRow 0 e 1 v n xs) (k c:Nat) (z:Int) (f:w.cell? ⟨k,0,none⟩=some (.int .u8 z)) (hb:n+1≤140737488355328):
  ∃x a,(Builtin.append_ #[t,t] ty #[v, .slice (some ⟨k,0,none⟩) 1 c]).run P w= .ok x a∧a.ownsRow 0 e 1 x (n+1) (xs++[.int .u8 z])∧w.grownBy a v.ownBlock∧
   (∀k p,w.shape? k=some p→a.shape? k=some p)∧(∀g,x.ownBlock=some g→v.ownBlock=some g∨w.heap.size≤g)∧x≠ .slice none 0 0:=by
 have L:n+1≤maxLen:=by unfold maxLen;omega
 have F: ∀(j:Nat) u,([.int .u8 z]:List Value)[j]?=some u→w.cell? ((⟨k,0,none⟩:Addr).add j)=some u:=fun j u y=>by
  match j,y with
  |0,y=>simp at y;subst y;simpa [Addr.add]using f
 have K: ∀u∈([.int .u8 z]:List Value),u.oneCell'=true:=fun u R=>by simp at R;subst R;rfl
 have grow: ∀a,w.grownBy a none→ ∀k p,w.shape? k=some p→a.shape? k=some p:=fun a l k p D=>by
  have f:k<w.heap.size:=by
   unfold World.shape? at D;split at D
   ·rename_i h;exact(eM.1 h).1
   cases D
  have:=l.block k f (by simp);simp only[World.shape?,this]at *;exact D
 rcases B.2 with⟨rfl,rfl⟩|⟨g,b,d,rfl,U,l,a2,V,N,Z⟩
 ·obtain⟨x,a,I,J,T,q4⟩:=run_append_own (P:=P) w w.heap.size t ty e i (.int .u8 0) 1 1 G E S o M rfl (by decide) _ 0 xs ⟨B.1, .inl ⟨rfl,rfl⟩⟩ ⟨k,0,none⟩ 1 c _ rfl F K L (by omega) (aZ _)
  refine⟨x,a,I,⟨J.1, ?_⟩,T,grow a T,fun g l=> .inr ?_,fun e=>by have:=(q4.1 e).2;omega⟩
  ·rcases J.2 with h|⟨g,b,d,I,_,q⟩
   ·exact .inl h
   exact .inr ⟨g,b,d,I,cN _,q⟩
  exact(J.lt g l).1
 have H:xs.length=n:=by simpa using B.1
 have A:(xs++[Value.int .u8 z]).length=(n+1) *1:=by rw[aB,H];simp
 have a1:d.size=b:=by simpa using N
 by_cases Q:n+1≤b
 ·have C:=yJ P w t ty e e i G E g n b d (0,0) l (.inl (aZ _)) ⟨k,0,none⟩ 1 c [.int .u8 z] (by rw[o];rfl) F K Q (by rw[o];simp;omega)
  rw[o]at C
  have O:(d.toList.take (n *1)++[Value.int .u8 z]++d.toList.drop (n *1+[Value.int .u8 z].length)).toArray.size=d.size:=by
   simp only[Gn,aB,dS,fK,lK,bW];omega
  refine⟨_,_,C,⟨A, .inr ⟨g,b,_,rfl,U,setRow_heap w g d _ e _ l,Q,V,by rw[O];exact N, ?_⟩⟩,⟨rfl,rfl,rfl,by simp,fun k _ f=>setRow_other w g k _ (fun e=>f (by simp [Value.ownBlock,e]))⟩,Aa w g d _ e l O,fun _ h=> .inl h,by simp⟩;have Y:d.toList.take (n *1)=xs:=by simpa using Z
  rw[Y,←A];exact ZM
 have C:=run_append_grow (P:=P) w t ty e i (.int .u8 0) G E S ⟨g,0,none⟩ n b xs (by rw[o];simpa using H) (B.cells (g:=g) rfl) ⟨k,0,none⟩ 1 c [.int .u8 z] (by rw[o];rfl) F (by omega) (by omega) (by rw[M];exact growslice_fits (by omega) (by omega));have X:=grownCap_ge w (n+1) b e;have W:w.grownBy (w.drew.alloc (.cells (xs.toArray++[Value.int .u8 z].toArray++Builtin.zeroCells (Value.int .u8 0).cells (grownCap w (n+1) b e-(n+1))) e)) none:=⟨rfl,rfl,rfl,by simp,fun k f _=>by exact heap_alloc_old w.drew _ f⟩;refine⟨_,_,C,⟨A, .inr ⟨w.heap.size,_,_,rfl,cN _,heap_alloc_new w.drew _,X,grownCap_le_maxLen w (n+1) b e L, ?_, ?_⟩⟩,⟨rfl,rfl,rfl,by simp,fun k f _=>by exact heap_alloc_old w.drew _ f⟩,grow _ W,fun g' h=> .inr ?_,by simp⟩
 ·have a0:(Value.int IntKind.u8 0).cells.size=1:=rfl
  simp only[Array.size_append,Gn,size_zeroCells,a0,H,bW];omega
 ·simp only[Array.toList_append,bV]
  rw[←bV,←A];exact ZM
 simp only[Value.ownBlock,Option.some.injEq]at h;omega
end
end Go.Al
namespace Go.Proofs
open Go.Al Go.Proofs.Tryz
section
open Go.Lib Go.RowKit Go.Al
theorem yX {P:Program} {w:World} {ops:Array Oper} {f:List Oper} {o:Oper} {a:Act} {Q:Exit→Act→World→Prop} (F:o.guard=none) (l x:Operand) (t:TypeId)
  (N:o.op= .call {callee:= .builtin .append,args:= #[l,x],argTypes:= #[t,t]})
  (e:TypeId) (i:TypeInfo) (L:P.underlying t=some (.slice e)) (G:P.info? e=some i) (M:i.zero=some (.int .u8 0))
  (J:i.size=1) (E:i.bytes=1)
  (v:Value) (n:Nat) (xs:List Value) (R:a.eval l=v) (I:w.ownsRow 0 e 1 v n xs) (k c:Nat) (z:Int) (S:a.eval x= .slice (some ⟨k,0,none⟩) 1 c) (H:w.cell? ⟨k,0,none⟩=some (.int .u8 z)) (D:n+1≤140737488355328)
  (h: ∀b d,d.ownsRow 0 e 1 b (n+1) (xs++[.int .u8 z])→w.grownBy d v.ownBlock→(∀k j,w.shape? k=some j→d.shape? k=some j)→(∀g,b.ownBlock=some g→v.ownBlock=some g∨w.heap.size≤g)→b≠ .slice none 0 0→wpList P ops Q f (a.put o.dst b) d):wpList P ops Q (o::f) a w:=by
 refine wpList_plain F fun K C=>?_;obtain⟨b,d,O,p,u,y,A,B⟩:=Zn (P:=P) w t o.type e i L G M J E v n xs I k c z H D;unfold Oper.wp execOp;simp only[*,resolve,invoke,builtin,Sem.run_bind,Sem.run_pure,Result.andThen_ok,List.map_toArray,cX,dH];exact C _ _ (h b d p u y A B)
theorem Vn (b:Nat) (p v:Value) (n:Nat) (xs:List Value) (c:Int) (w:World) (B:w.heap[b]?=some (.cells #[p,v] TB (0,0))) (Q:p= .pointer none∨p= .pointer (some ⟨b,0,none⟩))
  (F:w.ownsRow 0 TU 1 v n xs) (J:n+1≤140737488355328):
  Calls Tryz.prog 123 #[.pointer (some ⟨b,0,none⟩), .int .u8 c] w fun e A=>e= .returned .nilIface∧
   ∃f,A.heap[b]?=some (.cells #[.pointer (some ⟨b,0,none⟩),f] TB (0,0))∧A.ownsRow 0 TU 1 f (n+1) (xs++[.int .u8 c])∧
    oI (fun k=>k=b∨v.ownBlock=some k) w A∧(∀g,f.ownBlock=some g→v.ownBlock=some g∨w.heap.size≤g)∧f≠ .slice none 0 0:=by
 obtain⟨V,I,S,T,U⟩:=info_parts Qg;have E:TB≠TU:=by decide
 have D:v.ownBlock≠some b:=Lib.ownBlock_ne F B E
 go_enter func123,Tryz.ntmps123
 go_wp2_with (go_at_call 55;refine(Et b p v _ B Q).mono ?_)
 rintro e d ⟨rfl,t,a⟩;have P:d.ownsRow 0 TU 1 v n xs:=F.kept (row:=some b) ⟨a.os,a.tape,a.output,a.size,fun k x L=>a.keep k x (fun e=>L (by rw[e]))⟩ (.inr D);have W:d.cell? ⟨b,0,none⟩=some (.pointer (some ⟨b,0,none⟩)):=by rw[Lib.cell_of_heap t];rfl
 have X:d.cell? ⟨b,1,none⟩=some v:=by rw[Lib.cell_of_heap t];rfl
 have K:b<d.heap.size:=(eM.1 t).1
 go_wp2_with (at_builtin;refine yX rfl _ _ 69 rfl TU V Tryz.underlying69 I S T U _ _ _ rfl (P.alloc _) d.heap.size 1 c rfl (by simp) J ?_)
 intro f l y C R N O
 have j:l.heap[b]?=some (.cells #[.pointer (some ⟨b,0,none⟩),v] TB (0,0)):=by
  rw[C.block b (by simp;omega) (fun e=>D e.symm),Lib.alloc_old d _ b K];exact t
 have Z:l.cell? ⟨b,0,none⟩=some (.pointer (some ⟨b,0,none⟩)):=by rw[Lib.cell_of_heap j];rfl
 have d1:l.cell? ⟨b,1,none⟩=some v:=by rw[Lib.cell_of_heap j];rfl
 have f1:l.frozen? ⟨b,1,none⟩=false:=Lib.frozen_of_heap j 1
 obtain⟨o,u,i,rfl⟩: ∃o u i,f= .slice o u i:=by
  rcases y.2 with⟨z,_⟩|⟨g,i,Y,z,_⟩
  ·exact⟨_,_,_,z⟩
  exact⟨_,_,_,z⟩
 have M:(Value.slice o u i).ownBlock≠some b:=Lib.ownBlock_ne y j E;have a0:=a.size
 go_wp2
 go_ret
 refine⟨rfl, .slice o u i,by simp [World.setCell,uD,j], ?_, ?_, ?_,O⟩
 ·exact y.kept (row:=some b) ⟨rfl,rfl,rfl,by simp [World.setCell],fun k _ x=>Below.heap_setCell _ _ _ _ (fun e=>x (by simp [e]))⟩ (.inr M)
 ·exact(((a.mono fun _ _ h=> .inl h).trans (oI.alloc _ d _)).trans (Qo C (fun k G=>R k G.1 G.2) fun k h=> .inr h)).trans (oI.setCell l _ _ (.inl rfl))
 intro g H;rcases N g H with h|h
 ·exact .inl h
 exact .inr (by omega)
end
end Go.Proofs
namespace Go.Al
section
open Go.Proofs Go.Lib Go.RowKit Go.Proofs.YtaecpjgmcffliaaGreatDoor
theorem Og (b:Nat) (a:List UInt8) (c:UInt8) (I:a.length+1≤140737488355328):Vd dR 123 [.ptr 2 b 0 0, .int .u8 (c.toNat:Nat)] b a .nif [c]:=by
 intro n J;refine⟨⟨_,Tryz.func123,by kernel_rfl,by kernel_rfl⟩,fun w S vs l z=>?_⟩;simp only[cY,cB]at z;obtain⟨_,_,rfl,rfl,_,_,rfl,rfl,rfl⟩:=z
 obtain⟨p,v,j,M,L,C,hd⟩: ∃p v,w.heap[b]?=some (.cells #[p,v] TB (0,0))∧(p= .pointer none∨p= .pointer (some ⟨b,0,none⟩))∧w.ownsRow 0 TU 1 v a.length (a.map fun c=>Value.int .u8 (c.toNat:Int))∧(∀g,v.ownBlock=some g→n g≠none)∧n b≠none:=by
  rcases J with⟨rfl,rfl⟩|⟨e,g,i,B,rfl⟩
  ·have d:=(l.obj b _ (bO _ _ _)).1
   simp only[jQ]at d;obtain⟨p,j,t⟩:=d;exact⟨p,_,j,t,⟨rfl, .inl ⟨rfl,rfl⟩⟩,fun g h=>(by simp [Value.ownBlock]at h),by rw[bO];simp⟩
  have d:=(l.obj b (.bld TB (some (g,i)) a.length) (by rw[cG _ _ (Ne.symm B),bO])).1;have K:=(l.obj g _ (bO _ _ _)).1;have O:=T0 K;simp only[jQ]at d;obtain⟨p,j,t⟩:=d;refine⟨p,_,j,t,O,fun T h=>?_,by rw[cG _ _ (Ne.symm B),bO];simp⟩;simp only[Value.ownBlock,Option.some.injEq]at h;subst h;rw[bO];simp
 have A:=Vn b p v a.length _ (c.toNat:Int) w j M L I;rw[show(a.map fun c=>Value.int .u8 (c.toNat:Int))++[.int .u8 (c.toNat:Int)]=(a++[c]).map fun c=>Value.int .u8 (c.toNat:Int)by rw[cP];rfl]at A;refine A.mono fun e R ⟨E,U,D,u,P,Q,N⟩=>?_
 have G: ∀k,(k=b∨v.ownBlock=some k)→n k≠none:=fun k hk=>by
  rcases hk with rfl|hk
  ·exact hd
  exact C k hk
 have F:vH S R (.ret .nif) e:=by
  subst E;simp only[vH,cB];exact⟨_,rfl,rfl⟩
 rw[show a.length+1=(a++[c]).length by rw[aB];rfl]at u;obtain⟨g,i,rfl,d⟩:=P2 (S:=S) N u;have H:g≠b:=fun e=>Lib.ownBlock_ne u D (by decide) (by simp [Value.ownBlock,e]);refine⟨_,_,S,Hr l P G (H':=upd (upd oN b (some (.bld TB (some (g,i)) (a++[c]).length))) g (some (.buf TU (a++[c]) i))) fun x o f=>?_,F,rfl, .inr ⟨by simp,g,i,H,rfl⟩⟩;by_cases c:x=g
 ·subst c
  rw[bO]at f;cases f;refine⟨d, ?_⟩;rcases Q x rfl with h|h
  ·exact .inl (C x h)
  exact .inr h
 rw[cG _ _ c]at f;by_cases y:x=b
 ·subst y
  rw[bO]at f;cases f;exact⟨by simp only[jQ];exact⟨_,D, .inr rfl⟩, .inl hd⟩
 rw[cG _ _ y]at f;cases f
end
end Go.Al
namespace Go.Proofs
open Go.Al Go.Proofs.Tryz
section
open Go.Shelf
def Tryz.lays129_ren:Go.Shelf.Ren:=⟨fun |129=>251|n=>n,fun |53=>172|3=>3|4=>4|46=>175|5=>5|9=>9|n=>n,fun |n=>n⟩
theorem Tryz.lays129:Go.Proofs.Lays.n129 Tryz.prog Tryz.lays129_ren:={
 mixed:=by kernel_rfl
 f129:=func251.trans (congrArg some (by kernel_rfl))
 t3:=Tryz.underlying3
 a3:=Tryz.isAgg3
 z3:=Tryz.sizeOf3
 v3:=Tryz.zeroValue3
 t4:=Tryz.underlying4
 a4:=Tryz.isAgg4
 z4:=Tryz.sizeOf4
 v4:=Tryz.zeroValue4
 t5:=Tryz.underlying5
 a5:=Tryz.isAgg5
 z5:=Tryz.sizeOf5
 v5:=Tryz.zeroValue5
 t9:=Tryz.underlying9
 a9:=Tryz.isAgg9
 z9:=Tryz.sizeOf9
 v9:=Tryz.zeroValue9
 t46:=Tryz.underlying175
 a46:=Tryz.isAgg175
 z46:=Tryz.sizeOf175
 v46:=Tryz.zeroValue175
 t53:=Tryz.underlying172
 a53:=Tryz.isAgg172
 z53:=Tryz.sizeOf172
 v53:=Tryz.zeroValue172}
theorem Tryz.bits_Len64 (x:Int) (w:World) (a:0≤x) (b:x≤18446744073709551615):
  Calls Tryz.prog 251 #[.int .u64 x] w fun e c=>e= .returned (.int .i64 (Lib.bitLen x.toNat))∧c=w:=Any.bits_Len64 Tryz.lays129 x w a b
def Tryz.lays317_ren:Go.Shelf.Ren:=⟨fun |317=>250|n=>n,fun |3=>3|46=>175|n=>n,fun |n=>n⟩
theorem Tryz.lays317:Go.Proofs.Lays.n317 Tryz.prog Tryz.lays317_ren:={
 mixed:=by kernel_rfl
 f317:=func250.trans (congrArg some (by kernel_rfl))
 t3:=Tryz.underlying3
 a3:=Tryz.isAgg3
 z3:=Tryz.sizeOf3
 v3:=Tryz.zeroValue3
 t46:=Tryz.underlying175
 a46:=Tryz.isAgg175
 z46:=Tryz.sizeOf175
 v46:=Tryz.zeroValue175}
open Go.Lib in
theorem Tryz.internal_strconv_log10Pow2 (x:Nat) (h:x≤64) (w:World):
  Calls Tryz.prog 250 #[.int .i64 x] w fun e a=>e= .returned (.int .i64 (Lib.l10 x))∧a=w:=Any.internal_strconv_log10Pow2 Tryz.lays317 x h w
def Tryz.lays318_ren:Go.Shelf.Ren:=⟨fun |318=>252|n=>n,fun |3=>3|4=>4|n=>n,fun |n=>n⟩
theorem Tryz.lays318:Go.Proofs.Lays.n318 Tryz.prog Tryz.lays318_ren:={
 mixed:=by kernel_rfl
 f318:=func252.trans (congrArg some (by kernel_rfl))
 t3:=Tryz.underlying3
 a3:=Tryz.isAgg3
 z3:=Tryz.sizeOf3
 v3:=Tryz.zeroValue3
 t4:=Tryz.underlying4
 a4:=Tryz.isAgg4
 z4:=Tryz.sizeOf4
 v4:=Tryz.zeroValue4}
open Go.Lib in
theorem Tryz.internal_strconv_bool2_int (b:Bool) (w:World):
  Calls Tryz.prog 252 #[.bool b] w fun e a=>e= .returned (.int .i64 (if b then 1 else 0))∧a=w:=Any.internal_strconv_bool2_int Tryz.lays318 b w
def Tryz.lays283_ren:Go.Shelf.Ren:=⟨fun |283=>242|n=>n,fun |3=>3|9=>9|4=>4|n=>n,fun |n=>n⟩
theorem Tryz.lays283:Go.Proofs.Lays.n283 Tryz.prog Tryz.lays283_ren:={
 mixed:=by kernel_rfl
 f283:=func242.trans (congrArg some (by kernel_rfl))
 t3:=Tryz.underlying3
 a3:=Tryz.isAgg3
 z3:=Tryz.sizeOf3
 v3:=Tryz.zeroValue3
 t4:=Tryz.underlying4
 a4:=Tryz.isAgg4
 z4:=Tryz.sizeOf4
 v4:=Tryz.zeroValue4
 t9:=Tryz.underlying9
 a9:=Tryz.isAgg9
 z9:=Tryz.sizeOf9
 v9:=Tryz.zeroValue9}
open Go.Lib in
theorem Tryz.internal_strconv_small (i:Nat) (h:i<100) (w:World):
  Calls Tryz.prog 242 #[.int .i64 i] w fun e a=>e= .returned (.string ⟨(Lib.decDigits i).toArray⟩)∧a=w:=Any.internal_strconv_small Tryz.lays283 i h w
def Tryz.lays285_ren:Go.Shelf.Ren:=⟨fun |285=>244|n=>n,fun |37=>69|53=>172|3=>3|4=>4|51=>46|9=>9|5=>5|0=>0|n=>n,fun |n=>n⟩
theorem Tryz.lays285:Go.Proofs.Lays.n285 Tryz.prog Tryz.lays285_ren:={
 mixed:=by kernel_rfl
 f285:=func244.trans (congrArg some (by kernel_rfl))
 t0:=Tryz.underlying0
 a0:=Tryz.isAgg0
 z0:=Tryz.sizeOf0
 v0:=Tryz.zeroValue0
 t3:=Tryz.underlying3
 a3:=Tryz.isAgg3
 z3:=Tryz.sizeOf3
 v3:=Tryz.zeroValue3
 t4:=Tryz.underlying4
 a4:=Tryz.isAgg4
 z4:=Tryz.sizeOf4
 v4:=Tryz.zeroValue4
 t5:=Tryz.underlying5
 a5:=Tryz.isAgg5
 z5:=Tryz.sizeOf5
 v5:=Tryz.zeroValue5
 t9:=Tryz.underlying9
 a9:=Tryz.isAgg9
 z9:=Tryz.sizeOf9
 v9:=Tryz.zeroValue9
 t37:=Tryz.underlying69
 a37:=Tryz.isAgg69
 z37:=Tryz.sizeOf69
 v37:=Tryz.zeroValue69
 t51:=Tryz.underlying46
 a51:=Tryz.isAgg46
 z51:=Tryz.sizeOf46
 v51:=Tryz.zeroValue46
 t53:=Tryz.underlying172
 a53:=Tryz.isAgg172
 z53:=Tryz.sizeOf172
 v53:=Tryz.zeroValue172}
open Go.RowKit Go.Sort Go.Lib in
theorem Tryz.internal_strconv_formatBase10 (a off cap:Nat) (u:Nat) (d:Array UInt8) (w:World) (f:Holds (fun(b:UInt8)=>Value.int .u8 (b.toNat:Int)) w a off d) (i:u<10^d.size) (j:u<18446744073709551616) (g:d.size<4611686018427387904):
  Calls Tryz.prog 244 #[.slice (some ⟨a,off,none⟩) d.size cap, .int .u64 u] w fun e l=>
   e= .returned (.tuple #[])∧ ∃(n k:Nat) (c:Array UInt8),l=(putRow (fun(b:UInt8)=>Value.int .u8 (b.toNat:Int)) w a off c).drewN n∧FmtInv d.size u 0 k c:=Any.internal_strconv_formatBase10 Tryz.lays285 a off cap u d w f i j g
end
section
open Go.Lib Go.RowKit Go.Al Go.Sort
theorem Xr (u:Nat) (j:1≤u) (c:u<18446744073709551616) (w:World) (d: ∀i,i<20→w.cell? ⟨1,i,none⟩=some (.int .u64 ((10^i:Nat):Int))):
  Calls Tryz.prog 243 #[.int .u64 u] w fun e b=>e= .returned (.int .i64 (Lib.nDigits u))∧b=w:=by
 obtain⟨a,k⟩:=Lib.numDigits_eq u j c;have l:Lib.bitLen u≤64:=Lib.bitLen_le u 64 (aZ _) c;have f:=d (Lib.l10 (Lib.bitLen u)) (by omega);have t:((u:Int)).toNat=u:=by omega
 generalize p:Lib.l10 (Lib.bitLen u)=q at a k f;generalize o:10^q=T at a f;have n:q<20:=by omega
 have g:=Lib.hid a;clear a d
 go_enter func243,Tryz.ntmps243
 go_wp2_with (first
  |(go_at_call 251;refine(Tryz.bits_Len64 _ _ (by omega) (by omega)).mono ?_;rintro e b ⟨rfl,rfl⟩)
  |(go_at_call 250;refine(Tryz.internal_strconv_log10Pow2 _ l _).mono ?_;rintro e b ⟨rfl,rfl⟩)
  |(go_at_call 252;refine(Tryz.internal_strconv_bool2_int _ _).mono ?_;rintro e b ⟨rfl,rfl⟩))
 all_goals go_ret
 all_goals (
  refine⟨?_,rfl⟩;have a:=g.out;congr 2
  split at a<;>simp_all<;>omega)
theorem Oc (u:Nat) (f:u<18446744073709551616) (w:World) (n: ∀i,i<20→w.cell? ⟨1,i,none⟩=some (.int .u64 ((10^i:Nat):Int))) (B:1<w.heap.size):
  Calls Tryz.prog 223 #[.int .u64 u, .int .i64 10] w fun e d=>e= .returned (.string ⟨(Lib.decDigits u).toArray⟩)∧Below w.heap.size w d:=by
 by_cases D:u<100
 ·clear n
  go_enter func223,Tryz.ntmps223
  go_wp2_with (go_at_call 242;refine(Tryz.internal_strconv_small u D _).mono ?_;rintro e d ⟨rfl,rfl⟩)
  go_ret
  exact⟨rfl,Below.refl _ _⟩
 have x:1≤u:=by omega
 have G:Lib.nDigits u≤20:=by have:=Lib.numDigits_eq u x f;split at this<;>omega
 have p:Tryz.prog.arrayLen 344=24:=by simp [Program.arrayLen,Tryz.underlying344]
 have H: ∀W,(Instr.sliceAt 344 (.pointer (some ⟨w.heap.size,0,none⟩)) none (some (.int .i64 (Lib.nDigits u:Int))) none).run Tryz.prog W= .ok (.slice (some ⟨w.heap.size,0,none⟩) (Lib.nDigits u) 24) W:=fun W=>by
  rw[run_sliceAt_array_h W 344 ⟨w.heap.size,0,none⟩ (by simp [Program.arrayLen,Program.elem,Tryz.underlying344]) .i64 (Lib.nDigits u:Int) (by omega) (by rw[p];omega)]
  go_simp
 have l:=Lib.holds_zero0 w 344 (Lib.nDigits u) (by omega);have v:=Tryz.internal_strconv_formatBase10 w.heap.size 0 24 u (Array.replicate (Lib.nDigits u) 0) (w.alloc (.cells Lib.zeros24 344)) l (by rw[Vg];exact Lib.lt_pow_nDigits u) f (by rw[Vg];omega);rw[Vg]at v
 have t: ∀i,i<20→(w.alloc (.cells Lib.zeros24 344)).cell? ⟨1,i,none⟩=some (.int .u64 ((10^i:Nat):Int)):=fun i C=>by
  rw[World.cell?_of_block (a:=⟨1,i,none⟩) (Lib.alloc_old w _ _ B)];exact n i C
 have y:=Lib.hid l;have z:=Lib.hid t;clear l p n t
 go_enter func223,Tryz.ntmps223
 go_wp2_with (first
  |(go_at_call 243;refine(Xr u x f _ z.out).mono ?_;rintro e d ⟨rfl,rfl⟩))
 go_at_call 244
 refine v.mono ?_;rintro e d ⟨rfl,k,I,c,rfl,g⟩
 have F:(convert 69 9 (.slice (some ⟨w.heap.size,0,none⟩) (Lib.nDigits u) 24)).run Tryz.prog ((putRow (fun(b:UInt8)=>Value.int .u8 (b.toNat:Int)) (w.alloc (.cells Lib.zeros24 344)) w.heap.size 0 c).drewN k)= .ok (.string ⟨(Lib.decDigits u).toArray⟩) ((putRow (fun(b:UInt8)=>Value.int .u8 (b.toNat:Int)) (w.alloc (.cells Lib.zeros24 344)) w.heap.size 0 c).drewN k):=by
  have h:=run_convert_bytes_back (P:=Tryz.prog) ((putRow (fun(b:UInt8)=>Value.int .u8 (b.toNat:Int)) (w.alloc (.cells Lib.zeros24 344)) w.heap.size 0 c).drewN k) 69 9 5 ⟨w.heap.size,0,none⟩ 24 (Lib.decDigits u) Tryz.underlying69 Tryz.underlying5 Tryz.underlying9 (fun j o=>by
   rw[Lib.row_is_numeral g j o,Lib.add_plain,World.cell?_drewN]
   exact cell?_putRow (fun(b:UInt8)=>Value.int .u8 (b.toNat:Int)) _ w.heap.size 0 _ c y.out (by rw[g.size,Vg]) j (by rw[g.size];rw[Lib.decDigits_length]at o;exact o))
  rw[Lib.decDigits_length]at h;exact h
 go_wp2
 go_ret
 obtain⟨E,A⟩:=Lib.fin_at w (.cells Lib.zeros24 344) c k 0;refine⟨rfl, ?_⟩;rw[A];exact Lib.below_grow _ w (aZ _) k E
theorem Uf (u:Nat) (c:u<18446744073709551616) (w:World) (f: ∀i,i<20→w.cell? ⟨1,i,none⟩=some (.int .u64 ((10^i:Nat):Int))) (g:1<w.heap.size):
  Calls Tryz.prog 182 #[.int .u64 u, .int .i64 10] w fun e a=>e= .returned (.string ⟨(Lib.decDigits u).toArray⟩)∧Below w.heap.size w a:=by
 have b:=Lib.hid f
 go_enter func182,Tryz.ntmps182
 go_wp2_with (go_at_call 223;refine(Oc u c _ b.out g).mono ?_;rintro e a ⟨rfl,d⟩)
 go_ret
 exact⟨rfl,d⟩
end
end Go.Proofs
namespace Go.Proofs.YtaecpjgmcffliaaGreatDoor
open Go.Al Go.Proofs.Tryz
section
open Go.Al Go.RowKit
theorem IA {E:kB} {g:FuncId} {i:List AV} {s:List UInt8} (u:ZB E g) (h: ∀(W:World) (c:gG) (vs:List Value),St E ⟨W,KF oN,c,[],fun _=>Go.undef⟩ c oN W→cY c W i vs→
  Calls E.P g vs.toArray W fun e n=>e= .returned (.string ⟨s.toArray⟩)∧Below W.heap.size W n):eG E g i (.str s):=by
 refine⟨u,fun l c vs f t=>(h l c vs f t).mono fun e x ⟨p,a⟩=>?_⟩;have v:oI (fun _=>False) l x:=⟨a.os,a.tape,a.output,a.size,fun k d _=>a.block k d,fun k y j=>(rI (a.block k (Ib j))).trans j⟩;refine⟨.ret (.str s),oN,c,f.step v (fun _ h=>h.elim) (fun _ h=>h) (fun k d=>sG (f.lt k d) a.size) (fun k d=> .inl d) (fun b o h=>(by cases h)), ?_,rfl,rfl⟩;simp only[vH];exact⟨_,p,by simp only[cB]⟩
theorem X4 {g:Al.lR} {S:gG} {H:Hp} {w:World} (h:St dR g S H w):(∀i,i<20→w.cell? ⟨1,i,none⟩=some (.int .u64 ((10^i:Nat):Int)))∧1<w.heap.size:=by
 obtain⟨d,e⟩:=h.glb 1 HV WW;refine⟨fun i a=>?_,h.lt _ d⟩
 have f:HV[i]?=some (.int .u64 ((10^i:Nat):Int)):=by
  have : ∀i:Fin 20,HV[i.val]?=some (.int .u64 ((10^i.val:Nat):Int)):=by
   intro⟨i,a⟩
   iterate 20 (rcases i with _|i; · rfl)
   omega
  exact this ⟨i,a⟩
 obtain⟨u,b,c⟩:=e.get i f;simp only[cB]at c;rw[cD]at b;rw[b,c]
theorem Ly (u:Nat) (e:u<18446744073709551616):eG dR 182 [.int .u64 u, .int .i64 10] (.str (Lib.decDigits u)):=by
 refine IA ⟨_,func182,by kernel_rfl,by kernel_rfl⟩ fun W f vs d a=>?_;simp only[cY,cB]at a;obtain⟨_,_,rfl,rfl,_,_,rfl,rfl,rfl⟩:=a;obtain⟨b,c⟩:=X4 d;exact Uf u e W b c
end
theorem zW {b:Nat} {bs out cur:List UInt8} {H:Hp} {v:AV} (hB:mZ b cur H) (h:cur=bs++out):bB (fun ae H'=>ae= .ret v∧A0 b (bs++out) H') v H:=h▸hB.gives rfl
theorem LJ (n:Int) (hn:dQ n):eG dR 122 [.int .u32 n] (.str (Lib.decDigits n.toNat)):=by
 obtain⟨h0,h1⟩:=hn;obtain⟨u,rfl⟩: ∃u:Nat,n=u:=⟨n.toNat,by omega⟩;have hw:IntKind.wrap .u64 (u:Int)=(u:Int):=BU _ (by omega);rw[cA];refine bU 6 [.tmp 2] func122 ?_;refine aG fun _ hK=>lD rfl ?_;simp only[RR,seval];apply hK;clear hK;refine aG fun _ hK=>lD rfl ?_;simp only[hw,RR,seval];refine aI (Ly u (by omega)) ?_;simp only[RR,seval];apply hK;clear hK;refine aP ?_;simp only[aY,aK,bP,RR,seval];refine bB.pure ?_;rfl
theorem X1 (z:Int) (hz:dQ z):eG dR 81 [.int .u32 z] (.str (Lib.decDigits z.toNat)):=by
 obtain⟨n,rfl⟩: ∃n:Nat,z=(n:Int):=⟨z.toNat,by have:=hz.1;omega⟩;have h:n<4294967296:=by have:=hz.2;omega
 rw[cA];refine bU 23 [.tmp 2] func81 ?_;refine aG fun _ hK=>lD rfl ?_;simp only[RR,seval];apply hK;clear hK;refine aG fun _ hK=>lD rfl ?_;simp only[RR,seval];apply hK;clear hK;refine aH ?_;refine bN fun F1 M1 hfr hH=>?_;have g0:=hfr 0;have g2:=hfr 2;have g3:=hfr 3
 try simp only[RR,seval]at g0 g2 g3
 have f0:=g0;clear g0;have f2:=g2;clear g2;have f3:=g3;clear g3;clear hfr hH;refine aQ ?_;refine iP [2] (n) (fun m fr M=>m≤n∧fr 0= .int .u32 (m:Nat)∧ ∃s:dE,fr 3= .str s∧Lib.decDigits n=Lib.decDigits m++s∧s.length+m≤n) ⟨aZ _,f0,[],f3,(by rw[eF]),(by simp)⟩ ?_;rintro m F2 M2 ⟨hm,f0,s,f3,hs,hsl⟩ agx K0 hK0;have f2:=(agx 2 rfl).trans f2;have ag0:=bC.refl [2] F2;clear agx;refine aH ?_;refine aG fun _ hK=>lD rfl ?_;simp only[f0,RR,seval];apply hK;clear hK;refine eO _ rfl (fun hc=>?_) (fun hc=>?_)
 ·have hw0:=hc;clear hc
  have hw:=aD hw0;have e1:(m:Int).tmod 10=((m % 10:Nat):Int):=IntWalk.up_tmod rfl rfl;have e2:IntKind.wrap .u32 (48+((m % 10:Nat):Int))=((48+m % 10:Nat):Int):=by rw[dX _ (by omega)];omega
  have e3:IntKind.wrap .u8 ((48+m % 10:Nat):Int)=((48+m % 10:Nat):Int):=IntWalk.u8_in _ (by omega);have e4:(m:Int).tdiv 10=((m/10:Nat):Int):=IntWalk.up_tdiv rfl rfl;have e5:IntKind.wrap .u32 ((m/10:Nat):Int)=((m/10:Nat):Int):=dX _ (by omega);have e6:1+s.length≤maxLen:=by simp only[maxLen];omega
  refine aL ?_;try simp only[RR]
  refine aQ ?_;refine aG fun _ hK=>lD rfl ?_;simp only[f0,e1,e2,e3,RR,seval];refine dG ?_;simp only[f3,e6,RR,seval];apply hK;clear hK;refine lD rfl ?_;simp only[f0,e4,e5,RR,seval]
  try rw[aU _ (by omega)]
  refine hK0 (m/10) _ _ (by omega) ⟨(by omega),rfl,_,rfl,(by rw[hs,Lib.decDigits,dif_neg (by omega),bV];rfl),(by simp only[aJ];omega)⟩ (by repeat (first|exact ag0|refine bC.upd rfl ?_))
 have hw0:=hc;clear hc;have hw:=aE hw0;have e2:IntKind.wrap .u32 (48+(m:Int))=((48+m:Nat):Int):=by rw[dX _ (by omega)];omega
 have e3:IntKind.wrap .u8 ((48+m:Nat):Int)=((48+m:Nat):Int):=IntWalk.u8_in _ (by omega);have e6:1+s.length≤maxLen:=by simp only[maxLen];omega
 refine cH ?_;simp only[RR,seval];refine aG fun _ hK=>lD rfl ?_;simp only[f0,e2,e3,RR,seval];refine dG ?_;simp only[f3,e6,RR,seval];apply hK;clear hK;refine aP ?_;simp only[aY,aK,bP,RR,seval];refine bB.pure ?_;rw[hs,Lib.decDigits,dif_pos (by omega)];rfl
end Go.Proofs.YtaecpjgmcffliaaGreatDoor
