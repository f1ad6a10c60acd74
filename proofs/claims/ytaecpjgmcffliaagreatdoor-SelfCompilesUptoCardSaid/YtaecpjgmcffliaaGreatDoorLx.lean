/- Lx -/
import Derived.Test.YtaecpjgmcffliaaGreatDoorSc1
import Derived.Test.YtaecpjgmcffliaaGreatDoorAl3
import Derived.Test.YtaecpjgmcffliaaGreatDoorSy2
import Derived.Test.YtaecpjgmcffliaaGreatDoorWb
set_option linter.unusedSimpArgs false
set_option linter.unusedVariables false
set_option maxRecDepth 10000
namespace Go.Proofs.YtaecpjgmcffliaaGreatDoor
open Go.Al Go.Proofs.Tryz
def Ak (s p:List UInt8):Bool:=decide (s.take p.length=p)
theorem W6:eG dR 149 [] (.isl 1 (lT.map fun w=>[.str w])):=by
 refine bU 2 [.tmp 0] func149 ?_;refine aG fun K a=>?_;refine aM ?_;simp only[RR,seval];apply a;refine aG fun K a=>?_;refine aM ?_;simp only[RR,seval];refine dG ?_;simp only[RR,seval];apply a;refine aP ?_;simp only[aY,aK,bP,RR,seval];refine bB.pure ?_;rfl
structure fX where
 kind:Int
 text:List UInt8
 num:Int
 pos:Int
def fX.row (t:fX):List AV:=[.int .i64 t.kind, .str t.text, .int .u32 t.num, .int .i64 t.pos]
def kD:fX:=⟨0,[],0,0⟩
def GH (p:fX×Int):AV:= .tup [.agg p.1.row, .int .i64 p.2]
def Qb (s:List UInt8):fX×Int:=if 20<s.length then(kD,2)else if kC.contains s then(⟨3,s,0,0⟩,0)else(⟨1,s,0,0⟩,0)
def Jq (c d:UInt8):Bool:=decide ((d.toNat:Int)=39)&& !decide ((c.toNat:Int)<32)&& !decide (126<(c.toNat:Int))&& !decide ((c.toNat:Int)=39)&& !decide ((c.toNat:Int)=92)
def Qu (s:List UInt8):fX×Int:=
 match s with
 |_::c::d::_=>if Jq c d then(⟨2,s.take 3,c.toNat,0⟩,0)else(kD,3)
 |_=>(kD,3)
def Td:Int→List UInt8→Option Int
 |n,[]=>some n
 |n,c::cs=>if 4294967295<n *10+((c.toNat:Int)- 48)then none else Td (n *10+((c.toNat:Int)- 48)) cs
def zH (s:List UInt8):fX×Int:=match Td 0 s with |some n=>(⟨2,s,n,0⟩,0)|none=>(kD,2)
theorem As {c:UInt8} (h:Um c.toNat=true):48≤(c.toNat:Int)∧(c.toNat:Int)≤57:=by
 simpa [Um]using h
theorem zI: ∀(s:List UInt8) (n m:Int),0≤n→n≤4294967295→s.all (fun c=>Um c.toNat)=true→Td n s=some m→0≤m∧m≤4294967295
 |[],n,m,h0,h1,_,h=>by simp only[Td,Option.some.injEq]at h;omega
 |c::cs,n,m,h0,h1,hd,h=>by
  simp only[eD,aV]at hd;have a:=As hd.1;simp only[Td]at h;split at h
  ·cases h
  exact zI cs _ m (by omega) (by omega) hd.2 h
theorem Ju (s w:List UInt8) (i:Nat) (j:s.length≤1000000) (k:w.length≤1000000) (g:i≤s.length):eG dR 147 [.str s, .int .i64 i, .str w] (.bool (Ak (s.drop i) w)):=by
 refine bU 25 [.tmp 6] func147 ?_;refine aG fun K a=>?_;refine aM ?_;simp only[RR,seval];apply a;refine aG fun K a=>?_;refine aM ?_;simp only[RR,seval];rw[aU _ (by omega)];refine fJ (fun h=>?_) (fun h=>?_)
 ·have b:(i:Int)+w.length≤s.length:=aD h
  have c:((i:Int)+w.length).toNat=i+w.length:=by omega
  have d:(0:Int)≤(i:Int)+w.length:=by omega
  have f:(i:Int)≤((i+w.length:Nat):Int):=by omega
  simp only[b,RR,seval]
  repeat' ((refine cL (fun h=>?_) (fun h=>?_))<;>simp only[*,RR,seval])
  rw[aU _ (by omega)];simp only[*,RR,seval];apply a;clear a K;refine aP ?_;simp only[aY,aK,bP,RR,seval];refine bB.pure ?_;rw[Ak,gY]
 simp only[h,RR,seval];apply a;refine aP ?_;simp only[aY,aK,bP,RR,seval];refine bB.pure ?_;have b: ¬(i:Int)+w.length≤s.length:=aE h
 have : ¬(s.drop i).take w.length=w:=fun e=>by
  have:=congrArg List.length e;rw[dS,fK]at this;omega
 simp [Ak,this]
def Cb:Int→Bool→List UInt8→Int×Bool
 |n,g,[]=>(n,g)
 |n,g,c::cs=>if 4294967295<n *10+((c.toNat:Int)- 48)then Cb 0 true cs else Cb (n *10+((c.toNat:Int)- 48)) g cs
theorem Iu: ∀(s:List UInt8) (n:Int),(Cb n true s).2=true
 |[],_=>rfl
 |c::cs,n=>by simp only[Cb];split<;>exact Iu cs _
theorem Bz: ∀(s:List UInt8) (n:Int),match Td n s with |some m=>Cb n false s=(m,false)|none=>(Cb n false s).2=true
 |[],n=>rfl
 |c::cs,n=>by
  simp only[Td,Cb];split
  ·rename_i m h
   split at h
   ·cases h
   rename_i a;have:=Bz cs (n *10+((c.toNat:Int)- 48));rw[h]at this;rw[aO a];exact this
  rename_i h;split at h
  ·rename_i a;rw[bF a];exact Iu _ _
  rename_i a;have:=Bz cs (n *10+((c.toNat:Int)- 48));rw[h]at this;rw[aO a];exact this
def Nc (c:UInt8):Bool:=Um c.toNat
theorem E3 (s:List UInt8) (d:Nat) (S:s.length≤1000000) (I:d≤s.length):eG dR 148 [.str s, .int .i64 d]
  (.tup [.int .u64 (Cb 0 false ((s.drop d).takeWhile Nc)).1, .int .i64 ((d+((s.drop d).takeWhile Nc).length:Nat)), .bool (Cb 0 false ((s.drop d).takeWhile Nc)).2]):=by
 refine bU 34 [.tmp 4, .tmp 5, .tmp 6] func148 ?_;refine aG fun K a=>?_;refine aM ?_;simp only[RR,seval];apply a;refine aG fun K a=>?_;refine aM ?_;simp only[RR,seval];refine a _ _ (dM (fun l H=> ∃(i:Nat) (n:Int) (g:Bool),l 7= .int .u64 n∧l 1= .int .i64 i∧l 8= .bool g∧Cb 0 false ((s.drop d).takeWhile Nc)=(n,g)∧d+((s.drop d).takeWhile Nc).length=i) (fun K a=>?_) ?_)
 ·refine aQ (fN (fun k l H=> ∃(i:Nat) (n:Int) (g:Bool),k=s.length-i∧i≤s.length∧0≤n∧n≤4294967295∧l 0= .str s∧l 7= .int .u64 n∧l 1= .int .i64 i∧l 8= .bool g∧Cb 0 false ((s.drop d).takeWhile Nc)=Cb n g ((s.drop i).takeWhile Nc)∧d+((s.drop d).takeWhile Nc).length=i+((s.drop i).takeWhile Nc).length) (s.length-d) ⟨d,0,false,rfl,I,by omega,by omega,rfl,rfl,rfl,rfl,rfl,rfl⟩ ?_)
  rintro k l H ⟨i,n,g,rfl,P,Q,R,u,v,p,t,o,x⟩ N B;refine aH (dM (fun y M=> ∃b,y 18= .bool b∧y 0= .str s∧y 1= .int .i64 i∧y 7= .int .u64 n∧y 8= .bool g∧(b=true→ ∃c,s[i]?=some c∧Nc c=true)∧(b=false→ ∀c,s[i]?=some c→Nc c=false)) (fun K a=>?_) ?_)
  ·refine aM ?_;simp only[RR,seval]
   simp only[u,p,RR,seval];refine fJ (fun h=>?_) (fun h=>?_)
   ·have D:(i:Int)<s.length:=aD h
    have A:i<s.length:=by omega
    have z:s[i]?=some s[i]:=aC A;simp only[*,RR,seval];refine aI (uK _) ?_;simp only[RR,seval];refine a _ _ ⟨_,rfl,u,p,v,t, ?_, ?_⟩
    ·intro e;exact⟨_,z,e⟩
    intro e c f;rw[z]at f;cases f;exact e
   simp only[h,RR,seval];refine a _ _ ⟨_,rfl,u,p,v,t, ?_, ?_⟩
   ·intro e;cases e
   intro _ c f;have D: ¬(i:Int)<s.length:=aE h;rw[dO (by omega)]at f;cases f
  rintro l H ⟨b,C,u,p,v,t,L,G⟩;refine eO _ C (fun f=>?_) (fun f=>?_)
  ·refine aL ?_;simp only[bR]
   obtain⟨c,z,hd⟩:=L f;obtain⟨A,E⟩:=bD.1 z;have O:=As hd;have F:s.drop i=c::s.drop (i+1):=by rw[bM A,E]
   rw[F]at o x;simp only[List.takeWhile,hd,Cb,aJ]at o x;refine aQ ?_;refine aG fun K a=>?_;refine aM ?_;simp only[RR,seval];simp only[*,RR,seval];rw[BU (n *10) (by omega),IntWalk.u8_in _ (by omega),BU ((c.toNat:Int)- 48) (by omega),BU _ (by omega)];refine a _ _ (aH ?_);refine aG fun K a=>?_;refine aM ?_;simp only[RR,seval];refine a _ _ (aX ?_ ?_)<;>intro f
   ·have h:4294967295<n *10+((c.toNat:Int)- 48):=aD f
    rw[bF h]at o;refine aG fun K a=>?_;refine aM ?_;simp only[RR,seval];apply a;clear a K;refine aM ?_;simp only[RR,seval];refine aM ?_;simp only[RR,seval];simp only[p,RR,seval];rw[aU _ (by omega)];exact B (s.length-(i+1)) _ _ (by omega) ⟨i+1,0,true,rfl,by omega,by omega,by omega,u,rfl,rfl,rfl,o,by omega⟩
   have h: ¬4294967295<n *10+((c.toNat:Int)- 48):=aE f;rw[aO h]at o;refine aL ?_;simp only[bR];refine aM ?_;simp only[RR,seval];simp only[p,RR,seval];rw[aU _ (by omega)];exact B (s.length-(i+1)) _ _ (by omega) ⟨i+1,_,g,rfl,by omega,by omega,by omega,u,rfl,rfl,t,o,by omega⟩
  refine cH ?_;simp only[bR,dC,reduceIte]
  have J:(s.drop i).takeWhile Nc=[]:=by
   cases hd:s.drop i with
   |nil=>rfl
   |cons c r=>
    have :s[i]?=some c:=by
     have:=dW (xs:=s) (i:=i) (j:=0);rw[hd]at this;simpa using this.symm
    simp only[List.takeWhile,G f c this]
  rw[J]at o x;exact a _ _ ⟨i,n,g,v,p,t,o,x⟩
 rintro l H ⟨i,n,g,v,p,t,o,x⟩;refine aG fun K a=>?_;refine aM ?_;simp only[RR,seval];simp only[p,v,t,seval];apply a;refine aP ?_;simp only[aY,aK,bP,RR,seval];refine bB.pure ?_;rw[o,x]
def iD (s:List UInt8):fX×Int:=
 match s with
 |[]=>(kD,3)
 |c::r=>if Um c.toNat then zH ((c::r).takeWhile Nc)else if decide ((c.toNat:Int)=39)then Qu (c::r)else if Be c.toNat then Qb ((c::r).takeWhile xO)else
  match lT.find? (Ak (c::r))with
  |some w=>(⟨4,w,0,0⟩,0)
  |none=>(kD,3)
theorem sX (p:UInt8→Bool): ∀s:List UInt8,(s.takeWhile p).all p=true
 |[]=>rfl
 |c::s=>by
  simp only[List.takeWhile];cases h:p c
  ·rfl
  simp [h,sX p s]
theorem kZ (p:UInt8→Bool): ∀s:List UInt8,(s.takeWhile p).length≤s.length
 |[]=>by simp
 |c::s=>by
  simp only[List.takeWhile];have:=kZ p s;cases h:p c<;>simp<;>omega
theorem OG {a:Type} (p:a→Bool) (l:List a) (i:Nat) (b:i<l.length) (c:(l.take i).find? p=none) (h:p l[i]=true):l.find? p=some l[i]:=by
 rw[show l.find? p=(l.take i++l.drop i).find? p by rw[lZ],List.find?_append,c,bM b];simp [List.find?,h]
def wE (s:List UInt8) (i:Nat):fX×Int:=if(iD (s.drop i)).2=0 then({(iD (s.drop i)).1 with pos:=i},0)else(kD,(iD (s.drop i)).2)
theorem uY (x:UInt8) (r:List UInt8):Qu (x::r)=match r[0]?,r[1]? with |some c,some d=>if Jq c d then(⟨2,(x::r).take 3,c.toNat,0⟩,0)else(kD,3)|_,_=>(kD,3):=by
 match r with
 |[]=>rfl
 |[_]=>rfl
 |c::d::r=>rfl
theorem rG (p:UInt8→Bool): ∀s:List UInt8,s.take (s.takeWhile p).length=s.takeWhile p
 |[]=>rfl
 |c::s=>by
  simp only[List.takeWhile];cases h:p c<;>simp [rG p s]
theorem BA (c d:UInt8):Jq c d=(decide ((d.toNat:Int)=39)&&decide (32≤(c.toNat:Int))&&decide ((c.toNat:Int)≤126)&& !decide ((c.toNat:Int)=39)&& !decide ((c.toNat:Int)=92)):=by
 have a:(!decide ((c.toNat:Int)<32))=decide (32≤(c.toNat:Int)):=by rw[eW];simp
 have b:(!decide (126<(c.toNat:Int)))=decide ((c.toNat:Int)≤126):=by rw[eW];simp
 rw[Jq,a,b]
theorem IH (s:List UInt8) (i:Nat) (hs:s.length≤1000000) (hi:i<s.length):eG dR 98 [.str s, .int .i64 i] (GH (wE s i)):=by
 refine bU 161 [.cell 4 159, .tmp 5] func98 ?_;have y:s[i]?=some s[i]:=aC hi;have G:s.drop i=s[i]::s.drop (i+1):=bM hi;have b6:(s.drop i).length=s.length-i:=fK;generalize v:s[i]=c at y G;refine aG fun K a=>?_;refine aM ?_;simp only[RR,seval];refine aN fun b u=>?_;simp only[RR,seval];apply a;clear a K;refine aG fun K a=>?_;refine aM ?_;simp only[RR,seval];simp only[y,RR,seval];apply a;clear a K;refine dM (fun f H=>Um c.toNat=false∧ ∃b,f 0= .str s∧f 1= .int .i64 i∧f 4= .ptr 4 b 0 0∧H b=some (.rows 4 [kD.row])∧f 6= .int .u8 c.toNat) (fun K a=>?_) ?_
 ·refine aG fun K a=>?_;refine aM ?_;simp only[RR,seval]
  refine aI (uK _) ?_;simp only[RR,seval];apply a;clear a K;refine aX ?_ ?_<;>intro hd
  ·have z:iD (s.drop i)=zH ((s.drop i).takeWhile Nc):=by
    rw[G];simp only[iD,hd,cQ]
   have B:=Bz ((s.drop i).takeWhile Nc) 0;have b3:=kZ Nc (s.drop i);refine aG fun K a=>?_;refine aM ?_;simp only[RR,seval];refine aI (E3 s i hs (by omega)) ?_;simp only[RR,seval];apply a;clear a K;refine aH ?_;refine aG fun K a=>?_;refine aM ?_;simp only[RR,seval];apply a;clear a K;refine aX ?_ ?_<;>intro R
   ·refine aG fun K a=>?_;refine aM ?_;simp only[RR,seval]
    apply a;clear a K;refine aP ?_;simp only[bR,aY,aK,bP,RR,seval];refine bB.pure ?_
    cases hn:Td 0 ((s.drop i).takeWhile Nc)with
    |some m=>rw[hn]at B;simp only at B;rw[B]at R;cases R
    |none=>simp [wE,z,zH,hn,GH,kD,fX.row]
   refine aL ?_;simp only[bR];have o:(i:Int)≤((i+((s.drop i).takeWhile Nc).length:Nat):Int):=by omega
   have W:(((i+((s.drop i).takeWhile Nc).length:Nat)):Int)≤s.length:=by omega
   refine aG fun K a=>?_;refine aM ?_;simp only[RR,seval];simp only[o,W,RR,seval];apply a;clear a K;refine aP ?_;simp only[bR,aY,aK,bP,RR,seval];refine bB.pure ?_
   cases hn:Td 0 ((s.drop i).takeWhile Nc)with
   |none=>rw[hn]at B;simp only at B;rw[B]at R;cases R
   |some m=>
    rw[hn]at B;simp only at B;have b5:=zI _ 0 m (by omega) (by omega) (sX Nc _) hn;rw[B,dX _ (by simp only;omega),gY];simp only[wE,z,zH,hn,GH,fX.row,cQ,rG]
  refine aL ?_;simp only[bR];exact a _ _ ⟨hd,b,rfl,rfl,rfl,bO _ _ _,rfl⟩
 rintro f H ⟨hd,b,p,o,l,u,Q⟩;refine dM (fun f H=>decide ((c.toNat:Int)=39)=false∧f 0= .str s∧f 1= .int .i64 i∧f 4= .ptr 4 b 0 0∧H b=some (.rows 4 [kD.row])∧f 6= .int .u8 c.toNat) (fun K a=>?_) ?_
 ·refine aG fun K a=>?_;refine aM ?_;simp only[RR,seval]
  simp only[Q,RR,seval];apply a;clear a K;refine aX ?_ ?_<;>intro N
  ·have z:iD (s.drop i)=Qu (s.drop i):=by
    rw[G];simp only[iD,hd,N,cQ,dT,cK]
   have L:Qu (s.drop i)=match s[i+1]?,s[i+2]? with |some c,some d=>if Jq c d then(⟨2,(s.drop i).take 3,c.toNat,0⟩,0)else(kD,3)|_,_=>(kD,3):=by
    rw[G,uY];simp only[dW]
   refine aH ?_;refine dM (fun f H=> ∃t,f 76= .bool t∧f 0= .str s∧f 1= .int .i64 i∧f 4= .ptr 4 b 0 0∧H b=some (.rows 4 [kD.row])∧(t=false→Qu (s.drop i)=(kD,3))∧(t=true→ ∃e:UInt8,s[i+1]?=some e∧i+2<s.length∧Qu (s.drop i)=(⟨2,(s.drop i).take 3,e.toNat,0⟩,0))) (fun K a=>?_) ?_
   ·refine aM ?_;simp only[RR,seval]
    simp only[p,o,RR,seval];rw[aU _ (by omega)];by_cases A:i+2<s.length
    ·have h:decide ((i:Int)+2<s.length)=true:=cV (by omega)
     have D:(0:Int)≤(i:Int)+1:=by omega
     have E:(0:Int)≤(i:Int)+2:=by omega
     have U:((i:Int)+1).toNat=i+1:=by omega
     have V:((i:Int)+2).toNat=i+2:=by omega
     have F:s[i+1]?=some s[i+1]:=aC (by omega);have J:s[i+2]?=some s[i+2]:=aC (by omega);have w1:IntKind.wrap .i64 ((i:Int)+1)=(i:Int)+1:=aU _ (by omega);have w2:IntKind.wrap .i64 ((i:Int)+2)=(i:Int)+2:=aU _ (by omega);generalize s[i+1]=e at F;generalize s[i+2]=d at J;rw[F,J]at L;simp only[BA]at L;simp only[h,p,o,w2,E,V,J,RR,seval]
     repeat' ((first|refine cL (fun h=>?_) (fun h=>?_)|refine fJ (fun h=>?_) (fun h=>?_))<;>simp only[h,p,o,w1,D,U,F,RR,seval])
     all_goals
      refine a _ _ ⟨_,rfl,p,o,l,u, ?_, ?_⟩<;>clear a
      ·intro g;(rw[L];simp_all<;>(intros;omega))
      intro g;first|(simp only[cK]at g;done)|exact⟨e,F,A,by rw[L];simp_all⟩
    have h:decide ((i:Int)+2<s.length)=false:=bI (by omega);have J:s[i+2]?=none:=dO (by omega);simp only[h,RR,seval];refine a _ _ ⟨_,rfl,p,o,l,u,fun _=>?_,fun e=>by cases e⟩;rw[L,J];cases s[i+1]?<;>rfl
   rintro f H ⟨t,a5,p,o,l,u,ht,b4⟩;refine eO _ a5 (fun v=>?_) (fun v=>?_)
   ·obtain⟨e,F,A,a6⟩:=b4 v
    have D:(0:Int)≤(i:Int)+1:=by omega
    have E:(0:Int)≤(i:Int)+3:=by omega
    have U:((i:Int)+1).toNat=i+1:=by omega
    have V:((i:Int)+3).toNat=i+3:=by omega
    have e5:(i:Int)+3≤s.length:=by omega
    have e6:(i:Int)≤((i+3:Nat):Int):=by omega
    have w1:IntKind.wrap .i64 ((i:Int)+1)=(i:Int)+1:=aU _ (by omega);have w3:IntKind.wrap .i64 ((i:Int)+3)=(i:Int)+3:=aU _ (by omega);have w4:IntKind.wrap .u32 (e.toNat:Int)=e.toNat:=dX _ (by have:=e.toNat_lt;omega);refine aG fun K a=>?_;refine gF (fun _=>True) [(0,true),(1,true),(2,true),(3,true),(4,true),(5,true),(6,true),(7,true),(8,true),(9,true),(10,true),(11,true),(12,true),(13,true)] eB (by kernel_rfl) rfl ?_;simp only[uW,p,o,l,u,w1,w3,w4,D,E,U,V,e5,e6,F,fX.row,kD,RR,seval];apply a;clear a K;refine aP ?_;simp only[bR,aY,aK,bP,l,RR,seval];refine bB.pure ?_;simp only[wE,z,a6,cQ,GH,fX.row];rw[gY]
   refine aL ?_;simp only[bR];refine aG fun K a=>?_;refine aM ?_;simp only[RR,seval];simp only[l,u,fX.row,kD,RR,seval];apply a;clear a K;refine aP ?_;simp only[bR,aY,aK,bP,l,RR,seval];refine bB.pure ?_;simp only[wE,z,ht v];rfl
  refine aL ?_;simp only[bR];exact a _ _ ⟨N,p,o,l,u,Q⟩
 rintro f H ⟨N,p,o,l,u,Q⟩;refine dM (fun f H=>Be c.toNat=false∧f 0= .str s∧f 1= .int .i64 i∧f 4= .ptr 4 b 0 0∧H b=some (.rows 4 [kD.row])) (fun K a=>?_) ?_
 ·refine aG fun K a=>?_;refine aM ?_;simp only[RR,seval]
  simp only[Q,seval];refine aI (uL _) ?_;simp only[RR,seval];apply a;clear a K;refine aX ?_ ?_<;>intro C
  ·have z:iD (s.drop i)=Qb ((s.drop i).takeWhile xO):=by
    rw[G];simp only[iD,hd,N,C,cQ,dT,cK]
   have b3:=kZ xO (s.drop i);have a0:=rG xO (s.drop i);refine aG fun K a=>?_;refine aM ?_;simp only[RR,seval];simp only[o,seval];apply a;clear a K;refine dM (fun f H=>f 0= .str s∧f 1= .int .i64 i∧f 4= .ptr 4 b 0 0∧H b=some (.rows 4 [kD.row])∧f 10= .int .i64 ((i+((s.drop i).takeWhile xO).length:Nat))) (fun K a=>?_) ?_
   ·refine aQ ?_
    refine fN (fun k f H=> ∃j:Nat,k=s.length-j∧j≤s.length∧f 0= .str s∧f 1= .int .i64 i∧f 4= .ptr 4 b 0 0∧H b=some (.rows 4 [kD.row])∧f 10= .int .i64 j∧i+((s.drop i).takeWhile xO).length=j+((s.drop j).takeWhile xO).length) (s.length-i) ⟨i,rfl,by omega,p,o,l,u,rfl,rfl⟩ ?_;rintro k f H ⟨j,rfl,hj,p,o,l,u,x,S⟩ K2 X;refine aH ?_;refine dM (fun I H'=> ∃t,I 114= .bool t∧I 0= .str s∧I 1= .int .i64 i∧I 4= .ptr 4 b 0 0∧H' b=some (.rows 4 [kD.row])∧I 10= .int .i64 j∧(t=true→ ∃c,s[j]?=some c∧xO c=true)∧(t=false→ ∀c,s[j]?=some c→xO c=false)) (fun K a=>?_) ?_
    ·refine aM ?_;simp only[RR,seval]
     simp only[p,x,RR,seval];refine fJ (fun h=>?_) (fun h=>?_)
     ·have W:(j:Int)<s.length:=aD h
      have A:j<s.length:=by omega
      have y:s[j]?=some s[j]:=aC A;generalize s[j]=e at y;simp only[h,p,x,y,RR,seval];refine aI (uL _) ?_;simp only[RR,seval];refine cL (fun C=>?_) (fun C=>?_)<;>simp only[C,p,x,y,RR,seval]
      ·refine aI (uK _) ?_
       simp only[RR,seval]
       repeat' ((refine cL (fun h=>?_) (fun h=>?_))<;>simp only[h,p,x,y,RR,seval])
       all_goals
        refine a _ _ ⟨_,rfl,p,o,l,u,x, ?_, ?_⟩
        ·intro g;refine⟨e,y, ?_⟩;simp [xO,QZ, *]
        intro g c' a1;rw[y]at a1;cases a1;simp [xO,QZ, *]at g⊢
      refine a _ _ ⟨_,rfl,p,o,l,u,x, ?_, ?_⟩
      ·intro g;refine⟨e,y, ?_⟩;simp [xO,QZ,C]
      intro g;cases g
     simp only[h,RR,seval];refine a _ _ ⟨_,rfl,p,o,l,u,x, ?_, ?_⟩
     ·intro g;cases g
     intro _ c v;have W: ¬(j:Int)<s.length:=aE h;rw[dO (by omega)]at v;cases v
    rintro f H ⟨t,a4,p,o,l,u,x,ht,a8⟩;refine eO _ a4 (fun v=>?_) (fun v=>?_)
    ·refine aL ?_;simp only[bR]
     obtain⟨e,y,he⟩:=ht v;obtain⟨A,a7⟩:=bD.1 y;have Y:s.drop j=e::s.drop (j+1):=by rw[bM A,a7]
     rw[Y]at S;simp only[List.takeWhile,he,aJ]at S;refine aQ ?_;refine aM ?_;simp only[RR,seval];simp only[x,RR,seval];rw[aU _ (by omega)];exact X (s.length-(j+1)) _ _ (by omega) ⟨j+1,rfl,by omega,p,o,l,u,rfl,by omega⟩
    refine cH ?_;simp only[bR,dC,reduceIte]
    have b2:(s.drop j).takeWhile xO=[]:=by
     cases Y:s.drop j with
     |nil=>rfl
     |cons e r=>
      have :s[j]?=some e:=by
       have:=dW (xs:=s) (i:=j) (j:=0);rw[Y]at this;simpa using this.symm
      simp only[List.takeWhile,a8 v e this]
    rw[b2]at S;exact a _ _ ⟨p,o,l,u,by rw[x,S];rfl⟩
   rintro f H ⟨p,o,l,u,x⟩;have Z:Qb ((s.drop i).takeWhile xO)=if 20<((s.drop i).takeWhile xO).length then(kD,2)else if kC.contains ((s.drop i).takeWhile xO)then(⟨3,(s.drop i).takeWhile xO,0,0⟩,0)else(⟨1,(s.drop i).takeWhile xO,0,0⟩,0):=rfl
   generalize b7:(s.drop i).takeWhile xO=T at *;have D:(i:Int)≤((i+T.length:Nat):Int):=by omega
   have E:((i+T.length:Nat):Int)≤s.length:=by omega
   refine aH ?_;refine aG fun K a=>?_;refine aM ?_;simp only[RR,seval];simp only[o,x,RR,seval];rw[aU _ (by omega)];apply a;clear a K;refine aX ?_ ?_<;>intro v
   ·have h:20<T.length:=by have:=aD v;omega
    refine aG fun K a=>?_;refine aM ?_;simp only[RR,seval];simp only[l,u,fX.row,kD,RR,seval];apply a;clear a K;refine aP ?_;simp only[bR,aY,aK,bP,l,RR,seval];refine bB.pure ?_;simp only[wE,z,Z,h,cQ];rfl
   have h: ¬20<T.length:=by have:=aE v;omega
   refine aL ?_;simp only[bR];refine aH ?_;refine aG fun K a=>?_;refine gF (fun _=>True) [(1,false),(2,false),(3,false),(4,false),(0,true),(5,true)] eB (by kernel_rfl) rfl ?_;simp only[uW,fP,p,o,x,D,E,RR,seval];refine aI Oi ?_;simp only[RR,seval];refine aI (JG kC _ (by decide)) ?_;simp only[gY,a0,RR,seval];apply a;clear a K;refine aX ?_ ?_<;>intro hw
   ·refine aG fun K a=>?_;refine aM ?_;simp only[RR,seval]
    simp only[p,o,l,x,u,D,E,gY,a0,fX.row,kD,RR,seval];apply a;clear a K;refine aP ?_;simp only[bR,aY,aK,bP,l,RR,seval];refine bB.pure ?_;simp only[wE,z,Z,h,hw,cQ,dT];rfl
   refine aL ?_;simp only[bR];refine aG fun K a=>?_;refine aM ?_;simp only[RR,seval];simp only[p,o,l,x,u,D,E,gY,a0,fX.row,kD,RR,seval];apply a;clear a K;refine aP ?_;simp only[bR,aY,aK,bP,l,RR,seval];refine bB.pure ?_;simp only[wE,z,Z,h,hw,cQ,dT,cK];rfl
  refine aL ?_;simp only[bR];exact a _ _ ⟨C,p,o,l,u⟩
 rintro f H ⟨C,p,o,l,u⟩
 have a2:iD (s.drop i)=match lT.find? (Ak (s.drop i))with |some w=>(⟨4,w,0,0⟩,0)|none=>(kD,3):=by
  rw[G];simp only[iD,hd,N,C,dT,cK]
  all_goals rfl
 refine aG fun K a=>?_;refine aM ?_;simp only[RR,seval];refine aI W6 ?_;simp only[RR,seval];apply a;clear a K;refine dM (fun f H=>lT.find? (Ak (s.drop i))=none∧f 4= .ptr 4 b 0 0∧H b=some (.rows 4 [kD.row])) (fun K a=>?_) ?_
 ·refine aG fun K a=>?_;refine aM ?_;simp only[RR,seval]
  apply a;clear a K;refine aQ ?_;refine fN (fun n f H=> ∃j:Nat,n=24 -j∧j≤24∧(lT.take j).find? (Ak (s.drop i))=none∧f 0= .str s∧f 1= .int .i64 i∧f 4= .ptr 4 b 0 0∧H b=some (.rows 4 [kD.row])∧f 11= .isl 1 (lT.map fun w=>[.str w])∧f 12= .int .i64 j) 24 ⟨0,rfl,by omega,rfl,p,o,l,u,rfl,rfl⟩ ?_;rintro n f H ⟨j,rfl,hj,M,p,o,l,u,O,P⟩ K2 X;refine aH ?_;refine aG fun K a=>?_;refine aM ?_;simp only[RR,seval];simp only[O,P,aF,RR,seval];apply a;clear a K;refine aX ?_ ?_<;>intro v
  ·refine aL ?_;simp only[bR]
   have a9:(j:Int)<lT.length:=aD v;have A:j<lT.length:=by omega
   have b0:lT.length=24:=rfl;have a3:(lT.map fun w=>[AV.str w])[j]?=some [.str lT[j]]:=by rw[cT,aC A];rfl
   have b1:lT[j].length≤1000000:=by
    have : ∀w∈lT,w.length≤2:=by decide
    have:=this _ (bZ A);omega
   refine aH ?_;refine aQ ?_;refine aG fun K a=>?_;refine aM ?_;simp only[RR,seval];simp only[p,o,O,P,a3,RR,seval];refine aI (Ju s lT[j] i hs b1 (by omega)) ?_;simp only[RR,seval];apply a;clear a K;refine aX ?_ ?_<;>intro v
   ·refine aG fun K a=>?_;refine aM ?_;simp only[RR,seval]
    simp only[o,l,O,P,a3,u,fX.row,kD,RR,seval];apply a;clear a K;refine aP ?_;simp only[bR,dC,aY,aK,bP,l,RR,seval];refine bB.pure ?_;have z:lT.find? (Ak (s.drop i))=some lT[j]:=OG _ _ _ A M v;simp only[wE,a2,z,cQ];rfl
   refine aL ?_;simp only[bR,dC];refine aM ?_;simp only[RR,seval];simp only[P,RR,seval];rw[aU _ (by omega)];refine X (24 -(j+1)) _ _ (by omega) ⟨j+1,rfl,by omega, ?_,p,o,l,u,O,rfl⟩;rw[bQ A,List.find?_append,M];simp [List.find?,v]
  refine cH ?_;simp only[bR,dC,reduceIte];have a9: ¬(j:Int)<lT.length:=aE v;have b0:lT.length=24:=rfl;have :j=24:=by omega
  subst this;exact a _ _ ⟨M,l,u⟩
 rintro f H ⟨M,l,u⟩;refine aG fun K a=>?_;refine aM ?_;simp only[RR,seval];simp only[l,u,fX.row,kD,RR,seval];apply a;clear a K;refine aP ?_;simp only[aY,aK,bP,l,RR,seval];refine bB.pure ?_;simp only[wE,a2,M];rfl
def RN (c:Int):Bool:=decide (c=32)||decide (c=9)||decide (c=10)
def sO (c:UInt8):Bool:= !decide ((c.toNat:Int)=10)
def oP:List UInt8→Nat→Nat→Except (Nat×Int) (List fX)
 |[],_,_=> .ok []
 |_::r,k+1,i=>oP r k (i+1)
 |c::r,0,i=>
  if RN c.toNat then oP r 0 (i+1)
  else if Ak (c::r) [47,47]then oP r (((c::r).takeWhile sO).length- 1) (i+1)
  else if(iD (c::r)).2=0 then(oP r ((iD (c::r)).1.text.length - 1) (i+1)).map ({(iD (c::r)).1 with pos:=i}:: ·)
  else .error (i,(iD (c::r)).2)
theorem Ci: ∀(s:List UInt8) (k i:Nat),oP s k i=oP (s.drop k) 0 (i+k)
 |[],k,i=>by cases k<;>simp [oP]
 |c::r,0,i=>by simp
 |c::r,k+1,i=>by
  simp only[oP,jV];rw[Ci r k (i+1)];congr 1;omega
def WN:Except (Nat×Int) (List fX)→AV
 | .ok l=> .tup [XL 4 (l.map fX.row), .int .i64 0, .int .i64 0]
 | .error (i,e)=> .tup [.nsl, .int .i64 i, .int .i64 e]
def Ce (s:List UInt8):Except (Nat×Int) (List fX):=if 20000<s.length then .error (0,2)else oP s 0 0
def yA (l:List fX) (x:Except (Nat×Int) (List fX)):Except (Nat×Int) (List fX):=x.map (l++ ·)
theorem MN (x:Except (Nat×Int) (List fX)):yA [] x=x:=by cases x<;>rfl
theorem HU (l:List fX) (t:fX) (x:Except (Nat×Int) (List fX)):yA l (x.map (t:: ·))=yA (l++[t]) x:=by cases x<;>simp [yA,Except.map]
theorem H5 {s:List UInt8} (j:s≠[]) (h:(iD s).2=0):0<(iD s).1.text.length:=by
 cases s with
 |nil=>exact absurd rfl j
 |cons c r=>
  simp only[iD]at *;split at h
  ·rename_i hd
   rw[bF hd];simp only[zH]at *;split at h
   ·rename_i n e;have :Nc c=true:=hd;simp [List.takeWhile,this]
   exact absurd h (by decide)
  rename_i hd;rw[aO hd];split at h
  ·rename_i b
   rw[bF b];rw[uY]at *;split at h
   ·rename_i k l;split at h
    ·rename_i d;simp only[d,cQ];simp
    exact absurd h (by decide)
   exact absurd h (by decide)
  rename_i b;rw[aO b];split at h
  ·rename_i a
   rw[bF a]
   have i:0<((c::r).takeWhile xO).length:=by
    have :xO c=true:=by simp [xO,QZ,a]
    simp only[List.takeWhile,this];simp
   simp only[Qb]at *;split at h
   ·exact absurd h (by decide)
   rename_i g;rw[aO g];split<;>exact i
  rename_i a;rw[aO a];split at h
  ·rename_i w e
   have:=List.mem_of_find?_eq_some e;have f: ∀w∈lT,0<w.length:=by decide
   exact f w this
  exact absurd h (by decide)
theorem Qm (s:List UInt8):(iD s).1.text.length≤s.length:=by
 cases s with
 |nil=>simp [iD,kD]
 |cons c r=>
  simp only[iD];split
  ·simp only[zH]
   split
   ·exact kZ _ _
   simp [kD]
  split
  ·rw[uY]
   split
   ·split
    ·rename_i d a _
     have:=(bD.1 a).1;simp only[dS];omega
    simp [kD]
   simp [kD]
  split
  ·simp only[Qb]
   split
   ·simp [kD]
   split<;>exact kZ _ _
  split
  ·rename_i w e
   have h:=List.find?_some e;have b:(c::r).take w.length=w:=aD h;have:=congrArg List.length b;rw[dS]at this;simp only;omega
  simp [kD]
def lF:List UInt8→Nat→Nat
 |[],_=>0
 |_::r,k+1=>lF r k+1
 |c::r,0=>if RN c.toNat then lF r 0+1 else if Ak (c::r) [47,47]then lF r (((c::r).takeWhile sO).length- 1)+1 else 0
theorem zF: ∀(s:List UInt8) (k:Nat),k≤s.length→lF s k=lF (s.drop k) 0+k
 |[],k,h=>by simp at h;subst h;rfl
 |c::r,0,_=>by simp
 |c::r,k+1,h=>by
  simp only[lF,jV];rw[zF r k (by simpa using h)];omega
theorem Eu {c:UInt8} {r:List UInt8} (h:Ak (c::r) [47,47]=true):1≤((c::r).takeWhile sO).length:=by
 have :(c::r).take 2=[47,47]:=aD h;simp only[gV,List.cons.injEq]at this;have a:sO c=true:=by rw[this.1];rfl
 simp only[List.takeWhile,a];simp
theorem Ip (n:Nat): ∀(s:List UInt8) (i:Nat),s.length≤n→lF s 0≤s.length∧oP s 0 i=oP (s.drop (lF s 0)) 0 (i+lF s 0)∧(∀c r,s.drop (lF s 0)=c::r→RN c.toNat=false∧Ak (c::r) [47,47]=false):=by
 induction n with
 |zero=>
  intro s i h
  cases s with
  |nil=>exact⟨by simp [lF],by simp [lF],fun c r e=>by simp at e⟩
  |cons=>simp at h
 |succ n ih=>
  intro s i h
  cases s with
  |nil=>exact⟨by simp [lF],by simp [lF],fun c r e=>by simp at e⟩
  |cons c r=>
   simp only[aJ]at h
   cases hw:RN c.toNat with
   |true=>
    obtain⟨f,a,b⟩:=ih r (i+1) (by omega);simp only[lF,hw,cQ,oP,aJ,jV];refine⟨by omega, ?_,b⟩;rw[a];congr 1;omega
   |false=>
    cases hp:Ak (c::r) [47,47]with
    |true=>
     have k:=Eu hp;have j:=kZ sO (c::r);simp only[aJ]at j;simp only[lF,hw,hp,cQ,dT,cK,oP,aJ];rw[Ci,zF _ _ (by omega)];obtain⟨f,a,b⟩:=ih (r.drop (((c::r).takeWhile sO).length- 1)) (i+1+(((c::r).takeWhile sO).length- 1)) (by rw[fK];omega);rw[fK]at f;rw[List.drop_drop]at a b;refine⟨by omega, ?_, ?_⟩
     ·rw[a,jV]
      congr 1
      ·congr 1;omega
      omega
     intro d g e;rw[jV]at e;refine b d g ?_;rw[←e];congr 1;omega
    |false=>
     simp only[lF,hw,hp,dT,cK];refine⟨by omega,by simp,fun d g e=>?_⟩;simp only[dP,List.cons.injEq]at e;rw[←e.1,←e.2];exact⟨hw,hp⟩
theorem Xo (s:List UInt8) (i:Nat) (T:s.length≤1000000) (O:i≤s.length):eG dR 97 [.str s, .int .i64 i] (.int .i64 ((i+lF (s.drop i) 0:Nat))):=by
 refine bU 46 [.tmp 4] func97 ?_;refine aG fun K b=>?_;refine aM ?_;simp only[RR,seval];apply b;clear b K;refine dM (fun f H=>f 1= .int .i64 ((i+lF (s.drop i) 0:Nat))) (fun K b=>?_) ?_
 ·refine aQ ?_
  refine fN (fun n f H=> ∃j:Nat,n=s.length-j∧j≤s.length∧f 0= .str s∧f 1= .int .i64 j∧i+lF (s.drop i) 0=j+lF (s.drop j) 0) (s.length-i) ⟨i,rfl,O,rfl,rfl,rfl⟩ ?_;rintro n f H ⟨j,rfl,E,d,a,x⟩ W C;refine aH ?_;refine aG fun K b=>?_;refine aM ?_;simp only[RR,seval];simp only[d,a,RR,seval];apply b;clear b K;refine aX ?_ ?_<;>intro o
  ·have u:j<s.length:=by have:=aD o;omega
   have l:s[j]?=some s[j]:=aC u;have p:s.drop j=s[j]::s.drop (j+1):=bM u;generalize s[j]=c at l p;refine aL ?_;simp only[bR];refine aQ ?_;refine aQ ?_;refine dM (fun f H=>f 10= .bool (RN c.toNat)∧f 0= .str s∧f 1= .int .i64 j) (fun K b=>?_) ?_
   ·refine aM ?_;simp only[RR,seval]
    simp only[d,a,l,RR,seval]
    repeat' ((refine cL (fun h=>?_) (fun h=>?_))<;>simp only[h,d,a,l,RR,seval])
    all_goals exact b _ _ ⟨by simp [upd,RN, *],d,a⟩
   rintro f H ⟨F,d,a⟩;refine eO _ F (fun z=>?_) (fun z=>?_)
   ·refine aM ?_;simp only[RR,seval]
    simp only[a,dC,RR,seval];rw[aU _ (by omega)];refine C (s.length-(j+1)) _ _ (by omega) ⟨j+1,rfl,by omega,d,rfl, ?_⟩;rw[x,p];simp only[lF,z,cQ];omega
   refine aG fun K b=>?_;refine aM ?_;simp only[RR,seval];simp only[d,a,seval];refine aI (Ju s _ j T (by decide) E) ?_;simp only[RR,seval];apply b;clear b K;refine aX ?_ ?_<;>intro v
   ·have Q:=kZ sO (s.drop j)
    rw[fK]at Q;refine aQ ?_;refine fN (fun n f H=> ∃k:Nat,n=s.length-k∧k≤s.length∧f 0= .str s∧f 1= .int .i64 k∧j+((s.drop j).takeWhile sO).length=k+((s.drop k).takeWhile sO).length) (s.length-j) ⟨j,rfl,E,d,a,rfl⟩ ?_;rintro n f H ⟨k,rfl,P,d,a,y⟩ X J;refine aH ?_;refine dM (fun A V=> ∃t,A 42= .bool t∧A 0= .str s∧A 1= .int .i64 k∧(t=true→ ∃c,s[k]?=some c∧sO c=true)∧(t=false→ ∀c,s[k]?=some c→sO c=false)) (fun K b=>?_) ?_
    ·refine aM ?_;simp only[RR,seval]
     simp only[d,a,RR,seval];refine fJ (fun h=>?_) (fun h=>?_)
     ·have G:(k:Int)<s.length:=aD h
      have u:k<s.length:=by omega
      have l:s[k]?=some s[k]:=aC u;generalize s[k]=e at l;simp only[h,d,a,l,RR,seval]
      repeat' ((refine cL (fun h=>?_) (fun h=>?_))<;>simp only[h,d,a,l,RR,seval])
      refine b _ _ ⟨_,rfl,d,a, ?_, ?_⟩
      ·intro g;exact⟨e,l,g⟩
      intro g Y D;rw[l]at D;cases D;exact g
     simp only[h,RR,seval];refine b _ _ ⟨_,rfl,d,a, ?_, ?_⟩
     ·intro g;cases g
     intro _ c o;have G: ¬(k:Int)<s.length:=aE h;rw[dO (by omega)]at o;cases o
    rintro f H ⟨t,I,d,a,U,N⟩;refine eO _ I (fun o=>?_) (fun o=>?_)
    ·refine aL ?_;simp only[bR]
     obtain⟨e,l,M⟩:=U o;obtain⟨u,L⟩:=bD.1 l;have B:s.drop k=e::s.drop (k+1):=by rw[bM u,L]
     rw[B]at y;simp only[List.takeWhile,M,aJ]at y;refine aQ ?_;refine aM ?_;simp only[RR,seval];simp only[a,RR,seval];rw[aU _ (by omega)];exact J (s.length-(k+1)) _ _ (by omega) ⟨k+1,rfl,by omega,d,rfl,by omega⟩
    refine cH ?_;simp only[bR,dC,reduceIte,Nat.reduceEqDiff]
    have S:(s.drop k).takeWhile sO=[]:=by
     cases B:s.drop k with
     |nil=>rfl
     |cons e r=>
      have :s[k]?=some e:=by
       have:=dW (xs:=s) (i:=k) (j:=0);rw[B]at this;simpa using this.symm
      simp only[List.takeWhile,N o e this]
    rw[S]at y;simp only[aT,mV]at y;rw[p]at v;have R:=Eu v;rw[←p]at R;refine C (s.length-k) _ _ (by omega) ⟨k,rfl,P,d,a, ?_⟩;rw[x]
    conv=>lhs;rw[p]
    simp only[lF,z,v,cQ,dT,cK];rw[←p,zF _ _ (by rw[fK];omega),List.drop_drop,show j+1+(((s.drop j).takeWhile sO).length- 1)=k by omega];omega
   refine aG fun K b=>?_;refine aM ?_;simp only[RR,seval];simp only[a,seval];apply b;clear b K;refine aP ?_;simp only[bR,dC,aY,aK,bP,RR,seval];refine bB.pure ?_;rw[x,p];rw[p]at v;simp only[lF,z,v,dT,cK];simp
  refine cH ?_;simp only[bR,dC,reduceIte];have :j=s.length:=by have:=aE o;omega
  subst this;rw[dF]at x;apply b;rw[x];exact a
 intro f H a;refine aG fun K b=>?_;refine aM ?_;simp only[RR,seval];simp only[a,seval];apply b;clear b K;refine aP ?_;simp only[aY,aK,bP,RR,seval];refine bB.pure ?_;rfl
theorem Xl (s:List UInt8) (F:s.length≤1000000):eG dR 64 [.str s] (WN (Ce s)):=by
 refine bU 40 [.tmp 2, .tmp 3, .tmp 4] func64 ?_;refine aG fun K d=>?_;refine aM ?_;simp only[RR,seval];apply d;clear d K;refine aH ?_;refine aG fun K d=>?_;refine aM ?_;simp only[RR,seval];apply d;clear d K;refine aX ?_ ?_<;>intro k
 ·have h:20000<s.length:=by have:=aD k;omega
  refine aG fun K d=>?_;refine aM ?_;simp only[RR,seval];apply d;clear d K;refine aP ?_;simp only[bR,aY,aK,bP,RR,seval];refine bB.pure ?_;simp [Ce,h,WN]
 have h: ¬20000<s.length:=by have:=aE k;omega
 have I:Ce s=oP s 0 0:=aO h;refine aL ?_;simp only[bR];refine aG fun K d=>?_;refine aM ?_;simp only[RR,seval];apply d;clear d K;have M:=Xo s 0 F (by omega);obtain⟨a9,N,Y⟩:=Ip s.length s 0 (aZ _);simp only[dP,cD]at M N;refine aG fun K d=>?_;refine aM ?_;simp only[RR,seval];refine aI M ?_;simp only[RR,seval];apply d;clear d K;refine dM (fun j H=> ∃l:List fX,oP s 0 0= .ok l∧Lr 4 (j 5) (l.map fX.row) H) (fun K d=>?_) ?_
 ·refine aQ ?_
  refine fN (fun n j H=> ∃(a:Nat) (l:List fX),n=s.length-a∧a≤s.length∧oP s 0 0=yA l (oP (s.drop a) 0 a)∧(∀c r,s.drop a=c::r→RN c.toNat=false∧Ak (c::r) [47,47]=false)∧l.length≤a∧j 0= .str s∧Lr 4 (j 5) (l.map fX.row) H∧j 6= .int .i64 a) (s.length-lF s 0) ⟨lF s 0,[],rfl,by omega,by rw[MN];exact N,Y,by simp,rfl, .inl ⟨rfl,rfl⟩,rfl⟩ ?_;rintro n j H ⟨a,l,rfl,ha,D,a1,a8,v,f,x⟩ K2 S;refine aH ?_;refine aG fun K d=>?_;refine aM ?_;simp only[RR,seval];simp only[v,x,RR,seval];apply d;clear d K;refine aX ?_ ?_<;>intro k
  ·have C:a<s.length:=by have:=aD k;omega
   have B:s.drop a=s[a]::s.drop (a+1):=bM C;generalize s[a]=c at B;obtain⟨a6,W⟩:=a1 _ _ B
   have G:oP (s.drop a) 0 a=if(iD (s.drop a)).2=0 then(oP (s.drop (a+1)) ((iD (s.drop a)).1.text.length - 1) (a+1)).map ({(iD (s.drop a)).1 with pos:=a}:: ·)else .error (a,(iD (s.drop a)).2):=by
    rw[B];simp only[oP,a6,W,dT,cK]
   have u:=IH s a F C;have J:=Qm (s.drop a);rw[fK]at J;have Q:=H5 (s:=s.drop a) (by rw[B];simp);simp only[wE]at u;refine aL ?_;simp only[bR];refine aQ ?_;generalize iD (s.drop a)=p at *;obtain⟨t,e⟩:=p;simp only at G J Q u
   have a0: ∃i,(if e=0 then(({t with pos:=(a:Int)}:fX),(0:Int))else(kD,e))=(i,e)∧(e=0→i={t with pos:=(a:Int)}):=by
    by_cases g:e=0
    ·exact⟨_,by rw[bF g,g],fun _=>rfl⟩
    exact⟨kD,aO g,fun h=>absurd h g⟩
   obtain⟨i,a2,a3⟩:=a0;rw[a2]at u;simp only[GH]at u;refine aG fun K d=>?_;refine aM ?_;simp only[RR,seval];simp only[v,x,seval];refine aI u ?_;simp only[fX.row,RR,seval];refine aN fun b T=>?_;simp only[RR,seval];apply d;clear d K
   have L: ∀o,j 5= .osl 4 o (l.map fX.row).length→o≠b:=fun o e R=>by
    rcases f with⟨f,_⟩|⟨_,a7,y,z⟩
    ·rw[f]at e;cases e
    rw[y]at e;cases e;rw[R,T]at z;cases z
   have E:Lr 4 (j 5) (l.map fX.row) (upd (upd H b (some (.rows 4 [[.int .i64 0, .str [], .int .u32 0, .int .i64 0]]))) b (some (.rows 4 [i.row]))):=by
    rcases f with f|⟨f,o,y,z⟩
    ·exact .inl f
    exact .inr ⟨f,o,y,by simp [upd,L o y,z]⟩
   have A:(upd (upd H b (some (.rows 4 [[.int .i64 0, .str [], .int .u32 0, .int .i64 0]]))) b (some (.rows 4 [i.row]))) b=some (.rows 4 [i.row]):=bO _ _ _;simp only[fX.row]at E A;generalize(upd (upd H b (some (.rows 4 [[.int .i64 0, .str [], .int .u32 0, .int .i64 0]]))) b (some (.rows 4 [[AV.int .i64 i.kind, .str i.text, .int .u32 i.num, .int .i64 i.pos]])))=H1 at E A⊢;refine aH ?_;refine aG fun K d=>?_;refine aM ?_;simp only[RR,seval];apply d;clear d K;refine aX ?_ ?_<;>intro k
   ·have g: ¬e=0:=by simpa using k
    refine aG fun K d=>?_;refine aM ?_;simp only[RR,seval];simp only[x,seval];apply d;clear d K;refine aP ?_;simp only[bR,dC,aY,aK,bP,RR,seval];refine bB.pure ?_;rw[I,D,G,aO g];rfl
   have g:e=0:=by simpa using k
   have a4:=a3 g;subst a4;refine aL ?_;simp only[bR];refine aG fun K d=>?_;refine aM ?_;simp only[RR,seval];simp only[A,RR,seval];refine dG ?_;simp only[RR,seval];refine jT (rows:=l.map fX.row) E.own (by simp only[aF,aJ,aT];omega) (fun _=>trivial) fun v' H' a5 V=>?_;have U:=V b _ A (fun e=>L b e rfl);simp only[RR,seval];apply d;clear d K;have b0:=Q g;have X:=Xo s (a+t.text.length) F (by omega);obtain⟨Z,O,P⟩:=Ip s.length (s.drop (a+t.text.length)) (a+t.text.length) (by rw[fK];omega);rw[fK]at Z;rw[List.drop_drop]at O P;refine aM ?_;simp only[RR,seval];simp only[v,x,U,RR,seval];rw[aU _ (by omega)];refine aI X ?_;simp only[RR,seval];refine S (s.length-(a+t.text.length+lF (s.drop (a+t.text.length)) 0)) _ _ (by omega) ⟨a+t.text.length+lF (s.drop (a+t.text.length)) 0,l++[{t with pos:=a}],rfl,by omega, ?_,P, ?_,v, ?_,rfl⟩
   ·rw[D,G,bF g,HU,Ci,List.drop_drop,show a+1+(t.text.length- 1)=a+t.text.length by omega,O]
   ·simp only[aB,aJ,aT];omega
   refine dZ.ne ?_ (by simp);rw[cP];exact a5
  refine cH ?_;simp only[bR,dC,reduceIte];have :a=s.length:=by have:=aE k;omega
  subst this;rw[dF]at D;exact d _ _ ⟨l,by rw[D];simp [oP,yA,Except.map],f⟩
 rintro j H ⟨l,C,f⟩;refine aG fun K d=>?_;refine aM ?_;simp only[RR,seval];apply d;clear d K;refine aP ?_;simp only[aY,aK,bP,RR,seval];refine Lr.gives f ?_;rw[I,C];rfl
inductive PR (α:Type) where
 |ok (a:α) (n:Nat)
 |bad (n:Nat)
def PR.bind {α β:Type}:PR α→(α→Nat→PR β)→PR β
 | .ok a n,f=>f a n
 | .bad n,_=> .bad n
@[simp] theorem PR.bind_ok {α β : Type} (a : α) (n : Nat) (f : α → Nat → PR β) : (PR.ok a n).bind f = f a n := rfl
@[simp] theorem PR.bind_bad {α β : Type} (n : Nat) (f : α → Nat → PR β) : (PR.bad n : PR α).bind f = .bad n := rfl
theorem PR.bind_eq_ok {c d:Type} {x:PR c} {f:c→Nat→PR d} {b:d} {m:Nat} (h:x.bind f= .ok b m): ∃a n,x= .ok a n∧f a n= .ok b m:=by
 cases x with
 |ok a n=>exact⟨a,n,rfl,h⟩
 |bad n=>cases h
section
variable (T : List fX)
def eA (n:Nat):dE:=match T[n]? with
 |some t=>if t.kind=3∨t.kind=4 then t.text else []
 |none=>[]
def nS (n:Nat):Int:=match T[n]? with
 |some t=>t.kind
 |none=>0
def fA (s:dE) (n:Nat):PR Unit:=if eA T n=s then .ok () (n+1)else .bad n
def kG (k:Int) (n:Nat):PR fX:=match T[n]? with
 |some t=>if t.kind=k then .ok t (n+1)else .bad n
 |none=> .bad n
def Ns:List (dE×Int×Int×Nat)→dE→Int×Int×Nat
 |[],_=>(0,0,0)
 |(w,r)::l,s=>if s=w then r else Ns l s
def US:List (dE×Int×Int×Nat):=[([124,124],9,0,1),([38,38],8,0,2),([61,61],6,15,3),([60],6,14,4),([124],6,10,5),([94],6,11,5),([38],6,9,6),([60,60],6,12,7),([62,62],6,13,7),
 ([43],6,4,8),([45],6,5,8),([42],6,6,9),([47],6,7,9),([37],6,8,9)]
def Ec (s:dE):Int×Int×Nat:=Ns US s
def Jb (s:dE) (a b:Ex):Ex:= .mk (Ec s).1 (Ec s).2.1 0 [] [a,b]
mutual
def rT:Nat→Nat→PR Ex
 |0,n=> .bad n
 |f+1,n=>
  if nS T n=2 then(kG T 2 n).bind fun t m=> .ok (.mk 1 0 t.num [] []) m
  else if eA T n=[103,101,116]then(fA T [40] (n+1)).bind fun _ m=>(fA T [41] m).bind fun _ m=> .ok (.mk 5 0 0 [] []) m
  else if eA T n=[40]then(pT f 1 (n+1)).bind fun e m=>(fA T [41] m).bind fun _ m=> .ok e m
  else if eA T n=[33]then(rT f (n+1)).bind fun e m=> .ok (.mk 7 0 0 [] [e]) m
  else(kG T 1 n).bind fun t m=>
   if eA T m=[91]then(pT f 1 (m+1)).bind fun e m=>(fA T [93] m).bind fun _ m=> .ok (.mk 3 0 0 t.text [e]) m
   else if eA T m=[40]then(sS f (m+1)).bind fun l m=> .ok (.mk 4 0 0 t.text l) m
   else .ok (.mk 2 0 0 t.text []) m
def pT:Nat→Nat→Nat→PR Ex
 |0,_,n=> .bad n
 |f+1,lo,n=>(rT f n).bind fun e m=>sP f lo e m
def sP:Nat→Nat→Ex→Nat→PR Ex
 |0,_,_,n=> .bad n
 |f+1,lo,e,n=>if(Ec (eA T n)).2.2<lo then .ok e n
  else(pT f ((Ec (eA T n)).2.2+1) (n+1)).bind fun e2 m=>sP f lo (Jb (eA T n) e e2) m
def sS:Nat→Nat→PR (List Ex)
 |0,n=> .bad n
 |f+1,n=>if eA T n=[41]then .ok [] (n+1)else(pT f 1 n).bind fun e m=>sT f [e] m
def sT:Nat→List Ex→Nat→PR (List Ex)
 |0,_,n=> .bad n
 |f+1,acc,n=>if eA T n=[44]then(pT f 1 (n+1)).bind fun e m=>sT f (acc++[e]) m
  else(fA T [41] n).bind fun _ m=> .ok acc m
end
end
variable {T : List fX}
theorem oK {n:Nat} {s:dE} (h:eA T n=s) (b:s≠[]):n<T.length:=by
 by_cases a:n<T.length
 ·exact a
 rw[eA,dO (by omega)]at h;exact absurd h.symm b
theorem NE {n:Nat} {k:Int} (h:nS T n=k) (a:k≠0):n<T.length:=by
 by_cases b:n<T.length
 ·exact b
 rw[nS,dO (by omega)]at h;exact absurd h.symm a
theorem SE:Ec []=(0,0,0):=by decide
theorem HD (k:Nat) (s:dE): ∀l:List (dE×Int×Int×Nat),(∀x∈l,x.2.2.2≤k)→(Ns l s).2.2≤k
 |[],_=>cN _
 |x::l,h=>by
  obtain⟨w,r⟩:=x;rw[Ns];split
  ·exact h _ (dN)
  exact HD k s l fun y a=>h y (eR _ a)
theorem VS (s:dE):(Ec s).2.2≤9:=HD 9 s US (by decide)
theorem O6 {n lo:Nat} (h: ¬(Ec (eA T n)).2.2<lo) (a:1≤lo):n<T.length:=by
 refine oK rfl fun e=>h ?_;rw[e,SE];exact a
theorem fD {s:dE} {n m:Nat} {u:Unit} (h:fA T s n= .ok u m) (a:s≠[]):m=n+1∧n<T.length∧eA T n=s:=by
 unfold fA at h;split at h
 ·rename_i e;cases h;exact⟨rfl,oK e a,e⟩
 cases h
theorem kL {k:Int} {n m:Nat} {t:fX} (h:kG T k n= .ok t m):m=n+1∧n<T.length∧T[n]?=some t∧t.kind=k:=by
 unfold kG at h;split at h
 ·rename_i b e
  split at h
  ·rename_i a;cases h;exact⟨rfl,(bD.1 e).1,e,a⟩
  cases h
 cases h
theorem far (f:Nat):(∀n e m,rT T f n= .ok e m→n<m∧m≤T.length)∧(∀o n e m,pT T f o n= .ok e m→n<m∧m≤T.length)∧
  (∀o u n e m,n≤T.length→sP T f o u n= .ok e m→n≤m∧m≤T.length)∧(∀n l m,sS T f n= .ok l m→n<m∧m≤T.length)∧
  (∀p n l m,sT T f p n= .ok l m→n<m∧m≤T.length):=by
 induction f with
 |zero=>exact⟨fun _ _ _ h=>by simp [rT]at h,fun _ _ _ _ h=>by simp [pT]at h,fun _ _ _ _ _ _ h=>by simp [sP]at h,fun _ _ _ h=>by simp [sS]at h,fun _ _ _ _ h=>by simp [sT]at h⟩
 |succ f ih=>
  obtain⟨v,k,y,D,z⟩:=ih;refine⟨fun n e m h=>?_,fun o n e m h=>?_,fun o u n e m E h=>?_,fun n l m h=>?_,fun p n l m h=>?_⟩
  ·rw[rT]at h
   split at h
   ·obtain⟨t,a,g,b⟩:=PR.bind_eq_ok h
    have:=kL g;cases b;omega
   split at h
   ·obtain⟨_,a,g,b⟩:=PR.bind_eq_ok h
    obtain⟨_,c,i,j⟩:=PR.bind_eq_ok b;have:=fD g (by decide);have:=fD i (by decide);cases j;omega
   split at h
   ·obtain⟨x,a,g,b⟩:=PR.bind_eq_ok h
    obtain⟨_,c,i,j⟩:=PR.bind_eq_ok b;have:=k _ _ _ _ g;have:=fD i (by decide);cases j;omega
   split at h
   ·obtain⟨x,a,g,b⟩:=PR.bind_eq_ok h
    have:=v _ _ _ g;cases b;omega
   obtain⟨t,a,g,b⟩:=PR.bind_eq_ok h;have:=kL g;split at b
   ·obtain⟨x,c,i,j⟩:=PR.bind_eq_ok b
    obtain⟨_,d,A,B⟩:=PR.bind_eq_ok j;have:=k _ _ _ _ i;have:=fD A (by decide);cases B;omega
   split at b
   ·obtain⟨x,c,i,j⟩:=PR.bind_eq_ok b
    have:=D _ _ _ i;cases j;omega
   cases b;omega
  ·rw[pT]at h
   obtain⟨x,a,g,b⟩:=PR.bind_eq_ok h;have:=v _ _ _ g;have:=y _ _ _ _ _ this.2 b;omega
  ·rw[sP]at h
   split at h
   ·cases h;omega
   obtain⟨x,a,g,b⟩:=PR.bind_eq_ok h;have:=k _ _ _ _ g;have:=y _ _ _ _ _ this.2 b;omega
  ·rw[sS]at h
   split at h
   ·rename_i C
    have:=oK C (by decide);cases h;omega
   obtain⟨x,a,g,b⟩:=PR.bind_eq_ok h;have:=k _ _ _ _ g;have:=z _ _ _ _ b;omega
  rw[sT]at h;split at h
  ·obtain⟨x,a,g,b⟩:=PR.bind_eq_ok h
   have:=k _ _ _ _ g;have:=z _ _ _ _ b;omega
  obtain⟨_,a,g,b⟩:=PR.bind_eq_ok h;have:=fD g (by decide);cases b;omega
theorem PR.bind_congr {b d:Type} {x y:PR b} {f g:b→Nat→PR d} (h:x=y) (c: ∀a n,x= .ok a n→f a n=g a n):x.bind f=y.bind g:=by
 subst h
 cases x with
 |ok a n=>exact c a n rfl
 |bad n=>rfl
theorem Y2 (f:Nat):(∀n,4 *(T.length-n)+1≤f→rT T f n=rT T (f+1) n)∧(∀b n,1≤b→4 *(T.length-n)+2≤f→pT T f b n=pT T (f+1) b n)∧
  (∀b k n,1≤b→n≤T.length→4 *(T.length-n)+1≤f→sP T f b k n=sP T (f+1) b k n)∧(∀n,4 *(T.length-n)+3≤f→sS T f n=sS T (f+1) n)∧
  (∀j n,4 *(T.length-n)+1≤f→sT T f j n=sT T (f+1) j n):=by
 induction f with
 |zero=>exact⟨fun _ h=>by omega,fun _ _ _ h=>by omega,fun _ _ _ _ _ h=>by omega,fun _ h=>by omega,fun _ _ h=>by omega⟩
 |succ f ih=>
  obtain⟨o,e,p,z,u⟩:=ih;obtain⟨v,l,A,B,C⟩:=far (T:=T) f;refine⟨fun n i=>?_,fun b n g i=>?_,fun b k n g D i=>?_,fun n i=>?_,fun j n i=>?_⟩
  ·rw[rT,rT]
   split
   ·rfl
   split
   ·rfl
   split
   ·rename_i d
    have:=oK d (by decide);rw[e 1 (n+1) (by omega) (by omega)]
   split
   ·rename_i d
    have:=oK d (by decide);rw[o (n+1) (by omega)]
   refine PR.bind_congr rfl fun t a c=>?_;have:=kL c;split
   ·rename_i d
    have:=oK d (by decide);rw[e 1 (a+1) (by omega) (by omega)]
   split
   ·rename_i d
    have:=oK d (by decide);rw[z (a+1) (by omega)]
   rfl
  ·rw[pT,pT]
   refine PR.bind_congr (o n (by omega)) fun x a c=>?_;have:=v _ _ _ c;exact p b x a g (by omega) (by omega)
  ·rw[sP,sP]
   split
   ·rfl
   rename_i y;have:=O6 y g;refine PR.bind_congr (e _ (n+1) (by omega) (by omega)) fun x a c=>?_;have:=l _ _ _ _ c;exact p b _ a g (by omega) (by omega)
  ·rw[sS,sS]
   split
   ·rfl
   refine PR.bind_congr (e 1 n (by omega) (by omega)) fun x a c=>?_;have:=l _ _ _ _ c;exact u _ a (by omega)
  rw[sT,sT];split
  ·rename_i d
   have:=oK d (by decide);refine PR.bind_congr (e 1 (n+1) (by omega) (by omega)) fun x a c=>?_;have:=l _ _ _ _ c;exact u _ a (by omega)
  rfl
variable (T)
def tX (n:Nat):PR Ex:=rT T (4 *T.length+5) n
def kO (lo n:Nat):PR Ex:=pT T (4 *T.length+5) lo n
def wH (lo:Nat) (e:Ex) (n:Nat):PR Ex:=sP T (4 *T.length+5) lo e n
def vM (n:Nat):PR (List Ex):=sS T (4 *T.length+5) n
def Zl (acc:List Ex) (n:Nat):PR (List Ex):=sT T (4 *T.length+5) acc n
theorem KW (n:Nat):tX T n=
  if nS T n=2 then(kG T 2 n).bind fun t m=> .ok (.mk 1 0 t.num [] []) m
  else if eA T n=[103,101,116]then(fA T [40] (n+1)).bind fun _ m=>(fA T [41] m).bind fun _ m=> .ok (.mk 5 0 0 [] []) m
  else if eA T n=[40]then(kO T 1 (n+1)).bind fun e m=>(fA T [41] m).bind fun _ m=> .ok e m
  else if eA T n=[33]then(tX T (n+1)).bind fun e m=> .ok (.mk 7 0 0 [] [e]) m
  else(kG T 1 n).bind fun t m=>
   if eA T m=[91]then(kO T 1 (m+1)).bind fun e m=>(fA T [93] m).bind fun _ m=> .ok (.mk 3 0 0 t.text [e]) m
   else if eA T m=[40]then(vM T (m+1)).bind fun l m=> .ok (.mk 4 0 0 t.text l) m
   else .ok (.mk 2 0 0 t.text []) m:=by
 obtain⟨d,f,i,g,j⟩:=Y2 (T:=T) (4 *T.length+4);rw[tX,rT];have a: ∀n,rT T (4 *T.length+4) n=tX T n:=fun n=>d n (by omega);have b: ∀n,pT T (4 *T.length+4) 1 n=kO T 1 n:=fun n=>f 1 n (aZ 1) (by omega);have c: ∀n,sS T (4 *T.length+4) n=vM T n:=fun n=>g n (by omega);simp only[a,b,c]
theorem Aq (lo n:Nat) (c:1≤lo):kO T lo n=(tX T n).bind fun e m=>wH T lo e m:=by
 obtain⟨d,g,f,i,j⟩:=Y2 (T:=T) (4 *T.length+4);obtain⟨b,_⟩:=far (T:=T) (4 *T.length+4);rw[kO,pT];refine PR.bind_congr (d n (by omega)) fun x a h=>?_;exact f lo x a c (b _ _ _ h).2 (by omega)
theorem tM (lo:Nat) (e:Ex) (n:Nat) (d:1≤lo):wH T lo e n=if(Ec (eA T n)).2.2<lo then .ok e n
  else(kO T ((Ec (eA T n)).2.2+1) (n+1)).bind fun b m=>wH T lo (Jb (eA T n) e b) m:=by
 obtain⟨i,f,g,j,k⟩:=Y2 (T:=T) (4 *T.length+4);obtain⟨_,c,_⟩:=far (T:=T) (4 *T.length+4);rw[wH,sP];split
 ·rfl
 refine PR.bind_congr (f _ _ (by omega) (by omega)) fun x a h=>?_;exact g lo _ a d (c _ _ _ _ h).2 (by omega)
theorem KY (n:Nat):vM T n=if eA T n=[41]then .ok [] (n+1)else(kO T 1 n).bind fun e m=>Zl T [e] m:=by
 obtain⟨d,b,f,g,c⟩:=Y2 (T:=T) (4 *T.length+4);rw[vM,sS];split
 ·rfl
 exact PR.bind_congr (b _ _ (by omega) (by omega)) fun x a h=>c _ a (by omega)
theorem KZ (b:List Ex) (n:Nat):Zl T b n=if eA T n=[44]then(kO T 1 (n+1)).bind fun e m=>Zl T (b++[e]) m
  else(fA T [41] n).bind fun _ m=> .ok b m:=by
 obtain⟨f,c,g,i,d⟩:=Y2 (T:=T) (4 *T.length+4);rw[Zl,sT];split
 ·exact PR.bind_congr (c _ _ (by omega) (by omega)) fun x a h=>d _ a (by omega)
 rfl
variable {T}
theorem Rk {n m:Nat} {e:Ex} (h:tX T n= .ok e m):n<m∧m≤T.length:=(far _).1 _ _ _ h
theorem pZ {lo n m:Nat} {e:Ex} (h:kO T lo n= .ok e m):n<m∧m≤T.length:=(far _).2.1 _ _ _ _ h
theorem BK {n m:Nat} {e:List Ex} (h:vM T n= .ok e m):n<m∧m≤T.length:=(far _).2.2.2.1 _ _ _ h
def V4:dE:=[118,97,114]
def B6:dE:=[97,114,114,97,121]
def zV:dE:=[102,117,110,99]
def sZ:dE:=[119,111,114,100]
def XU:dE:=[105,102]
def CH:dE:=[101,108,115,101]
def B5:dE:=[119,104,105,108,101]
def Rt:dE:=[114,101,116,117,114,110]
def RV:dE:=[112,117,116]
section
variable (T : List fX)
def pW (n:Nat):PR (List Ex):=(fA T [40] n).bind fun _ m=>(kO T 1 m).bind fun e m=>(fA T [41] m).bind fun _ m=> .ok [e] m
def wG (n:Nat):PR Sm:=(kG T 1 n).bind fun t m=>
 (if eA T m=[61]then(kO T 1 (m+1)).bind fun e m=> .ok (.mk 1 t.text [e] [] []) m
  else if eA T m=[91]then(kO T 1 (m+1)).bind fun a m=>(fA T [93] m).bind fun _ m=>(fA T [61] m).bind fun _ m=>(kO T 1 m).bind fun e m=> .ok (.mk 2 t.text [a,e] [] []) m
  else if eA T m=[40]then(vM T (m+1)).bind fun l m=> .ok (.mk 6 t.text l [] []) m
  else .bad m:PR Sm).bind fun s m=>(fA T [59] m).bind fun _ m=> .ok s m
mutual
def tG:Nat→Nat→PR Sm
 |0,n=> .bad n
 |f+1,n=>
  if eA T n=RV then(pW T (n+1)).bind fun l m=>(fA T [59] m).bind fun _ m=> .ok (.mk 3 [] l [] []) m
  else if eA T n=Rt then(if eA T (n+1)=[59]then .ok (.mk 7 [] [] [] []) (n+2)else(kO T 1 (n+1)).bind fun e m=>(fA T [59] m).bind fun _ m=> .ok (.mk 7 [] [e] [] []) m)
  else if eA T n=XU then(pW T (n+1)).bind fun l m=>(qT f m).bind fun t m=>if eA T m=CH then(qT f (m+1)).bind fun u m=> .ok (.mk 4 [] l t u) m else .ok (.mk 4 [] l t []) m
  else if eA T n=B5 then(pW T (n+1)).bind fun l m=>(qT f m).bind fun t m=> .ok (.mk 5 [] l t []) m
  else wG T n
def qT:Nat→Nat→PR (List Sm)
 |0,n=> .bad n
 |f+1,n=>(fA T [123] n).bind fun _ m=>pJ f [] m
def pJ:Nat→List Sm→Nat→PR (List Sm)
 |0,_,n=> .bad n
 |f+1,acc,n=>if eA T n=[125]then .ok acc (n+1)else(tG f n).bind fun s m=>pJ f (acc++[s]) m
end
def A7:Nat→List dE→Nat→PR (List dE)
 |0,_,n=> .bad n
 |f+1,acc,n=>if eA T n=[44]then(kG T 1 (n+1)).bind fun t m=>A7 f (acc++[t.text]) m else .ok acc n
end
variable {T : List fX}
theorem tI {n m:Nat} {l:List Ex} (h:pW T n= .ok l m):n<m∧m≤T.length:=by
 unfold pW at h;obtain⟨_,a,b,f⟩:=PR.bind_eq_ok h;obtain⟨e,c,g,i⟩:=PR.bind_eq_ok f;obtain⟨_,d,j,k⟩:=PR.bind_eq_ok i;have:=fD b (by decide);have:=pZ g;have:=fD j (by decide);cases k;omega
theorem X8 {n m:Nat} {s:Sm} (h:wG T n= .ok s m):n<m∧m≤T.length:=by
 unfold wG at h;obtain⟨t,a,u,v⟩:=PR.bind_eq_ok h;obtain⟨x,c,e,A⟩:=PR.bind_eq_ok v;obtain⟨_,d,B,C⟩:=PR.bind_eq_ok A;have:=kL u;have:=fD B (by decide)
 have :a<c:=by
  split at e
  ·obtain⟨y,b,f,g⟩:=PR.bind_eq_ok e
   have:=pZ f;cases g;omega
  split at e
  ·obtain⟨y,b,f,g⟩:=PR.bind_eq_ok e
   obtain⟨_,D,i,j⟩:=PR.bind_eq_ok g;obtain⟨_,E,k,l⟩:=PR.bind_eq_ok j;obtain⟨z,F,o,p⟩:=PR.bind_eq_ok l;have:=pZ f;have:=fD i (by decide);have:=fD k (by decide);have:=pZ o;cases p;omega
  split at e
  ·obtain⟨y,b,f,g⟩:=PR.bind_eq_ok e
   have:=BK f;cases g;omega
  cases e
 cases C;omega
theorem OH (f:Nat):(∀n e m,tG T f n= .ok e m→n<m∧m≤T.length)∧(∀n l m,qT T f n= .ok l m→n<m∧m≤T.length)∧(∀p n l m,pJ T f p n= .ok l m→n<m∧m≤T.length):=by
 induction f with
 |zero=>exact⟨fun _ _ _ h=>by simp [tG]at h,fun _ _ _ h=>by simp [qT]at h,fun _ _ _ _ h=>by simp [pJ]at h⟩
 |succ f ih=>
  obtain⟨z,o,v⟩:=ih;refine⟨fun n e m h=>?_,fun n l m h=>?_,fun p n l m h=>?_⟩
  ·rw[tG]at h
   split at h
   ·obtain⟨l,a,b,g⟩:=PR.bind_eq_ok h
    obtain⟨_,c,j,i⟩:=PR.bind_eq_ok g;have:=tI b;have:=fD j (by decide);cases i;omega
   split at h
   ·split at h
    ·rename_i k
     have:=oK k (by decide);cases h;omega
    obtain⟨l,a,b,g⟩:=PR.bind_eq_ok h;obtain⟨_,c,j,i⟩:=PR.bind_eq_ok g;have:=pZ b;have:=fD j (by decide);cases i;omega
   split at h
   ·obtain⟨l,a,b,g⟩:=PR.bind_eq_ok h
    obtain⟨t,c,j,i⟩:=PR.bind_eq_ok g;have:=tI b;have:=o _ _ _ j;split at i
    ·obtain⟨u,d,x,y⟩:=PR.bind_eq_ok i
     have:=o _ _ _ x;cases y;omega
    cases i;omega
   split at h
   ·obtain⟨l,a,b,g⟩:=PR.bind_eq_ok h
    obtain⟨t,c,j,i⟩:=PR.bind_eq_ok g;have:=tI b;have:=o _ _ _ j;cases i;omega
   exact X8 h
  ·rw[qT]at h
   obtain⟨_,a,b,g⟩:=PR.bind_eq_ok h;have:=fD b (by decide);have:=v _ _ _ _ g;omega
  rw[pJ]at h;split at h
  ·rename_i k
   have:=oK k (by decide);cases h;omega
  obtain⟨s,a,b,g⟩:=PR.bind_eq_ok h;have:=z _ _ _ b;have:=v _ _ _ _ g;omega
theorem IM (f:Nat):(∀n,4 *(T.length-n)+1≤f→tG T f n=tG T (f+1) n)∧(∀n,4 *(T.length-n)+1≤f→qT T f n=qT T (f+1) n)∧(∀d n,4 *(T.length-n)+2≤f→pJ T f d n=pJ T (f+1) d n):=by
 induction f with
 |zero=>exact⟨fun _ h=>by omega,fun _ h=>by omega,fun _ _ h=>by omega⟩
 |succ f ih=>
  obtain⟨u,e,i⟩:=ih;obtain⟨j,k,v⟩:=OH (T:=T) f;refine⟨fun n g=>?_,fun n g=>?_,fun d n g=>?_⟩
  ·rw[tG,tG]
   split
   ·rfl
   split
   ·rfl
   split
   ·refine PR.bind_congr rfl fun l a b=>?_
    have:=tI b;refine PR.bind_congr (e a (by omega)) fun t c o=>?_;have:=k _ _ _ o;split
    ·rename_i p
     have:=oK p (by decide);rw[e (c+1) (by omega)]
    rfl
   split
   ·refine PR.bind_congr rfl fun l a b=>?_
    have:=tI b;rw[e a (by omega)]
   rfl
  ·rw[qT,qT]
   refine PR.bind_congr rfl fun l a b=>?_;have:=fD b (by decide);exact i _ a (by omega)
  rw[pJ,pJ];split
  ·rfl
  refine PR.bind_congr (u n (by omega)) fun s a b=>?_;have:=j _ _ _ b;exact i _ a (by omega)
theorem YM (f:Nat): ∀b n l m,n≤T.length→A7 T f b n= .ok l m→n≤m∧m≤T.length:=by
 induction f with
 |zero=>intro _ _ _ _ _ h;simp [A7]at h
 |succ f ih=>
  intro b n l m e h;rw[A7]at h;split at h
  ·obtain⟨s,a,c,d⟩:=PR.bind_eq_ok h
   have:=kL c;have:=ih _ _ _ _ (by omega) d;omega
  cases h;omega
theorem WE (f:Nat): ∀b n,n≤T.length→(T.length-n)+1≤f→A7 T f b n=A7 T (f+1) b n:=by
 induction f with
 |zero=>intro _ _ _ h;omega
 |succ f ih=>
  intro b n d h;rw[A7,A7];split
  ·refine PR.bind_congr rfl fun t a c=>?_
   have:=kL c;exact ih _ _ (by omega) (by omega)
  rfl
variable (T)
def Hq (n:Nat):PR Sm:=tG T (4 *T.length+5) n
def Ew (n:Nat):PR (List Sm):=qT T (4 *T.length+5) n
def sV (acc:List Sm) (n:Nat):PR (List Sm):=pJ T (4 *T.length+5) acc n
def UV (acc:List dE) (n:Nat):PR (List dE):=A7 T (T.length+2) acc n
def pM (n:Nat):PR (List dE):=(kG T 1 n).bind fun t m=>UV T [t.text] m
theorem GQ (n:Nat):Hq T n=
  if eA T n=RV then(pW T (n+1)).bind fun l m=>(fA T [59] m).bind fun _ m=> .ok (.mk 3 [] l [] []) m
  else if eA T n=Rt then(if eA T (n+1)=[59]then .ok (.mk 7 [] [] [] []) (n+2)else(kO T 1 (n+1)).bind fun e m=>(fA T [59] m).bind fun _ m=> .ok (.mk 7 [] [e] [] []) m)
  else if eA T n=XU then(pW T (n+1)).bind fun l m=>(Ew T m).bind fun t m=>if eA T m=CH then(Ew T (m+1)).bind fun u m=> .ok (.mk 4 [] l t u) m else .ok (.mk 4 [] l t []) m
  else if eA T n=B5 then(pW T (n+1)).bind fun l m=>(Ew T m).bind fun t m=> .ok (.mk 5 [] l t []) m
  else wG T n:=by
 obtain⟨_,b,_⟩:=IM (T:=T) (4 *T.length+4);have a: ∀n,qT T (4 *T.length+4) n=Ew T n:=fun n=>b n (by omega);rw[Hq,tG];simp only[a]
theorem KR (n:Nat):Ew T n=(fA T [123] n).bind fun _ m=>sV T [] m:=by
 obtain⟨_,_,b⟩:=IM (T:=T) (4 *T.length+4);rw[Ew,qT];exact PR.bind_congr rfl fun x a h=>b _ a (by omega)
theorem Ox (b:List Sm) (n:Nat):sV T b n=if eA T n=[125]then .ok b (n+1)else(Hq T n).bind fun s m=>sV T (b++[s]) m:=by
 obtain⟨c,_,d⟩:=IM (T:=T) (4 *T.length+4);rw[sV,pJ];split
 ·rfl
 exact PR.bind_congr (c n (by omega)) fun x a h=>d _ a (by omega)
theorem SY (b:List dE) (n:Nat):UV T b n=if eA T n=[44]then(kG T 1 (n+1)).bind fun t m=>UV T (b++[t.text]) m else .ok b n:=by
 rw[UV,A7];split
 ·refine PR.bind_congr rfl fun x a h=>?_
  have:=kL h;exact WE _ _ a (by omega) (by omega)
 rfl
variable {T}
theorem xI {n m:Nat} {e:Sm} (h:Hq T n= .ok e m):n<m∧m≤T.length:=(OH _).1 _ _ _ h
theorem C9 {n m:Nat} {e a:List Sm} (h:sV T a n= .ok e m):n<m∧m≤T.length:=(OH _).2.2 _ _ _ _ h
theorem MU {n m:Nat} {e a:List dE} (b:n≤T.length) (h:UV T a n= .ok e m):n≤m∧m≤T.length:=YM _ _ _ _ _ b h
theorem rL {n m:Nat} {e:List dE} (h:pM T n= .ok e m):n<m∧m≤T.length:=by
 obtain⟨t,a,b,c⟩:=PR.bind_eq_ok h;have:=kL b;have:=MU (by omega) c;omega
def Cd (T:List fX):Nat→List dE→Nat→PR (List dE)
 |0,_,n=> .bad n
 |f+1,acc,n=>if eA T n=V4 then(pM T (n+1)).bind fun l m=>(fA T [59] m).bind fun _ m=>Cd T f (acc++l) m else .ok acc n
theorem YN (f:Nat): ∀b n l m,n≤T.length→Cd T f b n= .ok l m→n≤m∧m≤T.length:=by
 induction f with
 |zero=>intro _ _ _ _ _ h;simp [Cd]at h
 |succ f ih=>
  intro b n l m j h;rw[Cd]at h;split at h
  ·obtain⟨s,a,d,e⟩:=PR.bind_eq_ok h
   obtain⟨_,c,g,i⟩:=PR.bind_eq_ok e;have:=rL d;have:=fD g (by decide);have:=ih _ _ _ _ (by omega) i;omega
  cases h;omega
theorem WF (f:Nat): ∀b n,n≤T.length→(T.length-n)+1≤f→Cd T f b n=Cd T (f+1) b n:=by
 induction f with
 |zero=>intro _ _ _ h;omega
 |succ f ih=>
  intro b n g h;rw[Cd,Cd];split
  ·refine PR.bind_congr rfl fun t a d=>PR.bind_congr rfl fun _ c e=>?_
   have:=rL d;have:=fD e (by decide);exact ih _ _ (by omega) (by omega)
  rfl
def Xv (T:List fX) (acc:List dE) (n:Nat):PR (List dE):=Cd T (T.length+2) acc n
theorem MY (T:List fX) (b:List dE) (n:Nat):Xv T b n=if eA T n=V4 then(pM T (n+1)).bind fun l m=>(fA T [59] m).bind fun _ m=>Xv T (b++l) m else .ok b n:=by
 rw[Xv,Cd];split
 ·refine PR.bind_congr rfl fun x a h=>PR.bind_congr rfl fun _ c d=>?_
  have:=fD d (by decide);exact WF _ _ c (by omega) (by omega)
 rfl
theorem IQ {n m:Nat} {e a:List dE} (b:n≤T.length) (h:Xv T a n= .ok e m):n≤m∧m≤T.length:=YN _ _ _ _ _ b h
def Ob (T:List fX) (n:Nat):PR Fu:=(fA T zV n).bind fun _ m=>(kG T 1 m).bind fun t m=>(fA T [40] m).bind fun _ m=>
 (if nS T m=1 then pM T m else .ok [] m:PR (List dE)).bind fun ps m=>(fA T [41] m).bind fun _ m=>
  (fA T [123] (if eA T m=sZ then m+1 else m)).bind fun _ c=>(Xv T [] c).bind fun ls c=>(sV T [] c).bind fun b c=> .ok ⟨t.text,ps,ls,decide (eA T m=sZ),b⟩ c
theorem Ao {n m:Nat} {g:Fu} (h:Ob T n= .ok g m):n<m∧m≤T.length:=by
 unfold Ob at h;obtain⟨_,x,i,h⟩:=PR.bind_eq_ok h;obtain⟨t,y,j,h⟩:=PR.bind_eq_ok h;obtain⟨_,c,k,h⟩:=PR.bind_eq_ok h;obtain⟨C,d,a,h⟩:=PR.bind_eq_ok h;obtain⟨_,e,l,h⟩:=PR.bind_eq_ok h;obtain⟨_,f,o,h⟩:=PR.bind_eq_ok h;obtain⟨B,z,u,h⟩:=PR.bind_eq_ok h;obtain⟨b,A,v,h⟩:=PR.bind_eq_ok h;have:=fD i (by decide);have:=kL j;have:=fD k (by decide)
 have :c≤d:=by
  split at a
  ·have:=rL a;omega
  cases a;omega
 have:=fD l (by decide);have p:=fD o (by decide);have :e<f:=by have:=p.1;split at this<;>omega
 have:=IQ (by omega) u;have:=C9 v;cases h;omega
def wL (T:List fX):Nat→List dE→List Ar→Nat→PR (List dE×List Ar)
 |0,_,_,n=> .bad n
 |f+1,vs,as',n=>
  if eA T n=V4 then(pM T (n+1)).bind fun l m=>(fA T [59] m).bind fun _ m=>wL T f (vs++l) as' m
  else if eA T n=B6 then(kG T 1 (n+1)).bind fun t m=>(fA T [91] m).bind fun _ m=>(kG T 2 m).bind fun u m=>(fA T [93] m).bind fun _ m=>(fA T [59] m).bind fun _ m=>wL T f vs (as'++[⟨t.text,u.num⟩]) m
  else .ok (vs,as') n
theorem QV (f:Nat): ∀vs b n,n≤T.length→(T.length-n)+1≤f→wL T f vs b n=wL T (f+1) vs b n:=by
 induction f with
 |zero=>intro _ _ _ _ h;omega
 |succ f ih=>
  intro vs b n x h;rw[wL,wL];split
  ·refine PR.bind_congr rfl fun t a d=>PR.bind_congr rfl fun _ c e=>?_
   have:=rL d;have:=fD e (by decide);exact ih _ _ _ (by omega) (by omega)
  split
  ·refine PR.bind_congr rfl fun t k d=>PR.bind_congr rfl fun _ l e=>PR.bind_congr rfl fun u o g=>PR.bind_congr rfl fun _ p i=>PR.bind_congr rfl fun _ v j=>?_
   have:=kL d;have:=fD e (by decide);have:=kL g;have:=fD i (by decide);have:=fD j (by decide);exact ih _ _ _ (by omega) (by omega)
  rfl
def En (T:List fX) (vs:List dE) (as':List Ar) (n:Nat):PR (List dE×List Ar):=wL T (T.length+2) vs as' n
theorem JI (T:List fX) (vs:List dE) (b:List Ar) (n:Nat):En T vs b n=
  if eA T n=V4 then(pM T (n+1)).bind fun l m=>(fA T [59] m).bind fun _ m=>En T (vs++l) b m
  else if eA T n=B6 then(kG T 1 (n+1)).bind fun t m=>(fA T [91] m).bind fun _ m=>(kG T 2 m).bind fun u m=>(fA T [93] m).bind fun _ m=>(fA T [59] m).bind fun _ m=>En T vs (b++[⟨t.text,u.num⟩]) m
  else .ok (vs,b) n:=by
 rw[En,wL];split
 ·refine PR.bind_congr rfl fun x a h=>PR.bind_congr rfl fun _ c d=>?_
  have:=fD d (by decide);exact QV _ _ _ c (by omega) (by omega)
 split
 ·refine PR.bind_congr rfl fun t g o=>PR.bind_congr rfl fun _ i d=>PR.bind_congr rfl fun u j p=>PR.bind_congr rfl fun _ k v=>PR.bind_congr rfl fun _ e f=>?_
  have:=fD f (by decide);exact QV _ _ _ e (by omega) (by omega)
 rfl
def yN (T:List fX):Nat→List Fu→Nat→PR (List Fu)
 |0,_,n=> .bad n
 |f+1,acc,n=>if n<T.length then(Ob T n).bind fun g m=>yN T f (acc++[g]) m else .ok acc n
theorem WH (f:Nat): ∀b n,n≤T.length→(T.length-n)+1≤f→yN T f b n=yN T (f+1) b n:=by
 induction f with
 |zero=>intro _ _ _ h;omega
 |succ f ih=>
  intro b n d h;rw[yN,yN];split
  ·refine PR.bind_congr rfl fun t a c=>?_
   have:=Ao c;exact ih _ _ (by omega) (by omega)
  rfl
def Jh (T:List fX) (acc:List Fu) (n:Nat):PR (List Fu):=yN T (T.length+2) acc n
theorem Jg (T:List fX) (b:List Fu) (n:Nat):Jh T b n=if n<T.length then(Ob T n).bind fun g m=>Jh T (b++[g]) m else .ok b n:=by
 rw[Jh,yN];split
 ·refine PR.bind_congr rfl fun x a h=>?_
  have:=Ao h;exact WH _ _ a (by omega) (by omega)
 rfl
def Ef (T:List fX) (n:Nat):PR Pg:=(En T [] [] n).bind fun va m=>(Ob T m).bind fun g m=>(Jh T [g] m).bind fun fs m=> .ok ⟨va.1,va.2,fs⟩ m
def RE (T:List fX) (e n:Nat):Int:=match T[n]? with
 |some t=>t.pos
 |none=>e
def SL:Pg:=⟨[],[],[]⟩
def D2 (s:dE):Pg×Int×Int:=match Ce s with
 | .error (i,e)=>(SL,i,e)
 | .ok T=>match Ef T 0 with
   | .bad m=>(SL,RE T s.length m,3)
   | .ok p m=>if m<T.length then(SL,RE T s.length m,3)else if fZ p=true then(p,0,0)else(SL,0,2)
section
structure Sz (T:List fX):Prop where
 len:T.length≤1000000
 tok: ∀t∈T,dQ t.num∧t.text.length≤1000000
variable {T : List fX}
theorem Is (k o:Int) (b:iU k) (d:iU o) {n:Int} (c:dQ n) {s:dE} (e:eY s) {l:List Ex} (a:By l):(Ex.mk k o n s l).ok:= .mk _ _ _ _ _ b d c e a.fit a.all
theorem u0:dQ 0:=by simp [dQ]
theorem BY {a:Type}:eY ([]:List a):=by simp [eY]
theorem IE:By []:=⟨BY,fun e h=>by cases h⟩
theorem X7 {e:Ex} (h:e.ok):By [e]:=⟨by simp [eY],fun x a=>by rw[bE]at a;rw[a];exact h⟩
theorem WA {e f:Ex} (h:e.ok) (a:f.ok):By [e,f]:=⟨by simp [eY],fun x hx=>by
 rcases bJ.1 hx with rfl|hx
 ·exact h
 rw[bE]at hx;rw[hx];exact a⟩
theorem ID {l:List Ex} {e:Ex} (b:l.length≤1000000) (h:By l) (a:e.ok):By (l++[e]):=⟨by unfold eY;simp only[aB,bW];omega,fun x hx=>by
 rcases eV.1 hx with hx|hx
 ·exact h.all x hx
 rw[bE]at hx;rw[hx];exact a⟩
theorem sK (b:Sz T) {k:Int} {n m:Nat} {t:fX} (h:kG T k n= .ok t m):dQ t.num∧eY t.text∧t.text.length≤1000000:=by
 have:=kL h;have a:=b.tok t (aW this.2.2.1);exact⟨a.1,by unfold eY;omega,a.2⟩
theorem NH (s:dE) {a b:Ex} (c:a.ok) (d:b.ok):(Jb s a b).ok:=by
 have f: ∀(l:List (dE×Int×Int×Nat)),(∀x∈l,iU x.2.1∧iU x.2.2.1)→iU (Ns l s).1∧iU (Ns l s).2.1:=by
  intro l
  induction l with
  |nil=>intro _;simp [Ns,iU]
  |cons x l ih=>
   intro h;obtain⟨w,r⟩:=x;rw[Ns];split
   ·exact h _ (dN)
   exact ih fun y e=>h y (eR _ e)
 have h:=f US (by simp [US,iU]);exact Is _ _ h.1 h.2 u0 BY (WA c d)
theorem YX (v:Sz T) (f:Nat):(∀n e m,rT T f n= .ok e m→e.ok)∧(∀o n e m,pT T f o n= .ok e m→e.ok)∧
  (∀o u n e m,u.ok→sP T f o u n= .ok e m→e.ok)∧(∀n l m,sS T f n= .ok l m→By l)∧
  (∀p n l m,By p→p.length≤n→sT T f p n= .ok l m→By l):=by
 induction f with
 |zero=>exact⟨fun _ _ _ h=>by simp [rT]at h,fun _ _ _ _ h=>by simp [pT]at h,fun _ _ _ _ _ _ h=>by simp [sP]at h,fun _ _ _ h=>by simp [sS]at h,fun _ _ _ _ _ _ h=>by simp [sT]at h⟩
 |succ f ih=>
  obtain⟨C,k,D,G,E⟩:=ih;obtain⟨H,z,I,J,K⟩:=far (T:=T) f;have N:=v.len;refine⟨fun n e m h=>?_,fun o n e m h=>?_,fun o u n e m A h=>?_,fun n l m h=>?_,fun p n l m B M h=>?_⟩
  ·rw[rT]at h
   split at h
   ·obtain⟨t,a,g,b⟩:=PR.bind_eq_ok h
    cases b;exact Is _ _ (by simp [iU]) (by simp [iU]) (sK v g).1 BY IE
   split at h
   ·obtain⟨_,a,g,b⟩:=PR.bind_eq_ok h
    obtain⟨_,c,j,i⟩:=PR.bind_eq_ok b;cases i;exact Is _ _ (by simp [iU]) (by simp [iU]) u0 BY IE
   split at h
   ·obtain⟨x,a,g,b⟩:=PR.bind_eq_ok h
    obtain⟨_,c,j,i⟩:=PR.bind_eq_ok b;cases i;exact k _ _ _ _ g
   split at h
   ·obtain⟨x,a,g,b⟩:=PR.bind_eq_ok h
    cases b;exact Is _ _ (by simp [iU]) (by simp [iU]) u0 BY (X7 (C _ _ _ g))
   obtain⟨t,a,g,b⟩:=PR.bind_eq_ok h;have y:=(sK v g).2.1;split at b
   ·obtain⟨x,c,j,i⟩:=PR.bind_eq_ok b
    obtain⟨_,d,L,F⟩:=PR.bind_eq_ok i;cases F;exact Is _ _ (by simp [iU]) (by simp [iU]) u0 y (X7 (k _ _ _ _ j))
   split at b
   ·obtain⟨x,c,j,i⟩:=PR.bind_eq_ok b
    cases i;exact Is _ _ (by simp [iU]) (by simp [iU]) u0 y (G _ _ _ j)
   cases b;exact Is _ _ (by simp [iU]) (by simp [iU]) u0 y IE
  ·rw[pT]at h
   obtain⟨x,a,g,b⟩:=PR.bind_eq_ok h;exact D _ _ _ _ _ (C _ _ _ g) b
  ·rw[sP]at h
   split at h
   ·cases h;exact A
   obtain⟨x,a,g,b⟩:=PR.bind_eq_ok h;exact D _ _ _ _ _ (NH _ A (k _ _ _ _ g)) b
  ·rw[sS]at h
   split at h
   ·cases h;exact IE
   obtain⟨x,a,g,b⟩:=PR.bind_eq_ok h;have:=z _ _ _ _ g;exact E _ _ _ _ (X7 (k _ _ _ _ g)) (by simp;omega) b
  rw[sT]at h;split at h
  ·obtain⟨x,a,g,b⟩:=PR.bind_eq_ok h
   have:=z _ _ _ _ g;exact E _ _ _ _ (ID (by omega) B (k _ _ _ _ g)) (by simp only[aB,bW];omega) b
  obtain⟨_,a,g,b⟩:=PR.bind_eq_ok h;cases b;exact B
theorem wN (a:Sz T) {lo n m:Nat} {e:Ex} (h:kO T lo n= .ok e m):e.ok:=(YX a _).2.1 _ _ _ _ h
theorem KX (a:Sz T) {n m:Nat} {l:List Ex} (h:vM T n= .ok l m):By l:=(YX a _).2.2.2.1 _ _ _ h
theorem Ae (j:Sz T) {n m:Nat} {l:List Ex} (h:pW T n= .ok l m):By l:=by
 unfold pW at h;obtain⟨_,a,k,b⟩:=PR.bind_eq_ok h;obtain⟨e,c,f,g⟩:=PR.bind_eq_ok b;obtain⟨_,d,o,i⟩:=PR.bind_eq_ok g;cases i;exact X7 (wN j f)
theorem yB:zG []:=⟨BY,fun e h=>by cases h⟩
theorem IC {l:List Sm} {e:Sm} (b:l.length≤1000000) (h:zG l) (a:e.ok):zG (l++[e]):=⟨by unfold eY;simp only[aB,bW];omega,fun x hx=>by
 rcases eV.1 hx with hx|hx
 ·exact h.all x hx
 rw[bE]at hx;rw[hx];exact a⟩
theorem zZ (k:Int) (c:iU k) {s:dE} (e:eY s) {l:List Ex} (d:By l) {t u:List Sm} (a:zG t) (b:zG u):(Sm.mk k s l t u).ok:= .mk _ _ _ _ _ c e d a.fit a.all b.fit b.all
theorem II (i:Sz T) {n m:Nat} {s:Sm} (h:wG T n= .ok s m):s.ok:=by
 unfold wG at h;obtain⟨t,a,u,v⟩:=PR.bind_eq_ok h;obtain⟨x,c,e,A⟩:=PR.bind_eq_ok v;obtain⟨_,d,H,B⟩:=PR.bind_eq_ok A;have j:=(sK i u).2.1;cases B;split at e
 ·obtain⟨y,b,f,g⟩:=PR.bind_eq_ok e
  cases g;exact zZ _ (by simp [iU]) j (X7 (wN i f)) yB yB
 split at e
 ·obtain⟨y,b,f,g⟩:=PR.bind_eq_ok e
  obtain⟨_,C,F,k⟩:=PR.bind_eq_ok g;obtain⟨_,D,G,l⟩:=PR.bind_eq_ok k;obtain⟨z,E,o,p⟩:=PR.bind_eq_ok l;cases p;exact zZ _ (by simp [iU]) j (WA (wN i f) (wN i o)) yB yB
 split at e
 ·obtain⟨y,b,f,g⟩:=PR.bind_eq_ok e
  cases g;exact zZ _ (by simp [iU]) j (KX i f) yB yB
 cases e
theorem YJ (j:Sz T) (f:Nat):(∀n e m,tG T f n= .ok e m→e.ok)∧(∀n l m,qT T f n= .ok l m→zG l)∧(∀o n l m,zG o→o.length≤n→pJ T f o n= .ok l m→zG l):=by
 induction f with
 |zero=>exact⟨fun _ _ _ h=>by simp [tG]at h,fun _ _ _ h=>by simp [qT]at h,fun _ _ _ _ _ _ h=>by simp [pJ]at h⟩
 |succ f ih=>
  obtain⟨B,p,x⟩:=ih;obtain⟨y,C,D⟩:=OH (T:=T) f;have F:=j.len;refine⟨fun n e m h=>?_,fun n l m h=>?_,fun o n l m v E h=>?_⟩
  ·rw[tG]at h
   split at h
   ·obtain⟨l,a,b,g⟩:=PR.bind_eq_ok h
    obtain⟨_,c,k,i⟩:=PR.bind_eq_ok g;cases i;exact zZ _ (by simp [iU]) BY (Ae j b) yB yB
   split at h
   ·split at h
    ·cases h;exact zZ _ (by simp [iU]) BY IE yB yB
    obtain⟨l,a,b,g⟩:=PR.bind_eq_ok h;obtain⟨_,c,k,i⟩:=PR.bind_eq_ok g;cases i;exact zZ _ (by simp [iU]) BY (X7 (wN j b)) yB yB
   split at h
   ·obtain⟨l,a,b,g⟩:=PR.bind_eq_ok h
    obtain⟨t,c,k,i⟩:=PR.bind_eq_ok g;split at i
    ·obtain⟨u,d,z,A⟩:=PR.bind_eq_ok i
     cases A;exact zZ _ (by simp [iU]) BY (Ae j b) (p _ _ _ k) (p _ _ _ z)
    cases i;exact zZ _ (by simp [iU]) BY (Ae j b) (p _ _ _ k) yB
   split at h
   ·obtain⟨l,a,b,g⟩:=PR.bind_eq_ok h
    obtain⟨t,c,k,i⟩:=PR.bind_eq_ok g;cases i;exact zZ _ (by simp [iU]) BY (Ae j b) (p _ _ _ k) yB
   exact II j h
  ·rw[qT]at h
   obtain⟨_,a,b,g⟩:=PR.bind_eq_ok h;exact x _ _ _ _ yB (cN _) g
  rw[pJ]at h;split at h
  ·cases h;exact v
  obtain⟨s,a,b,g⟩:=PR.bind_eq_ok h;have:=y _ _ _ b;exact x _ _ _ _ (IC (by omega) v (B _ _ _ b)) (by simp only[aB,bW];omega) g
theorem W2 (a:Sz T) {n m:Nat} {l:List Sm} (h:sV T [] n= .ok l m):zG l:=(YJ a _).2.2 _ _ _ _ yB (cN _) h
def uH (l:List dE):Prop:= ∀s∈l,s.length≤1000000
theorem E2 {l:List dE} (b:l.length≤2000000) (h:uH l):SV l:=⟨by unfold eY;omega,fun s a=>by have:=h s a;unfold eY;omega⟩
theorem WB (g:Sz T) (f:Nat): ∀b n l m,uH b→b.length≤n→n≤T.length→A7 T f b n= .ok l m→uH l∧l.length≤m:=by
 induction f with
 |zero=>intro _ _ _ _ _ _ _ h;simp [A7]at h
 |succ f ih=>
  intro b n l m d i k h;rw[A7]at h;split at h
  ·obtain⟨t,a,c,e⟩:=PR.bind_eq_ok h
   have:=kL c;have j:=(sK g c).2.2;refine ih _ _ _ _ (fun s hs=>?_) (by simp only[aB,bW];omega) (by omega) e;rcases eV.1 hs with hs|hs
   ·exact d s hs
   rw[bE]at hs;rw[hs];exact j
  cases h;exact⟨d,i⟩
theorem Cc (g:Sz T) {n m:Nat} {l:List dE} (h:pM T n= .ok l m):uH l∧l.length+n≤m:=by
 obtain⟨t,a,b,c⟩:=PR.bind_eq_ok h;have:=kL b;have i:=(sK g b).2.2;have d:=(WB g _ _ _ _ _ (fun s d=>by rw[bE]at d;rw[d];exact i) (by simp;omega) (by omega) c).1
 have j: ∀(f:Nat) e n l m,A7 T f e n= .ok l m→l.length+n≤e.length+m:=by
  intro f
  induction f with
  |zero=>intro _ _ _ _ h;simp [A7]at h
  |succ f ih=>
   intro e n l m h;rw[A7]at h;split at h
   ·obtain⟨s,a,b,c⟩:=PR.bind_eq_ok h
    have:=kL b;have:=ih _ _ _ _ c;simp only[aB,aJ,aT]at this;omega
   cases h;omega
 have:=j _ _ _ _ _ c;simp only[bW]at this;exact⟨d,by omega⟩
theorem TA (o:Sz T) (f:Nat): ∀b n l m,uH b→b.length≤n→Cd T f b n= .ok l m→uH l∧(n≤T.length→l.length≤T.length):=by
 induction f with
 |zero=>intro _ _ _ _ _ _ h;simp [Cd]at h
 |succ f ih=>
  intro b n l m d t h;rw[Cd]at h;split at h
  ·obtain⟨s,a,g,i⟩:=PR.bind_eq_ok h
   obtain⟨_,c,j,k⟩:=PR.bind_eq_ok i;have p:=Cc o g;have:=fD j (by decide)
   have e:=ih _ _ _ _ (fun x hx=>by
    rcases eV.1 hx with hx|hx
    ·exact d x hx
    exact p.1 x hx) (by simp only[aB];omega) k
   exact⟨e.1,fun _=>e.2 (by omega)⟩
  cases h;exact⟨d,fun u=>by omega⟩
theorem R7 (a:Sz T) {n m:Nat} {g:Fu} (h:Ob T n= .ok g m):g.ok∧g.params.length≤1000000∧g.locs.length≤1000000:=by
 unfold Ob at h;obtain⟨_,y,G,h⟩:=PR.bind_eq_ok h;obtain⟨t,z,i,h⟩:=PR.bind_eq_ok h;obtain⟨_,A,j,h⟩:=PR.bind_eq_ok h;obtain⟨d,B,c,h⟩:=PR.bind_eq_ok h;obtain⟨_,C,H,h⟩:=PR.bind_eq_ok h;obtain⟨_,D,k,h⟩:=PR.bind_eq_ok h;obtain⟨x,E,o,h⟩:=PR.bind_eq_ok h;obtain⟨b,F,p,h⟩:=PR.bind_eq_ok h;cases h;have J:=a.len;have v:=sK a i;have:=fD j (by decide)
 have u:uH d∧d.length≤T.length:=by
  split at c
  ·have f:=Cc a c
   have:=rL c;exact⟨f.1,by have:=f.2;omega⟩
  cases c;exact⟨(fun s h=>by cases h),cN _⟩
 have I:=fD k (by decide);have e:=TA a _ _ _ _ _ (fun s h=>by cases h) (cN _) o;have K:=e.2 (by omega);exact⟨⟨v.2.1,E2 (l:=d) (by omega) u.1,E2 (l:=x) (by omega) e.1,W2 a p⟩,by simp only;omega,by simp only;omega⟩
def GX (l:List Ar):Prop:= ∀a∈l,a.name.length≤1000000∧dQ a.size
theorem NN (j:Sz T) (f:Nat): ∀vs b n l m,uH vs→GX b→vs.length≤n→b.length≤n→n≤T.length→wL T f vs b n= .ok l m→uH l.1∧GX l.2∧l.1.length≤T.length∧l.2.length≤T.length:=by
 induction f with
 |zero=>intro _ _ _ _ _ _ _ _ _ _ h;simp [wL]at h
 |succ f ih=>
  intro vs b n l m o k H F G h;rw[wL]at h;split at h
  ·obtain⟨s,a,d,g⟩:=PR.bind_eq_ok h
   obtain⟨_,c,e,i⟩:=PR.bind_eq_ok g;have v:=Cc j d;have:=fD e (by decide)
   exact ih _ _ _ _ _ (fun x hx=>by
    rcases eV.1 hx with hx|hx
    ·exact o x hx
    exact v.1 x hx) k (by simp only[aB];omega) (by omega) (by omega) i
  split at h
  ·obtain⟨t,A,d,h⟩:=PR.bind_eq_ok h
   obtain⟨_,B,g,h⟩:=PR.bind_eq_ok h;obtain⟨u,C,e,h⟩:=PR.bind_eq_ok h;obtain⟨_,D,i,h⟩:=PR.bind_eq_ok h;obtain⟨_,E,p,h⟩:=PR.bind_eq_ok h;have:=kL d;have:=fD g (by decide);have:=kL e;have:=fD i (by decide);have:=fD p (by decide);have y:=sK j d;have z:=sK j e
   exact ih _ _ _ _ _ o (fun x hx=>by
    rcases eV.1 hx with hx|hx
    ·exact k x hx
    rw[bE]at hx;rw[hx];exact⟨y.2.2,z.1⟩) (by omega) (by simp only[aB,bW];omega) (by omega) h
  cases h;exact⟨o,k,by simp only;omega,by simp only;omega⟩
theorem NW (i:Sz T) (f:Nat): ∀b n l m,(∀g∈b,g.ok∧g.params.length≤1000000∧g.locs.length≤1000000)→b.length≤n→n≤T.length→yN T f b n= .ok l m→(∀g∈l,g.ok∧g.params.length≤1000000∧g.locs.length≤1000000)∧l.length≤T.length:=by
 induction f with
 |zero=>intro _ _ _ _ _ _ _ h;simp [yN]at h
 |succ f ih=>
  intro b n l m d k o h;rw[yN]at h;split at h
  ·obtain⟨s,a,c,e⟩:=PR.bind_eq_ok h
   have j:=R7 i c;have:=Ao c
   exact ih _ _ _ _ (fun x hx=>by
    rcases eV.1 hx with hx|hx
    ·exact d x hx
    rw[bE]at hx;rw[hx];exact j) (by simp only[aB,bW];omega) (by omega) e
  cases h;exact⟨d,by omega⟩
theorem HN (d:Sz T) {n m:Nat} {p:Pg} (u:n≤T.length) (h:Ef T n= .ok p m):p.ok∧(∀g∈p.funs,g.params.length≤1000000∧g.locs.length≤1000000):=by
 unfold Ef at h;obtain⟨i,v,k,h⟩:=PR.bind_eq_ok h;obtain⟨g,y,c,h⟩:=PR.bind_eq_ok h;obtain⟨j,z,l,h⟩:=PR.bind_eq_ok h;cases h;have B:=d.len;have f:=NN d _ _ _ _ _ _ (fun s h=>by cases h) (fun s h=>by cases h) (cN _) (cN _) u k;have t:=R7 d c;have A:=Ao c;have e:=NW d _ _ _ _ _ (fun x b=>by rw[bE]at b;rw[b];exact t) (by simp;omega) (by omega) l;refine⟨⟨E2 (by show i.1.length≤_;omega) f.1,by show i.2.length≤_;omega,fun a o=>?_,by show j.length≤_;omega,fun x b=>(e.1 x b).1⟩,fun x b=>(e.1 x b).2⟩;have:=f.2.1 a o;have c:=this.2;unfold dQ at c;exact⟨by unfold eY;omega,by unfold iU;omega⟩
theorem AH (s:List UInt8):dQ (iD s).1.num:=by
 cases s with
 |nil=>simp [iD,kD,dQ]
 |cons c r=>
  simp only[iD];split
  ·simp only[zH]
   split
   ·rename_i m b
    have:=zI _ 0 m (by omega) (by omega) (sX _ _) b;exact⟨by simp only;omega,by simp only;omega⟩
   simp [kD,dQ]
  split
  ·rw[uY]
   split
   ·rename_i a _ _ _
    split
    ·have:=UInt8.toNat_lt a
     exact⟨by simp only;omega,by simp only;omega⟩
    simp [kD,dQ]
   simp [kD,dQ]
  split
  ·simp only[Qb]
   split
   ·simp [kD,dQ]
   split<;>simp [dQ]
  split<;>simp [kD,dQ]
theorem ND (N:Nat): ∀(s:dE) (k i:Nat) (l:List fX),s.length≤N→oP s k i= .ok l→l.length≤s.length∧ ∀t∈l,dQ t.num∧t.text.length≤N:=by
 intro s
 induction s with
 |nil=>intro k i l _ h;cases k<;>simp [oP]at h<;>subst h<;>simp
 |cons c r ih=>
  intro k i l d h;have a:r.length≤N:=by simp only[aJ]at d;omega
  cases k with
  |succ k=>
   rw[oP]at h;have:=ih k (i+1) l a h;exact⟨by simp only[aJ];omega,this.2⟩
  |zero=>
   rw[oP]at h;split at h
   ·have:=ih 0 (i+1) l a h
    exact⟨by simp only[aJ];omega,this.2⟩
   split at h
   ·have:=ih _ (i+1) l a h
    exact⟨by simp only[aJ];omega,this.2⟩
   split at h
   ·cases hl:oP r ((iD (c::r)).1.text.length - 1) (i+1)with
    |error y=>rw[hl]at h;cases h
    |ok l'=>
     rw[hl]at h;cases h;have:=ih _ (i+1) l' a hl;refine⟨by simp only[aJ];omega,fun t ht=>?_⟩;rcases bJ.1 ht with rfl|ht
     ·have b:=AH (c::r)
      have e:=Qm (c::r);exact⟨b,by simp only;omega⟩
     exact this.2 t ht
   cases h
theorem NC {s:dE} {T:List fX} (h:Ce s= .ok T):Sz T:=by
 unfold Ce at h;split at h
 ·cases h
 have:=ND 20000 s 0 0 T (by omega) h;exact⟨by omega,fun t a=>⟨(this.2 t a).1,by have:=(this.2 t a).2;omega⟩⟩
end
section
variable {T : List fX}
theorem lX {b c d:Type} (x:PR b) (f:b→Nat→PR c) (g:c→Nat→PR d):(x.bind f).bind g=x.bind fun a m=>(f a m).bind g:=by cases x<;>rfl
theorem MX (lo:Nat) (b:1≤lo) (k:Nat): ∀n e,n≤T.length→T.length-n≤k→wH T lo e n=(wH T (lo+1) e n).bind fun a m=>wH T lo a m:=by
 induction k using Nat.strongRecOn with
 |_ k ih=>
  intro n e g d;rw[tM T (lo+1) e n (by omega)];by_cases h:(Ec (eA T n)).2.2<lo+1
  ·rw[bF h];rfl
  have f:=O6 h (by omega);rw[tM T lo e n b,aO (by omega),aO h,lX];refine PR.bind_congr rfl fun x m c=>?_;have:=pZ c;exact ih (T.length-m) (by omega) m _ this.2 (aZ _)
theorem JW (lo n:Nat) (a:1≤lo):kO T lo n=(kO T (lo+1) n).bind fun e m=>wH T lo e m:=by
 rw[Aq T lo n a,Aq T (lo+1) n (by omega),lX];refine PR.bind_congr rfl fun x m b=>?_;exact MX lo a _ m x (Rk b).2 (aZ _)
theorem AP (n:Nat):kO T 10 n=tX T n:=by
 rw[Aq T 10 n (by decide)]
 cases h:tX T n with
 |bad m=>rfl
 |ok e m=>
  show wH T 10 e m=_;rw[tM T 10 e m (by decide),bF (by have:=VS (eA T m);omega)]
theorem Y4 (lo:Nat) (d:1≤lo) (k:Nat): ∀n e c m,n≤T.length→T.length-n≤k→wH T lo e n= .ok c m→(Ec (eA T m)).2.2<lo:=by
 induction k using Nat.strongRecOn with
 |_ k ih=>
  intro n e c m l i h;rw[tM T lo e n d]at h;by_cases b:(Ec (eA T n)).2.2<lo
  ·rw[bF b]at h;cases h;exact b
  have j:=O6 b d;rw[aO b]at h;obtain⟨x,a,f,g⟩:=PR.bind_eq_ok h;have:=pZ f;exact ih (T.length-a) (by omega) a _ _ _ this.2 (aZ _) g
theorem Qp {lo n m:Nat} {e:Ex} (b:1≤lo) (h:kO T lo n= .ok e m):(Ec (eA T m)).2.2<lo:=by
 rw[Aq T lo n b]at h;obtain⟨x,a,c,d⟩:=PR.bind_eq_ok h;exact Y4 lo b _ a x e m (Rk c).2 (aZ _) d
theorem BI (n:Nat):tX T n=
  if nS T n=2 then(kG T 2 n).bind fun t m=> .ok (.mk 1 0 t.num [] []) m
  else if eA T n=[103,101,116]then(fA T [40] (n+1)).bind fun _ m=>(fA T [41] m).bind fun _ m=> .ok (.mk 5 0 0 [] []) m
  else if eA T n=[33]then(tX T (n+1)).bind fun e m=> .ok (.mk 7 0 0 [] [e]) m
  else if eA T n=[40]then(kO T 1 (n+1)).bind fun e m=>(fA T [41] m).bind fun _ m=> .ok e m
  else(kG T 1 n).bind fun t m=>
   if eA T m=[91]then(kO T 1 (m+1)).bind fun e m=>(fA T [93] m).bind fun _ m=> .ok (.mk 3 0 0 t.text [e]) m
   else if eA T m=[40]then(vM T (m+1)).bind fun l m=> .ok (.mk 4 0 0 t.text l) m
   else .ok (.mk 2 0 0 t.text []) m:=by
 rw[KW];by_cases a:eA T n=[33]
 ·rw[a];simp
 simp only[aO a]
end
theorem UE {H:Hp} {b c sz d:Nat} {l l':List (List AV)} (h:H b=some (.rows sz l)) (a:H c=some (.rows d l')) (f:sz≠d):b≠c:=fun e=>by subst e;rw[h]at a;cases a;exact f rfl
theorem dZ.kp {sz d:Nat} {v:AV} {rows r:List (List AV)} {H H2:Hp} {b:Nat} (h:dZ sz v rows H) (f:H b=some (.rows d r)) (i:d≠sz) (g: ∀x o,x≠b→H x=some o→H2 x=some o):dZ sz v rows H2:=by
 rcases h with h|⟨c,e,a⟩
 ·exact .inl h
 exact .inr ⟨c,e,g c _ (fun e=>UE f a i e.symm) a⟩
theorem NS {T:List fX} {n:Nat} {t:fX} (h:T[n]?=some t):(T.map fX.row)[n]?=some [.int .i64 t.kind, .str t.text, .int .u32 t.num, .int .i64 t.pos]:=uT _ h
theorem HZ {T:List fX} {n:Nat} {t:fX} (h:T[n]?=some t):eA T n=if t.kind=3∨t.kind=4 then t.text else []:=by rw[eA,h]
theorem X5 {T:List fX} {n:Nat} (h: ¬n<T.length):eA T n=[]:=by rw[eA,dO (by omega)]
theorem Tz {n:Nat} (h:n≤1000000):IntKind.wrap .i64 ((n:Int)+1)=((n+1:Nat):Int):=by rw[aU _ (by omega)];omega
def oM (x:Ex):AV:= .agg [.int .i64 x.kind, .int .i64 x.op, .int .u32 x.num, .str x.name, .isl 5 (x.kids.map Ex.row)]
def Gh (l:List Ex):AV:= .isl 5 (l.map Ex.row)
theorem KA (b:List Ex) (a:Ex):(b++[a]).map Ex.row=b.map Ex.row++[[.int .i64 a.kind, .int .i64 a.op, .int .u32 a.num, .str a.name, .isl 5 (a.kids.map Ex.row)]]:=by
 rw[cP,cX,dH,Ex.row_eq]
def sM (s:Sm):AV:= .agg [.int .i64 s.kind, .str s.name, .isl 5 (s.es.map Ex.row), .isl 5 (s.thn.map Sm.row), .isl 5 (s.els.map Sm.row)]
def XK (l:List Sm):AV:= .isl 5 (l.map Sm.row)
theorem Xd (a:List Sm) (s:Sm):(a++[s]).map Sm.row=a.map Sm.row++[[.int .i64 s.kind, .str s.name, .isl 5 (s.es.map Ex.row), .isl 5 (s.thn.map Sm.row), .isl 5 (s.els.map Sm.row)]]:=by
 rw[cP,cX,dH,Sm.row_eq]
def NZ (T:List fX) (nm:dE) (ps:List dE) (w:Bool) (ls:List dE) (c:Nat):PR Fu:=(sV T [] c).bind fun b c=> .ok ⟨nm,ps,ls,w,b⟩ c
def TN (T:List fX) (nm:dE) (ps:List dE) (m:Nat):PR Fu:=(fA T [41] m).bind fun _ m=>(fA T [123] (if eA T m=sZ then m+1 else m)).bind fun _ c=>(Xv T [] c).bind fun ls c=>NZ T nm ps (decide (eA T m=sZ)) ls c
theorem NX (T:List fX) (n:Nat):Ob T n=(fA T zV n).bind fun _ m=>(kG T 1 m).bind fun t m=>(fA T [40] m).bind fun _ m=>(if nS T m=1 then pM T m else .ok [] m:PR (List dE)).bind fun a m=>TN T t.text a m:=rfl
theorem Iq (l:List dE):((l.map bT).all fun r=>r.all one)=true:=IB (fun _=>rfl) l
def XO (f:Fu):AV:= .agg [.str f.name, .isl 1 (f.params.map bT), .isl 1 (f.locs.map bT), .bool f.word, .isl 5 (f.body.map Sm.row)]
end Go.Proofs.YtaecpjgmcffliaaGreatDoor
namespace Go.Al
theorem dZ.app2 {sz a:Nat} {v v':AV} {rows f:List (List AV)} {H H':Hp} (i:dZ a v' f H) (g:dZ sz v rows H) (k:a≠sz) (j: ∀b o,H b=some o→v≠ .osl sz b rows.length→H' b=some o):dZ a v' f H':=by
 rcases i with h|⟨c,e,d⟩
 ·exact .inl h
 exact .inr ⟨c,e,j c _ d (g.nb' d k)⟩
theorem P6 {sz a:Nat} {v x:AV} {rows i:List (List AV)} {H:Hp} (h:dZ sz v rows H) (g:dZ a x i H) (f:a≠sz):BX v x:=fun s b n e=>by
 subst e;rcases g with⟨e,_⟩|⟨c,e,d⟩
 ·cases e
 cases e;exact h.offsz d f
theorem dZ.nil (sz:Nat) (H:Hp):dZ sz .nsl [] H:= .inl ⟨rfl,rfl⟩
theorem dZ.thru {sz d j:Nat} {v v':AV} {rows f r:List (List AV)} {H H':Hp} {g:Nat} (o:dZ d v' f H) (n:dZ sz v rows H) (u:d≠sz) (k:H g=some (.rows j r)) (y:d≠j) (i:(f.all fun r=>r.all tR)=true)
  (p: ∀b s l,b≠g→Al.off v b→(∀r∈l, ∀x∈r,BX v x)→H b=some (.rows s l)→H' b=some (.rows s l)):dZ d v' f H':=by
 rcases o with h|⟨c,e,a⟩
 ·exact .inl h
 refine .inr ⟨c,e,p c _ _ (fun e=>?_) (n.offsz a u) (fun r t x z=>?_) a⟩
 ·subst e;rw[k]at a;cases a;exact y rfl
 simp only[cI]at i;exact bS (i r t x z)
theorem Yg (l:List Ar):((l.map Ar.row).all fun r=>r.all tR)=true:=by
 simp only[List.all_map,cI];exact fun x _=>rfl
end Go.Al
namespace Go.Proofs.YtaecpjgmcffliaaGreatDoor
open Go.Al Go.Proofs.Tryz
def Py (T:List fX) (va:List dE×List Ar) (m:Nat):PR Pg:=(Ob T m).bind fun g m=>(Jh T [g] m).bind fun fs m=> .ok ⟨va.1,va.2,fs⟩ m
theorem HQ (T:List fX) (n:Nat):Ef T n=(En T [] [] n).bind (Py T):=rfl
def YW (p:Pg):AV:= .agg [.isl 1 (p.vars.map bT), .isl 2 (p.arrs.map Ar.row), .isl 5 (p.funs.map Fu.row)]
theorem ME (sz:Nat) (rows:List (List AV)):Al.jE (XL sz rows) (.isl sz rows):=by
 cases rows with
 |nil=>exact jE.nsl sz
 |cons=>exact jE.refl _
theorem rN: ∀(s:dE) (k i:Nat) (x:Nat×Int),oP s k i= .error x→x.2≠0
 |[],k,i,x,h=>by cases k<;>simp [oP]at h
 |c::r,k+1,i,x,h=>by
  rw[oP]at h;exact rN r k (i+1) x h
 |c::r,0,i,x,h=>by
  rw[oP]at h;split at h
  ·exact rN r 0 (i+1) x h
  split at h
  ·exact rN r _ (i+1) x h
  split at h
  ·cases hl:oP r ((iD (c::r)).1.text.length - 1) (i+1)with
   |ok l=>rw[hl]at h;cases h
   |error y=>rw[hl]at h;cases h;exact rN r _ _ _ hl
  rename_i a;cases h;exact a
theorem IS {s:dE} {i:Nat} {e:Int} (h:Ce s= .error (i,e)):e≠0:=by
 unfold Ce at h;split at h
 ·cases h;decide
 exact rN _ _ _ _ h
def D6 (r:Pg×Int×Int):AV:= .tup [r.1.av, .int .i64 r.2.1, .int .i64 r.2.2]
theorem MO:gK [.nsl, .nsl, .nsl] SL.row:=gK.cons (jE.nsl 1) (gK.cons (jE.nsl 2) (gK.cons (jE.nsl 5) (gK.refl _)))
theorem HH {s:dE} (a:s.length≤1000000) {i:Nat} {e:Int} (h:Ce s= .error (i,e)):eG dR 64 [.str s] (.tup [.nsl, .int .i64 (i:Nat), .int .i64 e]):=by
 have:=Xl s a;rw[h]at this;exact this
theorem MM {s:dE} (a:s.length≤1000000) {T:List fX} (h:Ce s= .ok T):eG dR 64 [.str s] (.tup [.isl 4 (T.map fX.row), .int .i64 0, .int .i64 0]):=by
 have:=Xl s a;rw[h]at this;exact X6 this (jE.tup (gK.cons (ME 4 _) (gK.refl _)))
end Go.Proofs.YtaecpjgmcffliaaGreatDoor
