/- Lx -/
import Derived.Test.YtaecpjgmcffliaaGreatDoorSc1
import Derived.Test.YtaecpjgmcffliaaGreatDoorAl3
import Derived.Test.YtaecpjgmcffliaaGreatDoorSy2
import Derived.Test.YtaecpjgmcffliaaGreatDoorWb
set_option linter.unusedSimpArgs false
set_option linter.unusedVariables false
set_option maxRecDepth 10000
namespace Go.Proofs.YtaecpjgmcffliaaGreatDoor
open Go.Al Go.Proofs.Tryz
def Ae (s p:List UInt8):Bool:=decide (s.take p.length=p)
theorem W3:eH dP 149 [] (.isl 1 (mD.map fun w=>[.str w])):=by
 refine bY 2 [.tmp 0] func149 ?_;refine aC fun K a=>?_;refine aH ?_;simp only[RR,seval];apply a;refine aC fun K a=>?_;refine aH ?_;simp only[RR,seval];refine dO ?_;simp only[RR,seval];apply a;refine aP ?_;simp only[aY,aK,bR,RR,seval];refine aZ.pure ?_;rfl
structure fX where
 kind:Int
 text:List UInt8
 num:Int
 pos:Int
def fX.row (t:fX):List AV:=[.int .i64 t.kind, .str t.text, .int .u32 t.num, .int .i64 t.pos]
def kF:fX:=⟨0,[],0,0⟩
def GA (p:fX×Int):AV:= .tup [.agg p.1.row, .int .i64 p.2]
def Px (s:List UInt8):fX×Int:=if 20<s.length then(kF,2)else if kD.contains s then(⟨3,s,0,0⟩,0)else(⟨1,s,0,0⟩,0)
def Jl (c d:UInt8):Bool:=decide ((d.toNat:Int)=39)&& !decide ((c.toNat:Int)<32)&& !decide (126<(c.toNat:Int))&& !decide ((c.toNat:Int)=39)&& !decide ((c.toNat:Int)=92)
def Qq (s:List UInt8):fX×Int:=
 match s with
 |_::c::d::_=>if Jl c d then(⟨2,s.take 3,c.toNat,0⟩,0)else(kF,3)
 |_=>(kF,3)
def Ta:Int→List UInt8→Option Int
 |n,[]=>some n
 |n,c::cs=>if 4294967295<n *10+((c.toNat:Int)- 48)then none else Ta (n *10+((c.toNat:Int)- 48)) cs
def zB (s:List UInt8):fX×Int:=match Ta 0 s with |some n=>(⟨2,s,n,0⟩,0)|none=>(kF,2)
theorem Ak {c:UInt8} (h:Uh c.toNat=true):48≤(c.toNat:Int)∧(c.toNat:Int)≤57:=by
 simpa [Uh]using h
theorem zC: ∀(s:List UInt8) (n m:Int),0≤n→n≤4294967295→s.all (fun c=>Uh c.toNat)=true→Ta n s=some m→0≤m∧m≤4294967295
 |[],n,m,h0,h1,_,h=>by simp only[Ta,Option.some.injEq]at h;omega
 |c::cs,n,m,h0,h1,hd,h=>by
  simp only[dZ,aX]at hd;have a:=Ak hd.1;simp only[Ta]at h;split at h
  ·cases h
  exact zC cs _ m (by omega) (by omega) hd.2 h
theorem Jo (s w:List UInt8) (i:Nat) (j:s.length≤1000000) (k:w.length≤1000000) (g:i≤s.length):eH dP 147 [.str s, .int .i64 i, .str w] (.bool (Ae (s.drop i) w)):=by
 refine bY 25 [.tmp 6] func147 ?_;refine aC fun K a=>?_;refine aH ?_;simp only[RR,seval];apply a;refine aC fun K a=>?_;refine aH ?_;simp only[RR,seval];rw[aS _ (by omega)];refine fH (fun h=>?_) (fun h=>?_)
 ·have b:(i:Int)+w.length≤s.length:=aD h
  have c:((i:Int)+w.length).toNat=i+w.length:=by omega
  have d:(0:Int)≤(i:Int)+w.length:=by omega
  have f:(i:Int)≤((i+w.length:Nat):Int):=by omega
  simp only[b,RR,seval]
  repeat' ((refine cT (fun h=>?_) (fun h=>?_))<;>simp only[*,RR,seval])
  rw[aS _ (by omega)];simp only[*,RR,seval];apply a;clear a K;refine aP ?_;simp only[aY,aK,bR,RR,seval];refine aZ.pure ?_;rw[Ae,gY]
 simp only[h,RR,seval];apply a;refine aP ?_;simp only[aY,aK,bR,RR,seval];refine aZ.pure ?_;have b: ¬(i:Int)+w.length≤s.length:=aE h
 have : ¬(s.drop i).take w.length=w:=fun e=>by
  have:=congrArg List.length e;rw[dV,fL]at this;omega
 simp [Ae,this]
def Bv:Int→Bool→List UInt8→Int×Bool
 |n,g,[]=>(n,g)
 |n,g,c::cs=>if 4294967295<n *10+((c.toNat:Int)- 48)then Bv 0 true cs else Bv (n *10+((c.toNat:Int)- 48)) g cs
theorem Ih: ∀(s:List UInt8) (n:Int),(Bv n true s).2=true
 |[],_=>rfl
 |c::cs,n=>by simp only[Bv];split<;>exact Ih cs _
theorem Bt: ∀(s:List UInt8) (n:Int),match Ta n s with |some m=>Bv n false s=(m,false)|none=>(Bv n false s).2=true
 |[],n=>rfl
 |c::cs,n=>by
  simp only[Ta,Bv];split
  ·rename_i m h
   split at h
   ·cases h
   rename_i a;have:=Bt cs (n *10+((c.toNat:Int)- 48));rw[h]at this;rw[aJ a];exact this
  rename_i h;split at h
  ·rename_i a;rw[bD a];exact Ih _ _
  rename_i a;have:=Bt cs (n *10+((c.toNat:Int)- 48));rw[h]at this;rw[aJ a];exact this
def Lt (c:UInt8):Bool:=Uh c.toNat
theorem E3 (s:List UInt8) (d:Nat) (S:s.length≤1000000) (I:d≤s.length):eH dP 148 [.str s, .int .i64 d]
  (.tup [.int .u64 (Bv 0 false ((s.drop d).takeWhile Lt)).1, .int .i64 ((d+((s.drop d).takeWhile Lt).length:Nat)), .bool (Bv 0 false ((s.drop d).takeWhile Lt)).2]):=by
 refine bY 34 [.tmp 4, .tmp 5, .tmp 6] func148 ?_;refine aC fun K a=>?_;refine aH ?_;simp only[RR,seval];apply a;refine aC fun K a=>?_;refine aH ?_;simp only[RR,seval];refine a _ _ (cN (fun l H=> ∃(i:Nat) (n:Int) (g:Bool),l 7= .int .u64 n∧l 1= .int .i64 i∧l 8= .bool g∧Bv 0 false ((s.drop d).takeWhile Lt)=(n,g)∧d+((s.drop d).takeWhile Lt).length=i) (fun K a=>?_) ?_)
 ·refine aQ (eP (fun k l H=> ∃(i:Nat) (n:Int) (g:Bool),k=s.length-i∧i≤s.length∧0≤n∧n≤4294967295∧l 0= .str s∧l 7= .int .u64 n∧l 1= .int .i64 i∧l 8= .bool g∧Bv 0 false ((s.drop d).takeWhile Lt)=Bv n g ((s.drop i).takeWhile Lt)∧d+((s.drop d).takeWhile Lt).length=i+((s.drop i).takeWhile Lt).length) (s.length-d) ⟨d,0,false,rfl,I,by omega,by omega,rfl,rfl,rfl,rfl,rfl,rfl⟩ ?_)
  rintro k l H ⟨i,n,g,rfl,P,Q,R,u,v,p,t,o,x⟩ N B;refine aI (cN (fun y M=> ∃b,y 18= .bool b∧y 0= .str s∧y 1= .int .i64 i∧y 7= .int .u64 n∧y 8= .bool g∧(b=true→ ∃c,s[i]?=some c∧Lt c=true)∧(b=false→ ∀c,s[i]?=some c→Lt c=false)) (fun K a=>?_) ?_)
  ·refine aH ?_;simp only[RR,seval]
   simp only[u,p,RR,seval];refine fH (fun h=>?_) (fun h=>?_)
   ·have D:(i:Int)<s.length:=aD h
    have A:i<s.length:=by omega
    have z:s[i]?=some s[i]:=aF A;simp only[*,RR,seval];refine aO (uK _) ?_;simp only[RR,seval];refine a _ _ ⟨_,rfl,u,p,v,t, ?_, ?_⟩
    ·intro e;exact⟨_,z,e⟩
    intro e c f;rw[z]at f;cases f;exact e
   simp only[h,RR,seval];refine a _ _ ⟨_,rfl,u,p,v,t, ?_, ?_⟩
   ·intro e;cases e
   intro _ c f;have D: ¬(i:Int)<s.length:=aE h;rw[dT (by omega)]at f;cases f
  rintro l H ⟨b,C,u,p,v,t,L,G⟩;refine dY _ C (fun f=>?_) (fun f=>?_)
  ·refine aL ?_;simp only[bK]
   obtain⟨c,z,hd⟩:=L f;obtain⟨A,E⟩:=bF.1 z;have O:=Ak hd;have F:s.drop i=c::s.drop (i+1):=by rw[bJ A,E]
   rw[F]at o x;simp only[List.takeWhile,hd,Bv,aM]at o x;refine aQ ?_;refine aC fun K a=>?_;refine aH ?_;simp only[RR,seval];simp only[*,RR,seval];rw[BN (n *10) (by omega),IntWalk.u8_in _ (by omega),BN ((c.toNat:Int)- 48) (by omega),BN _ (by omega)];refine a _ _ (aI ?_);refine aC fun K a=>?_;refine aH ?_;simp only[RR,seval];refine a _ _ (aV ?_ ?_)<;>intro f
   ·have h:4294967295<n *10+((c.toNat:Int)- 48):=aD f
    rw[bD h]at o;refine aC fun K a=>?_;refine aH ?_;simp only[RR,seval];apply a;clear a K;refine aH ?_;simp only[RR,seval];refine aH ?_;simp only[RR,seval];simp only[p,RR,seval];rw[aS _ (by omega)];exact B (s.length-(i+1)) _ _ (by omega) ⟨i+1,0,true,rfl,by omega,by omega,by omega,u,rfl,rfl,rfl,o,by omega⟩
   have h: ¬4294967295<n *10+((c.toNat:Int)- 48):=aE f;rw[aJ h]at o;refine aL ?_;simp only[bK];refine aH ?_;simp only[RR,seval];simp only[p,RR,seval];rw[aS _ (by omega)];exact B (s.length-(i+1)) _ _ (by omega) ⟨i+1,_,g,rfl,by omega,by omega,by omega,u,rfl,rfl,t,o,by omega⟩
  refine cG ?_;simp only[bK,cL,reduceIte]
  have J:(s.drop i).takeWhile Lt=[]:=by
   cases hd:s.drop i with
   |nil=>rfl
   |cons c r=>
    have :s[i]?=some c:=by
     have:=dW (xs:=s) (i:=i) (j:=0);rw[hd]at this;simpa using this.symm
    simp only[List.takeWhile,G f c this]
  rw[J]at o x;exact a _ _ ⟨i,n,g,v,p,t,o,x⟩
 rintro l H ⟨i,n,g,v,p,t,o,x⟩;refine aC fun K a=>?_;refine aH ?_;simp only[RR,seval];simp only[p,v,t,seval];apply a;refine aP ?_;simp only[aY,aK,bR,RR,seval];refine aZ.pure ?_;rw[o,x]
def iD (s:List UInt8):fX×Int:=
 match s with
 |[]=>(kF,3)
 |c::r=>if Uh c.toNat then zB ((c::r).takeWhile Lt)else if decide ((c.toNat:Int)=39)then Qq (c::r)else if Aw c.toNat then Px ((c::r).takeWhile xO)else
  match mD.find? (Ae (c::r))with
  |some w=>(⟨4,w,0,0⟩,0)
  |none=>(kF,3)
theorem sV (p:UInt8→Bool): ∀s:List UInt8,(s.takeWhile p).all p=true
 |[]=>rfl
 |c::s=>by
  simp only[List.takeWhile];cases h:p c
  ·rfl
  simp [h,sV p s]
theorem lA (p:UInt8→Bool): ∀s:List UInt8,(s.takeWhile p).length≤s.length
 |[]=>by simp
 |c::s=>by
  simp only[List.takeWhile];have:=lA p s;cases h:p c<;>simp<;>omega
theorem NT {a:Type} (p:a→Bool) (l:List a) (i:Nat) (b:i<l.length) (c:(l.take i).find? p=none) (h:p l[i]=true):l.find? p=some l[i]:=by
 rw[show l.find? p=(l.take i++l.drop i).find? p by rw[mJ],List.find?_append,c,bJ b];simp [List.find?,h]
def wI (s:List UInt8) (i:Nat):fX×Int:=if(iD (s.drop i)).2=0 then({(iD (s.drop i)).1 with pos:=i},0)else(kF,(iD (s.drop i)).2)
theorem uW (x:UInt8) (r:List UInt8):Qq (x::r)=match r[0]?,r[1]? with |some c,some d=>if Jl c d then(⟨2,(x::r).take 3,c.toNat,0⟩,0)else(kF,3)|_,_=>(kF,3):=by
 match r with
 |[]=>rfl
 |[_]=>rfl
 |c::d::r=>rfl
theorem rD (p:UInt8→Bool): ∀s:List UInt8,s.take (s.takeWhile p).length=s.takeWhile p
 |[]=>rfl
 |c::s=>by
  simp only[List.takeWhile];cases h:p c<;>simp [rD p s]
theorem AP (c d:UInt8):Jl c d=(decide ((d.toNat:Int)=39)&&decide (32≤(c.toNat:Int))&&decide ((c.toNat:Int)≤126)&& !decide ((c.toNat:Int)=39)&& !decide ((c.toNat:Int)=92)):=by
 have a:(!decide ((c.toNat:Int)<32))=decide (32≤(c.toNat:Int)):=by rw[eK];simp
 have b:(!decide (126<(c.toNat:Int)))=decide ((c.toNat:Int)≤126):=by rw[eK];simp
 rw[Jl,a,b]
theorem IB (s:List UInt8) (i:Nat) (hs:s.length≤1000000) (hi:i<s.length):eH dP 98 [.str s, .int .i64 i] (GA (wI s i)):=by
 refine bY 161 [.cell 4 159, .tmp 5] func98 ?_;have y:s[i]?=some s[i]:=aF hi;have G:s.drop i=s[i]::s.drop (i+1):=bJ hi;have b6:(s.drop i).length=s.length-i:=fL;generalize v:s[i]=c at y G;refine aC fun K a=>?_;refine aH ?_;simp only[RR,seval];refine aN fun b u=>?_;simp only[RR,seval];apply a;clear a K;refine aC fun K a=>?_;refine aH ?_;simp only[RR,seval];simp only[y,RR,seval];apply a;clear a K;refine cN (fun f H=>Uh c.toNat=false∧ ∃b,f 0= .str s∧f 1= .int .i64 i∧f 4= .ptr 4 b 0 0∧H b=some (.rows 4 [kF.row])∧f 6= .int .u8 c.toNat) (fun K a=>?_) ?_
 ·refine aC fun K a=>?_;refine aH ?_;simp only[RR,seval]
  refine aO (uK _) ?_;simp only[RR,seval];apply a;clear a K;refine aV ?_ ?_<;>intro hd
  ·have z:iD (s.drop i)=zB ((s.drop i).takeWhile Lt):=by
    rw[G];simp only[iD,hd,cQ]
   have B:=Bt ((s.drop i).takeWhile Lt) 0;have b3:=lA Lt (s.drop i);refine aC fun K a=>?_;refine aH ?_;simp only[RR,seval];refine aO (E3 s i hs (by omega)) ?_;simp only[RR,seval];apply a;clear a K;refine aI ?_;refine aC fun K a=>?_;refine aH ?_;simp only[RR,seval];apply a;clear a K;refine aV ?_ ?_<;>intro R
   ·refine aC fun K a=>?_;refine aH ?_;simp only[RR,seval]
    apply a;clear a K;refine aP ?_;simp only[bK,aY,aK,bR,RR,seval];refine aZ.pure ?_
    cases hn:Ta 0 ((s.drop i).takeWhile Lt)with
    |some m=>rw[hn]at B;simp only at B;rw[B]at R;cases R
    |none=>simp [wI,z,zB,hn,GA,kF,fX.row]
   refine aL ?_;simp only[bK];have o:(i:Int)≤((i+((s.drop i).takeWhile Lt).length:Nat):Int):=by omega
   have W:(((i+((s.drop i).takeWhile Lt).length:Nat)):Int)≤s.length:=by omega
   refine aC fun K a=>?_;refine aH ?_;simp only[RR,seval];simp only[o,W,RR,seval];apply a;clear a K;refine aP ?_;simp only[bK,aY,aK,bR,RR,seval];refine aZ.pure ?_
   cases hn:Ta 0 ((s.drop i).takeWhile Lt)with
   |none=>rw[hn]at B;simp only at B;rw[B]at R;cases R
   |some m=>
    rw[hn]at B;simp only at B;have b5:=zC _ 0 m (by omega) (by omega) (sV Lt _) hn;rw[B,dX _ (by simp only;omega),gY];simp only[wI,z,zB,hn,GA,fX.row,cQ,rD]
  refine aL ?_;simp only[bK];exact a _ _ ⟨hd,b,rfl,rfl,rfl,bC _ _ _,rfl⟩
 rintro f H ⟨hd,b,p,o,l,u,Q⟩;refine cN (fun f H=>decide ((c.toNat:Int)=39)=false∧f 0= .str s∧f 1= .int .i64 i∧f 4= .ptr 4 b 0 0∧H b=some (.rows 4 [kF.row])∧f 6= .int .u8 c.toNat) (fun K a=>?_) ?_
 ·refine aC fun K a=>?_;refine aH ?_;simp only[RR,seval]
  simp only[Q,RR,seval];apply a;clear a K;refine aV ?_ ?_<;>intro N
  ·have z:iD (s.drop i)=Qq (s.drop i):=by
    rw[G];simp only[iD,hd,N,cQ,dC,cF]
   have L:Qq (s.drop i)=match s[i+1]?,s[i+2]? with |some c,some d=>if Jl c d then(⟨2,(s.drop i).take 3,c.toNat,0⟩,0)else(kF,3)|_,_=>(kF,3):=by
    rw[G,uW];simp only[dW]
   refine aI ?_;refine cN (fun f H=> ∃t,f 76= .bool t∧f 0= .str s∧f 1= .int .i64 i∧f 4= .ptr 4 b 0 0∧H b=some (.rows 4 [kF.row])∧(t=false→Qq (s.drop i)=(kF,3))∧(t=true→ ∃e:UInt8,s[i+1]?=some e∧i+2<s.length∧Qq (s.drop i)=(⟨2,(s.drop i).take 3,e.toNat,0⟩,0))) (fun K a=>?_) ?_
   ·refine aH ?_;simp only[RR,seval]
    simp only[p,o,RR,seval];rw[aS _ (by omega)];by_cases A:i+2<s.length
    ·have h:decide ((i:Int)+2<s.length)=true:=cR (by omega)
     have D:(0:Int)≤(i:Int)+1:=by omega
     have E:(0:Int)≤(i:Int)+2:=by omega
     have U:((i:Int)+1).toNat=i+1:=by omega
     have V:((i:Int)+2).toNat=i+2:=by omega
     have F:s[i+1]?=some s[i+1]:=aF (by omega);have J:s[i+2]?=some s[i+2]:=aF (by omega);have w1:IntKind.wrap .i64 ((i:Int)+1)=(i:Int)+1:=aS _ (by omega);have w2:IntKind.wrap .i64 ((i:Int)+2)=(i:Int)+2:=aS _ (by omega);generalize s[i+1]=e at F;generalize s[i+2]=d at J;rw[F,J]at L;simp only[AP]at L;simp only[h,p,o,w2,E,V,J,RR,seval]
     repeat' ((first|refine cT (fun h=>?_) (fun h=>?_)|refine fH (fun h=>?_) (fun h=>?_))<;>simp only[h,p,o,w1,D,U,F,RR,seval])
     all_goals
      refine a _ _ ⟨_,rfl,p,o,l,u, ?_, ?_⟩<;>clear a
      ·intro g;(rw[L];simp_all<;>(intros;omega))
      intro g;first|(simp only[cF]at g;done)|exact⟨e,F,A,by rw[L];simp_all⟩
    have h:decide ((i:Int)+2<s.length)=false:=bG (by omega);have J:s[i+2]?=none:=dT (by omega);simp only[h,RR,seval];refine a _ _ ⟨_,rfl,p,o,l,u,fun _=>?_,fun e=>by cases e⟩;rw[L,J];cases s[i+1]?<;>rfl
   rintro f H ⟨t,a5,p,o,l,u,ht,b4⟩;refine dY _ a5 (fun v=>?_) (fun v=>?_)
   ·obtain⟨e,F,A,a6⟩:=b4 v
    have D:(0:Int)≤(i:Int)+1:=by omega
    have E:(0:Int)≤(i:Int)+3:=by omega
    have U:((i:Int)+1).toNat=i+1:=by omega
    have V:((i:Int)+3).toNat=i+3:=by omega
    have e5:(i:Int)+3≤s.length:=by omega
    have e6:(i:Int)≤((i+3:Nat):Int):=by omega
    have w1:IntKind.wrap .i64 ((i:Int)+1)=(i:Int)+1:=aS _ (by omega);have w3:IntKind.wrap .i64 ((i:Int)+3)=(i:Int)+3:=aS _ (by omega);have w4:IntKind.wrap .u32 (e.toNat:Int)=e.toNat:=dX _ (by have:=e.toNat_lt;omega);refine aC fun K a=>?_;refine fY (fun _=>True) [(0,true),(1,true),(2,true),(3,true),(4,true),(5,true),(6,true),(7,true),(8,true),(9,true),(10,true),(11,true),(12,true),(13,true)] eE (by kernel_rfl) rfl ?_;simp only[tU,p,o,l,u,w1,w3,w4,D,E,U,V,e5,e6,F,fX.row,kF,RR,seval];apply a;clear a K;refine aP ?_;simp only[bK,aY,aK,bR,l,RR,seval];refine aZ.pure ?_;simp only[wI,z,a6,cQ,GA,fX.row];rw[gY]
   refine aL ?_;simp only[bK];refine aC fun K a=>?_;refine aH ?_;simp only[RR,seval];simp only[l,u,fX.row,kF,RR,seval];apply a;clear a K;refine aP ?_;simp only[bK,aY,aK,bR,l,RR,seval];refine aZ.pure ?_;simp only[wI,z,ht v];rfl
  refine aL ?_;simp only[bK];exact a _ _ ⟨N,p,o,l,u,Q⟩
 rintro f H ⟨N,p,o,l,u,Q⟩;refine cN (fun f H=>Aw c.toNat=false∧f 0= .str s∧f 1= .int .i64 i∧f 4= .ptr 4 b 0 0∧H b=some (.rows 4 [kF.row])) (fun K a=>?_) ?_
 ·refine aC fun K a=>?_;refine aH ?_;simp only[RR,seval]
  simp only[Q,seval];refine aO (uL _) ?_;simp only[RR,seval];apply a;clear a K;refine aV ?_ ?_<;>intro C
  ·have z:iD (s.drop i)=Px ((s.drop i).takeWhile xO):=by
    rw[G];simp only[iD,hd,N,C,cQ,dC,cF]
   have b3:=lA xO (s.drop i);have a0:=rD xO (s.drop i);refine aC fun K a=>?_;refine aH ?_;simp only[RR,seval];simp only[o,seval];apply a;clear a K;refine cN (fun f H=>f 0= .str s∧f 1= .int .i64 i∧f 4= .ptr 4 b 0 0∧H b=some (.rows 4 [kF.row])∧f 10= .int .i64 ((i+((s.drop i).takeWhile xO).length:Nat))) (fun K a=>?_) ?_
   ·refine aQ ?_
    refine eP (fun k f H=> ∃j:Nat,k=s.length-j∧j≤s.length∧f 0= .str s∧f 1= .int .i64 i∧f 4= .ptr 4 b 0 0∧H b=some (.rows 4 [kF.row])∧f 10= .int .i64 j∧i+((s.drop i).takeWhile xO).length=j+((s.drop j).takeWhile xO).length) (s.length-i) ⟨i,rfl,by omega,p,o,l,u,rfl,rfl⟩ ?_;rintro k f H ⟨j,rfl,hj,p,o,l,u,x,S⟩ K2 X;refine aI ?_;refine cN (fun I H'=> ∃t,I 114= .bool t∧I 0= .str s∧I 1= .int .i64 i∧I 4= .ptr 4 b 0 0∧H' b=some (.rows 4 [kF.row])∧I 10= .int .i64 j∧(t=true→ ∃c,s[j]?=some c∧xO c=true)∧(t=false→ ∀c,s[j]?=some c→xO c=false)) (fun K a=>?_) ?_
    ·refine aH ?_;simp only[RR,seval]
     simp only[p,x,RR,seval];refine fH (fun h=>?_) (fun h=>?_)
     ·have W:(j:Int)<s.length:=aD h
      have A:j<s.length:=by omega
      have y:s[j]?=some s[j]:=aF A;generalize s[j]=e at y;simp only[h,p,x,y,RR,seval];refine aO (uL _) ?_;simp only[RR,seval];refine cT (fun C=>?_) (fun C=>?_)<;>simp only[C,p,x,y,RR,seval]
      ·refine aO (uK _) ?_
       simp only[RR,seval]
       repeat' ((refine cT (fun h=>?_) (fun h=>?_))<;>simp only[h,p,x,y,RR,seval])
       all_goals
        refine a _ _ ⟨_,rfl,p,o,l,u,x, ?_, ?_⟩
        ·intro g;refine⟨e,y, ?_⟩;simp [xO,QJ, *]
        intro g c' a1;rw[y]at a1;cases a1;simp [xO,QJ, *]at g⊢
      refine a _ _ ⟨_,rfl,p,o,l,u,x, ?_, ?_⟩
      ·intro g;refine⟨e,y, ?_⟩;simp [xO,QJ,C]
      intro g;cases g
     simp only[h,RR,seval];refine a _ _ ⟨_,rfl,p,o,l,u,x, ?_, ?_⟩
     ·intro g;cases g
     intro _ c v;have W: ¬(j:Int)<s.length:=aE h;rw[dT (by omega)]at v;cases v
    rintro f H ⟨t,a4,p,o,l,u,x,ht,a8⟩;refine dY _ a4 (fun v=>?_) (fun v=>?_)
    ·refine aL ?_;simp only[bK]
     obtain⟨e,y,he⟩:=ht v;obtain⟨A,a7⟩:=bF.1 y;have Y:s.drop j=e::s.drop (j+1):=by rw[bJ A,a7]
     rw[Y]at S;simp only[List.takeWhile,he,aM]at S;refine aQ ?_;refine aH ?_;simp only[RR,seval];simp only[x,RR,seval];rw[aS _ (by omega)];exact X (s.length-(j+1)) _ _ (by omega) ⟨j+1,rfl,by omega,p,o,l,u,rfl,by omega⟩
    refine cG ?_;simp only[bK,cL,reduceIte]
    have b2:(s.drop j).takeWhile xO=[]:=by
     cases Y:s.drop j with
     |nil=>rfl
     |cons e r=>
      have :s[j]?=some e:=by
       have:=dW (xs:=s) (i:=j) (j:=0);rw[Y]at this;simpa using this.symm
      simp only[List.takeWhile,a8 v e this]
    rw[b2]at S;exact a _ _ ⟨p,o,l,u,by rw[x,S];rfl⟩
   rintro f H ⟨p,o,l,u,x⟩;have Z:Px ((s.drop i).takeWhile xO)=if 20<((s.drop i).takeWhile xO).length then(kF,2)else if kD.contains ((s.drop i).takeWhile xO)then(⟨3,(s.drop i).takeWhile xO,0,0⟩,0)else(⟨1,(s.drop i).takeWhile xO,0,0⟩,0):=rfl
   generalize b7:(s.drop i).takeWhile xO=T at *;have D:(i:Int)≤((i+T.length:Nat):Int):=by omega
   have E:((i+T.length:Nat):Int)≤s.length:=by omega
   refine aI ?_;refine aC fun K a=>?_;refine aH ?_;simp only[RR,seval];simp only[o,x,RR,seval];rw[aS _ (by omega)];apply a;clear a K;refine aV ?_ ?_<;>intro v
   ·have h:20<T.length:=by have:=aD v;omega
    refine aC fun K a=>?_;refine aH ?_;simp only[RR,seval];simp only[l,u,fX.row,kF,RR,seval];apply a;clear a K;refine aP ?_;simp only[bK,aY,aK,bR,l,RR,seval];refine aZ.pure ?_;simp only[wI,z,Z,h,cQ];rfl
   have h: ¬20<T.length:=by have:=aE v;omega
   refine aL ?_;simp only[bK];refine aI ?_;refine aC fun K a=>?_;refine fY (fun _=>True) [(1,false),(2,false),(3,false),(4,false),(0,true),(5,true)] eE (by kernel_rfl) rfl ?_;simp only[tU,fW,p,o,x,D,E,RR,seval];refine aO Oe ?_;simp only[RR,seval];refine aO (IY kD _ (by decide)) ?_;simp only[gY,a0,RR,seval];apply a;clear a K;refine aV ?_ ?_<;>intro hw
   ·refine aC fun K a=>?_;refine aH ?_;simp only[RR,seval]
    simp only[p,o,l,x,u,D,E,gY,a0,fX.row,kF,RR,seval];apply a;clear a K;refine aP ?_;simp only[bK,aY,aK,bR,l,RR,seval];refine aZ.pure ?_;simp only[wI,z,Z,h,hw,cQ,dC];rfl
   refine aL ?_;simp only[bK];refine aC fun K a=>?_;refine aH ?_;simp only[RR,seval];simp only[p,o,l,x,u,D,E,gY,a0,fX.row,kF,RR,seval];apply a;clear a K;refine aP ?_;simp only[bK,aY,aK,bR,l,RR,seval];refine aZ.pure ?_;simp only[wI,z,Z,h,hw,cQ,dC,cF];rfl
  refine aL ?_;simp only[bK];exact a _ _ ⟨C,p,o,l,u⟩
 rintro f H ⟨C,p,o,l,u⟩
 have a2:iD (s.drop i)=match mD.find? (Ae (s.drop i))with |some w=>(⟨4,w,0,0⟩,0)|none=>(kF,3):=by
  rw[G];simp only[iD,hd,N,C,dC,cF]
  all_goals rfl
 refine aC fun K a=>?_;refine aH ?_;simp only[RR,seval];refine aO W3 ?_;simp only[RR,seval];apply a;clear a K;refine cN (fun f H=>mD.find? (Ae (s.drop i))=none∧f 4= .ptr 4 b 0 0∧H b=some (.rows 4 [kF.row])) (fun K a=>?_) ?_
 ·refine aC fun K a=>?_;refine aH ?_;simp only[RR,seval]
  apply a;clear a K;refine aQ ?_;refine eP (fun n f H=> ∃j:Nat,n=24 -j∧j≤24∧(mD.take j).find? (Ae (s.drop i))=none∧f 0= .str s∧f 1= .int .i64 i∧f 4= .ptr 4 b 0 0∧H b=some (.rows 4 [kF.row])∧f 11= .isl 1 (mD.map fun w=>[.str w])∧f 12= .int .i64 j) 24 ⟨0,rfl,by omega,rfl,p,o,l,u,rfl,rfl⟩ ?_;rintro n f H ⟨j,rfl,hj,M,p,o,l,u,O,P⟩ K2 X;refine aI ?_;refine aC fun K a=>?_;refine aH ?_;simp only[RR,seval];simp only[O,P,aG,RR,seval];apply a;clear a K;refine aV ?_ ?_<;>intro v
  ·refine aL ?_;simp only[bK]
   have a9:(j:Int)<mD.length:=aD v;have A:j<mD.length:=by omega
   have b0:mD.length=24:=rfl;have a3:(mD.map fun w=>[AV.str w])[j]?=some [.str mD[j]]:=by rw[dM,aF A];rfl
   have b1:mD[j].length≤1000000:=by
    have : ∀w∈mD,w.length≤2:=by decide
    have:=this _ (bX A);omega
   refine aI ?_;refine aQ ?_;refine aC fun K a=>?_;refine aH ?_;simp only[RR,seval];simp only[p,o,O,P,a3,RR,seval];refine aO (Jo s mD[j] i hs b1 (by omega)) ?_;simp only[RR,seval];apply a;clear a K;refine aV ?_ ?_<;>intro v
   ·refine aC fun K a=>?_;refine aH ?_;simp only[RR,seval]
    simp only[o,l,O,P,a3,u,fX.row,kF,RR,seval];apply a;clear a K;refine aP ?_;simp only[bK,cL,aY,aK,bR,l,RR,seval];refine aZ.pure ?_;have z:mD.find? (Ae (s.drop i))=some mD[j]:=NT _ _ _ A M v;simp only[wI,a2,z,cQ];rfl
   refine aL ?_;simp only[bK,cL];refine aH ?_;simp only[RR,seval];simp only[P,RR,seval];rw[aS _ (by omega)];refine X (24 -(j+1)) _ _ (by omega) ⟨j+1,rfl,by omega, ?_,p,o,l,u,O,rfl⟩;rw[bW A,List.find?_append,M];simp [List.find?,v]
  refine cG ?_;simp only[bK,cL,reduceIte];have a9: ¬(j:Int)<mD.length:=aE v;have b0:mD.length=24:=rfl;have :j=24:=by omega
  subst this;exact a _ _ ⟨M,l,u⟩
 rintro f H ⟨M,l,u⟩;refine aC fun K a=>?_;refine aH ?_;simp only[RR,seval];simp only[l,u,fX.row,kF,RR,seval];apply a;clear a K;refine aP ?_;simp only[aY,aK,bR,l,RR,seval];refine aZ.pure ?_;simp only[wI,a2,M];rfl
def QW (c:Int):Bool:=decide (c=32)||decide (c=9)||decide (c=10)
def sL (c:UInt8):Bool:= !decide ((c.toNat:Int)=10)
def oO:List UInt8→Nat→Nat→Except (Nat×Int) (List fX)
 |[],_,_=> .ok []
 |_::r,k+1,i=>oO r k (i+1)
 |c::r,0,i=>
  if QW c.toNat then oO r 0 (i+1)
  else if Ae (c::r) [47,47]then oO r (((c::r).takeWhile sL).length- 1) (i+1)
  else if(iD (c::r)).2=0 then(oO r ((iD (c::r)).1.text.length - 1) (i+1)).map ({(iD (c::r)).1 with pos:=i}:: ·)
  else .error (i,(iD (c::r)).2)
theorem Cc: ∀(s:List UInt8) (k i:Nat),oO s k i=oO (s.drop k) 0 (i+k)
 |[],k,i=>by cases k<;>simp [oO]
 |c::r,0,i=>by simp
 |c::r,k+1,i=>by
  simp only[oO,jW];rw[Cc r k (i+1)];congr 1;omega
def VK:Except (Nat×Int) (List fX)→AV
 | .ok l=> .tup [WR 4 (l.map fX.row), .int .i64 0, .int .i64 0]
 | .error (i,e)=> .tup [.nsl, .int .i64 i, .int .i64 e]
def Cb (s:List UInt8):Except (Nat×Int) (List fX):=if 20000<s.length then .error (0,2)else oO s 0 0
def xZ (l:List fX) (x:Except (Nat×Int) (List fX)):Except (Nat×Int) (List fX):=x.map (l++ ·)
theorem ME (x:Except (Nat×Int) (List fX)):xZ [] x=x:=by cases x<;>rfl
theorem HK (l:List fX) (t:fX) (x:Except (Nat×Int) (List fX)):xZ l (x.map (t:: ·))=xZ (l++[t]) x:=by cases x<;>simp [xZ,Except.map]
theorem H6 {s:List UInt8} (j:s≠[]) (h:(iD s).2=0):0<(iD s).1.text.length:=by
 cases s with
 |nil=>exact absurd rfl j
 |cons c r=>
  simp only[iD]at *;split at h
  ·rename_i hd
   rw[bD hd];simp only[zB]at *;split at h
   ·rename_i n e;have :Lt c=true:=hd;simp [List.takeWhile,this]
   exact absurd h (by decide)
  rename_i hd;rw[aJ hd];split at h
  ·rename_i b
   rw[bD b];rw[uW]at *;split at h
   ·rename_i k l;split at h
    ·rename_i d;simp only[d,cQ];simp
    exact absurd h (by decide)
   exact absurd h (by decide)
  rename_i b;rw[aJ b];split at h
  ·rename_i a
   rw[bD a]
   have i:0<((c::r).takeWhile xO).length:=by
    have :xO c=true:=by simp [xO,QJ,a]
    simp only[List.takeWhile,this];simp
   simp only[Px]at *;split at h
   ·exact absurd h (by decide)
   rename_i g;rw[aJ g];split<;>exact i
  rename_i a;rw[aJ a];split at h
  ·rename_i w e
   have:=List.mem_of_find?_eq_some e;have f: ∀w∈mD,0<w.length:=by decide
   exact f w this
  exact absurd h (by decide)
theorem Qk (s:List UInt8):(iD s).1.text.length≤s.length:=by
 cases s with
 |nil=>simp [iD,kF]
 |cons c r=>
  simp only[iD];split
  ·simp only[zB]
   split
   ·exact lA _ _
   simp [kF]
  split
  ·rw[uW]
   split
   ·split
    ·rename_i d a _
     have:=(bF.1 a).1;simp only[dV];omega
    simp [kF]
   simp [kF]
  split
  ·simp only[Px]
   split
   ·simp [kF]
   split<;>exact lA _ _
  split
  ·rename_i w e
   have h:=List.find?_some e;have b:(c::r).take w.length=w:=aD h;have:=congrArg List.length b;rw[dV]at this;simp only;omega
  simp [kF]
def lH:List UInt8→Nat→Nat
 |[],_=>0
 |_::r,k+1=>lH r k+1
 |c::r,0=>if QW c.toNat then lH r 0+1 else if Ae (c::r) [47,47]then lH r (((c::r).takeWhile sL).length- 1)+1 else 0
theorem yY: ∀(s:List UInt8) (k:Nat),k≤s.length→lH s k=lH (s.drop k) 0+k
 |[],k,h=>by simp at h;subst h;rfl
 |c::r,0,_=>by simp
 |c::r,k+1,h=>by
  simp only[lH,jW];rw[yY r k (by simpa using h)];omega
theorem En {c:UInt8} {r:List UInt8} (h:Ae (c::r) [47,47]=true):1≤((c::r).takeWhile sL).length:=by
 have :(c::r).take 2=[47,47]:=aD h;simp only[gV,List.cons.injEq]at this;have a:sL c=true:=by rw[this.1];rfl
 simp only[List.takeWhile,a];simp
theorem Ic (n:Nat): ∀(s:List UInt8) (i:Nat),s.length≤n→lH s 0≤s.length∧oO s 0 i=oO (s.drop (lH s 0)) 0 (i+lH s 0)∧(∀c r,s.drop (lH s 0)=c::r→QW c.toNat=false∧Ae (c::r) [47,47]=false):=by
 induction n with
 |zero=>
  intro s i h
  cases s with
  |nil=>exact⟨by simp [lH],by simp [lH],fun c r e=>by simp at e⟩
  |cons=>simp at h
 |succ n ih=>
  intro s i h
  cases s with
  |nil=>exact⟨by simp [lH],by simp [lH],fun c r e=>by simp at e⟩
  |cons c r=>
   simp only[aM]at h
   cases hw:QW c.toNat with
   |true=>
    obtain⟨f,a,b⟩:=ih r (i+1) (by omega);simp only[lH,hw,cQ,oO,aM,jW];refine⟨by omega, ?_,b⟩;rw[a];congr 1;omega
   |false=>
    cases hp:Ae (c::r) [47,47]with
    |true=>
     have k:=En hp;have j:=lA sL (c::r);simp only[aM]at j;simp only[lH,hw,hp,cQ,dC,cF,oO,aM];rw[Cc,yY _ _ (by omega)];obtain⟨f,a,b⟩:=ih (r.drop (((c::r).takeWhile sL).length- 1)) (i+1+(((c::r).takeWhile sL).length- 1)) (by rw[fL];omega);rw[fL]at f;rw[List.drop_drop]at a b;refine⟨by omega, ?_, ?_⟩
     ·rw[a,jW]
      congr 1
      ·congr 1;omega
      omega
     intro d g e;rw[jW]at e;refine b d g ?_;rw[←e];congr 1;omega
    |false=>
     simp only[lH,hw,hp,dC,cF];refine⟨by omega,by simp,fun d g e=>?_⟩;simp only[dN,List.cons.injEq]at e;rw[←e.1,←e.2];exact⟨hw,hp⟩
theorem Xi (s:List UInt8) (i:Nat) (T:s.length≤1000000) (O:i≤s.length):eH dP 97 [.str s, .int .i64 i] (.int .i64 ((i+lH (s.drop i) 0:Nat))):=by
 refine bY 46 [.tmp 4] func97 ?_;refine aC fun K b=>?_;refine aH ?_;simp only[RR,seval];apply b;clear b K;refine cN (fun f H=>f 1= .int .i64 ((i+lH (s.drop i) 0:Nat))) (fun K b=>?_) ?_
 ·refine aQ ?_
  refine eP (fun n f H=> ∃j:Nat,n=s.length-j∧j≤s.length∧f 0= .str s∧f 1= .int .i64 j∧i+lH (s.drop i) 0=j+lH (s.drop j) 0) (s.length-i) ⟨i,rfl,O,rfl,rfl,rfl⟩ ?_;rintro n f H ⟨j,rfl,E,d,a,x⟩ W C;refine aI ?_;refine aC fun K b=>?_;refine aH ?_;simp only[RR,seval];simp only[d,a,RR,seval];apply b;clear b K;refine aV ?_ ?_<;>intro o
  ·have u:j<s.length:=by have:=aD o;omega
   have l:s[j]?=some s[j]:=aF u;have p:s.drop j=s[j]::s.drop (j+1):=bJ u;generalize s[j]=c at l p;refine aL ?_;simp only[bK];refine aQ ?_;refine aQ ?_;refine cN (fun f H=>f 10= .bool (QW c.toNat)∧f 0= .str s∧f 1= .int .i64 j) (fun K b=>?_) ?_
   ·refine aH ?_;simp only[RR,seval]
    simp only[d,a,l,RR,seval]
    repeat' ((refine cT (fun h=>?_) (fun h=>?_))<;>simp only[h,d,a,l,RR,seval])
    all_goals exact b _ _ ⟨by simp [upd,QW, *],d,a⟩
   rintro f H ⟨F,d,a⟩;refine dY _ F (fun z=>?_) (fun z=>?_)
   ·refine aH ?_;simp only[RR,seval]
    simp only[a,cL,RR,seval];rw[aS _ (by omega)];refine C (s.length-(j+1)) _ _ (by omega) ⟨j+1,rfl,by omega,d,rfl, ?_⟩;rw[x,p];simp only[lH,z,cQ];omega
   refine aC fun K b=>?_;refine aH ?_;simp only[RR,seval];simp only[d,a,seval];refine aO (Jo s _ j T (by decide) E) ?_;simp only[RR,seval];apply b;clear b K;refine aV ?_ ?_<;>intro v
   ·have Q:=lA sL (s.drop j)
    rw[fL]at Q;refine aQ ?_;refine eP (fun n f H=> ∃k:Nat,n=s.length-k∧k≤s.length∧f 0= .str s∧f 1= .int .i64 k∧j+((s.drop j).takeWhile sL).length=k+((s.drop k).takeWhile sL).length) (s.length-j) ⟨j,rfl,E,d,a,rfl⟩ ?_;rintro n f H ⟨k,rfl,P,d,a,y⟩ X J;refine aI ?_;refine cN (fun A V=> ∃t,A 42= .bool t∧A 0= .str s∧A 1= .int .i64 k∧(t=true→ ∃c,s[k]?=some c∧sL c=true)∧(t=false→ ∀c,s[k]?=some c→sL c=false)) (fun K b=>?_) ?_
    ·refine aH ?_;simp only[RR,seval]
     simp only[d,a,RR,seval];refine fH (fun h=>?_) (fun h=>?_)
     ·have G:(k:Int)<s.length:=aD h
      have u:k<s.length:=by omega
      have l:s[k]?=some s[k]:=aF u;generalize s[k]=e at l;simp only[h,d,a,l,RR,seval]
      repeat' ((refine cT (fun h=>?_) (fun h=>?_))<;>simp only[h,d,a,l,RR,seval])
      refine b _ _ ⟨_,rfl,d,a, ?_, ?_⟩
      ·intro g;exact⟨e,l,g⟩
      intro g Y D;rw[l]at D;cases D;exact g
     simp only[h,RR,seval];refine b _ _ ⟨_,rfl,d,a, ?_, ?_⟩
     ·intro g;cases g
     intro _ c o;have G: ¬(k:Int)<s.length:=aE h;rw[dT (by omega)]at o;cases o
    rintro f H ⟨t,I,d,a,U,N⟩;refine dY _ I (fun o=>?_) (fun o=>?_)
    ·refine aL ?_;simp only[bK]
     obtain⟨e,l,M⟩:=U o;obtain⟨u,L⟩:=bF.1 l;have B:s.drop k=e::s.drop (k+1):=by rw[bJ u,L]
     rw[B]at y;simp only[List.takeWhile,M,aM]at y;refine aQ ?_;refine aH ?_;simp only[RR,seval];simp only[a,RR,seval];rw[aS _ (by omega)];exact J (s.length-(k+1)) _ _ (by omega) ⟨k+1,rfl,by omega,d,rfl,by omega⟩
    refine cG ?_;simp only[bK,cL,reduceIte,Nat.reduceEqDiff]
    have S:(s.drop k).takeWhile sL=[]:=by
     cases B:s.drop k with
     |nil=>rfl
     |cons e r=>
      have :s[k]?=some e:=by
       have:=dW (xs:=s) (i:=k) (j:=0);rw[B]at this;simpa using this.symm
      simp only[List.takeWhile,N o e this]
    rw[S]at y;simp only[aU,mV]at y;rw[p]at v;have R:=En v;rw[←p]at R;refine C (s.length-k) _ _ (by omega) ⟨k,rfl,P,d,a, ?_⟩;rw[x]
    conv=>lhs;rw[p]
    simp only[lH,z,v,cQ,dC,cF];rw[←p,yY _ _ (by rw[fL];omega),List.drop_drop,show j+1+(((s.drop j).takeWhile sL).length- 1)=k by omega];omega
   refine aC fun K b=>?_;refine aH ?_;simp only[RR,seval];simp only[a,seval];apply b;clear b K;refine aP ?_;simp only[bK,cL,aY,aK,bR,RR,seval];refine aZ.pure ?_;rw[x,p];rw[p]at v;simp only[lH,z,v,dC,cF];simp
  refine cG ?_;simp only[bK,cL,reduceIte];have :j=s.length:=by have:=aE o;omega
  subst this;rw[dB]at x;apply b;rw[x];exact a
 intro f H a;refine aC fun K b=>?_;refine aH ?_;simp only[RR,seval];simp only[a,seval];apply b;clear b K;refine aP ?_;simp only[aY,aK,bR,RR,seval];refine aZ.pure ?_;rfl
theorem Xd (s:List UInt8) (F:s.length≤1000000):eH dP 64 [.str s] (VK (Cb s)):=by
 refine bY 40 [.tmp 2, .tmp 3, .tmp 4] func64 ?_;refine aC fun K d=>?_;refine aH ?_;simp only[RR,seval];apply d;clear d K;refine aI ?_;refine aC fun K d=>?_;refine aH ?_;simp only[RR,seval];apply d;clear d K;refine aV ?_ ?_<;>intro k
 ·have h:20000<s.length:=by have:=aD k;omega
  refine aC fun K d=>?_;refine aH ?_;simp only[RR,seval];apply d;clear d K;refine aP ?_;simp only[bK,aY,aK,bR,RR,seval];refine aZ.pure ?_;simp [Cb,h,VK]
 have h: ¬20000<s.length:=by have:=aE k;omega
 have I:Cb s=oO s 0 0:=aJ h;refine aL ?_;simp only[bK];refine aC fun K d=>?_;refine aH ?_;simp only[RR,seval];apply d;clear d K;have M:=Xi s 0 F (by omega);obtain⟨a9,N,Y⟩:=Ic s.length s 0 (bH _);simp only[dN,bV]at M N;refine aC fun K d=>?_;refine aH ?_;simp only[RR,seval];refine aO M ?_;simp only[RR,seval];apply d;clear d K;refine cN (fun j H=> ∃l:List fX,oO s 0 0= .ok l∧Lm 4 (j 5) (l.map fX.row) H) (fun K d=>?_) ?_
 ·refine aQ ?_
  refine eP (fun n j H=> ∃(a:Nat) (l:List fX),n=s.length-a∧a≤s.length∧oO s 0 0=xZ l (oO (s.drop a) 0 a)∧(∀c r,s.drop a=c::r→QW c.toNat=false∧Ae (c::r) [47,47]=false)∧l.length≤a∧j 0= .str s∧Lm 4 (j 5) (l.map fX.row) H∧j 6= .int .i64 a) (s.length-lH s 0) ⟨lH s 0,[],rfl,by omega,by rw[ME];exact N,Y,by simp,rfl, .inl ⟨rfl,rfl⟩,rfl⟩ ?_;rintro n j H ⟨a,l,rfl,ha,D,a1,a8,v,f,x⟩ K2 S;refine aI ?_;refine aC fun K d=>?_;refine aH ?_;simp only[RR,seval];simp only[v,x,RR,seval];apply d;clear d K;refine aV ?_ ?_<;>intro k
  ·have C:a<s.length:=by have:=aD k;omega
   have B:s.drop a=s[a]::s.drop (a+1):=bJ C;generalize s[a]=c at B;obtain⟨a6,W⟩:=a1 _ _ B
   have G:oO (s.drop a) 0 a=if(iD (s.drop a)).2=0 then(oO (s.drop (a+1)) ((iD (s.drop a)).1.text.length - 1) (a+1)).map ({(iD (s.drop a)).1 with pos:=a}:: ·)else .error (a,(iD (s.drop a)).2):=by
    rw[B];simp only[oO,a6,W,dC,cF]
   have u:=IB s a F C;have J:=Qk (s.drop a);rw[fL]at J;have Q:=H6 (s:=s.drop a) (by rw[B];simp);simp only[wI]at u;refine aL ?_;simp only[bK];refine aQ ?_;generalize iD (s.drop a)=p at *;obtain⟨t,e⟩:=p;simp only at G J Q u
   have a0: ∃i,(if e=0 then(({t with pos:=(a:Int)}:fX),(0:Int))else(kF,e))=(i,e)∧(e=0→i={t with pos:=(a:Int)}):=by
    by_cases g:e=0
    ·exact⟨_,by rw[bD g,g],fun _=>rfl⟩
    exact⟨kF,aJ g,fun h=>absurd h g⟩
   obtain⟨i,a2,a3⟩:=a0;rw[a2]at u;simp only[GA]at u;refine aC fun K d=>?_;refine aH ?_;simp only[RR,seval];simp only[v,x,seval];refine aO u ?_;simp only[fX.row,RR,seval];refine aN fun b T=>?_;simp only[RR,seval];apply d;clear d K
   have L: ∀o,j 5= .osl 4 o (l.map fX.row).length→o≠b:=fun o e R=>by
    rcases f with⟨f,_⟩|⟨_,a7,y,z⟩
    ·rw[f]at e;cases e
    rw[y]at e;cases e;rw[R,T]at z;cases z
   have E:Lm 4 (j 5) (l.map fX.row) (upd (upd H b (some (.rows 4 [[.int .i64 0, .str [], .int .u32 0, .int .i64 0]]))) b (some (.rows 4 [i.row]))):=by
    rcases f with f|⟨f,o,y,z⟩
    ·exact .inl f
    exact .inr ⟨f,o,y,by simp [upd,L o y,z]⟩
   have A:(upd (upd H b (some (.rows 4 [[.int .i64 0, .str [], .int .u32 0, .int .i64 0]]))) b (some (.rows 4 [i.row]))) b=some (.rows 4 [i.row]):=bC _ _ _;simp only[fX.row]at E A;generalize(upd (upd H b (some (.rows 4 [[.int .i64 0, .str [], .int .u32 0, .int .i64 0]]))) b (some (.rows 4 [[AV.int .i64 i.kind, .str i.text, .int .u32 i.num, .int .i64 i.pos]])))=H1 at E A⊢;refine aI ?_;refine aC fun K d=>?_;refine aH ?_;simp only[RR,seval];apply d;clear d K;refine aV ?_ ?_<;>intro k
   ·have g: ¬e=0:=by simpa using k
    refine aC fun K d=>?_;refine aH ?_;simp only[RR,seval];simp only[x,seval];apply d;clear d K;refine aP ?_;simp only[bK,cL,aY,aK,bR,RR,seval];refine aZ.pure ?_;rw[I,D,G,aJ g];rfl
   have g:e=0:=by simpa using k
   have a4:=a3 g;subst a4;refine aL ?_;simp only[bK];refine aC fun K d=>?_;refine aH ?_;simp only[RR,seval];simp only[A,RR,seval];refine dO ?_;simp only[RR,seval];refine jU (rows:=l.map fX.row) E.own (by simp only[aG,aM,aU];omega) (fun _=>trivial) fun v' H' a5 V=>?_;have U:=V b _ A (fun e=>L b e rfl);simp only[RR,seval];apply d;clear d K;have b0:=Q g;have X:=Xi s (a+t.text.length) F (by omega);obtain⟨Z,O,P⟩:=Ic s.length (s.drop (a+t.text.length)) (a+t.text.length) (by rw[fL];omega);rw[fL]at Z;rw[List.drop_drop]at O P;refine aH ?_;simp only[RR,seval];simp only[v,x,U,RR,seval];rw[aS _ (by omega)];refine aO X ?_;simp only[RR,seval];refine S (s.length-(a+t.text.length+lH (s.drop (a+t.text.length)) 0)) _ _ (by omega) ⟨a+t.text.length+lH (s.drop (a+t.text.length)) 0,l++[{t with pos:=a}],rfl,by omega, ?_,P, ?_,v, ?_,rfl⟩
   ·rw[D,G,bD g,HK,Cc,List.drop_drop,show a+1+(t.text.length- 1)=a+t.text.length by omega,O]
   ·simp only[aB,aM,aU];omega
   refine eB.ne ?_ (by simp);rw[cO];exact a5
  refine cG ?_;simp only[bK,cL,reduceIte];have :a=s.length:=by have:=aE k;omega
  subst this;rw[dB]at D;exact d _ _ ⟨l,by rw[D];simp [oO,xZ,Except.map],f⟩
 rintro j H ⟨l,C,f⟩;refine aC fun K d=>?_;refine aH ?_;simp only[RR,seval];apply d;clear d K;refine aP ?_;simp only[aY,aK,bR,RR,seval];refine Lm.gives f ?_;rw[I,C];rfl
inductive PR (α:Type) where
 |ok (a:α) (n:Nat)
 |bad (n:Nat)
def PR.bind {α β:Type}:PR α→(α→Nat→PR β)→PR β
 | .ok a n,f=>f a n
 | .bad n,_=> .bad n
@[simp] theorem PR.bind_ok {α β : Type} (a : α) (n : Nat) (f : α → Nat → PR β) : (PR.ok a n).bind f = f a n := rfl
@[simp] theorem PR.bind_bad {α β : Type} (n : Nat) (f : α → Nat → PR β) : (PR.bad n : PR α).bind f = .bad n := rfl
theorem PR.bind_eq_ok {c d:Type} {x:PR c} {f:c→Nat→PR d} {b:d} {m:Nat} (h:x.bind f= .ok b m): ∃a n,x= .ok a n∧f a n= .ok b m:=by
 cases x with
 |ok a n=>exact⟨a,n,rfl,h⟩
 |bad n=>cases h
section
variable (T : List fX)
def eC (n:Nat):dD:=match T[n]? with
 |some t=>if t.kind=3∨t.kind=4 then t.text else []
 |none=>[]
def nS (n:Nat):Int:=match T[n]? with
 |some t=>t.kind
 |none=>0
def fB (s:dD) (n:Nat):PR Unit:=if eC T n=s then .ok () (n+1)else .bad n
def kH (k:Int) (n:Nat):PR fX:=match T[n]? with
 |some t=>if t.kind=k then .ok t (n+1)else .bad n
 |none=> .bad n
def Nk:List (dD×Int×Int×Nat)→dD→Int×Int×Nat
 |[],_=>(0,0,0)
 |(w,r)::l,s=>if s=w then r else Nk l s
def TT:List (dD×Int×Int×Nat):=[([124,124],9,0,1),([38,38],8,0,2),([61,61],6,15,3),([60],6,14,4),([124],6,10,5),([94],6,11,5),([38],6,9,6),([60,60],6,12,7),([62,62],6,13,7),
 ([43],6,4,8),([45],6,5,8),([42],6,6,9),([47],6,7,9),([37],6,8,9)]
def Dx (s:dD):Int×Int×Nat:=Nk TT s
def Io (s:dD) (a b:Ex):Ex:= .mk (Dx s).1 (Dx s).2.1 0 [] [a,b]
mutual
def rU:Nat→Nat→PR Ex
 |0,n=> .bad n
 |f+1,n=>
  if nS T n=2 then(kH T 2 n).bind fun t m=> .ok (.mk 1 0 t.num [] []) m
  else if eC T n=[103,101,116]then(fB T [40] (n+1)).bind fun _ m=>(fB T [41] m).bind fun _ m=> .ok (.mk 5 0 0 [] []) m
  else if eC T n=[40]then(pK f 1 (n+1)).bind fun e m=>(fB T [41] m).bind fun _ m=> .ok e m
  else if eC T n=[33]then(rU f (n+1)).bind fun e m=> .ok (.mk 7 0 0 [] [e]) m
  else(kH T 1 n).bind fun t m=>
   if eC T m=[91]then(pK f 1 (m+1)).bind fun e m=>(fB T [93] m).bind fun _ m=> .ok (.mk 3 0 0 t.text [e]) m
   else if eC T m=[40]then(sP f (m+1)).bind fun l m=> .ok (.mk 4 0 0 t.text l) m
   else .ok (.mk 2 0 0 t.text []) m
def pK:Nat→Nat→Nat→PR Ex
 |0,_,n=> .bad n
 |f+1,lo,n=>(rU f n).bind fun e m=>sM f lo e m
def sM:Nat→Nat→Ex→Nat→PR Ex
 |0,_,_,n=> .bad n
 |f+1,lo,e,n=>if(Dx (eC T n)).2.2<lo then .ok e n
  else(pK f ((Dx (eC T n)).2.2+1) (n+1)).bind fun e2 m=>sM f lo (Io (eC T n) e e2) m
def sP:Nat→Nat→PR (List Ex)
 |0,n=> .bad n
 |f+1,n=>if eC T n=[41]then .ok [] (n+1)else(pK f 1 n).bind fun e m=>sQ f [e] m
def sQ:Nat→List Ex→Nat→PR (List Ex)
 |0,_,n=> .bad n
 |f+1,acc,n=>if eC T n=[44]then(pK f 1 (n+1)).bind fun e m=>sQ f (acc++[e]) m
  else(fB T [41] n).bind fun _ m=> .ok acc m
end
end
variable {T : List fX}
theorem oJ {n:Nat} {s:dD} (h:eC T n=s) (b:s≠[]):n<T.length:=by
 by_cases a:n<T.length
 ·exact a
 rw[eC,dT (by omega)]at h;exact absurd h.symm b
theorem MS {n:Nat} {k:Int} (h:nS T n=k) (a:k≠0):n<T.length:=by
 by_cases b:n<T.length
 ·exact b
 rw[nS,dT (by omega)]at h;exact absurd h.symm a
theorem RH:Dx []=(0,0,0):=by decide
theorem GY (k:Nat) (s:dD): ∀l:List (dD×Int×Int×Nat),(∀x∈l,x.2.2.2≤k)→(Nk l s).2.2≤k
 |[],_=>cK _
 |x::l,h=>by
  obtain⟨w,r⟩:=x;rw[Nk];split
  ·exact h _ (dU)
  exact GY k s l fun y a=>h y (fC _ a)
theorem UT (s:dD):(Dx s).2.2≤9:=GY 9 s TT (by decide)
theorem O5 {n lo:Nat} (h: ¬(Dx (eC T n)).2.2<lo) (a:1≤lo):n<T.length:=by
 refine oJ rfl fun e=>h ?_;rw[e,RH];exact a
theorem fD {s:dD} {n m:Nat} {u:Unit} (h:fB T s n= .ok u m) (a:s≠[]):m=n+1∧n<T.length∧eC T n=s:=by
 unfold fB at h;split at h
 ·rename_i e;cases h;exact⟨rfl,oJ e a,e⟩
 cases h
theorem kK {k:Int} {n m:Nat} {t:fX} (h:kH T k n= .ok t m):m=n+1∧n<T.length∧T[n]?=some t∧t.kind=k:=by
 unfold kH at h;split at h
 ·rename_i b e
  split at h
  ·rename_i a;cases h;exact⟨rfl,(bF.1 e).1,e,a⟩
  cases h
 cases h
theorem far (f:Nat):(∀n e m,rU T f n= .ok e m→n<m∧m≤T.length)∧(∀o n e m,pK T f o n= .ok e m→n<m∧m≤T.length)∧
  (∀o u n e m,n≤T.length→sM T f o u n= .ok e m→n≤m∧m≤T.length)∧(∀n l m,sP T f n= .ok l m→n<m∧m≤T.length)∧
  (∀p n l m,sQ T f p n= .ok l m→n<m∧m≤T.length):=by
 induction f with
 |zero=>exact⟨fun _ _ _ h=>by simp [rU]at h,fun _ _ _ _ h=>by simp [pK]at h,fun _ _ _ _ _ _ h=>by simp [sM]at h,fun _ _ _ h=>by simp [sP]at h,fun _ _ _ _ h=>by simp [sQ]at h⟩
 |succ f ih=>
  obtain⟨v,k,y,D,z⟩:=ih;refine⟨fun n e m h=>?_,fun o n e m h=>?_,fun o u n e m E h=>?_,fun n l m h=>?_,fun p n l m h=>?_⟩
  ·rw[rU]at h
   split at h
   ·obtain⟨t,a,g,b⟩:=PR.bind_eq_ok h
    have:=kK g;cases b;omega
   split at h
   ·obtain⟨_,a,g,b⟩:=PR.bind_eq_ok h
    obtain⟨_,c,i,j⟩:=PR.bind_eq_ok b;have:=fD g (by decide);have:=fD i (by decide);cases j;omega
   split at h
   ·obtain⟨x,a,g,b⟩:=PR.bind_eq_ok h
    obtain⟨_,c,i,j⟩:=PR.bind_eq_ok b;have:=k _ _ _ _ g;have:=fD i (by decide);cases j;omega
   split at h
   ·obtain⟨x,a,g,b⟩:=PR.bind_eq_ok h
    have:=v _ _ _ g;cases b;omega
   obtain⟨t,a,g,b⟩:=PR.bind_eq_ok h;have:=kK g;split at b
   ·obtain⟨x,c,i,j⟩:=PR.bind_eq_ok b
    obtain⟨_,d,A,B⟩:=PR.bind_eq_ok j;have:=k _ _ _ _ i;have:=fD A (by decide);cases B;omega
   split at b
   ·obtain⟨x,c,i,j⟩:=PR.bind_eq_ok b
    have:=D _ _ _ i;cases j;omega
   cases b;omega
  ·rw[pK]at h
   obtain⟨x,a,g,b⟩:=PR.bind_eq_ok h;have:=v _ _ _ g;have:=y _ _ _ _ _ this.2 b;omega
  ·rw[sM]at h
   split at h
   ·cases h;omega
   obtain⟨x,a,g,b⟩:=PR.bind_eq_ok h;have:=k _ _ _ _ g;have:=y _ _ _ _ _ this.2 b;omega
  ·rw[sP]at h
   split at h
   ·rename_i C
    have:=oJ C (by decide);cases h;omega
   obtain⟨x,a,g,b⟩:=PR.bind_eq_ok h;have:=k _ _ _ _ g;have:=z _ _ _ _ b;omega
  rw[sQ]at h;split at h
  ·obtain⟨x,a,g,b⟩:=PR.bind_eq_ok h
   have:=k _ _ _ _ g;have:=z _ _ _ _ b;omega
  obtain⟨_,a,g,b⟩:=PR.bind_eq_ok h;have:=fD g (by decide);cases b;omega
theorem PR.bind_congr {b d:Type} {x y:PR b} {f g:b→Nat→PR d} (h:x=y) (c: ∀a n,x= .ok a n→f a n=g a n):x.bind f=y.bind g:=by
 subst h
 cases x with
 |ok a n=>exact c a n rfl
 |bad n=>rfl
theorem X7 (f:Nat):(∀n,4 *(T.length-n)+1≤f→rU T f n=rU T (f+1) n)∧(∀b n,1≤b→4 *(T.length-n)+2≤f→pK T f b n=pK T (f+1) b n)∧
  (∀b k n,1≤b→n≤T.length→4 *(T.length-n)+1≤f→sM T f b k n=sM T (f+1) b k n)∧(∀n,4 *(T.length-n)+3≤f→sP T f n=sP T (f+1) n)∧
  (∀j n,4 *(T.length-n)+1≤f→sQ T f j n=sQ T (f+1) j n):=by
 induction f with
 |zero=>exact⟨fun _ h=>by omega,fun _ _ _ h=>by omega,fun _ _ _ _ _ h=>by omega,fun _ h=>by omega,fun _ _ h=>by omega⟩
 |succ f ih=>
  obtain⟨o,e,p,z,u⟩:=ih;obtain⟨v,l,A,B,C⟩:=far (T:=T) f;refine⟨fun n i=>?_,fun b n g i=>?_,fun b k n g D i=>?_,fun n i=>?_,fun j n i=>?_⟩
  ·rw[rU,rU]
   split
   ·rfl
   split
   ·rfl
   split
   ·rename_i d
    have:=oJ d (by decide);rw[e 1 (n+1) (by omega) (by omega)]
   split
   ·rename_i d
    have:=oJ d (by decide);rw[o (n+1) (by omega)]
   refine PR.bind_congr rfl fun t a c=>?_;have:=kK c;split
   ·rename_i d
    have:=oJ d (by decide);rw[e 1 (a+1) (by omega) (by omega)]
   split
   ·rename_i d
    have:=oJ d (by decide);rw[z (a+1) (by omega)]
   rfl
  ·rw[pK,pK]
   refine PR.bind_congr (o n (by omega)) fun x a c=>?_;have:=v _ _ _ c;exact p b x a g (by omega) (by omega)
  ·rw[sM,sM]
   split
   ·rfl
   rename_i y;have:=O5 y g;refine PR.bind_congr (e _ (n+1) (by omega) (by omega)) fun x a c=>?_;have:=l _ _ _ _ c;exact p b _ a g (by omega) (by omega)
  ·rw[sP,sP]
   split
   ·rfl
   refine PR.bind_congr (e 1 n (by omega) (by omega)) fun x a c=>?_;have:=l _ _ _ _ c;exact u _ a (by omega)
  rw[sQ,sQ];split
  ·rename_i d
   have:=oJ d (by decide);refine PR.bind_congr (e 1 (n+1) (by omega) (by omega)) fun x a c=>?_;have:=l _ _ _ _ c;exact u _ a (by omega)
  rfl
variable (T)
def tX (n:Nat):PR Ex:=rU T (4 *T.length+5) n
def kO (lo n:Nat):PR Ex:=pK T (4 *T.length+5) lo n
def wL (lo:Nat) (e:Ex) (n:Nat):PR Ex:=sM T (4 *T.length+5) lo e n
def vP (n:Nat):PR (List Ex):=sP T (4 *T.length+5) n
def Zj (acc:List Ex) (n:Nat):PR (List Ex):=sQ T (4 *T.length+5) acc n
theorem KH (n:Nat):tX T n=
  if nS T n=2 then(kH T 2 n).bind fun t m=> .ok (.mk 1 0 t.num [] []) m
  else if eC T n=[103,101,116]then(fB T [40] (n+1)).bind fun _ m=>(fB T [41] m).bind fun _ m=> .ok (.mk 5 0 0 [] []) m
  else if eC T n=[40]then(kO T 1 (n+1)).bind fun e m=>(fB T [41] m).bind fun _ m=> .ok e m
  else if eC T n=[33]then(tX T (n+1)).bind fun e m=> .ok (.mk 7 0 0 [] [e]) m
  else(kH T 1 n).bind fun t m=>
   if eC T m=[91]then(kO T 1 (m+1)).bind fun e m=>(fB T [93] m).bind fun _ m=> .ok (.mk 3 0 0 t.text [e]) m
   else if eC T m=[40]then(vP T (m+1)).bind fun l m=> .ok (.mk 4 0 0 t.text l) m
   else .ok (.mk 2 0 0 t.text []) m:=by
 obtain⟨d,f,i,g,j⟩:=X7 (T:=T) (4 *T.length+4);rw[tX,rU];have a: ∀n,rU T (4 *T.length+4) n=tX T n:=fun n=>d n (by omega);have b: ∀n,pK T (4 *T.length+4) 1 n=kO T 1 n:=fun n=>f 1 n (bH 1) (by omega);have c: ∀n,sP T (4 *T.length+4) n=vP T n:=fun n=>g n (by omega);simp only[a,b,c]
theorem Aj (lo n:Nat) (c:1≤lo):kO T lo n=(tX T n).bind fun e m=>wL T lo e m:=by
 obtain⟨d,g,f,i,j⟩:=X7 (T:=T) (4 *T.length+4);obtain⟨b,_⟩:=far (T:=T) (4 *T.length+4);rw[kO,pK];refine PR.bind_congr (d n (by omega)) fun x a h=>?_;exact f lo x a c (b _ _ _ h).2 (by omega)
theorem tL (lo:Nat) (e:Ex) (n:Nat) (d:1≤lo):wL T lo e n=if(Dx (eC T n)).2.2<lo then .ok e n
  else(kO T ((Dx (eC T n)).2.2+1) (n+1)).bind fun b m=>wL T lo (Io (eC T n) e b) m:=by
 obtain⟨i,f,g,j,k⟩:=X7 (T:=T) (4 *T.length+4);obtain⟨_,c,_⟩:=far (T:=T) (4 *T.length+4);rw[wL,sM];split
 ·rfl
 refine PR.bind_congr (f _ _ (by omega) (by omega)) fun x a h=>?_;exact g lo _ a d (c _ _ _ _ h).2 (by omega)
theorem KL (n:Nat):vP T n=if eC T n=[41]then .ok [] (n+1)else(kO T 1 n).bind fun e m=>Zj T [e] m:=by
 obtain⟨d,b,f,g,c⟩:=X7 (T:=T) (4 *T.length+4);rw[vP,sP];split
 ·rfl
 exact PR.bind_congr (b _ _ (by omega) (by omega)) fun x a h=>c _ a (by omega)
theorem KN (b:List Ex) (n:Nat):Zj T b n=if eC T n=[44]then(kO T 1 (n+1)).bind fun e m=>Zj T (b++[e]) m
  else(fB T [41] n).bind fun _ m=> .ok b m:=by
 obtain⟨f,c,g,i,d⟩:=X7 (T:=T) (4 *T.length+4);rw[Zj,sQ];split
 ·exact PR.bind_congr (c _ _ (by omega) (by omega)) fun x a h=>d _ a (by omega)
 rfl
variable {T}
theorem Rh {n m:Nat} {e:Ex} (h:tX T n= .ok e m):n<m∧m≤T.length:=(far _).1 _ _ _ h
theorem pP {lo n m:Nat} {e:Ex} (h:kO T lo n= .ok e m):n<m∧m≤T.length:=(far _).2.1 _ _ _ _ h
theorem BD {n m:Nat} {e:List Ex} (h:vP T n= .ok e m):n<m∧m≤T.length:=(far _).2.2.2.1 _ _ _ h
def V1:dD:=[118,97,114]
def B7:dD:=[97,114,114,97,121]
def zN:dD:=[102,117,110,99]
def sX:dD:=[119,111,114,100]
def XB:dD:=[105,102]
def CB:dD:=[101,108,115,101]
def B6:dD:=[119,104,105,108,101]
def Rn:dD:=[114,101,116,117,114,110]
def QY:dD:=[112,117,116]
section
variable (T : List fX)
def pN (n:Nat):PR (List Ex):=(fB T [40] n).bind fun _ m=>(kO T 1 m).bind fun e m=>(fB T [41] m).bind fun _ m=> .ok [e] m
def wK (n:Nat):PR Sm:=(kH T 1 n).bind fun t m=>
 (if eC T m=[61]then(kO T 1 (m+1)).bind fun e m=> .ok (.mk 1 t.text [e] [] []) m
  else if eC T m=[91]then(kO T 1 (m+1)).bind fun a m=>(fB T [93] m).bind fun _ m=>(fB T [61] m).bind fun _ m=>(kO T 1 m).bind fun e m=> .ok (.mk 2 t.text [a,e] [] []) m
  else if eC T m=[40]then(vP T (m+1)).bind fun l m=> .ok (.mk 6 t.text l [] []) m
  else .bad m:PR Sm).bind fun s m=>(fB T [59] m).bind fun _ m=> .ok s m
mutual
def tD:Nat→Nat→PR Sm
 |0,n=> .bad n
 |f+1,n=>
  if eC T n=QY then(pN T (n+1)).bind fun l m=>(fB T [59] m).bind fun _ m=> .ok (.mk 3 [] l [] []) m
  else if eC T n=Rn then(if eC T (n+1)=[59]then .ok (.mk 7 [] [] [] []) (n+2)else(kO T 1 (n+1)).bind fun e m=>(fB T [59] m).bind fun _ m=> .ok (.mk 7 [] [e] [] []) m)
  else if eC T n=XB then(pN T (n+1)).bind fun l m=>(qP f m).bind fun t m=>if eC T m=CB then(qP f (m+1)).bind fun u m=> .ok (.mk 4 [] l t u) m else .ok (.mk 4 [] l t []) m
  else if eC T n=B6 then(pN T (n+1)).bind fun l m=>(qP f m).bind fun t m=> .ok (.mk 5 [] l t []) m
  else wK T n
def qP:Nat→Nat→PR (List Sm)
 |0,n=> .bad n
 |f+1,n=>(fB T [123] n).bind fun _ m=>pC f [] m
def pC:Nat→List Sm→Nat→PR (List Sm)
 |0,_,n=> .bad n
 |f+1,acc,n=>if eC T n=[125]then .ok acc (n+1)else(tD f n).bind fun s m=>pC f (acc++[s]) m
end
def A7:Nat→List dD→Nat→PR (List dD)
 |0,_,n=> .bad n
 |f+1,acc,n=>if eC T n=[44]then(kH T 1 (n+1)).bind fun t m=>A7 f (acc++[t.text]) m else .ok acc n
end
variable {T : List fX}
theorem tH {n m:Nat} {l:List Ex} (h:pN T n= .ok l m):n<m∧m≤T.length:=by
 unfold pN at h;obtain⟨_,a,b,f⟩:=PR.bind_eq_ok h;obtain⟨e,c,g,i⟩:=PR.bind_eq_ok f;obtain⟨_,d,j,k⟩:=PR.bind_eq_ok i;have:=fD b (by decide);have:=pP g;have:=fD j (by decide);cases k;omega
theorem X3 {n m:Nat} {s:Sm} (h:wK T n= .ok s m):n<m∧m≤T.length:=by
 unfold wK at h;obtain⟨t,a,u,v⟩:=PR.bind_eq_ok h;obtain⟨x,c,e,A⟩:=PR.bind_eq_ok v;obtain⟨_,d,B,C⟩:=PR.bind_eq_ok A;have:=kK u;have:=fD B (by decide)
 have :a<c:=by
  split at e
  ·obtain⟨y,b,f,g⟩:=PR.bind_eq_ok e
   have:=pP f;cases g;omega
  split at e
  ·obtain⟨y,b,f,g⟩:=PR.bind_eq_ok e
   obtain⟨_,D,i,j⟩:=PR.bind_eq_ok g;obtain⟨_,E,k,l⟩:=PR.bind_eq_ok j;obtain⟨z,F,o,p⟩:=PR.bind_eq_ok l;have:=pP f;have:=fD i (by decide);have:=fD k (by decide);have:=pP o;cases p;omega
  split at e
  ·obtain⟨y,b,f,g⟩:=PR.bind_eq_ok e
   have:=BD f;cases g;omega
  cases e
 cases C;omega
theorem NU (f:Nat):(∀n e m,tD T f n= .ok e m→n<m∧m≤T.length)∧(∀n l m,qP T f n= .ok l m→n<m∧m≤T.length)∧(∀p n l m,pC T f p n= .ok l m→n<m∧m≤T.length):=by
 induction f with
 |zero=>exact⟨fun _ _ _ h=>by simp [tD]at h,fun _ _ _ h=>by simp [qP]at h,fun _ _ _ _ h=>by simp [pC]at h⟩
 |succ f ih=>
  obtain⟨z,o,v⟩:=ih;refine⟨fun n e m h=>?_,fun n l m h=>?_,fun p n l m h=>?_⟩
  ·rw[tD]at h
   split at h
   ·obtain⟨l,a,b,g⟩:=PR.bind_eq_ok h
    obtain⟨_,c,j,i⟩:=PR.bind_eq_ok g;have:=tH b;have:=fD j (by decide);cases i;omega
   split at h
   ·split at h
    ·rename_i k
     have:=oJ k (by decide);cases h;omega
    obtain⟨l,a,b,g⟩:=PR.bind_eq_ok h;obtain⟨_,c,j,i⟩:=PR.bind_eq_ok g;have:=pP b;have:=fD j (by decide);cases i;omega
   split at h
   ·obtain⟨l,a,b,g⟩:=PR.bind_eq_ok h
    obtain⟨t,c,j,i⟩:=PR.bind_eq_ok g;have:=tH b;have:=o _ _ _ j;split at i
    ·obtain⟨u,d,x,y⟩:=PR.bind_eq_ok i
     have:=o _ _ _ x;cases y;omega
    cases i;omega
   split at h
   ·obtain⟨l,a,b,g⟩:=PR.bind_eq_ok h
    obtain⟨t,c,j,i⟩:=PR.bind_eq_ok g;have:=tH b;have:=o _ _ _ j;cases i;omega
   exact X3 h
  ·rw[qP]at h
   obtain⟨_,a,b,g⟩:=PR.bind_eq_ok h;have:=fD b (by decide);have:=v _ _ _ _ g;omega
  rw[pC]at h;split at h
  ·rename_i k
   have:=oJ k (by decide);cases h;omega
  obtain⟨s,a,b,g⟩:=PR.bind_eq_ok h;have:=z _ _ _ b;have:=v _ _ _ _ g;omega
theorem IE (f:Nat):(∀n,4 *(T.length-n)+1≤f→tD T f n=tD T (f+1) n)∧(∀n,4 *(T.length-n)+1≤f→qP T f n=qP T (f+1) n)∧(∀d n,4 *(T.length-n)+2≤f→pC T f d n=pC T (f+1) d n):=by
 induction f with
 |zero=>exact⟨fun _ h=>by omega,fun _ h=>by omega,fun _ _ h=>by omega⟩
 |succ f ih=>
  obtain⟨u,e,i⟩:=ih;obtain⟨j,k,v⟩:=NU (T:=T) f;refine⟨fun n g=>?_,fun n g=>?_,fun d n g=>?_⟩
  ·rw[tD,tD]
   split
   ·rfl
   split
   ·rfl
   split
   ·refine PR.bind_congr rfl fun l a b=>?_
    have:=tH b;refine PR.bind_congr (e a (by omega)) fun t c o=>?_;have:=k _ _ _ o;split
    ·rename_i p
     have:=oJ p (by decide);rw[e (c+1) (by omega)]
    rfl
   split
   ·refine PR.bind_congr rfl fun l a b=>?_
    have:=tH b;rw[e a (by omega)]
   rfl
  ·rw[qP,qP]
   refine PR.bind_congr rfl fun l a b=>?_;have:=fD b (by decide);exact i _ a (by omega)
  rw[pC,pC];split
  ·rfl
  refine PR.bind_congr (u n (by omega)) fun s a b=>?_;have:=j _ _ _ b;exact i _ a (by omega)
theorem XP (f:Nat): ∀b n l m,n≤T.length→A7 T f b n= .ok l m→n≤m∧m≤T.length:=by
 induction f with
 |zero=>intro _ _ _ _ _ h;simp [A7]at h
 |succ f ih=>
  intro b n l m e h;rw[A7]at h;split at h
  ·obtain⟨s,a,c,d⟩:=PR.bind_eq_ok h
   have:=kK c;have:=ih _ _ _ _ (by omega) d;omega
  cases h;omega
theorem VF (f:Nat): ∀b n,n≤T.length→(T.length-n)+1≤f→A7 T f b n=A7 T (f+1) b n:=by
 induction f with
 |zero=>intro _ _ _ h;omega
 |succ f ih=>
  intro b n d h;rw[A7,A7];split
  ·refine PR.bind_congr rfl fun t a c=>?_
   have:=kK c;exact ih _ _ (by omega) (by omega)
  rfl
variable (T)
def Hh (n:Nat):PR Sm:=tD T (4 *T.length+5) n
def Eo (n:Nat):PR (List Sm):=qP T (4 *T.length+5) n
def sT (acc:List Sm) (n:Nat):PR (List Sm):=pC T (4 *T.length+5) acc n
def TX (acc:List dD) (n:Nat):PR (List dD):=A7 T (T.length+2) acc n
def pE (n:Nat):PR (List dD):=(kH T 1 n).bind fun t m=>TX T [t.text] m
theorem GK (n:Nat):Hh T n=
  if eC T n=QY then(pN T (n+1)).bind fun l m=>(fB T [59] m).bind fun _ m=> .ok (.mk 3 [] l [] []) m
  else if eC T n=Rn then(if eC T (n+1)=[59]then .ok (.mk 7 [] [] [] []) (n+2)else(kO T 1 (n+1)).bind fun e m=>(fB T [59] m).bind fun _ m=> .ok (.mk 7 [] [e] [] []) m)
  else if eC T n=XB then(pN T (n+1)).bind fun l m=>(Eo T m).bind fun t m=>if eC T m=CB then(Eo T (m+1)).bind fun u m=> .ok (.mk 4 [] l t u) m else .ok (.mk 4 [] l t []) m
  else if eC T n=B6 then(pN T (n+1)).bind fun l m=>(Eo T m).bind fun t m=> .ok (.mk 5 [] l t []) m
  else wK T n:=by
 obtain⟨_,b,_⟩:=IE (T:=T) (4 *T.length+4);have a: ∀n,qP T (4 *T.length+4) n=Eo T n:=fun n=>b n (by omega);rw[Hh,tD];simp only[a]
theorem KD (n:Nat):Eo T n=(fB T [123] n).bind fun _ m=>sT T [] m:=by
 obtain⟨_,_,b⟩:=IE (T:=T) (4 *T.length+4);rw[Eo,qP];exact PR.bind_congr rfl fun x a h=>b _ a (by omega)
theorem On (b:List Sm) (n:Nat):sT T b n=if eC T n=[125]then .ok b (n+1)else(Hh T n).bind fun s m=>sT T (b++[s]) m:=by
 obtain⟨c,_,d⟩:=IE (T:=T) (4 *T.length+4);rw[sT,pC];split
 ·rfl
 exact PR.bind_congr (c n (by omega)) fun x a h=>d _ a (by omega)
theorem RV (b:List dD) (n:Nat):TX T b n=if eC T n=[44]then(kH T 1 (n+1)).bind fun t m=>TX T (b++[t.text]) m else .ok b n:=by
 rw[TX,A7];split
 ·refine PR.bind_congr rfl fun x a h=>?_
  have:=kK h;exact VF _ _ a (by omega) (by omega)
 rfl
variable {T}
theorem xJ {n m:Nat} {e:Sm} (h:Hh T n= .ok e m):n<m∧m≤T.length:=(NU _).1 _ _ _ h
theorem C9 {n m:Nat} {e a:List Sm} (h:sT T a n= .ok e m):n<m∧m≤T.length:=(NU _).2.2 _ _ _ _ h
theorem MH {n m:Nat} {e a:List dD} (b:n≤T.length) (h:TX T a n= .ok e m):n≤m∧m≤T.length:=XP _ _ _ _ _ b h
theorem rJ {n m:Nat} {e:List dD} (h:pE T n= .ok e m):n<m∧m≤T.length:=by
 obtain⟨t,a,b,c⟩:=PR.bind_eq_ok h;have:=kK b;have:=MH (by omega) c;omega
def Bz (T:List fX):Nat→List dD→Nat→PR (List dD)
 |0,_,n=> .bad n
 |f+1,acc,n=>if eC T n=V1 then(pE T (n+1)).bind fun l m=>(fB T [59] m).bind fun _ m=>Bz T f (acc++l) m else .ok acc n
theorem XQ (f:Nat): ∀b n l m,n≤T.length→Bz T f b n= .ok l m→n≤m∧m≤T.length:=by
 induction f with
 |zero=>intro _ _ _ _ _ h;simp [Bz]at h
 |succ f ih=>
  intro b n l m j h;rw[Bz]at h;split at h
  ·obtain⟨s,a,d,e⟩:=PR.bind_eq_ok h
   obtain⟨_,c,g,i⟩:=PR.bind_eq_ok e;have:=rJ d;have:=fD g (by decide);have:=ih _ _ _ _ (by omega) i;omega
  cases h;omega
theorem VG (f:Nat): ∀b n,n≤T.length→(T.length-n)+1≤f→Bz T f b n=Bz T (f+1) b n:=by
 induction f with
 |zero=>intro _ _ _ h;omega
 |succ f ih=>
  intro b n g h;rw[Bz,Bz];split
  ·refine PR.bind_congr rfl fun t a d=>PR.bind_congr rfl fun _ c e=>?_
   have:=rJ d;have:=fD e (by decide);exact ih _ _ (by omega) (by omega)
  rfl
def Xr (T:List fX) (acc:List dD) (n:Nat):PR (List dD):=Bz T (T.length+2) acc n
theorem ML (T:List fX) (b:List dD) (n:Nat):Xr T b n=if eC T n=V1 then(pE T (n+1)).bind fun l m=>(fB T [59] m).bind fun _ m=>Xr T (b++l) m else .ok b n:=by
 rw[Xr,Bz];split
 ·refine PR.bind_congr rfl fun x a h=>PR.bind_congr rfl fun _ c d=>?_
  have:=fD d (by decide);exact VG _ _ c (by omega) (by omega)
 rfl
theorem IG {n m:Nat} {e a:List dD} (b:n≤T.length) (h:Xr T a n= .ok e m):n≤m∧m≤T.length:=XQ _ _ _ _ _ b h
def Nu (T:List fX) (n:Nat):PR Fu:=(fB T zN n).bind fun _ m=>(kH T 1 m).bind fun t m=>(fB T [40] m).bind fun _ m=>
 (if nS T m=1 then pE T m else .ok [] m:PR (List dD)).bind fun ps m=>(fB T [41] m).bind fun _ m=>
  (fB T [123] (if eC T m=sX then m+1 else m)).bind fun _ c=>(Xr T [] c).bind fun ls c=>(sT T [] c).bind fun b c=> .ok ⟨t.text,ps,ls,decide (eC T m=sX),b⟩ c
theorem Ah {n m:Nat} {g:Fu} (h:Nu T n= .ok g m):n<m∧m≤T.length:=by
 unfold Nu at h;obtain⟨_,x,i,h⟩:=PR.bind_eq_ok h;obtain⟨t,y,j,h⟩:=PR.bind_eq_ok h;obtain⟨_,c,k,h⟩:=PR.bind_eq_ok h;obtain⟨C,d,a,h⟩:=PR.bind_eq_ok h;obtain⟨_,e,l,h⟩:=PR.bind_eq_ok h;obtain⟨_,f,o,h⟩:=PR.bind_eq_ok h;obtain⟨B,z,u,h⟩:=PR.bind_eq_ok h;obtain⟨b,A,v,h⟩:=PR.bind_eq_ok h;have:=fD i (by decide);have:=kK j;have:=fD k (by decide)
 have :c≤d:=by
  split at a
  ·have:=rJ a;omega
  cases a;omega
 have:=fD l (by decide);have p:=fD o (by decide);have :e<f:=by have:=p.1;split at this<;>omega
 have:=IG (by omega) u;have:=C9 v;cases h;omega
def wO (T:List fX):Nat→List dD→List Ar→Nat→PR (List dD×List Ar)
 |0,_,_,n=> .bad n
 |f+1,vs,as',n=>
  if eC T n=V1 then(pE T (n+1)).bind fun l m=>(fB T [59] m).bind fun _ m=>wO T f (vs++l) as' m
  else if eC T n=B7 then(kH T 1 (n+1)).bind fun t m=>(fB T [91] m).bind fun _ m=>(kH T 2 m).bind fun u m=>(fB T [93] m).bind fun _ m=>(fB T [59] m).bind fun _ m=>wO T f vs (as'++[⟨t.text,u.num⟩]) m
  else .ok (vs,as') n
theorem QH (f:Nat): ∀vs b n,n≤T.length→(T.length-n)+1≤f→wO T f vs b n=wO T (f+1) vs b n:=by
 induction f with
 |zero=>intro _ _ _ _ h;omega
 |succ f ih=>
  intro vs b n x h;rw[wO,wO];split
  ·refine PR.bind_congr rfl fun t a d=>PR.bind_congr rfl fun _ c e=>?_
   have:=rJ d;have:=fD e (by decide);exact ih _ _ _ (by omega) (by omega)
  split
  ·refine PR.bind_congr rfl fun t k d=>PR.bind_congr rfl fun _ l e=>PR.bind_congr rfl fun u o g=>PR.bind_congr rfl fun _ p i=>PR.bind_congr rfl fun _ v j=>?_
   have:=kK d;have:=fD e (by decide);have:=kK g;have:=fD i (by decide);have:=fD j (by decide);exact ih _ _ _ (by omega) (by omega)
  rfl
def Eg (T:List fX) (vs:List dD) (as':List Ar) (n:Nat):PR (List dD×List Ar):=wO T (T.length+2) vs as' n
theorem JA (T:List fX) (vs:List dD) (b:List Ar) (n:Nat):Eg T vs b n=
  if eC T n=V1 then(pE T (n+1)).bind fun l m=>(fB T [59] m).bind fun _ m=>Eg T (vs++l) b m
  else if eC T n=B7 then(kH T 1 (n+1)).bind fun t m=>(fB T [91] m).bind fun _ m=>(kH T 2 m).bind fun u m=>(fB T [93] m).bind fun _ m=>(fB T [59] m).bind fun _ m=>Eg T vs (b++[⟨t.text,u.num⟩]) m
  else .ok (vs,b) n:=by
 rw[Eg,wO];split
 ·refine PR.bind_congr rfl fun x a h=>PR.bind_congr rfl fun _ c d=>?_
  have:=fD d (by decide);exact QH _ _ _ c (by omega) (by omega)
 split
 ·refine PR.bind_congr rfl fun t g o=>PR.bind_congr rfl fun _ i d=>PR.bind_congr rfl fun u j p=>PR.bind_congr rfl fun _ k v=>PR.bind_congr rfl fun _ e f=>?_
  have:=fD f (by decide);exact QH _ _ _ e (by omega) (by omega)
 rfl
def yK (T:List fX):Nat→List Fu→Nat→PR (List Fu)
 |0,_,n=> .bad n
 |f+1,acc,n=>if n<T.length then(Nu T n).bind fun g m=>yK T f (acc++[g]) m else .ok acc n
theorem VH (f:Nat): ∀b n,n≤T.length→(T.length-n)+1≤f→yK T f b n=yK T (f+1) b n:=by
 induction f with
 |zero=>intro _ _ _ h;omega
 |succ f ih=>
  intro b n d h;rw[yK,yK];split
  ·refine PR.bind_congr rfl fun t a c=>?_
   have:=Ah c;exact ih _ _ (by omega) (by omega)
  rfl
def Ix (T:List fX) (acc:List Fu) (n:Nat):PR (List Fu):=yK T (T.length+2) acc n
theorem Iw (T:List fX) (b:List Fu) (n:Nat):Ix T b n=if n<T.length then(Nu T n).bind fun g m=>Ix T (b++[g]) m else .ok b n:=by
 rw[Ix,yK];split
 ·refine PR.bind_congr rfl fun x a h=>?_
  have:=Ah h;exact VH _ _ a (by omega) (by omega)
 rfl
def Ea (T:List fX) (n:Nat):PR Pg:=(Eg T [] [] n).bind fun va m=>(Nu T m).bind fun g m=>(Ix T [g] m).bind fun fs m=> .ok ⟨va.1,va.2,fs⟩ m
def QP (T:List fX) (e n:Nat):Int:=match T[n]? with
 |some t=>t.pos
 |none=>e
def RN:Pg:=⟨[],[],[]⟩
def D2 (s:dD):Pg×Int×Int:=match Cb s with
 | .error (i,e)=>(RN,i,e)
 | .ok T=>match Ea T 0 with
   | .bad m=>(RN,QP T s.length m,3)
   | .ok p m=>if m<T.length then(RN,QP T s.length m,3)else if gL p=true then(p,0,0)else(RN,0,2)
section
structure Sz (T:List fX):Prop where
 len:T.length≤1000000
 tok: ∀t∈T,dR t.num∧t.text.length≤1000000
variable {T : List fX}
theorem Ig (k o:Int) (b:jH k) (d:jH o) {n:Int} (c:dR n) {s:dD} (e:fK s) {l:List Ex} (a:Br l):(Ex.mk k o n s l).ok:= .mk _ _ _ _ _ b d c e a.fit a.all
theorem u0:dR 0:=by simp [dR]
theorem BU {a:Type}:fK ([]:List a):=by simp [fK]
theorem HY:Br []:=⟨BU,fun e h=>by cases h⟩
theorem X2 {e:Ex} (h:e.ok):Br [e]:=⟨by simp [fK],fun x a=>by rw[bE]at a;rw[a];exact h⟩
theorem VD {e f:Ex} (h:e.ok) (a:f.ok):Br [e,f]:=⟨by simp [fK],fun x hx=>by
 rcases bL.1 hx with rfl|hx
 ·exact h
 rw[bE]at hx;rw[hx];exact a⟩
theorem HW {l:List Ex} {e:Ex} (b:l.length≤1000000) (h:Br l) (a:e.ok):Br (l++[e]):=⟨by unfold fK;simp only[aB,bS];omega,fun x hx=>by
 rcases eU.1 hx with hx|hx
 ·exact h.all x hx
 rw[bE]at hx;rw[hx];exact a⟩
theorem sJ (b:Sz T) {k:Int} {n m:Nat} {t:fX} (h:kH T k n= .ok t m):dR t.num∧fK t.text∧t.text.length≤1000000:=by
 have:=kK h;have a:=b.tok t (aW this.2.2.1);exact⟨a.1,by unfold fK;omega,a.2⟩
theorem MV (s:dD) {a b:Ex} (c:a.ok) (d:b.ok):(Io s a b).ok:=by
 have f: ∀(l:List (dD×Int×Int×Nat)),(∀x∈l,jH x.2.1∧jH x.2.2.1)→jH (Nk l s).1∧jH (Nk l s).2.1:=by
  intro l
  induction l with
  |nil=>intro _;simp [Nk,jH]
  |cons x l ih=>
   intro h;obtain⟨w,r⟩:=x;rw[Nk];split
   ·exact h _ (dU)
   exact ih fun y e=>h y (fC _ e)
 have h:=f TT (by simp [TT,jH]);exact Ig _ _ h.1 h.2 u0 BU (VD c d)
theorem YA (v:Sz T) (f:Nat):(∀n e m,rU T f n= .ok e m→e.ok)∧(∀o n e m,pK T f o n= .ok e m→e.ok)∧
  (∀o u n e m,u.ok→sM T f o u n= .ok e m→e.ok)∧(∀n l m,sP T f n= .ok l m→Br l)∧
  (∀p n l m,Br p→p.length≤n→sQ T f p n= .ok l m→Br l):=by
 induction f with
 |zero=>exact⟨fun _ _ _ h=>by simp [rU]at h,fun _ _ _ _ h=>by simp [pK]at h,fun _ _ _ _ _ _ h=>by simp [sM]at h,fun _ _ _ h=>by simp [sP]at h,fun _ _ _ _ _ _ h=>by simp [sQ]at h⟩
 |succ f ih=>
  obtain⟨C,k,D,G,E⟩:=ih;obtain⟨H,z,I,J,K⟩:=far (T:=T) f;have N:=v.len;refine⟨fun n e m h=>?_,fun o n e m h=>?_,fun o u n e m A h=>?_,fun n l m h=>?_,fun p n l m B M h=>?_⟩
  ·rw[rU]at h
   split at h
   ·obtain⟨t,a,g,b⟩:=PR.bind_eq_ok h
    cases b;exact Ig _ _ (by simp [jH]) (by simp [jH]) (sJ v g).1 BU HY
   split at h
   ·obtain⟨_,a,g,b⟩:=PR.bind_eq_ok h
    obtain⟨_,c,j,i⟩:=PR.bind_eq_ok b;cases i;exact Ig _ _ (by simp [jH]) (by simp [jH]) u0 BU HY
   split at h
   ·obtain⟨x,a,g,b⟩:=PR.bind_eq_ok h
    obtain⟨_,c,j,i⟩:=PR.bind_eq_ok b;cases i;exact k _ _ _ _ g
   split at h
   ·obtain⟨x,a,g,b⟩:=PR.bind_eq_ok h
    cases b;exact Ig _ _ (by simp [jH]) (by simp [jH]) u0 BU (X2 (C _ _ _ g))
   obtain⟨t,a,g,b⟩:=PR.bind_eq_ok h;have y:=(sJ v g).2.1;split at b
   ·obtain⟨x,c,j,i⟩:=PR.bind_eq_ok b
    obtain⟨_,d,L,F⟩:=PR.bind_eq_ok i;cases F;exact Ig _ _ (by simp [jH]) (by simp [jH]) u0 y (X2 (k _ _ _ _ j))
   split at b
   ·obtain⟨x,c,j,i⟩:=PR.bind_eq_ok b
    cases i;exact Ig _ _ (by simp [jH]) (by simp [jH]) u0 y (G _ _ _ j)
   cases b;exact Ig _ _ (by simp [jH]) (by simp [jH]) u0 y HY
  ·rw[pK]at h
   obtain⟨x,a,g,b⟩:=PR.bind_eq_ok h;exact D _ _ _ _ _ (C _ _ _ g) b
  ·rw[sM]at h
   split at h
   ·cases h;exact A
   obtain⟨x,a,g,b⟩:=PR.bind_eq_ok h;exact D _ _ _ _ _ (MV _ A (k _ _ _ _ g)) b
  ·rw[sP]at h
   split at h
   ·cases h;exact HY
   obtain⟨x,a,g,b⟩:=PR.bind_eq_ok h;have:=z _ _ _ _ g;exact E _ _ _ _ (X2 (k _ _ _ _ g)) (by simp;omega) b
  rw[sQ]at h;split at h
  ·obtain⟨x,a,g,b⟩:=PR.bind_eq_ok h
   have:=z _ _ _ _ g;exact E _ _ _ _ (HW (by omega) B (k _ _ _ _ g)) (by simp only[aB,bS];omega) b
  obtain⟨_,a,g,b⟩:=PR.bind_eq_ok h;cases b;exact B
theorem wQ (a:Sz T) {lo n m:Nat} {e:Ex} (h:kO T lo n= .ok e m):e.ok:=(YA a _).2.1 _ _ _ _ h
theorem KJ (a:Sz T) {n m:Nat} {l:List Ex} (h:vP T n= .ok l m):Br l:=(YA a _).2.2.2.1 _ _ _ h
theorem zY (j:Sz T) {n m:Nat} {l:List Ex} (h:pN T n= .ok l m):Br l:=by
 unfold pN at h;obtain⟨_,a,k,b⟩:=PR.bind_eq_ok h;obtain⟨e,c,f,g⟩:=PR.bind_eq_ok b;obtain⟨_,d,o,i⟩:=PR.bind_eq_ok g;cases i;exact X2 (wQ j f)
theorem yA:yZ []:=⟨BU,fun e h=>by cases h⟩
theorem HV {l:List Sm} {e:Sm} (b:l.length≤1000000) (h:yZ l) (a:e.ok):yZ (l++[e]):=⟨by unfold fK;simp only[aB,bS];omega,fun x hx=>by
 rcases eU.1 hx with hx|hx
 ·exact h.all x hx
 rw[bE]at hx;rw[hx];exact a⟩
theorem zS (k:Int) (c:jH k) {s:dD} (e:fK s) {l:List Ex} (d:Br l) {t u:List Sm} (a:yZ t) (b:yZ u):(Sm.mk k s l t u).ok:= .mk _ _ _ _ _ c e d a.fit a.all b.fit b.all
theorem IC (i:Sz T) {n m:Nat} {s:Sm} (h:wK T n= .ok s m):s.ok:=by
 unfold wK at h;obtain⟨t,a,u,v⟩:=PR.bind_eq_ok h;obtain⟨x,c,e,A⟩:=PR.bind_eq_ok v;obtain⟨_,d,H,B⟩:=PR.bind_eq_ok A;have j:=(sJ i u).2.1;cases B;split at e
 ·obtain⟨y,b,f,g⟩:=PR.bind_eq_ok e
  cases g;exact zS _ (by simp [jH]) j (X2 (wQ i f)) yA yA
 split at e
 ·obtain⟨y,b,f,g⟩:=PR.bind_eq_ok e
  obtain⟨_,C,F,k⟩:=PR.bind_eq_ok g;obtain⟨_,D,G,l⟩:=PR.bind_eq_ok k;obtain⟨z,E,o,p⟩:=PR.bind_eq_ok l;cases p;exact zS _ (by simp [jH]) j (VD (wQ i f) (wQ i o)) yA yA
 split at e
 ·obtain⟨y,b,f,g⟩:=PR.bind_eq_ok e
  cases g;exact zS _ (by simp [jH]) j (KJ i f) yA yA
 cases e
theorem XM (j:Sz T) (f:Nat):(∀n e m,tD T f n= .ok e m→e.ok)∧(∀n l m,qP T f n= .ok l m→yZ l)∧(∀o n l m,yZ o→o.length≤n→pC T f o n= .ok l m→yZ l):=by
 induction f with
 |zero=>exact⟨fun _ _ _ h=>by simp [tD]at h,fun _ _ _ h=>by simp [qP]at h,fun _ _ _ _ _ _ h=>by simp [pC]at h⟩
 |succ f ih=>
  obtain⟨B,p,x⟩:=ih;obtain⟨y,C,D⟩:=NU (T:=T) f;have F:=j.len;refine⟨fun n e m h=>?_,fun n l m h=>?_,fun o n l m v E h=>?_⟩
  ·rw[tD]at h
   split at h
   ·obtain⟨l,a,b,g⟩:=PR.bind_eq_ok h
    obtain⟨_,c,k,i⟩:=PR.bind_eq_ok g;cases i;exact zS _ (by simp [jH]) BU (zY j b) yA yA
   split at h
   ·split at h
    ·cases h;exact zS _ (by simp [jH]) BU HY yA yA
    obtain⟨l,a,b,g⟩:=PR.bind_eq_ok h;obtain⟨_,c,k,i⟩:=PR.bind_eq_ok g;cases i;exact zS _ (by simp [jH]) BU (X2 (wQ j b)) yA yA
   split at h
   ·obtain⟨l,a,b,g⟩:=PR.bind_eq_ok h
    obtain⟨t,c,k,i⟩:=PR.bind_eq_ok g;split at i
    ·obtain⟨u,d,z,A⟩:=PR.bind_eq_ok i
     cases A;exact zS _ (by simp [jH]) BU (zY j b) (p _ _ _ k) (p _ _ _ z)
    cases i;exact zS _ (by simp [jH]) BU (zY j b) (p _ _ _ k) yA
   split at h
   ·obtain⟨l,a,b,g⟩:=PR.bind_eq_ok h
    obtain⟨t,c,k,i⟩:=PR.bind_eq_ok g;cases i;exact zS _ (by simp [jH]) BU (zY j b) (p _ _ _ k) yA
   exact IC j h
  ·rw[qP]at h
   obtain⟨_,a,b,g⟩:=PR.bind_eq_ok h;exact x _ _ _ _ yA (cK _) g
  rw[pC]at h;split at h
  ·cases h;exact v
  obtain⟨s,a,b,g⟩:=PR.bind_eq_ok h;have:=y _ _ _ b;exact x _ _ _ _ (HV (by omega) v (B _ _ _ b)) (by simp only[aB,bS];omega) g
theorem W1 (a:Sz T) {n m:Nat} {l:List Sm} (h:sT T [] n= .ok l m):yZ l:=(XM a _).2.2 _ _ _ _ yA (cK _) h
def uG (l:List dD):Prop:= ∀s∈l,s.length≤1000000
theorem E2 {l:List dD} (b:l.length≤2000000) (h:uG l):VC l:=⟨by unfold fK;omega,fun s a=>by have:=h s a;unfold fK;omega⟩
theorem VE (g:Sz T) (f:Nat): ∀b n l m,uG b→b.length≤n→n≤T.length→A7 T f b n= .ok l m→uG l∧l.length≤m:=by
 induction f with
 |zero=>intro _ _ _ _ _ _ _ h;simp [A7]at h
 |succ f ih=>
  intro b n l m d i k h;rw[A7]at h;split at h
  ·obtain⟨t,a,c,e⟩:=PR.bind_eq_ok h
   have:=kK c;have j:=(sJ g c).2.2;refine ih _ _ _ _ (fun s hs=>?_) (by simp only[aB,bS];omega) (by omega) e;rcases eU.1 hs with hs|hs
   ·exact d s hs
   rw[bE]at hs;rw[hs];exact j
  cases h;exact⟨d,i⟩
theorem Bw (g:Sz T) {n m:Nat} {l:List dD} (h:pE T n= .ok l m):uG l∧l.length+n≤m:=by
 obtain⟨t,a,b,c⟩:=PR.bind_eq_ok h;have:=kK b;have i:=(sJ g b).2.2;have d:=(VE g _ _ _ _ _ (fun s d=>by rw[bE]at d;rw[d];exact i) (by simp;omega) (by omega) c).1
 have j: ∀(f:Nat) e n l m,A7 T f e n= .ok l m→l.length+n≤e.length+m:=by
  intro f
  induction f with
  |zero=>intro _ _ _ _ h;simp [A7]at h
  |succ f ih=>
   intro e n l m h;rw[A7]at h;split at h
   ·obtain⟨s,a,b,c⟩:=PR.bind_eq_ok h
    have:=kK b;have:=ih _ _ _ _ c;simp only[aB,aM,aU]at this;omega
   cases h;omega
 have:=j _ _ _ _ _ c;simp only[bS]at this;exact⟨d,by omega⟩
theorem RY (o:Sz T) (f:Nat): ∀b n l m,uG b→b.length≤n→Bz T f b n= .ok l m→uG l∧(n≤T.length→l.length≤T.length):=by
 induction f with
 |zero=>intro _ _ _ _ _ _ h;simp [Bz]at h
 |succ f ih=>
  intro b n l m d t h;rw[Bz]at h;split at h
  ·obtain⟨s,a,g,i⟩:=PR.bind_eq_ok h
   obtain⟨_,c,j,k⟩:=PR.bind_eq_ok i;have p:=Bw o g;have:=fD j (by decide)
   have e:=ih _ _ _ _ (fun x hx=>by
    rcases eU.1 hx with hx|hx
    ·exact d x hx
    exact p.1 x hx) (by simp only[aB];omega) k
   exact⟨e.1,fun _=>e.2 (by omega)⟩
  cases h;exact⟨d,fun u=>by omega⟩
theorem Q8 (a:Sz T) {n m:Nat} {g:Fu} (h:Nu T n= .ok g m):g.ok∧g.params.length≤1000000∧g.locs.length≤1000000:=by
 unfold Nu at h;obtain⟨_,y,G,h⟩:=PR.bind_eq_ok h;obtain⟨t,z,i,h⟩:=PR.bind_eq_ok h;obtain⟨_,A,j,h⟩:=PR.bind_eq_ok h;obtain⟨d,B,c,h⟩:=PR.bind_eq_ok h;obtain⟨_,C,H,h⟩:=PR.bind_eq_ok h;obtain⟨_,D,k,h⟩:=PR.bind_eq_ok h;obtain⟨x,E,o,h⟩:=PR.bind_eq_ok h;obtain⟨b,F,p,h⟩:=PR.bind_eq_ok h;cases h;have J:=a.len;have v:=sJ a i;have:=fD j (by decide)
 have u:uG d∧d.length≤T.length:=by
  split at c
  ·have f:=Bw a c
   have:=rJ c;exact⟨f.1,by have:=f.2;omega⟩
  cases c;exact⟨(fun s h=>by cases h),cK _⟩
 have I:=fD k (by decide);have e:=RY a _ _ _ _ _ (fun s h=>by cases h) (cK _) o;have K:=e.2 (by omega);exact⟨⟨v.2.1,E2 (l:=d) (by omega) u.1,E2 (l:=x) (by omega) e.1,W1 a p⟩,by simp only;omega,by simp only;omega⟩
def GT (l:List Ar):Prop:= ∀a∈l,a.name.length≤1000000∧dR a.size
theorem NB (j:Sz T) (f:Nat): ∀vs b n l m,uG vs→GT b→vs.length≤n→b.length≤n→n≤T.length→wO T f vs b n= .ok l m→uG l.1∧GT l.2∧l.1.length≤T.length∧l.2.length≤T.length:=by
 induction f with
 |zero=>intro _ _ _ _ _ _ _ _ _ _ h;simp [wO]at h
 |succ f ih=>
  intro vs b n l m o k H F G h;rw[wO]at h;split at h
  ·obtain⟨s,a,d,g⟩:=PR.bind_eq_ok h
   obtain⟨_,c,e,i⟩:=PR.bind_eq_ok g;have v:=Bw j d;have:=fD e (by decide)
   exact ih _ _ _ _ _ (fun x hx=>by
    rcases eU.1 hx with hx|hx
    ·exact o x hx
    exact v.1 x hx) k (by simp only[aB];omega) (by omega) (by omega) i
  split at h
  ·obtain⟨t,A,d,h⟩:=PR.bind_eq_ok h
   obtain⟨_,B,g,h⟩:=PR.bind_eq_ok h;obtain⟨u,C,e,h⟩:=PR.bind_eq_ok h;obtain⟨_,D,i,h⟩:=PR.bind_eq_ok h;obtain⟨_,E,p,h⟩:=PR.bind_eq_ok h;have:=kK d;have:=fD g (by decide);have:=kK e;have:=fD i (by decide);have:=fD p (by decide);have y:=sJ j d;have z:=sJ j e
   exact ih _ _ _ _ _ o (fun x hx=>by
    rcases eU.1 hx with hx|hx
    ·exact k x hx
    rw[bE]at hx;rw[hx];exact⟨y.2.2,z.1⟩) (by omega) (by simp only[aB,bS];omega) (by omega) h
  cases h;exact⟨o,k,by simp only;omega,by simp only;omega⟩
theorem NJ (i:Sz T) (f:Nat): ∀b n l m,(∀g∈b,g.ok∧g.params.length≤1000000∧g.locs.length≤1000000)→b.length≤n→n≤T.length→yK T f b n= .ok l m→(∀g∈l,g.ok∧g.params.length≤1000000∧g.locs.length≤1000000)∧l.length≤T.length:=by
 induction f with
 |zero=>intro _ _ _ _ _ _ _ h;simp [yK]at h
 |succ f ih=>
  intro b n l m d k o h;rw[yK]at h;split at h
  ·obtain⟨s,a,c,e⟩:=PR.bind_eq_ok h
   have j:=Q8 i c;have:=Ah c
   exact ih _ _ _ _ (fun x hx=>by
    rcases eU.1 hx with hx|hx
    ·exact d x hx
    rw[bE]at hx;rw[hx];exact j) (by simp only[aB,bS];omega) (by omega) e
  cases h;exact⟨d,by omega⟩
theorem HI (d:Sz T) {n m:Nat} {p:Pg} (u:n≤T.length) (h:Ea T n= .ok p m):p.ok∧(∀g∈p.funs,g.params.length≤1000000∧g.locs.length≤1000000):=by
 unfold Ea at h;obtain⟨i,v,k,h⟩:=PR.bind_eq_ok h;obtain⟨g,y,c,h⟩:=PR.bind_eq_ok h;obtain⟨j,z,l,h⟩:=PR.bind_eq_ok h;cases h;have B:=d.len;have f:=NB d _ _ _ _ _ _ (fun s h=>by cases h) (fun s h=>by cases h) (cK _) (cK _) u k;have t:=Q8 d c;have A:=Ah c;have e:=NJ d _ _ _ _ _ (fun x b=>by rw[bE]at b;rw[b];exact t) (by simp;omega) (by omega) l;refine⟨⟨E2 (by show i.1.length≤_;omega) f.1,by show i.2.length≤_;omega,fun a o=>?_,by show j.length≤_;omega,fun x b=>(e.1 x b).1⟩,fun x b=>(e.1 x b).2⟩;have:=f.2.1 a o;have c:=this.2;unfold dR at c;exact⟨by unfold fK;omega,by unfold jH;omega⟩
theorem AB (s:List UInt8):dR (iD s).1.num:=by
 cases s with
 |nil=>simp [iD,kF,dR]
 |cons c r=>
  simp only[iD];split
  ·simp only[zB]
   split
   ·rename_i m b
    have:=zC _ 0 m (by omega) (by omega) (sV _ _) b;exact⟨by simp only;omega,by simp only;omega⟩
   simp [kF,dR]
  split
  ·rw[uW]
   split
   ·rename_i a _ _ _
    split
    ·have:=UInt8.toNat_lt a
     exact⟨by simp only;omega,by simp only;omega⟩
    simp [kF,dR]
   simp [kF,dR]
  split
  ·simp only[Px]
   split
   ·simp [kF,dR]
   split<;>simp [dR]
  split<;>simp [kF,dR]
theorem MQ (N:Nat): ∀(s:dD) (k i:Nat) (l:List fX),s.length≤N→oO s k i= .ok l→l.length≤s.length∧ ∀t∈l,dR t.num∧t.text.length≤N:=by
 intro s
 induction s with
 |nil=>intro k i l _ h;cases k<;>simp [oO]at h<;>subst h<;>simp
 |cons c r ih=>
  intro k i l d h;have a:r.length≤N:=by simp only[aM]at d;omega
  cases k with
  |succ k=>
   rw[oO]at h;have:=ih k (i+1) l a h;exact⟨by simp only[aM];omega,this.2⟩
  |zero=>
   rw[oO]at h;split at h
   ·have:=ih 0 (i+1) l a h
    exact⟨by simp only[aM];omega,this.2⟩
   split at h
   ·have:=ih _ (i+1) l a h
    exact⟨by simp only[aM];omega,this.2⟩
   split at h
   ·cases hl:oO r ((iD (c::r)).1.text.length - 1) (i+1)with
    |error y=>rw[hl]at h;cases h
    |ok l'=>
     rw[hl]at h;cases h;have:=ih _ (i+1) l' a hl;refine⟨by simp only[aM];omega,fun t ht=>?_⟩;rcases bL.1 ht with rfl|ht
     ·have b:=AB (c::r)
      have e:=Qk (c::r);exact⟨b,by simp only;omega⟩
     exact this.2 t ht
   cases h
theorem MP {s:dD} {T:List fX} (h:Cb s= .ok T):Sz T:=by
 unfold Cb at h;split at h
 ·cases h
 have:=MQ 20000 s 0 0 T (by omega) h;exact⟨by omega,fun t a=>⟨(this.2 t a).1,by have:=(this.2 t a).2;omega⟩⟩
end
section
variable {T : List fX}
theorem mI {b c d:Type} (x:PR b) (f:b→Nat→PR c) (g:c→Nat→PR d):(x.bind f).bind g=x.bind fun a m=>(f a m).bind g:=by cases x<;>rfl
theorem MK (lo:Nat) (b:1≤lo) (k:Nat): ∀n e,n≤T.length→T.length-n≤k→wL T lo e n=(wL T (lo+1) e n).bind fun a m=>wL T lo a m:=by
 induction k using Nat.strongRecOn with
 |_ k ih=>
  intro n e g d;rw[tL T (lo+1) e n (by omega)];by_cases h:(Dx (eC T n)).2.2<lo+1
  ·rw[bD h];rfl
  have f:=O5 h (by omega);rw[tL T lo e n b,aJ (by omega),aJ h,mI];refine PR.bind_congr rfl fun x m c=>?_;have:=pP c;exact ih (T.length-m) (by omega) m _ this.2 (bH _)
theorem JM (lo n:Nat) (a:1≤lo):kO T lo n=(kO T (lo+1) n).bind fun e m=>wL T lo e m:=by
 rw[Aj T lo n a,Aj T (lo+1) n (by omega),mI];refine PR.bind_congr rfl fun x m b=>?_;exact MK lo a _ m x (Rh b).2 (bH _)
theorem AH (n:Nat):kO T 10 n=tX T n:=by
 rw[Aj T 10 n (by decide)]
 cases h:tX T n with
 |bad m=>rfl
 |ok e m=>
  show wL T 10 e m=_;rw[tL T 10 e m (by decide),bD (by have:=UT (eC T m);omega)]
theorem X9 (lo:Nat) (d:1≤lo) (k:Nat): ∀n e c m,n≤T.length→T.length-n≤k→wL T lo e n= .ok c m→(Dx (eC T m)).2.2<lo:=by
 induction k using Nat.strongRecOn with
 |_ k ih=>
  intro n e c m l i h;rw[tL T lo e n d]at h;by_cases b:(Dx (eC T n)).2.2<lo
  ·rw[bD b]at h;cases h;exact b
  have j:=O5 b d;rw[aJ b]at h;obtain⟨x,a,f,g⟩:=PR.bind_eq_ok h;have:=pP f;exact ih (T.length-a) (by omega) a _ _ _ this.2 (bH _) g
theorem Qn {lo n m:Nat} {e:Ex} (b:1≤lo) (h:kO T lo n= .ok e m):(Dx (eC T m)).2.2<lo:=by
 rw[Aj T lo n b]at h;obtain⟨x,a,c,d⟩:=PR.bind_eq_ok h;exact X9 lo b _ a x e m (Rh c).2 (bH _) d
theorem BB (n:Nat):tX T n=
  if nS T n=2 then(kH T 2 n).bind fun t m=> .ok (.mk 1 0 t.num [] []) m
  else if eC T n=[103,101,116]then(fB T [40] (n+1)).bind fun _ m=>(fB T [41] m).bind fun _ m=> .ok (.mk 5 0 0 [] []) m
  else if eC T n=[33]then(tX T (n+1)).bind fun e m=> .ok (.mk 7 0 0 [] [e]) m
  else if eC T n=[40]then(kO T 1 (n+1)).bind fun e m=>(fB T [41] m).bind fun _ m=> .ok e m
  else(kH T 1 n).bind fun t m=>
   if eC T m=[91]then(kO T 1 (m+1)).bind fun e m=>(fB T [93] m).bind fun _ m=> .ok (.mk 3 0 0 t.text [e]) m
   else if eC T m=[40]then(vP T (m+1)).bind fun l m=> .ok (.mk 4 0 0 t.text l) m
   else .ok (.mk 2 0 0 t.text []) m:=by
 rw[KH];by_cases a:eC T n=[33]
 ·rw[a];simp
 simp only[aJ a]
end
theorem TC {H:Hp} {b c sz d:Nat} {l l':List (List AV)} (h:H b=some (.rows sz l)) (a:H c=some (.rows d l')) (f:sz≠d):b≠c:=fun e=>by subst e;rw[h]at a;cases a;exact f rfl
theorem eB.kp {sz d:Nat} {v:AV} {rows r:List (List AV)} {H H2:Hp} {b:Nat} (h:eB sz v rows H) (f:H b=some (.rows d r)) (i:d≠sz) (g: ∀x o,x≠b→H x=some o→H2 x=some o):eB sz v rows H2:=by
 rcases h with h|⟨c,e,a⟩
 ·exact .inl h
 exact .inr ⟨c,e,g c _ (fun e=>TC f a i e.symm) a⟩
theorem NG {T:List fX} {n:Nat} {t:fX} (h:T[n]?=some t):(T.map fX.row)[n]?=some [.int .i64 t.kind, .str t.text, .int .u32 t.num, .int .i64 t.pos]:=uT _ h
theorem HN {T:List fX} {n:Nat} {t:fX} (h:T[n]?=some t):eC T n=if t.kind=3∨t.kind=4 then t.text else []:=by rw[eC,h]
theorem X0 {T:List fX} {n:Nat} (h: ¬n<T.length):eC T n=[]:=by rw[eC,dT (by omega)]
theorem To {n:Nat} (h:n≤1000000):IntKind.wrap .i64 ((n:Int)+1)=((n+1:Nat):Int):=by rw[aS _ (by omega)];omega
def oL (x:Ex):AV:= .agg [.int .i64 x.kind, .int .i64 x.op, .int .u32 x.num, .str x.name, .isl 5 (x.kids.map Ex.row)]
def Ft (l:List Ex):AV:= .isl 5 (l.map Ex.row)
theorem JP (b:List Ex) (a:Ex):(b++[a]).map Ex.row=b.map Ex.row++[[.int .i64 a.kind, .int .i64 a.op, .int .u32 a.num, .str a.name, .isl 5 (a.kids.map Ex.row)]]:=by
 rw[cO,cU,dI,Ex.row_eq]
def sK (s:Sm):AV:= .agg [.int .i64 s.kind, .str s.name, .isl 5 (s.es.map Ex.row), .isl 5 (s.thn.map Sm.row), .isl 5 (s.els.map Sm.row)]
def WQ (l:List Sm):AV:= .isl 5 (l.map Sm.row)
theorem Wv (a:List Sm) (s:Sm):(a++[s]).map Sm.row=a.map Sm.row++[[.int .i64 s.kind, .str s.name, .isl 5 (s.es.map Ex.row), .isl 5 (s.thn.map Sm.row), .isl 5 (s.els.map Sm.row)]]:=by
 rw[cO,cU,dI,Sm.row_eq]
def NM (T:List fX) (nm:dD) (ps:List dD) (w:Bool) (ls:List dD) (c:Nat):PR Fu:=(sT T [] c).bind fun b c=> .ok ⟨nm,ps,ls,w,b⟩ c
def SI (T:List fX) (nm:dD) (ps:List dD) (m:Nat):PR Fu:=(fB T [41] m).bind fun _ m=>(fB T [123] (if eC T m=sX then m+1 else m)).bind fun _ c=>(Xr T [] c).bind fun ls c=>NM T nm ps (decide (eC T m=sX)) ls c
theorem NK (T:List fX) (n:Nat):Nu T n=(fB T zN n).bind fun _ m=>(kH T 1 m).bind fun t m=>(fB T [40] m).bind fun _ m=>(if nS T m=1 then pE T m else .ok [] m:PR (List dD)).bind fun a m=>SI T t.text a m:=rfl
theorem Ie (l:List dD):((l.map bM).all fun r=>r.all one)=true:=HU (fun _=>rfl) l
def WU (f:Fu):AV:= .agg [.str f.name, .isl 1 (f.params.map bM), .isl 1 (f.locs.map bM), .bool f.word, .isl 5 (f.body.map Sm.row)]
end Go.Proofs.YtaecpjgmcffliaaGreatDoor
namespace Go.Al
theorem eB.app2 {sz a:Nat} {v v':AV} {rows f:List (List AV)} {H H':Hp} (i:eB a v' f H) (g:eB sz v rows H) (k:a≠sz) (j: ∀b o,H b=some o→v≠ .osl sz b rows.length→H' b=some o):eB a v' f H':=by
 rcases i with h|⟨c,e,d⟩
 ·exact .inl h
 exact .inr ⟨c,e,j c _ d (g.nb' d k)⟩
theorem P5 {sz a:Nat} {v x:AV} {rows i:List (List AV)} {H:Hp} (h:eB sz v rows H) (g:eB a x i H) (f:a≠sz):BS v x:=fun s b n e=>by
 subst e;rcases g with⟨e,_⟩|⟨c,e,d⟩
 ·cases e
 cases e;exact h.offsz d f
theorem eB.nil (sz:Nat) (H:Hp):eB sz .nsl [] H:= .inl ⟨rfl,rfl⟩
theorem eB.thru {sz d j:Nat} {v v':AV} {rows f r:List (List AV)} {H H':Hp} {g:Nat} (o:eB d v' f H) (n:eB sz v rows H) (u:d≠sz) (k:H g=some (.rows j r)) (y:d≠j) (i:(f.all fun r=>r.all tQ)=true)
  (p: ∀b s l,b≠g→Al.off v b→(∀r∈l, ∀x∈r,BS v x)→H b=some (.rows s l)→H' b=some (.rows s l)):eB d v' f H':=by
 rcases o with h|⟨c,e,a⟩
 ·exact .inl h
 refine .inr ⟨c,e,p c _ _ (fun e=>?_) (n.offsz a u) (fun r t x z=>?_) a⟩
 ·subst e;rw[k]at a;cases a;exact y rfl
 simp only[cJ]at i;exact bU (i r t x z)
theorem Yg (l:List Ar):((l.map Ar.row).all fun r=>r.all tQ)=true:=by
 simp only[List.all_map,cJ];exact fun x _=>rfl
end Go.Al
namespace Go.Proofs.YtaecpjgmcffliaaGreatDoor
open Go.Al Go.Proofs.Tryz
def Pn (T:List fX) (va:List dD×List Ar) (m:Nat):PR Pg:=(Nu T m).bind fun g m=>(Ix T [g] m).bind fun fs m=> .ok ⟨va.1,va.2,fs⟩ m
theorem HJ (T:List fX) (n:Nat):Ea T n=(Eg T [] [] n).bind (Pn T):=rfl
def XZ (p:Pg):AV:= .agg [.isl 1 (p.vars.map bM), .isl 2 (p.arrs.map Ar.row), .isl 5 (p.funs.map Fu.row)]
theorem LS (sz:Nat) (rows:List (List AV)):Al.jC (WR sz rows) (.isl sz rows):=by
 cases rows with
 |nil=>exact jC.nsl sz
 |cons=>exact jC.refl _
theorem rL: ∀(s:dD) (k i:Nat) (x:Nat×Int),oO s k i= .error x→x.2≠0
 |[],k,i,x,h=>by cases k<;>simp [oO]at h
 |c::r,k+1,i,x,h=>by
  rw[oO]at h;exact rL r k (i+1) x h
 |c::r,0,i,x,h=>by
  rw[oO]at h;split at h
  ·exact rL r 0 (i+1) x h
  split at h
  ·exact rL r _ (i+1) x h
  split at h
  ·cases hl:oO r ((iD (c::r)).1.text.length - 1) (i+1)with
   |ok l=>rw[hl]at h;cases h
   |error y=>rw[hl]at h;cases h;exact rL r _ _ _ hl
  rename_i a;cases h;exact a
theorem IH {s:dD} {i:Nat} {e:Int} (h:Cb s= .error (i,e)):e≠0:=by
 unfold Cb at h;split at h
 ·cases h;decide
 exact rL _ _ _ _ h
def D6 (r:Pg×Int×Int):AV:= .tup [r.1.av, .int .i64 r.2.1, .int .i64 r.2.2]
theorem MF:fN [.nsl, .nsl, .nsl] RN.row:=fN.cons (jC.nsl 1) (fN.cons (jC.nsl 2) (fN.cons (jC.nsl 5) (fN.refl _)))
theorem HC {s:dD} (a:s.length≤1000000) {i:Nat} {e:Int} (h:Cb s= .error (i,e)):eH dP 64 [.str s] (.tup [.nsl, .int .i64 (i:Nat), .int .i64 e]):=by
 have:=Xd s a;rw[h]at this;exact this
theorem MD {s:dD} (a:s.length≤1000000) {T:List fX} (h:Cb s= .ok T):eH dP 64 [.str s] (.tup [.isl 4 (T.map fX.row), .int .i64 0, .int .i64 0]):=by
 have:=Xd s a;rw[h]at this;exact X1 this (jC.tup (fN.cons (LS 4 _) (fN.refl _)))
end Go.Proofs.YtaecpjgmcffliaaGreatDoor
