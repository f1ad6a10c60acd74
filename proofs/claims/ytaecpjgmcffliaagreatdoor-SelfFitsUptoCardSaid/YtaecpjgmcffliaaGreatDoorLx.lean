/- Lx -/
import Derived.Test.YtaecpjgmcffliaaGreatDoorSc1
import Derived.Test.YtaecpjgmcffliaaGreatDoorAl3
import Derived.Test.YtaecpjgmcffliaaGreatDoorSy2
import Derived.Test.YtaecpjgmcffliaaGreatDoorWb
set_option linter.unusedSimpArgs false
set_option linter.unusedVariables false
set_option maxRecDepth 10000
namespace Go.Proofs.YtaecpjgmcffliaaGreatDoor
open Go.Al Go.Proofs.Tryz
def zG (s p:List UInt8):Bool:=decide (s.take p.length=p)
theorem S1:eH dN 149 [] (.isl 1 (lJ.map fun w=>[.str w])):=by
 refine bX 2 [.tmp 0] func149 ?_;refine aC fun K a=>?_;refine aG ?_;simp only[RR,seval];apply a;refine aC fun K a=>?_;refine aG ?_;simp only[RR,seval];refine dK ?_;simp only[RR,seval];apply a;refine aO ?_;simp only[aY,aK,bR,RR,seval];refine aZ.pure ?_;rfl
structure fQ where
 kind:Int
 text:List UInt8
 num:Int
 pos:Int
def fQ.row (t:fQ):List AV:=[.int .i64 t.kind, .str t.text, .int .u32 t.num, .int .i64 t.pos]
def jQ:fQ:=⟨0,[],0,0⟩
def EE (p:fQ×Int):AV:= .tup [.agg p.1.row, .int .i64 p.2]
def Oc (s:List UInt8):fQ×Int:=if 20<s.length then(jQ,2)else if jP.contains s then(⟨3,s,0,0⟩,0)else(⟨1,s,0,0⟩,0)
def Ij (c d:UInt8):Bool:=decide ((d.toNat:Int)=39)&& !decide ((c.toNat:Int)<32)&& !decide (126<(c.toNat:Int))&& !decide ((c.toNat:Int)=39)&& !decide ((c.toNat:Int)=92)
def Oy (s:List UInt8):fQ×Int:=
 match s with
 |_::c::d::_=>if Ij c d then(⟨2,s.take 3,c.toNat,0⟩,0)else(jQ,3)
 |_=>(jQ,3)
def Qy:Int→List UInt8→Option Int
 |n,[]=>some n
 |n,c::cs=>if 4294967295<n *10+((c.toNat:Int)- 48)then none else Qy (n *10+((c.toNat:Int)- 48)) cs
def yF (s:List UInt8):fQ×Int:=match Qy 0 s with |some n=>(⟨2,s,n,0⟩,0)|none=>(jQ,2)
theorem zM {c:UInt8} (h:Si c.toNat=true):48≤(c.toNat:Int)∧(c.toNat:Int)≤57:=by
 simpa [Si]using h
theorem yG: ∀(s:List UInt8) (n m:Int),0≤n→n≤4294967295→s.all (fun c=>Si c.toNat)=true→Qy n s=some m→0≤m∧m≤4294967295
 |[],n,m,h0,h1,_,h=>by simp only[Qy,Option.some.injEq]at h;omega
 |c::cs,n,m,h0,h1,hd,h=>by
  simp only[dT,aU]at hd;have a:=zM hd.1;simp only[Qy]at h;split at h
  ·cases h
  exact yG cs _ m (by omega) (by omega) hd.2 h
theorem Io (s w:List UInt8) (i:Nat) (j:s.length≤1000000) (k:w.length≤1000000) (g:i≤s.length):eH dN 147 [.str s, .int .i64 i, .str w] (.bool (zG (s.drop i) w)):=by
 refine bX 25 [.tmp 6] func147 ?_;refine aC fun K a=>?_;refine aG ?_;simp only[RR,seval];apply a;refine aC fun K a=>?_;refine aG ?_;simp only[RR,seval];rw[aT _ (by omega)];refine fF (fun h=>?_) (fun h=>?_)
 ·have b:(i:Int)+w.length≤s.length:=aF h
  have c:((i:Int)+w.length).toNat=i+w.length:=by omega
  have d:(0:Int)≤(i:Int)+w.length:=by omega
  have f:(i:Int)≤((i+w.length:Nat):Int):=by omega
  simp only[b,RR,seval]
  repeat' ((refine cQ (fun h=>?_) (fun h=>?_))<;>simp only[*,RR,seval])
  rw[aT _ (by omega)];simp only[*,RR,seval];apply a;clear a K;refine aO ?_;simp only[aY,aK,bR,RR,seval];refine aZ.pure ?_;rw[zG,gO]
 simp only[h,RR,seval];apply a;refine aO ?_;simp only[aY,aK,bR,RR,seval];refine aZ.pure ?_;have b: ¬(i:Int)+w.length≤s.length:=aH h
 have : ¬(s.drop i).take w.length=w:=fun e=>by
  have:=congrArg List.length e;rw[dJ,fG]at this;omega
 simp [zG,this]
def Aq:Int→Bool→List UInt8→Int×Bool
 |n,g,[]=>(n,g)
 |n,g,c::cs=>if 4294967295<n *10+((c.toNat:Int)- 48)then Aq 0 true cs else Aq (n *10+((c.toNat:Int)- 48)) g cs
theorem He: ∀(s:List UInt8) (n:Int),(Aq n true s).2=true
 |[],_=>rfl
 |c::cs,n=>by simp only[Aq];split<;>exact He cs _
theorem Ap: ∀(s:List UInt8) (n:Int),match Qy n s with |some m=>Aq n false s=(m,false)|none=>(Aq n false s).2=true
 |[],n=>rfl
 |c::cs,n=>by
  simp only[Qy,Aq];split
  ·rename_i m h
   split at h
   ·cases h
   rename_i a;have:=Ap cs (n *10+((c.toNat:Int)- 48));rw[h]at this;rw[aM a];exact this
  rename_i h;split at h
  ·rename_i a;rw[bP a];exact He _ _
  rename_i a;have:=Ap cs (n *10+((c.toNat:Int)- 48));rw[h]at this;rw[aM a];exact this
def Ko (c:UInt8):Bool:=Si c.toNat
theorem A4 (s:List UInt8) (d:Nat) (S:s.length≤1000000) (I:d≤s.length):eH dN 148 [.str s, .int .i64 d]
  (.tup [.int .u64 (Aq 0 false ((s.drop d).takeWhile Ko)).1, .int .i64 ((d+((s.drop d).takeWhile Ko).length:Nat)), .bool (Aq 0 false ((s.drop d).takeWhile Ko)).2]):=by
 refine bX 34 [.tmp 4, .tmp 5, .tmp 6] func148 ?_;refine aC fun K a=>?_;refine aG ?_;simp only[RR,seval];apply a;refine aC fun K a=>?_;refine aG ?_;simp only[RR,seval];refine a _ _ (cI (fun l H=> ∃(i:Nat) (n:Int) (g:Bool),l 7= .int .u64 n∧l 1= .int .i64 i∧l 8= .bool g∧Aq 0 false ((s.drop d).takeWhile Ko)=(n,g)∧d+((s.drop d).takeWhile Ko).length=i) (fun K a=>?_) ?_)
 ·refine aN (eK (fun k l H=> ∃(i:Nat) (n:Int) (g:Bool),k=s.length-i∧i≤s.length∧0≤n∧n≤4294967295∧l 0= .str s∧l 7= .int .u64 n∧l 1= .int .i64 i∧l 8= .bool g∧Aq 0 false ((s.drop d).takeWhile Ko)=Aq n g ((s.drop i).takeWhile Ko)∧d+((s.drop d).takeWhile Ko).length=i+((s.drop i).takeWhile Ko).length) (s.length-d) ⟨d,0,false,rfl,I,by omega,by omega,rfl,rfl,rfl,rfl,rfl,rfl⟩ ?_)
  rintro k l H ⟨i,n,g,rfl,P,Q,R,u,v,p,t,o,x⟩ N B;refine aI (cI (fun y M=> ∃b,y 18= .bool b∧y 0= .str s∧y 1= .int .i64 i∧y 7= .int .u64 n∧y 8= .bool g∧(b=true→ ∃c,s[i]?=some c∧Ko c=true)∧(b=false→ ∀c,s[i]?=some c→Ko c=false)) (fun K a=>?_) ?_)
  ·refine aG ?_;simp only[RR,seval]
   simp only[u,p,RR,seval];refine fF (fun h=>?_) (fun h=>?_)
   ·have D:(i:Int)<s.length:=aF h
    have A:i<s.length:=by omega
    have z:s[i]?=some s[i]:=aD A;simp only[*,RR,seval];refine aP (tM _) ?_;simp only[RR,seval];refine a _ _ ⟨_,rfl,u,p,v,t, ?_, ?_⟩
    ·intro e;exact⟨_,z,e⟩
    intro e c f;rw[z]at f;cases f;exact e
   simp only[h,RR,seval];refine a _ _ ⟨_,rfl,u,p,v,t, ?_, ?_⟩
   ·intro e;cases e
   intro _ c f;have D: ¬(i:Int)<s.length:=aH h;rw[dM (by omega)]at f;cases f
  rintro l H ⟨b,C,u,p,v,t,L,G⟩;refine dS _ C (fun f=>?_) (fun f=>?_)
  ·refine aL ?_;simp only[bL]
   obtain⟨c,z,hd⟩:=L f;obtain⟨A,E⟩:=bC.1 z;have O:=zM hd;have F:s.drop i=c::s.drop (i+1):=by rw[bJ A,E]
   rw[F]at o x;simp only[List.takeWhile,hd,Aq,aJ]at o x;refine aN ?_;refine aC fun K a=>?_;refine aG ?_;simp only[RR,seval];simp only[*,RR,seval];rw[IntWalk.u64_in (n *10) (by omega),IntWalk.u8_in _ (by omega),IntWalk.u64_in ((c.toNat:Int)- 48) (by omega),IntWalk.u64_in _ (by omega)];refine a _ _ (aI ?_);refine aC fun K a=>?_;refine aG ?_;simp only[RR,seval];refine a _ _ (aX ?_ ?_)<;>intro f
   ·have h:4294967295<n *10+((c.toNat:Int)- 48):=aF f
    rw[bP h]at o;refine aC fun K a=>?_;refine aG ?_;simp only[RR,seval];apply a;clear a K;refine aG ?_;simp only[RR,seval];refine aG ?_;simp only[RR,seval];simp only[p,RR,seval];rw[aT _ (by omega)];exact B (s.length-(i+1)) _ _ (by omega) ⟨i+1,0,true,rfl,by omega,by omega,by omega,u,rfl,rfl,rfl,o,by omega⟩
   have h: ¬4294967295<n *10+((c.toNat:Int)- 48):=aH f;rw[aM h]at o;refine aL ?_;simp only[bL];refine aG ?_;simp only[RR,seval];simp only[p,RR,seval];rw[aT _ (by omega)];exact B (s.length-(i+1)) _ _ (by omega) ⟨i+1,_,g,rfl,by omega,by omega,by omega,u,rfl,rfl,t,o,by omega⟩
  refine cC ?_;simp only[bL,cG,reduceIte]
  have J:(s.drop i).takeWhile Ko=[]:=by
   cases hd:s.drop i with
   |nil=>rfl
   |cons c r=>
    have :s[i]?=some c:=by
     have:=dR (xs:=s) (i:=i) (j:=0);rw[hd]at this;simpa using this.symm
    simp only[List.takeWhile,G f c this]
  rw[J]at o x;exact a _ _ ⟨i,n,g,v,p,t,o,x⟩
 rintro l H ⟨i,n,g,v,p,t,o,x⟩;refine aC fun K a=>?_;refine aG ?_;simp only[RR,seval];simp only[p,v,t,seval];apply a;refine aO ?_;simp only[aY,aK,bR,RR,seval];refine aZ.pure ?_;rw[o,x]
def gU (s:List UInt8):fQ×Int:=
 match s with
 |[]=>(jQ,3)
 |c::r=>if Si c.toNat then yF ((c::r).takeWhile Ko)else if decide ((c.toNat:Int)=39)then Oy (c::r)else if zV c.toNat then Oc ((c::r).takeWhile wS)else
  match lJ.find? (zG (c::r))with
  |some w=>(⟨4,w,0,0⟩,0)
  |none=>(jQ,3)
theorem sD (p:UInt8→Bool): ∀s:List UInt8,(s.takeWhile p).all p=true
 |[]=>rfl
 |c::s=>by
  simp only[List.takeWhile];cases h:p c
  ·rfl
  simp [h,sD p s]
theorem kJ (p:UInt8→Bool): ∀s:List UInt8,(s.takeWhile p).length≤s.length
 |[]=>by simp
 |c::s=>by
  simp only[List.takeWhile];have:=kJ p s;cases h:p c<;>simp<;>omega
theorem MJ {a:Type} (p:a→Bool) (l:List a) (i:Nat) (b:i<l.length) (c:(l.take i).find? p=none) (h:p l[i]=true):l.find? p=some l[i]:=by
 rw[show l.find? p=(l.take i++l.drop i).find? p by rw[lO],List.find?_append,c,bJ b];simp [List.find?,h]
def vI (s:List UInt8) (i:Nat):fQ×Int:=if(gU (s.drop i)).2=0 then({(gU (s.drop i)).1 with pos:=i},0)else(jQ,(gU (s.drop i)).2)
theorem tX (x:UInt8) (r:List UInt8):Oy (x::r)=match r[0]?,r[1]? with |some c,some d=>if Ij c d then(⟨2,(x::r).take 3,c.toNat,0⟩,0)else(jQ,3)|_,_=>(jQ,3):=by
 match r with
 |[]=>rfl
 |[_]=>rfl
 |c::d::r=>rfl
theorem qP (p:UInt8→Bool): ∀s:List UInt8,s.take (s.takeWhile p).length=s.takeWhile p
 |[]=>rfl
 |c::s=>by
  simp only[List.takeWhile];cases h:p c<;>simp [qP p s]
theorem X2 (c d:UInt8):Ij c d=(decide ((d.toNat:Int)=39)&&decide (32≤(c.toNat:Int))&&decide ((c.toNat:Int)≤126)&& !decide ((c.toNat:Int)=39)&& !decide ((c.toNat:Int)=92)):=by
 have a:(!decide ((c.toNat:Int)<32))=decide (32≤(c.toNat:Int)):=by rw[eF];simp
 have b:(!decide (126<(c.toNat:Int)))=decide ((c.toNat:Int)≤126):=by rw[eF];simp
 rw[Ij,a,b]
theorem GG (s:List UInt8) (i:Nat) (hs:s.length≤1000000) (hi:i<s.length):eH dN 98 [.str s, .int .i64 i] (EE (vI s i)):=by
 refine bX 161 [.cell 4 159, .tmp 5] func98 ?_;have y:s[i]?=some s[i]:=aD hi;have G:s.drop i=s[i]::s.drop (i+1):=bJ hi;have b6:(s.drop i).length=s.length-i:=fG;generalize v:s[i]=c at y G;refine aC fun K a=>?_;refine aG ?_;simp only[RR,seval];refine aQ fun b u=>?_;simp only[RR,seval];apply a;clear a K;refine aC fun K a=>?_;refine aG ?_;simp only[RR,seval];simp only[y,RR,seval];apply a;clear a K;refine cI (fun f H=>Si c.toNat=false∧ ∃b,f 0= .str s∧f 1= .int .i64 i∧f 4= .ptr 4 b 0 0∧H b=some (.rows 4 [jQ.row])∧f 6= .int .u8 c.toNat) (fun K a=>?_) ?_
 ·refine aC fun K a=>?_;refine aG ?_;simp only[RR,seval]
  refine aP (tM _) ?_;simp only[RR,seval];apply a;clear a K;refine aX ?_ ?_<;>intro hd
  ·have z:gU (s.drop i)=yF ((s.drop i).takeWhile Ko):=by
    rw[G];simp only[gU,hd,cT]
   have B:=Ap ((s.drop i).takeWhile Ko) 0;have b3:=kJ Ko (s.drop i);refine aC fun K a=>?_;refine aG ?_;simp only[RR,seval];refine aP (A4 s i hs (by omega)) ?_;simp only[RR,seval];apply a;clear a K;refine aI ?_;refine aC fun K a=>?_;refine aG ?_;simp only[RR,seval];apply a;clear a K;refine aX ?_ ?_<;>intro R
   ·refine aC fun K a=>?_;refine aG ?_;simp only[RR,seval]
    apply a;clear a K;refine aO ?_;simp only[bL,aY,aK,bR,RR,seval];refine aZ.pure ?_
    cases hn:Qy 0 ((s.drop i).takeWhile Ko)with
    |some m=>rw[hn]at B;simp only at B;rw[B]at R;cases R
    |none=>simp [vI,z,yF,hn,EE,jQ,fQ.row]
   refine aL ?_;simp only[bL];have o:(i:Int)≤((i+((s.drop i).takeWhile Ko).length:Nat):Int):=by omega
   have W:(((i+((s.drop i).takeWhile Ko).length:Nat)):Int)≤s.length:=by omega
   refine aC fun K a=>?_;refine aG ?_;simp only[RR,seval];simp only[o,W,RR,seval];apply a;clear a K;refine aO ?_;simp only[bL,aY,aK,bR,RR,seval];refine aZ.pure ?_
   cases hn:Qy 0 ((s.drop i).takeWhile Ko)with
   |none=>rw[hn]at B;simp only at B;rw[B]at R;cases R
   |some m=>
    rw[hn]at B;simp only at B;have b5:=yG _ 0 m (by omega) (by omega) (sD Ko _) hn;rw[B,gG _ (by simp only;omega),gO];simp only[vI,z,yF,hn,EE,fQ.row,cT,qP]
  refine aL ?_;simp only[bL];exact a _ _ ⟨hd,b,rfl,rfl,rfl,bG _ _ _,rfl⟩
 rintro f H ⟨hd,b,p,o,l,u,Q⟩;refine cI (fun f H=>decide ((c.toNat:Int)=39)=false∧f 0= .str s∧f 1= .int .i64 i∧f 4= .ptr 4 b 0 0∧H b=some (.rows 4 [jQ.row])∧f 6= .int .u8 c.toNat) (fun K a=>?_) ?_
 ·refine aC fun K a=>?_;refine aG ?_;simp only[RR,seval]
  simp only[Q,RR,seval];apply a;clear a K;refine aX ?_ ?_<;>intro N
  ·have z:gU (s.drop i)=Oy (s.drop i):=by
    rw[G];simp only[gU,hd,N,cT,dP,cF]
   have L:Oy (s.drop i)=match s[i+1]?,s[i+2]? with |some c,some d=>if Ij c d then(⟨2,(s.drop i).take 3,c.toNat,0⟩,0)else(jQ,3)|_,_=>(jQ,3):=by
    rw[G,tX];simp only[dR]
   refine aI ?_;refine cI (fun f H=> ∃t,f 76= .bool t∧f 0= .str s∧f 1= .int .i64 i∧f 4= .ptr 4 b 0 0∧H b=some (.rows 4 [jQ.row])∧(t=false→Oy (s.drop i)=(jQ,3))∧(t=true→ ∃e:UInt8,s[i+1]?=some e∧i+2<s.length∧Oy (s.drop i)=(⟨2,(s.drop i).take 3,e.toNat,0⟩,0))) (fun K a=>?_) ?_
   ·refine aG ?_;simp only[RR,seval]
    simp only[p,o,RR,seval];rw[aT _ (by omega)];by_cases A:i+2<s.length
    ·have h:decide ((i:Int)+2<s.length)=true:=cO (by omega)
     have D:(0:Int)≤(i:Int)+1:=by omega
     have E:(0:Int)≤(i:Int)+2:=by omega
     have U:((i:Int)+1).toNat=i+1:=by omega
     have V:((i:Int)+2).toNat=i+2:=by omega
     have F:s[i+1]?=some s[i+1]:=aD (by omega);have J:s[i+2]?=some s[i+2]:=aD (by omega);have w1:IntKind.wrap .i64 ((i:Int)+1)=(i:Int)+1:=aT _ (by omega);have w2:IntKind.wrap .i64 ((i:Int)+2)=(i:Int)+2:=aT _ (by omega);generalize s[i+1]=e at F;generalize s[i+2]=d at J;rw[F,J]at L;simp only[X2]at L;simp only[h,p,o,w2,E,V,J,RR,seval]
     repeat' ((first|refine cQ (fun h=>?_) (fun h=>?_)|refine fF (fun h=>?_) (fun h=>?_))<;>simp only[h,p,o,w1,D,U,F,RR,seval])
     all_goals
      refine a _ _ ⟨_,rfl,p,o,l,u, ?_, ?_⟩<;>clear a
      ·intro g;(rw[L];simp_all<;>(intros;omega))
      intro g;first|(simp only[cF]at g;done)|exact⟨e,F,A,by rw[L];simp_all⟩
    have h:decide ((i:Int)+2<s.length)=false:=bD (by omega);have J:s[i+2]?=none:=dM (by omega);simp only[h,RR,seval];refine a _ _ ⟨_,rfl,p,o,l,u,fun _=>?_,fun e=>by cases e⟩;rw[L,J];cases s[i+1]?<;>rfl
   rintro f H ⟨t,a5,p,o,l,u,ht,b4⟩;refine dS _ a5 (fun v=>?_) (fun v=>?_)
   ·obtain⟨e,F,A,a6⟩:=b4 v
    have D:(0:Int)≤(i:Int)+1:=by omega
    have E:(0:Int)≤(i:Int)+3:=by omega
    have U:((i:Int)+1).toNat=i+1:=by omega
    have V:((i:Int)+3).toNat=i+3:=by omega
    have e5:(i:Int)+3≤s.length:=by omega
    have e6:(i:Int)≤((i+3:Nat):Int):=by omega
    have w1:IntKind.wrap .i64 ((i:Int)+1)=(i:Int)+1:=aT _ (by omega);have w3:IntKind.wrap .i64 ((i:Int)+3)=(i:Int)+3:=aT _ (by omega);have w4:IntKind.wrap .u32 (e.toNat:Int)=e.toNat:=gG _ (by have:=e.toNat_lt;omega);refine aC fun K a=>?_;refine fS (fun _=>True) [(0,true),(1,true),(2,true),(3,true),(4,true),(5,true),(6,true),(7,true),(8,true),(9,true),(10,true),(11,true),(12,true),(13,true)] eP (by kernel_rfl) rfl ?_;simp only[sZ,p,o,l,u,w1,w3,w4,D,E,U,V,e5,e6,F,fQ.row,jQ,RR,seval];apply a;clear a K;refine aO ?_;simp only[bL,aY,aK,bR,l,RR,seval];refine aZ.pure ?_;simp only[vI,z,a6,cT,EE,fQ.row];rw[gO]
   refine aL ?_;simp only[bL];refine aC fun K a=>?_;refine aG ?_;simp only[RR,seval];simp only[l,u,fQ.row,jQ,RR,seval];apply a;clear a K;refine aO ?_;simp only[bL,aY,aK,bR,l,RR,seval];refine aZ.pure ?_;simp only[vI,z,ht v];rfl
  refine aL ?_;simp only[bL];exact a _ _ ⟨N,p,o,l,u,Q⟩
 rintro f H ⟨N,p,o,l,u,Q⟩;refine cI (fun f H=>zV c.toNat=false∧f 0= .str s∧f 1= .int .i64 i∧f 4= .ptr 4 b 0 0∧H b=some (.rows 4 [jQ.row])) (fun K a=>?_) ?_
 ·refine aC fun K a=>?_;refine aG ?_;simp only[RR,seval]
  simp only[Q,seval];refine aP (tN _) ?_;simp only[RR,seval];apply a;clear a K;refine aX ?_ ?_<;>intro C
  ·have z:gU (s.drop i)=Oc ((s.drop i).takeWhile wS):=by
    rw[G];simp only[gU,hd,N,C,cT,dP,cF]
   have b3:=kJ wS (s.drop i);have a0:=qP wS (s.drop i);refine aC fun K a=>?_;refine aG ?_;simp only[RR,seval];simp only[o,seval];apply a;clear a K;refine cI (fun f H=>f 0= .str s∧f 1= .int .i64 i∧f 4= .ptr 4 b 0 0∧H b=some (.rows 4 [jQ.row])∧f 10= .int .i64 ((i+((s.drop i).takeWhile wS).length:Nat))) (fun K a=>?_) ?_
   ·refine aN ?_
    refine eK (fun k f H=> ∃j:Nat,k=s.length-j∧j≤s.length∧f 0= .str s∧f 1= .int .i64 i∧f 4= .ptr 4 b 0 0∧H b=some (.rows 4 [jQ.row])∧f 10= .int .i64 j∧i+((s.drop i).takeWhile wS).length=j+((s.drop j).takeWhile wS).length) (s.length-i) ⟨i,rfl,by omega,p,o,l,u,rfl,rfl⟩ ?_;rintro k f H ⟨j,rfl,hj,p,o,l,u,x,S⟩ K2 X;refine aI ?_;refine cI (fun I H'=> ∃t,I 114= .bool t∧I 0= .str s∧I 1= .int .i64 i∧I 4= .ptr 4 b 0 0∧H' b=some (.rows 4 [jQ.row])∧I 10= .int .i64 j∧(t=true→ ∃c,s[j]?=some c∧wS c=true)∧(t=false→ ∀c,s[j]?=some c→wS c=false)) (fun K a=>?_) ?_
    ·refine aG ?_;simp only[RR,seval]
     simp only[p,x,RR,seval];refine fF (fun h=>?_) (fun h=>?_)
     ·have W:(j:Int)<s.length:=aF h
      have A:j<s.length:=by omega
      have y:s[j]?=some s[j]:=aD A;generalize s[j]=e at y;simp only[h,p,x,y,RR,seval];refine aP (tN _) ?_;simp only[RR,seval];refine cQ (fun C=>?_) (fun C=>?_)<;>simp only[C,p,x,y,RR,seval]
      ·refine aP (tM _) ?_
       simp only[RR,seval]
       repeat' ((refine cQ (fun h=>?_) (fun h=>?_))<;>simp only[h,p,x,y,RR,seval])
       all_goals
        refine a _ _ ⟨_,rfl,p,o,l,u,x, ?_, ?_⟩
        ·intro g;refine⟨e,y, ?_⟩;simp [wS,OY, *]
        intro g c' a1;rw[y]at a1;cases a1;simp [wS,OY, *]at g⊢
      refine a _ _ ⟨_,rfl,p,o,l,u,x, ?_, ?_⟩
      ·intro g;refine⟨e,y, ?_⟩;simp [wS,OY,C]
      intro g;cases g
     simp only[h,RR,seval];refine a _ _ ⟨_,rfl,p,o,l,u,x, ?_, ?_⟩
     ·intro g;cases g
     intro _ c v;have W: ¬(j:Int)<s.length:=aH h;rw[dM (by omega)]at v;cases v
    rintro f H ⟨t,a4,p,o,l,u,x,ht,a8⟩;refine dS _ a4 (fun v=>?_) (fun v=>?_)
    ·refine aL ?_;simp only[bL]
     obtain⟨e,y,he⟩:=ht v;obtain⟨A,a7⟩:=bC.1 y;have Y:s.drop j=e::s.drop (j+1):=by rw[bJ A,a7]
     rw[Y]at S;simp only[List.takeWhile,he,aJ]at S;refine aN ?_;refine aG ?_;simp only[RR,seval];simp only[x,RR,seval];rw[aT _ (by omega)];exact X (s.length-(j+1)) _ _ (by omega) ⟨j+1,rfl,by omega,p,o,l,u,rfl,by omega⟩
    refine cC ?_;simp only[bL,cG,reduceIte]
    have b2:(s.drop j).takeWhile wS=[]:=by
     cases Y:s.drop j with
     |nil=>rfl
     |cons e r=>
      have :s[j]?=some e:=by
       have:=dR (xs:=s) (i:=j) (j:=0);rw[Y]at this;simpa using this.symm
      simp only[List.takeWhile,a8 v e this]
    rw[b2]at S;exact a _ _ ⟨p,o,l,u,by rw[x,S];rfl⟩
   rintro f H ⟨p,o,l,u,x⟩;have Z:Oc ((s.drop i).takeWhile wS)=if 20<((s.drop i).takeWhile wS).length then(jQ,2)else if jP.contains ((s.drop i).takeWhile wS)then(⟨3,(s.drop i).takeWhile wS,0,0⟩,0)else(⟨1,(s.drop i).takeWhile wS,0,0⟩,0):=rfl
   generalize b7:(s.drop i).takeWhile wS=T at *;have D:(i:Int)≤((i+T.length:Nat):Int):=by omega
   have E:((i+T.length:Nat):Int)≤s.length:=by omega
   refine aI ?_;refine aC fun K a=>?_;refine aG ?_;simp only[RR,seval];simp only[o,x,RR,seval];rw[aT _ (by omega)];apply a;clear a K;refine aX ?_ ?_<;>intro v
   ·have h:20<T.length:=by have:=aF v;omega
    refine aC fun K a=>?_;refine aG ?_;simp only[RR,seval];simp only[l,u,fQ.row,jQ,RR,seval];apply a;clear a K;refine aO ?_;simp only[bL,aY,aK,bR,l,RR,seval];refine aZ.pure ?_;simp only[vI,z,Z,h,cT];rfl
   have h: ¬20<T.length:=by have:=aH v;omega
   refine aL ?_;simp only[bL];refine aI ?_;refine aC fun K a=>?_;refine fS (fun _=>True) [(1,false),(2,false),(3,false),(4,false),(0,true),(5,true)] eP (by kernel_rfl) rfl ?_;simp only[sZ,gL,p,o,x,D,E,RR,seval];refine aP Lu ?_;simp only[RR,seval];refine aP (HK jP _ (by decide)) ?_;simp only[gO,a0,RR,seval];apply a;clear a K;refine aX ?_ ?_<;>intro hw
   ·refine aC fun K a=>?_;refine aG ?_;simp only[RR,seval]
    simp only[p,o,l,x,u,D,E,gO,a0,fQ.row,jQ,RR,seval];apply a;clear a K;refine aO ?_;simp only[bL,aY,aK,bR,l,RR,seval];refine aZ.pure ?_;simp only[vI,z,Z,h,hw,cT,dP];rfl
   refine aL ?_;simp only[bL];refine aC fun K a=>?_;refine aG ?_;simp only[RR,seval];simp only[p,o,l,x,u,D,E,gO,a0,fQ.row,jQ,RR,seval];apply a;clear a K;refine aO ?_;simp only[bL,aY,aK,bR,l,RR,seval];refine aZ.pure ?_;simp only[vI,z,Z,h,hw,cT,dP,cF];rfl
  refine aL ?_;simp only[bL];exact a _ _ ⟨C,p,o,l,u⟩
 rintro f H ⟨C,p,o,l,u⟩
 have a2:gU (s.drop i)=match lJ.find? (zG (s.drop i))with |some w=>(⟨4,w,0,0⟩,0)|none=>(jQ,3):=by
  rw[G];simp only[gU,hd,N,C,dP,cF]
  all_goals rfl
 refine aC fun K a=>?_;refine aG ?_;simp only[RR,seval];refine aP S1 ?_;simp only[RR,seval];apply a;clear a K;refine cI (fun f H=>lJ.find? (zG (s.drop i))=none∧f 4= .ptr 4 b 0 0∧H b=some (.rows 4 [jQ.row])) (fun K a=>?_) ?_
 ·refine aC fun K a=>?_;refine aG ?_;simp only[RR,seval]
  apply a;clear a K;refine aN ?_;refine eK (fun n f H=> ∃j:Nat,n=24 -j∧j≤24∧(lJ.take j).find? (zG (s.drop i))=none∧f 0= .str s∧f 1= .int .i64 i∧f 4= .ptr 4 b 0 0∧H b=some (.rows 4 [jQ.row])∧f 11= .isl 1 (lJ.map fun w=>[.str w])∧f 12= .int .i64 j) 24 ⟨0,rfl,by omega,rfl,p,o,l,u,rfl,rfl⟩ ?_;rintro n f H ⟨j,rfl,hj,M,p,o,l,u,O,P⟩ K2 X;refine aI ?_;refine aC fun K a=>?_;refine aG ?_;simp only[RR,seval];simp only[O,P,aE,RR,seval];apply a;clear a K;refine aX ?_ ?_<;>intro v
  ·refine aL ?_;simp only[bL]
   have a9:(j:Int)<lJ.length:=aF v;have A:j<lJ.length:=by omega
   have b0:lJ.length=24:=rfl;have a3:(lJ.map fun w=>[AV.str w])[j]?=some [.str lJ[j]]:=by rw[dH,aD A];rfl
   have b1:lJ[j].length≤1000000:=by
    have : ∀w∈lJ,w.length≤2:=by decide
    have:=this _ (bV A);omega
   refine aI ?_;refine aN ?_;refine aC fun K a=>?_;refine aG ?_;simp only[RR,seval];simp only[p,o,O,P,a3,RR,seval];refine aP (Io s lJ[j] i hs b1 (by omega)) ?_;simp only[RR,seval];apply a;clear a K;refine aX ?_ ?_<;>intro v
   ·refine aC fun K a=>?_;refine aG ?_;simp only[RR,seval]
    simp only[o,l,O,P,a3,u,fQ.row,jQ,RR,seval];apply a;clear a K;refine aO ?_;simp only[bL,cG,aY,aK,bR,l,RR,seval];refine aZ.pure ?_;have z:lJ.find? (zG (s.drop i))=some lJ[j]:=MJ _ _ _ A M v;simp only[vI,a2,z,cT];rfl
   refine aL ?_;simp only[bL,cG];refine aG ?_;simp only[RR,seval];simp only[P,RR,seval];rw[aT _ (by omega)];refine X (24 -(j+1)) _ _ (by omega) ⟨j+1,rfl,by omega, ?_,p,o,l,u,O,rfl⟩;rw[bS A,List.find?_append,M];simp [List.find?,v]
  refine cC ?_;simp only[bL,cG,reduceIte];have a9: ¬(j:Int)<lJ.length:=aH v;have b0:lJ.length=24:=rfl;have :j=24:=by omega
  subst this;exact a _ _ ⟨M,l,u⟩
 rintro f H ⟨M,l,u⟩;refine aC fun K a=>?_;refine aG ?_;simp only[RR,seval];simp only[l,u,fQ.row,jQ,RR,seval];apply a;clear a K;refine aO ?_;simp only[aY,aK,bR,l,RR,seval];refine aZ.pure ?_;simp only[vI,a2,M];rfl
def PL (c:Int):Bool:=decide (c=32)||decide (c=9)||decide (c=10)
def rU (c:UInt8):Bool:= !decide ((c.toNat:Int)=10)
def nU:List UInt8→Nat→Nat→Except (Nat×Int) (List fQ)
 |[],_,_=> .ok []
 |_::r,k+1,i=>nU r k (i+1)
 |c::r,0,i=>
  if PL c.toNat then nU r 0 (i+1)
  else if zG (c::r) [47,47]then nU r (((c::r).takeWhile rU).length- 1) (i+1)
  else if(gU (c::r)).2=0 then(nU r ((gU (c::r)).1.text.length - 1) (i+1)).map ({(gU (c::r)).1 with pos:=i}:: ·)
  else .error (i,(gU (c::r)).2)
theorem Ba: ∀(s:List UInt8) (k i:Nat),nU s k i=nU (s.drop k) 0 (i+k)
 |[],k,i=>by cases k<;>simp [nU]
 |c::r,0,i=>by simp
 |c::r,k+1,i=>by
  simp only[nU,jI];rw[Ba r k (i+1)];congr 1;omega
def UI:Except (Nat×Int) (List fQ)→AV
 | .ok l=> .tup [VK 4 (l.map fQ.row), .int .i64 0, .int .i64 0]
 | .error (i,e)=> .tup [.nsl, .int .i64 i, .int .i64 e]
def Az (s:List UInt8):Except (Nat×Int) (List fQ):=if 20000<s.length then .error (0,2)else nU s 0 0
def wZ (l:List fQ) (x:Except (Nat×Int) (List fQ)):Except (Nat×Int) (List fQ):=x.map (l++ ·)
theorem KZ (x:Except (Nat×Int) (List fQ)):wZ [] x=x:=by cases x<;>rfl
theorem FQ (l:List fQ) (t:fQ) (x:Except (Nat×Int) (List fQ)):wZ l (x.map (t:: ·))=wZ (l++[t]) x:=by cases x<;>simp [wZ,Except.map]
theorem C5 {s:List UInt8} (j:s≠[]) (h:(gU s).2=0):0<(gU s).1.text.length:=by
 cases s with
 |nil=>exact absurd rfl j
 |cons c r=>
  simp only[gU]at *;split at h
  ·rename_i hd
   rw[bP hd];simp only[yF]at *;split at h
   ·rename_i n e;have :Ko c=true:=hd;simp [List.takeWhile,this]
   exact absurd h (by decide)
  rename_i hd;rw[aM hd];split at h
  ·rename_i b
   rw[bP b];rw[tX]at *;split at h
   ·rename_i k l;split at h
    ·rename_i d;simp only[d,cT];simp
    exact absurd h (by decide)
   exact absurd h (by decide)
  rename_i b;rw[aM b];split at h
  ·rename_i a
   rw[bP a]
   have i:0<((c::r).takeWhile wS).length:=by
    have :wS c=true:=by simp [wS,OY,a]
    simp only[List.takeWhile,this];simp
   simp only[Oc]at *;split at h
   ·exact absurd h (by decide)
   rename_i g;rw[aM g];split<;>exact i
  rename_i a;rw[aM a];split at h
  ·rename_i w e
   have:=List.mem_of_find?_eq_some e;have f: ∀w∈lJ,0<w.length:=by decide
   exact f w this
  exact absurd h (by decide)
theorem Ot (s:List UInt8):(gU s).1.text.length≤s.length:=by
 cases s with
 |nil=>simp [gU,jQ]
 |cons c r=>
  simp only[gU];split
  ·simp only[yF]
   split
   ·exact kJ _ _
   simp [jQ]
  split
  ·rw[tX]
   split
   ·split
    ·rename_i d a _
     have:=(bC.1 a).1;simp only[dJ];omega
    simp [jQ]
   simp [jQ]
  split
  ·simp only[Oc]
   split
   ·simp [jQ]
   split<;>exact kJ _ _
  split
  ·rename_i w e
   have h:=List.find?_some e;have b:(c::r).take w.length=w:=aF h;have:=congrArg List.length b;rw[dJ]at this;simp only;omega
  simp [jQ]
def kO:List UInt8→Nat→Nat
 |[],_=>0
 |_::r,k+1=>kO r k+1
 |c::r,0=>if PL c.toNat then kO r 0+1 else if zG (c::r) [47,47]then kO r (((c::r).takeWhile rU).length- 1)+1 else 0
theorem yD: ∀(s:List UInt8) (k:Nat),k≤s.length→kO s k=kO (s.drop k) 0+k
 |[],k,h=>by simp at h;subst h;rfl
 |c::r,0,_=>by simp
 |c::r,k+1,h=>by
  simp only[kO,jI];rw[yD r k (by simpa using h)];omega
theorem Dp {c:UInt8} {r:List UInt8} (h:zG (c::r) [47,47]=true):1≤((c::r).takeWhile rU).length:=by
 have :(c::r).take 2=[47,47]:=aF h;simp only[fR,List.cons.injEq]at this;have a:rU c=true:=by rw[this.1];rfl
 simp only[List.takeWhile,a];simp
theorem Gx (n:Nat): ∀(s:List UInt8) (i:Nat),s.length≤n→kO s 0≤s.length∧nU s 0 i=nU (s.drop (kO s 0)) 0 (i+kO s 0)∧(∀c r,s.drop (kO s 0)=c::r→PL c.toNat=false∧zG (c::r) [47,47]=false):=by
 induction n with
 |zero=>
  intro s i h
  cases s with
  |nil=>exact⟨by simp [kO],by simp [kO],fun c r e=>by simp at e⟩
  |cons=>simp at h
 |succ n ih=>
  intro s i h
  cases s with
  |nil=>exact⟨by simp [kO],by simp [kO],fun c r e=>by simp at e⟩
  |cons c r=>
   simp only[aJ]at h
   cases hw:PL c.toNat with
   |true=>
    obtain⟨f,a,b⟩:=ih r (i+1) (by omega);simp only[kO,hw,cT,nU,aJ,jI];refine⟨by omega, ?_,b⟩;rw[a];congr 1;omega
   |false=>
    cases hp:zG (c::r) [47,47]with
    |true=>
     have k:=Dp hp;have j:=kJ rU (c::r);simp only[aJ]at j;simp only[kO,hw,hp,cT,dP,cF,nU,aJ];rw[Ba,yD _ _ (by omega)];obtain⟨f,a,b⟩:=ih (r.drop (((c::r).takeWhile rU).length- 1)) (i+1+(((c::r).takeWhile rU).length- 1)) (by rw[fG];omega);rw[fG]at f;rw[List.drop_drop]at a b;refine⟨by omega, ?_, ?_⟩
     ·rw[a,jI]
      congr 1
      ·congr 1;omega
      omega
     intro d g e;rw[jI]at e;refine b d g ?_;rw[←e];congr 1;omega
    |false=>
     simp only[kO,hw,hp,dP,cF];refine⟨by omega,by simp,fun d g e=>?_⟩;simp only[dI,List.cons.injEq]at e;rw[←e.1,←e.2];exact⟨hw,hp⟩
theorem Vp (s:List UInt8) (i:Nat) (T:s.length≤1000000) (O:i≤s.length):eH dN 97 [.str s, .int .i64 i] (.int .i64 ((i+kO (s.drop i) 0:Nat))):=by
 refine bX 46 [.tmp 4] func97 ?_;refine aC fun K b=>?_;refine aG ?_;simp only[RR,seval];apply b;clear b K;refine cI (fun f H=>f 1= .int .i64 ((i+kO (s.drop i) 0:Nat))) (fun K b=>?_) ?_
 ·refine aN ?_
  refine eK (fun n f H=> ∃j:Nat,n=s.length-j∧j≤s.length∧f 0= .str s∧f 1= .int .i64 j∧i+kO (s.drop i) 0=j+kO (s.drop j) 0) (s.length-i) ⟨i,rfl,O,rfl,rfl,rfl⟩ ?_;rintro n f H ⟨j,rfl,E,d,a,x⟩ W C;refine aI ?_;refine aC fun K b=>?_;refine aG ?_;simp only[RR,seval];simp only[d,a,RR,seval];apply b;clear b K;refine aX ?_ ?_<;>intro o
  ·have u:j<s.length:=by have:=aF o;omega
   have l:s[j]?=some s[j]:=aD u;have p:s.drop j=s[j]::s.drop (j+1):=bJ u;generalize s[j]=c at l p;refine aL ?_;simp only[bL];refine aN ?_;refine aN ?_;refine cI (fun f H=>f 10= .bool (PL c.toNat)∧f 0= .str s∧f 1= .int .i64 j) (fun K b=>?_) ?_
   ·refine aG ?_;simp only[RR,seval]
    simp only[d,a,l,RR,seval]
    repeat' ((refine cQ (fun h=>?_) (fun h=>?_))<;>simp only[h,d,a,l,RR,seval])
    all_goals exact b _ _ ⟨by simp [upd,PL, *],d,a⟩
   rintro f H ⟨F,d,a⟩;refine dS _ F (fun z=>?_) (fun z=>?_)
   ·refine aG ?_;simp only[RR,seval]
    simp only[a,cG,RR,seval];rw[aT _ (by omega)];refine C (s.length-(j+1)) _ _ (by omega) ⟨j+1,rfl,by omega,d,rfl, ?_⟩;rw[x,p];simp only[kO,z,cT];omega
   refine aC fun K b=>?_;refine aG ?_;simp only[RR,seval];simp only[d,a,seval];refine aP (Io s _ j T (by decide) E) ?_;simp only[RR,seval];apply b;clear b K;refine aX ?_ ?_<;>intro v
   ·have Q:=kJ rU (s.drop j)
    rw[fG]at Q;refine aN ?_;refine eK (fun n f H=> ∃k:Nat,n=s.length-k∧k≤s.length∧f 0= .str s∧f 1= .int .i64 k∧j+((s.drop j).takeWhile rU).length=k+((s.drop k).takeWhile rU).length) (s.length-j) ⟨j,rfl,E,d,a,rfl⟩ ?_;rintro n f H ⟨k,rfl,P,d,a,y⟩ X J;refine aI ?_;refine cI (fun A V=> ∃t,A 42= .bool t∧A 0= .str s∧A 1= .int .i64 k∧(t=true→ ∃c,s[k]?=some c∧rU c=true)∧(t=false→ ∀c,s[k]?=some c→rU c=false)) (fun K b=>?_) ?_
    ·refine aG ?_;simp only[RR,seval]
     simp only[d,a,RR,seval];refine fF (fun h=>?_) (fun h=>?_)
     ·have G:(k:Int)<s.length:=aF h
      have u:k<s.length:=by omega
      have l:s[k]?=some s[k]:=aD u;generalize s[k]=e at l;simp only[h,d,a,l,RR,seval]
      repeat' ((refine cQ (fun h=>?_) (fun h=>?_))<;>simp only[h,d,a,l,RR,seval])
      refine b _ _ ⟨_,rfl,d,a, ?_, ?_⟩
      ·intro g;exact⟨e,l,g⟩
      intro g Y D;rw[l]at D;cases D;exact g
     simp only[h,RR,seval];refine b _ _ ⟨_,rfl,d,a, ?_, ?_⟩
     ·intro g;cases g
     intro _ c o;have G: ¬(k:Int)<s.length:=aH h;rw[dM (by omega)]at o;cases o
    rintro f H ⟨t,I,d,a,U,N⟩;refine dS _ I (fun o=>?_) (fun o=>?_)
    ·refine aL ?_;simp only[bL]
     obtain⟨e,l,M⟩:=U o;obtain⟨u,L⟩:=bC.1 l;have B:s.drop k=e::s.drop (k+1):=by rw[bJ u,L]
     rw[B]at y;simp only[List.takeWhile,M,aJ]at y;refine aN ?_;refine aG ?_;simp only[RR,seval];simp only[a,RR,seval];rw[aT _ (by omega)];exact J (s.length-(k+1)) _ _ (by omega) ⟨k+1,rfl,by omega,d,rfl,by omega⟩
    refine cC ?_;simp only[bL,cG,reduceIte,Nat.reduceEqDiff]
    have S:(s.drop k).takeWhile rU=[]:=by
     cases B:s.drop k with
     |nil=>rfl
     |cons e r=>
      have :s[k]?=some e:=by
       have:=dR (xs:=s) (i:=k) (j:=0);rw[B]at this;simpa using this.symm
      simp only[List.takeWhile,N o e this]
    rw[S]at y;simp only[aS,mB]at y;rw[p]at v;have R:=Dp v;rw[←p]at R;refine C (s.length-k) _ _ (by omega) ⟨k,rfl,P,d,a, ?_⟩;rw[x]
    conv=>lhs;rw[p]
    simp only[kO,z,v,cT,dP,cF];rw[←p,yD _ _ (by rw[fG];omega),List.drop_drop,show j+1+(((s.drop j).takeWhile rU).length- 1)=k by omega];omega
   refine aC fun K b=>?_;refine aG ?_;simp only[RR,seval];simp only[a,seval];apply b;clear b K;refine aO ?_;simp only[bL,cG,aY,aK,bR,RR,seval];refine aZ.pure ?_;rw[x,p];rw[p]at v;simp only[kO,z,v,dP,cF];simp
  refine cC ?_;simp only[bL,cG,reduceIte];have :j=s.length:=by have:=aH o;omega
  subst this;rw[dA]at x;apply b;rw[x];exact a
 intro f H a;refine aC fun K b=>?_;refine aG ?_;simp only[RR,seval];simp only[a,seval];apply b;clear b K;refine aO ?_;simp only[aY,aK,bR,RR,seval];refine aZ.pure ?_;rfl
theorem Vm (s:List UInt8) (F:s.length≤1000000):eH dN 64 [.str s] (UI (Az s)):=by
 refine bX 40 [.tmp 2, .tmp 3, .tmp 4] func64 ?_;refine aC fun K d=>?_;refine aG ?_;simp only[RR,seval];apply d;clear d K;refine aI ?_;refine aC fun K d=>?_;refine aG ?_;simp only[RR,seval];apply d;clear d K;refine aX ?_ ?_<;>intro k
 ·have h:20000<s.length:=by have:=aF k;omega
  refine aC fun K d=>?_;refine aG ?_;simp only[RR,seval];apply d;clear d K;refine aO ?_;simp only[bL,aY,aK,bR,RR,seval];refine aZ.pure ?_;simp [Az,h,UI]
 have h: ¬20000<s.length:=by have:=aH k;omega
 have I:Az s=nU s 0 0:=aM h;refine aL ?_;simp only[bL];refine aC fun K d=>?_;refine aG ?_;simp only[RR,seval];apply d;clear d K;have M:=Vp s 0 F (by omega);obtain⟨a9,N,Y⟩:=Gx s.length s 0 (bE _);simp only[dI,eC]at M N;refine aC fun K d=>?_;refine aG ?_;simp only[RR,seval];refine aP M ?_;simp only[RR,seval];apply d;clear d K;refine cI (fun j H=> ∃l:List fQ,nU s 0 0= .ok l∧Js 4 (j 5) (l.map fQ.row) H) (fun K d=>?_) ?_
 ·refine aN ?_
  refine eK (fun n j H=> ∃(a:Nat) (l:List fQ),n=s.length-a∧a≤s.length∧nU s 0 0=wZ l (nU (s.drop a) 0 a)∧(∀c r,s.drop a=c::r→PL c.toNat=false∧zG (c::r) [47,47]=false)∧l.length≤a∧j 0= .str s∧Js 4 (j 5) (l.map fQ.row) H∧j 6= .int .i64 a) (s.length-kO s 0) ⟨kO s 0,[],rfl,by omega,by rw[KZ];exact N,Y,by simp,rfl, .inl ⟨rfl,rfl⟩,rfl⟩ ?_;rintro n j H ⟨a,l,rfl,ha,D,a1,a8,v,f,x⟩ K2 S;refine aI ?_;refine aC fun K d=>?_;refine aG ?_;simp only[RR,seval];simp only[v,x,RR,seval];apply d;clear d K;refine aX ?_ ?_<;>intro k
  ·have C:a<s.length:=by have:=aF k;omega
   have B:s.drop a=s[a]::s.drop (a+1):=bJ C;generalize s[a]=c at B;obtain⟨a6,W⟩:=a1 _ _ B
   have G:nU (s.drop a) 0 a=if(gU (s.drop a)).2=0 then(nU (s.drop (a+1)) ((gU (s.drop a)).1.text.length - 1) (a+1)).map ({(gU (s.drop a)).1 with pos:=a}:: ·)else .error (a,(gU (s.drop a)).2):=by
    rw[B];simp only[nU,a6,W,dP,cF]
   have u:=GG s a F C;have J:=Ot (s.drop a);rw[fG]at J;have Q:=C5 (s:=s.drop a) (by rw[B];simp);simp only[vI]at u;refine aL ?_;simp only[bL];refine aN ?_;generalize gU (s.drop a)=p at *;obtain⟨t,e⟩:=p;simp only at G J Q u
   have a0: ∃i,(if e=0 then(({t with pos:=(a:Int)}:fQ),(0:Int))else(jQ,e))=(i,e)∧(e=0→i={t with pos:=(a:Int)}):=by
    by_cases g:e=0
    ·exact⟨_,by rw[bP g,g],fun _=>rfl⟩
    exact⟨jQ,aM g,fun h=>absurd h g⟩
   obtain⟨i,a2,a3⟩:=a0;rw[a2]at u;simp only[EE]at u;refine aC fun K d=>?_;refine aG ?_;simp only[RR,seval];simp only[v,x,seval];refine aP u ?_;simp only[fQ.row,RR,seval];refine aQ fun b T=>?_;simp only[RR,seval];apply d;clear d K
   have L: ∀o,j 5= .osl 4 o (l.map fQ.row).length→o≠b:=fun o e R=>by
    rcases f with⟨f,_⟩|⟨_,a7,y,z⟩
    ·rw[f]at e;cases e
    rw[y]at e;cases e;rw[R,T]at z;cases z
   have E:Js 4 (j 5) (l.map fQ.row) (upd (upd H b (some (.rows 4 [[.int .i64 0, .str [], .int .u32 0, .int .i64 0]]))) b (some (.rows 4 [i.row]))):=by
    rcases f with f|⟨f,o,y,z⟩
    ·exact .inl f
    exact .inr ⟨f,o,y,by simp [upd,L o y,z]⟩
   have A:(upd (upd H b (some (.rows 4 [[.int .i64 0, .str [], .int .u32 0, .int .i64 0]]))) b (some (.rows 4 [i.row]))) b=some (.rows 4 [i.row]):=bG _ _ _;simp only[fQ.row]at E A;generalize(upd (upd H b (some (.rows 4 [[.int .i64 0, .str [], .int .u32 0, .int .i64 0]]))) b (some (.rows 4 [[AV.int .i64 i.kind, .str i.text, .int .u32 i.num, .int .i64 i.pos]])))=H1 at E A⊢;refine aI ?_;refine aC fun K d=>?_;refine aG ?_;simp only[RR,seval];apply d;clear d K;refine aX ?_ ?_<;>intro k
   ·have g: ¬e=0:=by simpa using k
    refine aC fun K d=>?_;refine aG ?_;simp only[RR,seval];simp only[x,seval];apply d;clear d K;refine aO ?_;simp only[bL,cG,aY,aK,bR,RR,seval];refine aZ.pure ?_;rw[I,D,G,aM g];rfl
   have g:e=0:=by simpa using k
   have a4:=a3 g;subst a4;refine aL ?_;simp only[bL];refine aC fun K d=>?_;refine aG ?_;simp only[RR,seval];simp only[A,RR,seval];refine dK ?_;simp only[RR,seval];refine jH (rows:=l.map fQ.row) E.own (by simp only[aE,aJ,aS];omega) (fun _=>trivial) fun v' H' a5 V=>?_;have U:=V b _ A (fun e=>L b e rfl);simp only[RR,seval];apply d;clear d K;have b0:=Q g;have X:=Vp s (a+t.text.length) F (by omega);obtain⟨Z,O,P⟩:=Gx s.length (s.drop (a+t.text.length)) (a+t.text.length) (by rw[fG];omega);rw[fG]at Z;rw[List.drop_drop]at O P;refine aG ?_;simp only[RR,seval];simp only[v,x,U,RR,seval];rw[aT _ (by omega)];refine aP X ?_;simp only[RR,seval];refine S (s.length-(a+t.text.length+kO (s.drop (a+t.text.length)) 0)) _ _ (by omega) ⟨a+t.text.length+kO (s.drop (a+t.text.length)) 0,l++[{t with pos:=a}],rfl,by omega, ?_,P, ?_,v, ?_,rfl⟩
   ·rw[D,G,bP g,FQ,Ba,List.drop_drop,show a+1+(t.text.length- 1)=a+t.text.length by omega,O]
   ·simp only[aB,aJ,aS];omega
   refine dW.ne ?_ (by simp);rw[cK];exact a5
  refine cC ?_;simp only[bL,cG,reduceIte];have :a=s.length:=by have:=aH k;omega
  subst this;rw[dA]at D;exact d _ _ ⟨l,by rw[D];simp [nU,wZ,Except.map],f⟩
 rintro j H ⟨l,C,f⟩;refine aC fun K d=>?_;refine aG ?_;simp only[RR,seval];apply d;clear d K;refine aO ?_;simp only[aY,aK,bR,RR,seval];refine Js.gives f ?_;rw[I,C];rfl
inductive PR (α:Type) where
 |ok (a:α) (n:Nat)
 |bad (n:Nat)
def PR.bind {α β:Type}:PR α→(α→Nat→PR β)→PR β
 | .ok a n,f=>f a n
 | .bad n,_=> .bad n
@[simp] theorem PR.bind_ok {α β : Type} (a : α) (n : Nat) (f : α → Nat → PR β) : (PR.ok a n).bind f = f a n := rfl
@[simp] theorem PR.bind_bad {α β : Type} (n : Nat) (f : α → Nat → PR β) : (PR.bad n : PR α).bind f = .bad n := rfl
theorem PR.bind_eq_ok {c d:Type} {x:PR c} {f:c→Nat→PR d} {b:d} {m:Nat} (h:x.bind f= .ok b m): ∃a n,x= .ok a n∧f a n= .ok b m:=by
 cases x with
 |ok a n=>exact⟨a,n,rfl,h⟩
 |bad n=>cases h
section
variable (T : List fQ)
def dX (n:Nat):dC:=match T[n]? with
 |some t=>if t.kind=3∨t.kind=4 then t.text else []
 |none=>[]
def nG (n:Nat):Int:=match T[n]? with
 |some t=>t.kind
 |none=>0
def eZ (s:dC) (n:Nat):PR Unit:=if dX T n=s then .ok () (n+1)else .bad n
def jS (k:Int) (n:Nat):PR fQ:=match T[n]? with
 |some t=>if t.kind=k then .ok t (n+1)else .bad n
 |none=> .bad n
def Lc:List (dC×Int×Int×Nat)→dC→Int×Int×Nat
 |[],_=>(0,0,0)
 |(w,r)::l,s=>if s=w then r else Lc l s
def SA:List (dC×Int×Int×Nat):=[([124,124],9,0,1),([38,38],8,0,2),([61,61],6,15,3),([60],6,14,4),([124],6,10,5),([94],6,11,5),([38],6,9,6),([60,60],6,12,7),([62,62],6,13,7),
 ([43],6,4,8),([45],6,5,8),([42],6,6,9),([47],6,7,9),([37],6,8,9)]
def Ci (s:dC):Int×Int×Nat:=Lc SA s
def Hl (s:dC) (a b:Ex):Ex:= .mk (Ci s).1 (Ci s).2.1 0 [] [a,b]
mutual
def rC:Nat→Nat→PR Ex
 |0,n=> .bad n
 |f+1,n=>
  if nG T n=2 then(jS T 2 n).bind fun t m=> .ok (.mk 1 0 t.num [] []) m
  else if dX T n=[103,101,116]then(eZ T [40] (n+1)).bind fun _ m=>(eZ T [41] m).bind fun _ m=> .ok (.mk 5 0 0 [] []) m
  else if dX T n=[40]then(oW f 1 (n+1)).bind fun e m=>(eZ T [41] m).bind fun _ m=> .ok e m
  else if dX T n=[33]then(rC f (n+1)).bind fun e m=> .ok (.mk 7 0 0 [] [e]) m
  else(jS T 1 n).bind fun t m=>
   if dX T m=[91]then(oW f 1 (m+1)).bind fun e m=>(eZ T [93] m).bind fun _ m=> .ok (.mk 3 0 0 t.text [e]) m
   else if dX T m=[40]then(rY f (m+1)).bind fun l m=> .ok (.mk 4 0 0 t.text l) m
   else .ok (.mk 2 0 0 t.text []) m
def oW:Nat→Nat→Nat→PR Ex
 |0,_,n=> .bad n
 |f+1,lo,n=>(rC f n).bind fun e m=>rV f lo e m
def rV:Nat→Nat→Ex→Nat→PR Ex
 |0,_,_,n=> .bad n
 |f+1,lo,e,n=>if(Ci (dX T n)).2.2<lo then .ok e n
  else(oW f ((Ci (dX T n)).2.2+1) (n+1)).bind fun e2 m=>rV f lo (Hl (dX T n) e e2) m
def rY:Nat→Nat→PR (List Ex)
 |0,n=> .bad n
 |f+1,n=>if dX T n=[41]then .ok [] (n+1)else(oW f 1 n).bind fun e m=>rZ f [e] m
def rZ:Nat→List Ex→Nat→PR (List Ex)
 |0,_,n=> .bad n
 |f+1,acc,n=>if dX T n=[44]then(oW f 1 (n+1)).bind fun e m=>rZ f (acc++[e]) m
  else(eZ T [41] n).bind fun _ m=> .ok acc m
end
end
variable {T : List fQ}
theorem nP {n:Nat} {s:dC} (h:dX T n=s) (b:s≠[]):n<T.length:=by
 by_cases a:n<T.length
 ·exact a
 rw[dX,dM (by omega)]at h;exact absurd h.symm b
theorem LN {n:Nat} {k:Int} (h:nG T n=k) (a:k≠0):n<T.length:=by
 by_cases b:n<T.length
 ·exact b
 rw[nG,dM (by omega)]at h;exact absurd h.symm a
theorem PX:Ci []=(0,0,0):=by decide
theorem FB (k:Nat) (s:dC): ∀l:List (dC×Int×Int×Nat),(∀x∈l,x.2.2.2≤k)→(Lc l s).2.2≤k
 |[],_=>cM _
 |x::l,h=>by
  obtain⟨w,r⟩:=x;rw[Lc];split
  ·exact h _ (dQ)
  exact FB k s l fun y a=>h y (fA _ a)
theorem TN (s:dC):(Ci s).2.2≤9:=FB 9 s SA (by decide)
theorem I6 {n lo:Nat} (h: ¬(Ci (dX T n)).2.2<lo) (a:1≤lo):n<T.length:=by
 refine nP rfl fun e=>h ?_;rw[e,PX];exact a
theorem fC {s:dC} {n m:Nat} {u:Unit} (h:eZ T s n= .ok u m) (a:s≠[]):m=n+1∧n<T.length∧dX T n=s:=by
 unfold eZ at h;split at h
 ·rename_i e;cases h;exact⟨rfl,nP e a,e⟩
 cases h
theorem jX {k:Int} {n m:Nat} {t:fQ} (h:jS T k n= .ok t m):m=n+1∧n<T.length∧T[n]?=some t∧t.kind=k:=by
 unfold jS at h;split at h
 ·rename_i b e
  split at h
  ·rename_i a;cases h;exact⟨rfl,(bC.1 e).1,e,a⟩
  cases h
 cases h
theorem far (f:Nat):(∀n e m,rC T f n= .ok e m→n<m∧m≤T.length)∧(∀o n e m,oW T f o n= .ok e m→n<m∧m≤T.length)∧
  (∀o u n e m,n≤T.length→rV T f o u n= .ok e m→n≤m∧m≤T.length)∧(∀n l m,rY T f n= .ok l m→n<m∧m≤T.length)∧
  (∀p n l m,rZ T f p n= .ok l m→n<m∧m≤T.length):=by
 induction f with
 |zero=>exact⟨fun _ _ _ h=>by simp [rC]at h,fun _ _ _ _ h=>by simp [oW]at h,fun _ _ _ _ _ _ h=>by simp [rV]at h,fun _ _ _ h=>by simp [rY]at h,fun _ _ _ _ h=>by simp [rZ]at h⟩
 |succ f ih=>
  obtain⟨v,k,y,D,z⟩:=ih;refine⟨fun n e m h=>?_,fun o n e m h=>?_,fun o u n e m E h=>?_,fun n l m h=>?_,fun p n l m h=>?_⟩
  ·rw[rC]at h
   split at h
   ·obtain⟨t,a,g,b⟩:=PR.bind_eq_ok h
    have:=jX g;cases b;omega
   split at h
   ·obtain⟨_,a,g,b⟩:=PR.bind_eq_ok h
    obtain⟨_,c,i,j⟩:=PR.bind_eq_ok b;have:=fC g (by decide);have:=fC i (by decide);cases j;omega
   split at h
   ·obtain⟨x,a,g,b⟩:=PR.bind_eq_ok h
    obtain⟨_,c,i,j⟩:=PR.bind_eq_ok b;have:=k _ _ _ _ g;have:=fC i (by decide);cases j;omega
   split at h
   ·obtain⟨x,a,g,b⟩:=PR.bind_eq_ok h
    have:=v _ _ _ g;cases b;omega
   obtain⟨t,a,g,b⟩:=PR.bind_eq_ok h;have:=jX g;split at b
   ·obtain⟨x,c,i,j⟩:=PR.bind_eq_ok b
    obtain⟨_,d,A,B⟩:=PR.bind_eq_ok j;have:=k _ _ _ _ i;have:=fC A (by decide);cases B;omega
   split at b
   ·obtain⟨x,c,i,j⟩:=PR.bind_eq_ok b
    have:=D _ _ _ i;cases j;omega
   cases b;omega
  ·rw[oW]at h
   obtain⟨x,a,g,b⟩:=PR.bind_eq_ok h;have:=v _ _ _ g;have:=y _ _ _ _ _ this.2 b;omega
  ·rw[rV]at h
   split at h
   ·cases h;omega
   obtain⟨x,a,g,b⟩:=PR.bind_eq_ok h;have:=k _ _ _ _ g;have:=y _ _ _ _ _ this.2 b;omega
  ·rw[rY]at h
   split at h
   ·rename_i C
    have:=nP C (by decide);cases h;omega
   obtain⟨x,a,g,b⟩:=PR.bind_eq_ok h;have:=k _ _ _ _ g;have:=z _ _ _ _ b;omega
  rw[rZ]at h;split at h
  ·obtain⟨x,a,g,b⟩:=PR.bind_eq_ok h
   have:=k _ _ _ _ g;have:=z _ _ _ _ b;omega
  obtain⟨_,a,g,b⟩:=PR.bind_eq_ok h;have:=fC g (by decide);cases b;omega
theorem PR.bind_congr {b d:Type} {x y:PR b} {f g:b→Nat→PR d} (h:x=y) (c: ∀a n,x= .ok a n→f a n=g a n):x.bind f=y.bind g:=by
 subst h
 cases x with
 |ok a n=>exact c a n rfl
 |bad n=>rfl
theorem U1 (f:Nat):(∀n,4 *(T.length-n)+1≤f→rC T f n=rC T (f+1) n)∧(∀b n,1≤b→4 *(T.length-n)+2≤f→oW T f b n=oW T (f+1) b n)∧
  (∀b k n,1≤b→n≤T.length→4 *(T.length-n)+1≤f→rV T f b k n=rV T (f+1) b k n)∧(∀n,4 *(T.length-n)+3≤f→rY T f n=rY T (f+1) n)∧
  (∀j n,4 *(T.length-n)+1≤f→rZ T f j n=rZ T (f+1) j n):=by
 induction f with
 |zero=>exact⟨fun _ h=>by omega,fun _ _ _ h=>by omega,fun _ _ _ _ _ h=>by omega,fun _ h=>by omega,fun _ _ h=>by omega⟩
 |succ f ih=>
  obtain⟨o,e,p,z,u⟩:=ih;obtain⟨v,l,A,B,C⟩:=far (T:=T) f;refine⟨fun n i=>?_,fun b n g i=>?_,fun b k n g D i=>?_,fun n i=>?_,fun j n i=>?_⟩
  ·rw[rC,rC]
   split
   ·rfl
   split
   ·rfl
   split
   ·rename_i d
    have:=nP d (by decide);rw[e 1 (n+1) (by omega) (by omega)]
   split
   ·rename_i d
    have:=nP d (by decide);rw[o (n+1) (by omega)]
   refine PR.bind_congr rfl fun t a c=>?_;have:=jX c;split
   ·rename_i d
    have:=nP d (by decide);rw[e 1 (a+1) (by omega) (by omega)]
   split
   ·rename_i d
    have:=nP d (by decide);rw[z (a+1) (by omega)]
   rfl
  ·rw[oW,oW]
   refine PR.bind_congr (o n (by omega)) fun x a c=>?_;have:=v _ _ _ c;exact p b x a g (by omega) (by omega)
  ·rw[rV,rV]
   split
   ·rfl
   rename_i y;have:=I6 y g;refine PR.bind_congr (e _ (n+1) (by omega) (by omega)) fun x a c=>?_;have:=l _ _ _ _ c;exact p b _ a g (by omega) (by omega)
  ·rw[rY,rY]
   split
   ·rfl
   refine PR.bind_congr (e 1 n (by omega) (by omega)) fun x a c=>?_;have:=l _ _ _ _ c;exact u _ a (by omega)
  rw[rZ,rZ];split
  ·rename_i d
   have:=nP d (by decide);refine PR.bind_congr (e 1 (n+1) (by omega) (by omega)) fun x a c=>?_;have:=l _ _ _ _ c;exact u _ a (by omega)
  rfl
variable (T)
def tC (n:Nat):PR Ex:=rC T (4 *T.length+5) n
def kA (lo n:Nat):PR Ex:=oW T (4 *T.length+5) lo n
def vL (lo:Nat) (e:Ex) (n:Nat):PR Ex:=rV T (4 *T.length+5) lo e n
def uR (n:Nat):PR (List Ex):=rY T (4 *T.length+5) n
def Xx (acc:List Ex) (n:Nat):PR (List Ex):=rZ T (4 *T.length+5) acc n
theorem JE (n:Nat):tC T n=
  if nG T n=2 then(jS T 2 n).bind fun t m=> .ok (.mk 1 0 t.num [] []) m
  else if dX T n=[103,101,116]then(eZ T [40] (n+1)).bind fun _ m=>(eZ T [41] m).bind fun _ m=> .ok (.mk 5 0 0 [] []) m
  else if dX T n=[40]then(kA T 1 (n+1)).bind fun e m=>(eZ T [41] m).bind fun _ m=> .ok e m
  else if dX T n=[33]then(tC T (n+1)).bind fun e m=> .ok (.mk 7 0 0 [] [e]) m
  else(jS T 1 n).bind fun t m=>
   if dX T m=[91]then(kA T 1 (m+1)).bind fun e m=>(eZ T [93] m).bind fun _ m=> .ok (.mk 3 0 0 t.text [e]) m
   else if dX T m=[40]then(uR T (m+1)).bind fun l m=> .ok (.mk 4 0 0 t.text l) m
   else .ok (.mk 2 0 0 t.text []) m:=by
 obtain⟨d,f,i,g,j⟩:=U1 (T:=T) (4 *T.length+4);rw[tC,rC];have a: ∀n,rC T (4 *T.length+4) n=tC T n:=fun n=>d n (by omega);have b: ∀n,oW T (4 *T.length+4) 1 n=kA T 1 n:=fun n=>f 1 n (bE 1) (by omega);have c: ∀n,rY T (4 *T.length+4) n=uR T n:=fun n=>g n (by omega);simp only[a,b,c]
theorem zL (lo n:Nat) (c:1≤lo):kA T lo n=(tC T n).bind fun e m=>vL T lo e m:=by
 obtain⟨d,g,f,i,j⟩:=U1 (T:=T) (4 *T.length+4);obtain⟨b,_⟩:=far (T:=T) (4 *T.length+4);rw[kA,oW];refine PR.bind_congr (d n (by omega)) fun x a h=>?_;exact f lo x a c (b _ _ _ h).2 (by omega)
theorem sT (lo:Nat) (e:Ex) (n:Nat) (d:1≤lo):vL T lo e n=if(Ci (dX T n)).2.2<lo then .ok e n
  else(kA T ((Ci (dX T n)).2.2+1) (n+1)).bind fun b m=>vL T lo (Hl (dX T n) e b) m:=by
 obtain⟨i,f,g,j,k⟩:=U1 (T:=T) (4 *T.length+4);obtain⟨_,c,_⟩:=far (T:=T) (4 *T.length+4);rw[vL,rV];split
 ·rfl
 refine PR.bind_congr (f _ _ (by omega) (by omega)) fun x a h=>?_;exact g lo _ a d (c _ _ _ _ h).2 (by omega)
theorem JG (n:Nat):uR T n=if dX T n=[41]then .ok [] (n+1)else(kA T 1 n).bind fun e m=>Xx T [e] m:=by
 obtain⟨d,b,f,g,c⟩:=U1 (T:=T) (4 *T.length+4);rw[uR,rY];split
 ·rfl
 exact PR.bind_congr (b _ _ (by omega) (by omega)) fun x a h=>c _ a (by omega)
theorem JH (b:List Ex) (n:Nat):Xx T b n=if dX T n=[44]then(kA T 1 (n+1)).bind fun e m=>Xx T (b++[e]) m
  else(eZ T [41] n).bind fun _ m=> .ok b m:=by
 obtain⟨f,c,g,i,d⟩:=U1 (T:=T) (4 *T.length+4);rw[Xx,rZ];split
 ·exact PR.bind_congr (c _ _ (by omega) (by omega)) fun x a h=>d _ a (by omega)
 rfl
variable {T}
theorem Pz {n m:Nat} {e:Ex} (h:tC T n= .ok e m):n<m∧m≤T.length:=(far _).1 _ _ _ h
theorem pB {lo n m:Nat} {e:Ex} (h:kA T lo n= .ok e m):n<m∧m≤T.length:=(far _).2.1 _ _ _ _ h
theorem Y0 {n m:Nat} {e:List Ex} (h:uR T n= .ok e m):n<m∧m≤T.length:=(far _).2.2.2.1 _ _ _ h
def Q1:dC:=[118,97,114]
def Zd:dC:=[97,114,114,97,121]
def yQ:dC:=[102,117,110,99]
def sF:dC:=[119,111,114,100]
def VT:dC:=[105,102]
def AB:dC:=[101,108,115,101]
def Zc:dC:=[119,104,105,108,101]
def Qi:dC:=[114,101,116,117,114,110]
def PO:dC:=[112,117,116]
section
variable (T : List fQ)
def oZ (n:Nat):PR (List Ex):=(eZ T [40] n).bind fun _ m=>(kA T 1 m).bind fun e m=>(eZ T [41] m).bind fun _ m=> .ok [e] m
def vK (n:Nat):PR Sm:=(jS T 1 n).bind fun t m=>
 (if dX T m=[61]then(kA T 1 (m+1)).bind fun e m=> .ok (.mk 1 t.text [e] [] []) m
  else if dX T m=[91]then(kA T 1 (m+1)).bind fun a m=>(eZ T [93] m).bind fun _ m=>(eZ T [61] m).bind fun _ m=>(kA T 1 m).bind fun e m=> .ok (.mk 2 t.text [a,e] [] []) m
  else if dX T m=[40]then(uR T (m+1)).bind fun l m=> .ok (.mk 6 t.text l [] []) m
  else .bad m:PR Sm).bind fun s m=>(eZ T [59] m).bind fun _ m=> .ok s m
mutual
def sN:Nat→Nat→PR Sm
 |0,n=> .bad n
 |f+1,n=>
  if dX T n=PO then(oZ T (n+1)).bind fun l m=>(eZ T [59] m).bind fun _ m=> .ok (.mk 3 [] l [] []) m
  else if dX T n=Qi then(if dX T (n+1)=[59]then .ok (.mk 7 [] [] [] []) (n+2)else(kA T 1 (n+1)).bind fun e m=>(eZ T [59] m).bind fun _ m=> .ok (.mk 7 [] [e] [] []) m)
  else if dX T n=VT then(oZ T (n+1)).bind fun l m=>(qD f m).bind fun t m=>if dX T m=AB then(qD f (m+1)).bind fun u m=> .ok (.mk 4 [] l t u) m else .ok (.mk 4 [] l t []) m
  else if dX T n=Zc then(oZ T (n+1)).bind fun l m=>(qD f m).bind fun t m=> .ok (.mk 5 [] l t []) m
  else vK T n
def qD:Nat→Nat→PR (List Sm)
 |0,n=> .bad n
 |f+1,n=>(eZ T [123] n).bind fun _ m=>oK f [] m
def oK:Nat→List Sm→Nat→PR (List Sm)
 |0,_,n=> .bad n
 |f+1,acc,n=>if dX T n=[125]then .ok acc (n+1)else(sN f n).bind fun s m=>oK f (acc++[s]) m
end
def Yx:Nat→List dC→Nat→PR (List dC)
 |0,_,n=> .bad n
 |f+1,acc,n=>if dX T n=[44]then(jS T 1 (n+1)).bind fun t m=>Yx f (acc++[t.text]) m else .ok acc n
end
variable {T : List fQ}
theorem sP {n m:Nat} {l:List Ex} (h:oZ T n= .ok l m):n<m∧m≤T.length:=by
 unfold oZ at h;obtain⟨_,a,b,f⟩:=PR.bind_eq_ok h;obtain⟨e,c,g,i⟩:=PR.bind_eq_ok f;obtain⟨_,d,j,k⟩:=PR.bind_eq_ok i;have:=fC b (by decide);have:=pB g;have:=fC j (by decide);cases k;omega
theorem U0 {n m:Nat} {s:Sm} (h:vK T n= .ok s m):n<m∧m≤T.length:=by
 unfold vK at h;obtain⟨t,a,u,v⟩:=PR.bind_eq_ok h;obtain⟨x,c,e,A⟩:=PR.bind_eq_ok v;obtain⟨_,d,B,C⟩:=PR.bind_eq_ok A;have:=jX u;have:=fC B (by decide)
 have :a<c:=by
  split at e
  ·obtain⟨y,b,f,g⟩:=PR.bind_eq_ok e
   have:=pB f;cases g;omega
  split at e
  ·obtain⟨y,b,f,g⟩:=PR.bind_eq_ok e
   obtain⟨_,D,i,j⟩:=PR.bind_eq_ok g;obtain⟨_,E,k,l⟩:=PR.bind_eq_ok j;obtain⟨z,F,o,p⟩:=PR.bind_eq_ok l;have:=pB f;have:=fC i (by decide);have:=fC k (by decide);have:=pB o;cases p;omega
  split at e
  ·obtain⟨y,b,f,g⟩:=PR.bind_eq_ok e
   have:=Y0 f;cases g;omega
  cases e
 cases C;omega
theorem MK (f:Nat):(∀n e m,sN T f n= .ok e m→n<m∧m≤T.length)∧(∀n l m,qD T f n= .ok l m→n<m∧m≤T.length)∧(∀p n l m,oK T f p n= .ok l m→n<m∧m≤T.length):=by
 induction f with
 |zero=>exact⟨fun _ _ _ h=>by simp [sN]at h,fun _ _ _ h=>by simp [qD]at h,fun _ _ _ _ h=>by simp [oK]at h⟩
 |succ f ih=>
  obtain⟨z,o,v⟩:=ih;refine⟨fun n e m h=>?_,fun n l m h=>?_,fun p n l m h=>?_⟩
  ·rw[sN]at h
   split at h
   ·obtain⟨l,a,b,g⟩:=PR.bind_eq_ok h
    obtain⟨_,c,j,i⟩:=PR.bind_eq_ok g;have:=sP b;have:=fC j (by decide);cases i;omega
   split at h
   ·split at h
    ·rename_i k
     have:=nP k (by decide);cases h;omega
    obtain⟨l,a,b,g⟩:=PR.bind_eq_ok h;obtain⟨_,c,j,i⟩:=PR.bind_eq_ok g;have:=pB b;have:=fC j (by decide);cases i;omega
   split at h
   ·obtain⟨l,a,b,g⟩:=PR.bind_eq_ok h
    obtain⟨t,c,j,i⟩:=PR.bind_eq_ok g;have:=sP b;have:=o _ _ _ j;split at i
    ·obtain⟨u,d,x,y⟩:=PR.bind_eq_ok i
     have:=o _ _ _ x;cases y;omega
    cases i;omega
   split at h
   ·obtain⟨l,a,b,g⟩:=PR.bind_eq_ok h
    obtain⟨t,c,j,i⟩:=PR.bind_eq_ok g;have:=sP b;have:=o _ _ _ j;cases i;omega
   exact U0 h
  ·rw[qD]at h
   obtain⟨_,a,b,g⟩:=PR.bind_eq_ok h;have:=fC b (by decide);have:=v _ _ _ _ g;omega
  rw[oK]at h;split at h
  ·rename_i k
   have:=nP k (by decide);cases h;omega
  obtain⟨s,a,b,g⟩:=PR.bind_eq_ok h;have:=z _ _ _ b;have:=v _ _ _ _ g;omega
theorem GL (f:Nat):(∀n,4 *(T.length-n)+1≤f→sN T f n=sN T (f+1) n)∧(∀n,4 *(T.length-n)+1≤f→qD T f n=qD T (f+1) n)∧(∀d n,4 *(T.length-n)+2≤f→oK T f d n=oK T (f+1) d n):=by
 induction f with
 |zero=>exact⟨fun _ h=>by omega,fun _ h=>by omega,fun _ _ h=>by omega⟩
 |succ f ih=>
  obtain⟨u,e,i⟩:=ih;obtain⟨j,k,v⟩:=MK (T:=T) f;refine⟨fun n g=>?_,fun n g=>?_,fun d n g=>?_⟩
  ·rw[sN,sN]
   split
   ·rfl
   split
   ·rfl
   split
   ·refine PR.bind_congr rfl fun l a b=>?_
    have:=sP b;refine PR.bind_congr (e a (by omega)) fun t c o=>?_;have:=k _ _ _ o;split
    ·rename_i p
     have:=nP p (by decide);rw[e (c+1) (by omega)]
    rfl
   split
   ·refine PR.bind_congr rfl fun l a b=>?_
    have:=sP b;rw[e a (by omega)]
   rfl
  ·rw[qD,qD]
   refine PR.bind_congr rfl fun l a b=>?_;have:=fC b (by decide);exact i _ a (by omega)
  rw[oK,oK];split
  ·rfl
  refine PR.bind_congr (u n (by omega)) fun s a b=>?_;have:=j _ _ _ b;exact i _ a (by omega)
theorem WO (f:Nat): ∀b n l m,n≤T.length→Yx T f b n= .ok l m→n≤m∧m≤T.length:=by
 induction f with
 |zero=>intro _ _ _ _ _ h;simp [Yx]at h
 |succ f ih=>
  intro b n l m e h;rw[Yx]at h;split at h
  ·obtain⟨s,a,c,d⟩:=PR.bind_eq_ok h
   have:=jX c;have:=ih _ _ _ _ (by omega) d;omega
  cases h;omega
theorem UC (f:Nat): ∀b n,n≤T.length→(T.length-n)+1≤f→Yx T f b n=Yx T (f+1) b n:=by
 induction f with
 |zero=>intro _ _ _ h;omega
 |succ f ih=>
  intro b n d h;rw[Yx,Yx];split
  ·refine PR.bind_congr rfl fun t a c=>?_
   have:=jX c;exact ih _ _ (by omega) (by omega)
  rfl
variable (T)
def Fv (n:Nat):PR Sm:=sN T (4 *T.length+5) n
def Dq (n:Nat):PR (List Sm):=qD T (4 *T.length+5) n
def sA (acc:List Sm) (n:Nat):PR (List Sm):=oK T (4 *T.length+5) acc n
def SD (acc:List dC) (n:Nat):PR (List dC):=Yx T (T.length+2) acc n
def oN (n:Nat):PR (List dC):=(jS T 1 n).bind fun t m=>SD T [t.text] m
theorem EN (n:Nat):Fv T n=
  if dX T n=PO then(oZ T (n+1)).bind fun l m=>(eZ T [59] m).bind fun _ m=> .ok (.mk 3 [] l [] []) m
  else if dX T n=Qi then(if dX T (n+1)=[59]then .ok (.mk 7 [] [] [] []) (n+2)else(kA T 1 (n+1)).bind fun e m=>(eZ T [59] m).bind fun _ m=> .ok (.mk 7 [] [e] [] []) m)
  else if dX T n=VT then(oZ T (n+1)).bind fun l m=>(Dq T m).bind fun t m=>if dX T m=AB then(Dq T (m+1)).bind fun u m=> .ok (.mk 4 [] l t u) m else .ok (.mk 4 [] l t []) m
  else if dX T n=Zc then(oZ T (n+1)).bind fun l m=>(Dq T m).bind fun t m=> .ok (.mk 5 [] l t []) m
  else vK T n:=by
 obtain⟨_,b,_⟩:=GL (T:=T) (4 *T.length+4);have a: ∀n,qD T (4 *T.length+4) n=Dq T n:=fun n=>b n (by omega);rw[Fv,sN];simp only[a]
theorem JA (n:Nat):Dq T n=(eZ T [123] n).bind fun _ m=>sA T [] m:=by
 obtain⟨_,_,b⟩:=GL (T:=T) (4 *T.length+4);rw[Dq,qD];exact PR.bind_congr rfl fun x a h=>b _ a (by omega)
theorem Nk (b:List Sm) (n:Nat):sA T b n=if dX T n=[125]then .ok b (n+1)else(Fv T n).bind fun s m=>sA T (b++[s]) m:=by
 obtain⟨c,_,d⟩:=GL (T:=T) (4 *T.length+4);rw[sA,oK];split
 ·rfl
 exact PR.bind_congr (c n (by omega)) fun x a h=>d _ a (by omega)
theorem QI (b:List dC) (n:Nat):SD T b n=if dX T n=[44]then(jS T 1 (n+1)).bind fun t m=>SD T (b++[t.text]) m else .ok b n:=by
 rw[SD,Yx];split
 ·refine PR.bind_congr rfl fun x a h=>?_
  have:=jX h;exact UC _ _ a (by omega) (by omega)
 rfl
variable {T}
theorem wN {n m:Nat} {e:Sm} (h:Fv T n= .ok e m):n<m∧m≤T.length:=(MK _).1 _ _ _ h
theorem Zo {n m:Nat} {e a:List Sm} (h:sA T a n= .ok e m):n<m∧m≤T.length:=(MK _).2.2 _ _ _ _ h
theorem LF {n m:Nat} {e a:List dC} (b:n≤T.length) (h:SD T a n= .ok e m):n≤m∧m≤T.length:=WO _ _ _ _ _ b h
theorem qT {n m:Nat} {e:List dC} (h:oN T n= .ok e m):n<m∧m≤T.length:=by
 obtain⟨t,a,b,c⟩:=PR.bind_eq_ok h;have:=jX b;have:=LF (by omega) c;omega
def Ax (T:List fQ):Nat→List dC→Nat→PR (List dC)
 |0,_,n=> .bad n
 |f+1,acc,n=>if dX T n=Q1 then(oN T (n+1)).bind fun l m=>(eZ T [59] m).bind fun _ m=>Ax T f (acc++l) m else .ok acc n
theorem WP (f:Nat): ∀b n l m,n≤T.length→Ax T f b n= .ok l m→n≤m∧m≤T.length:=by
 induction f with
 |zero=>intro _ _ _ _ _ h;simp [Ax]at h
 |succ f ih=>
  intro b n l m j h;rw[Ax]at h;split at h
  ·obtain⟨s,a,d,e⟩:=PR.bind_eq_ok h
   obtain⟨_,c,g,i⟩:=PR.bind_eq_ok e;have:=qT d;have:=fC g (by decide);have:=ih _ _ _ _ (by omega) i;omega
  cases h;omega
theorem UD (f:Nat): ∀b n,n≤T.length→(T.length-n)+1≤f→Ax T f b n=Ax T (f+1) b n:=by
 induction f with
 |zero=>intro _ _ _ h;omega
 |succ f ih=>
  intro b n g h;rw[Ax,Ax];split
  ·refine PR.bind_congr rfl fun t a d=>PR.bind_congr rfl fun _ c e=>?_
   have:=qT d;have:=fC e (by decide);exact ih _ _ (by omega) (by omega)
  rfl
def Vy (T:List fQ) (acc:List dC) (n:Nat):PR (List dC):=Ax T (T.length+2) acc n
theorem LH (T:List fQ) (b:List dC) (n:Nat):Vy T b n=if dX T n=Q1 then(oN T (n+1)).bind fun l m=>(eZ T [59] m).bind fun _ m=>Vy T (b++l) m else .ok b n:=by
 rw[Vy,Ax];split
 ·refine PR.bind_congr rfl fun x a h=>PR.bind_congr rfl fun _ c d=>?_
  have:=fC d (by decide);exact UD _ _ c (by omega) (by omega)
 rfl
theorem GM {n m:Nat} {e a:List dC} (b:n≤T.length) (h:Vy T a n= .ok e m):n≤m∧m≤T.length:=WP _ _ _ _ _ b h
def Ln (T:List fQ) (n:Nat):PR Fu:=(eZ T yQ n).bind fun _ m=>(jS T 1 m).bind fun t m=>(eZ T [40] m).bind fun _ m=>
 (if nG T m=1 then oN T m else .ok [] m:PR (List dC)).bind fun ps m=>(eZ T [41] m).bind fun _ m=>
  (eZ T [123] (if dX T m=sF then m+1 else m)).bind fun _ c=>(Vy T [] c).bind fun ls c=>(sA T [] c).bind fun b c=> .ok ⟨t.text,ps,ls,decide (dX T m=sF),b⟩ c
theorem zI {n m:Nat} {g:Fu} (h:Ln T n= .ok g m):n<m∧m≤T.length:=by
 unfold Ln at h;obtain⟨_,x,i,h⟩:=PR.bind_eq_ok h;obtain⟨t,y,j,h⟩:=PR.bind_eq_ok h;obtain⟨_,c,k,h⟩:=PR.bind_eq_ok h;obtain⟨C,d,a,h⟩:=PR.bind_eq_ok h;obtain⟨_,e,l,h⟩:=PR.bind_eq_ok h;obtain⟨_,f,o,h⟩:=PR.bind_eq_ok h;obtain⟨B,z,u,h⟩:=PR.bind_eq_ok h;obtain⟨b,A,v,h⟩:=PR.bind_eq_ok h;have:=fC i (by decide);have:=jX j;have:=fC k (by decide)
 have :c≤d:=by
  split at a
  ·have:=qT a;omega
  cases a;omega
 have:=fC l (by decide);have p:=fC o (by decide);have :e<f:=by have:=p.1;split at this<;>omega
 have:=GM (by omega) u;have:=Zo v;cases h;omega
def vQ (T:List fQ):Nat→List dC→List Ar→Nat→PR (List dC×List Ar)
 |0,_,_,n=> .bad n
 |f+1,vs,as',n=>
  if dX T n=Q1 then(oN T (n+1)).bind fun l m=>(eZ T [59] m).bind fun _ m=>vQ T f (vs++l) as' m
  else if dX T n=Zd then(jS T 1 (n+1)).bind fun t m=>(eZ T [91] m).bind fun _ m=>(jS T 2 m).bind fun u m=>(eZ T [93] m).bind fun _ m=>(eZ T [59] m).bind fun _ m=>vQ T f vs (as'++[⟨t.text,u.num⟩]) m
  else .ok (vs,as') n
theorem OU (f:Nat): ∀vs b n,n≤T.length→(T.length-n)+1≤f→vQ T f vs b n=vQ T (f+1) vs b n:=by
 induction f with
 |zero=>intro _ _ _ _ h;omega
 |succ f ih=>
  intro vs b n x h;rw[vQ,vQ];split
  ·refine PR.bind_congr rfl fun t a d=>PR.bind_congr rfl fun _ c e=>?_
   have:=qT d;have:=fC e (by decide);exact ih _ _ _ (by omega) (by omega)
  split
  ·refine PR.bind_congr rfl fun t k d=>PR.bind_congr rfl fun _ l e=>PR.bind_congr rfl fun u o g=>PR.bind_congr rfl fun _ p i=>PR.bind_congr rfl fun _ v j=>?_
   have:=jX d;have:=fC e (by decide);have:=jX g;have:=fC i (by decide);have:=fC j (by decide);exact ih _ _ _ (by omega) (by omega)
  rfl
def Dj (T:List fQ) (vs:List dC) (as':List Ar) (n:Nat):PR (List dC×List Ar):=vQ T (T.length+2) vs as' n
theorem HN (T:List fQ) (vs:List dC) (b:List Ar) (n:Nat):Dj T vs b n=
  if dX T n=Q1 then(oN T (n+1)).bind fun l m=>(eZ T [59] m).bind fun _ m=>Dj T (vs++l) b m
  else if dX T n=Zd then(jS T 1 (n+1)).bind fun t m=>(eZ T [91] m).bind fun _ m=>(jS T 2 m).bind fun u m=>(eZ T [93] m).bind fun _ m=>(eZ T [59] m).bind fun _ m=>Dj T vs (b++[⟨t.text,u.num⟩]) m
  else .ok (vs,b) n:=by
 rw[Dj,vQ];split
 ·refine PR.bind_congr rfl fun x a h=>PR.bind_congr rfl fun _ c d=>?_
  have:=fC d (by decide);exact OU _ _ _ c (by omega) (by omega)
 split
 ·refine PR.bind_congr rfl fun t g o=>PR.bind_congr rfl fun _ i d=>PR.bind_congr rfl fun u j p=>PR.bind_congr rfl fun _ k v=>PR.bind_congr rfl fun _ e f=>?_
  have:=fC f (by decide);exact OU _ _ _ e (by omega) (by omega)
 rfl
def xJ (T:List fQ):Nat→List Fu→Nat→PR (List Fu)
 |0,_,n=> .bad n
 |f+1,acc,n=>if n<T.length then(Ln T n).bind fun g m=>xJ T f (acc++[g]) m else .ok acc n
theorem UE (f:Nat): ∀b n,n≤T.length→(T.length-n)+1≤f→xJ T f b n=xJ T (f+1) b n:=by
 induction f with
 |zero=>intro _ _ _ h;omega
 |succ f ih=>
  intro b n d h;rw[xJ,xJ];split
  ·refine PR.bind_congr rfl fun t a c=>?_
   have:=zI c;exact ih _ _ (by omega) (by omega)
  rfl
def Hv (T:List fQ) (acc:List Fu) (n:Nat):PR (List Fu):=xJ T (T.length+2) acc n
theorem Hu (T:List fQ) (b:List Fu) (n:Nat):Hv T b n=if n<T.length then(Ln T n).bind fun g m=>Hv T (b++[g]) m else .ok b n:=by
 rw[Hv,xJ];split
 ·refine PR.bind_congr rfl fun x a h=>?_
  have:=zI h;exact UE _ _ a (by omega) (by omega)
 rfl
def Da (T:List fQ) (n:Nat):PR Pg:=(Dj T [] [] n).bind fun va m=>(Ln T m).bind fun g m=>(Hv T [g] m).bind fun fs m=> .ok ⟨va.1,va.2,fs⟩ m
def PH (T:List fQ) (e n:Nat):Int:=match T[n]? with
 |some t=>t.pos
 |none=>e
def QC:Pg:=⟨[],[],[]⟩
def Zq (s:dC):Pg×Int×Int:=match Az s with
 | .error (i,e)=>(QC,i,e)
 | .ok T=>match Da T 0 with
   | .bad m=>(QC,PH T s.length m,3)
   | .ok p m=>if m<T.length then(QC,PH T s.length m,3)else if fV p=true then(p,0,0)else(QC,0,2)
section
structure Sz (T:List fQ):Prop where
 len:T.length≤1000000
 tok: ∀t∈T,eB t.num∧t.text.length≤1000000
variable {T : List fQ}
theorem Ha (k o:Int) (b:iK k) (d:iK o) {n:Int} (c:eB n) {s:dC} (e:eV s) {l:List Ex} (a:Ae l):(Ex.mk k o n s l).ok:= .mk _ _ _ _ _ b d c e a.fit a.all
theorem u0:eB 0:=by simp [eB]
theorem Z0 {a:Type}:eV ([]:List a):=by simp [eV]
theorem GB:Ae []:=⟨Z0,fun e h=>by cases h⟩
theorem T9 {e:Ex} (h:e.ok):Ae [e]:=⟨by simp [eV],fun x a=>by rw[bA]at a;rw[a];exact h⟩
theorem UA {e f:Ex} (h:e.ok) (a:f.ok):Ae [e,f]:=⟨by simp [eV],fun x hx=>by
 rcases bK.1 hx with rfl|hx
 ·exact h
 rw[bA]at hx;rw[hx];exact a⟩
theorem GA {l:List Ex} {e:Ex} (b:l.length≤1000000) (h:Ae l) (a:e.ok):Ae (l++[e]):=⟨by unfold eV;simp only[aB,bW];omega,fun x hx=>by
 rcases eR.1 hx with hx|hx
 ·exact h.all x hx
 rw[bA]at hx;rw[hx];exact a⟩
theorem rR (b:Sz T) {k:Int} {n m:Nat} {t:fQ} (h:jS T k n= .ok t m):eB t.num∧eV t.text∧t.text.length≤1000000:=by
 have:=jX h;have a:=b.tok t (aW this.2.2.1);exact⟨a.1,by unfold eV;omega,a.2⟩
theorem LP (s:dC) {a b:Ex} (c:a.ok) (d:b.ok):(Hl s a b).ok:=by
 have f: ∀(l:List (dC×Int×Int×Nat)),(∀x∈l,iK x.2.1∧iK x.2.2.1)→iK (Lc l s).1∧iK (Lc l s).2.1:=by
  intro l
  induction l with
  |nil=>intro _;simp [Lc,iK]
  |cons x l ih=>
   intro h;obtain⟨w,r⟩:=x;rw[Lc];split
   ·exact h _ (dQ)
   exact ih fun y e=>h y (fA _ e)
 have h:=f SA (by simp [SA,iK]);exact Ha _ _ h.1 h.2 u0 Z0 (UA c d)
theorem WZ (v:Sz T) (f:Nat):(∀n e m,rC T f n= .ok e m→e.ok)∧(∀o n e m,oW T f o n= .ok e m→e.ok)∧
  (∀o u n e m,u.ok→rV T f o u n= .ok e m→e.ok)∧(∀n l m,rY T f n= .ok l m→Ae l)∧
  (∀p n l m,Ae p→p.length≤n→rZ T f p n= .ok l m→Ae l):=by
 induction f with
 |zero=>exact⟨fun _ _ _ h=>by simp [rC]at h,fun _ _ _ _ h=>by simp [oW]at h,fun _ _ _ _ _ _ h=>by simp [rV]at h,fun _ _ _ h=>by simp [rY]at h,fun _ _ _ _ _ _ h=>by simp [rZ]at h⟩
 |succ f ih=>
  obtain⟨C,k,D,G,E⟩:=ih;obtain⟨H,z,I,J,K⟩:=far (T:=T) f;have N:=v.len;refine⟨fun n e m h=>?_,fun o n e m h=>?_,fun o u n e m A h=>?_,fun n l m h=>?_,fun p n l m B M h=>?_⟩
  ·rw[rC]at h
   split at h
   ·obtain⟨t,a,g,b⟩:=PR.bind_eq_ok h
    cases b;exact Ha _ _ (by simp [iK]) (by simp [iK]) (rR v g).1 Z0 GB
   split at h
   ·obtain⟨_,a,g,b⟩:=PR.bind_eq_ok h
    obtain⟨_,c,j,i⟩:=PR.bind_eq_ok b;cases i;exact Ha _ _ (by simp [iK]) (by simp [iK]) u0 Z0 GB
   split at h
   ·obtain⟨x,a,g,b⟩:=PR.bind_eq_ok h
    obtain⟨_,c,j,i⟩:=PR.bind_eq_ok b;cases i;exact k _ _ _ _ g
   split at h
   ·obtain⟨x,a,g,b⟩:=PR.bind_eq_ok h
    cases b;exact Ha _ _ (by simp [iK]) (by simp [iK]) u0 Z0 (T9 (C _ _ _ g))
   obtain⟨t,a,g,b⟩:=PR.bind_eq_ok h;have y:=(rR v g).2.1;split at b
   ·obtain⟨x,c,j,i⟩:=PR.bind_eq_ok b
    obtain⟨_,d,L,F⟩:=PR.bind_eq_ok i;cases F;exact Ha _ _ (by simp [iK]) (by simp [iK]) u0 y (T9 (k _ _ _ _ j))
   split at b
   ·obtain⟨x,c,j,i⟩:=PR.bind_eq_ok b
    cases i;exact Ha _ _ (by simp [iK]) (by simp [iK]) u0 y (G _ _ _ j)
   cases b;exact Ha _ _ (by simp [iK]) (by simp [iK]) u0 y GB
  ·rw[oW]at h
   obtain⟨x,a,g,b⟩:=PR.bind_eq_ok h;exact D _ _ _ _ _ (C _ _ _ g) b
  ·rw[rV]at h
   split at h
   ·cases h;exact A
   obtain⟨x,a,g,b⟩:=PR.bind_eq_ok h;exact D _ _ _ _ _ (LP _ A (k _ _ _ _ g)) b
  ·rw[rY]at h
   split at h
   ·cases h;exact GB
   obtain⟨x,a,g,b⟩:=PR.bind_eq_ok h;have:=z _ _ _ _ g;exact E _ _ _ _ (T9 (k _ _ _ _ g)) (by simp;omega) b
  rw[rZ]at h;split at h
  ·obtain⟨x,a,g,b⟩:=PR.bind_eq_ok h
   have:=z _ _ _ _ g;exact E _ _ _ _ (GA (by omega) B (k _ _ _ _ g)) (by simp only[aB,bW];omega) b
  obtain⟨_,a,g,b⟩:=PR.bind_eq_ok h;cases b;exact B
theorem vS (a:Sz T) {lo n m:Nat} {e:Ex} (h:kA T lo n= .ok e m):e.ok:=(WZ a _).2.1 _ _ _ _ h
theorem JF (a:Sz T) {n m:Nat} {l:List Ex} (h:uR T n= .ok l m):Ae l:=(WZ a _).2.2.2.1 _ _ _ h
theorem yZ (j:Sz T) {n m:Nat} {l:List Ex} (h:oZ T n= .ok l m):Ae l:=by
 unfold oZ at h;obtain⟨_,a,k,b⟩:=PR.bind_eq_ok h;obtain⟨e,c,f,g⟩:=PR.bind_eq_ok b;obtain⟨_,d,o,i⟩:=PR.bind_eq_ok g;cases i;exact T9 (vS j f)
theorem xA:xH []:=⟨Z0,fun e h=>by cases h⟩
theorem FZ {l:List Sm} {e:Sm} (b:l.length≤1000000) (h:xH l) (a:e.ok):xH (l++[e]):=⟨by unfold eV;simp only[aB,bW];omega,fun x hx=>by
 rcases eR.1 hx with hx|hx
 ·exact h.all x hx
 rw[bA]at hx;rw[hx];exact a⟩
theorem yU (k:Int) (c:iK k) {s:dC} (e:eV s) {l:List Ex} (d:Ae l) {t u:List Sm} (a:xH t) (b:xH u):(Sm.mk k s l t u).ok:= .mk _ _ _ _ _ c e d a.fit a.all b.fit b.all
theorem GH (i:Sz T) {n m:Nat} {s:Sm} (h:vK T n= .ok s m):s.ok:=by
 unfold vK at h;obtain⟨t,a,u,v⟩:=PR.bind_eq_ok h;obtain⟨x,c,e,A⟩:=PR.bind_eq_ok v;obtain⟨_,d,H,B⟩:=PR.bind_eq_ok A;have j:=(rR i u).2.1;cases B;split at e
 ·obtain⟨y,b,f,g⟩:=PR.bind_eq_ok e
  cases g;exact yU _ (by simp [iK]) j (T9 (vS i f)) xA xA
 split at e
 ·obtain⟨y,b,f,g⟩:=PR.bind_eq_ok e
  obtain⟨_,C,F,k⟩:=PR.bind_eq_ok g;obtain⟨_,D,G,l⟩:=PR.bind_eq_ok k;obtain⟨z,E,o,p⟩:=PR.bind_eq_ok l;cases p;exact yU _ (by simp [iK]) j (UA (vS i f) (vS i o)) xA xA
 split at e
 ·obtain⟨y,b,f,g⟩:=PR.bind_eq_ok e
  cases g;exact yU _ (by simp [iK]) j (JF i f) xA xA
 cases e
theorem WJ (j:Sz T) (f:Nat):(∀n e m,sN T f n= .ok e m→e.ok)∧(∀n l m,qD T f n= .ok l m→xH l)∧(∀o n l m,xH o→o.length≤n→oK T f o n= .ok l m→xH l):=by
 induction f with
 |zero=>exact⟨fun _ _ _ h=>by simp [sN]at h,fun _ _ _ h=>by simp [qD]at h,fun _ _ _ _ _ _ h=>by simp [oK]at h⟩
 |succ f ih=>
  obtain⟨B,p,x⟩:=ih;obtain⟨y,C,D⟩:=MK (T:=T) f;have F:=j.len;refine⟨fun n e m h=>?_,fun n l m h=>?_,fun o n l m v E h=>?_⟩
  ·rw[sN]at h
   split at h
   ·obtain⟨l,a,b,g⟩:=PR.bind_eq_ok h
    obtain⟨_,c,k,i⟩:=PR.bind_eq_ok g;cases i;exact yU _ (by simp [iK]) Z0 (yZ j b) xA xA
   split at h
   ·split at h
    ·cases h;exact yU _ (by simp [iK]) Z0 GB xA xA
    obtain⟨l,a,b,g⟩:=PR.bind_eq_ok h;obtain⟨_,c,k,i⟩:=PR.bind_eq_ok g;cases i;exact yU _ (by simp [iK]) Z0 (T9 (vS j b)) xA xA
   split at h
   ·obtain⟨l,a,b,g⟩:=PR.bind_eq_ok h
    obtain⟨t,c,k,i⟩:=PR.bind_eq_ok g;split at i
    ·obtain⟨u,d,z,A⟩:=PR.bind_eq_ok i
     cases A;exact yU _ (by simp [iK]) Z0 (yZ j b) (p _ _ _ k) (p _ _ _ z)
    cases i;exact yU _ (by simp [iK]) Z0 (yZ j b) (p _ _ _ k) xA
   split at h
   ·obtain⟨l,a,b,g⟩:=PR.bind_eq_ok h
    obtain⟨t,c,k,i⟩:=PR.bind_eq_ok g;cases i;exact yU _ (by simp [iK]) Z0 (yZ j b) (p _ _ _ k) xA
   exact GH j h
  ·rw[qD]at h
   obtain⟨_,a,b,g⟩:=PR.bind_eq_ok h;exact x _ _ _ _ xA (cM _) g
  rw[oK]at h;split at h
  ·cases h;exact v
  obtain⟨s,a,b,g⟩:=PR.bind_eq_ok h;have:=y _ _ _ b;exact x _ _ _ _ (FZ (by omega) v (B _ _ _ b)) (by simp only[aB,bW];omega) g
theorem R2 (a:Sz T) {n m:Nat} {l:List Sm} (h:sA T [] n= .ok l m):xH l:=(WJ a _).2.2 _ _ _ _ xA (cM _) h
def tJ (l:List dC):Prop:= ∀s∈l,s.length≤1000000
theorem A3 {l:List dC} (b:l.length≤2000000) (h:tJ l):QH l:=⟨by unfold eV;omega,fun s a=>by have:=h s a;unfold eV;omega⟩
theorem UB (g:Sz T) (f:Nat): ∀b n l m,tJ b→b.length≤n→n≤T.length→Yx T f b n= .ok l m→tJ l∧l.length≤m:=by
 induction f with
 |zero=>intro _ _ _ _ _ _ _ h;simp [Yx]at h
 |succ f ih=>
  intro b n l m d i k h;rw[Yx]at h;split at h
  ·obtain⟨t,a,c,e⟩:=PR.bind_eq_ok h
   have:=jX c;have j:=(rR g c).2.2;refine ih _ _ _ _ (fun s hs=>?_) (by simp only[aB,bW];omega) (by omega) e;rcases eR.1 hs with hs|hs
   ·exact d s hs
   rw[bA]at hs;rw[hs];exact j
  cases h;exact⟨d,i⟩
theorem As (g:Sz T) {n m:Nat} {l:List dC} (h:oN T n= .ok l m):tJ l∧l.length+n≤m:=by
 obtain⟨t,a,b,c⟩:=PR.bind_eq_ok h;have:=jX b;have i:=(rR g b).2.2;have d:=(UB g _ _ _ _ _ (fun s d=>by rw[bA]at d;rw[d];exact i) (by simp;omega) (by omega) c).1
 have j: ∀(f:Nat) e n l m,Yx T f e n= .ok l m→l.length+n≤e.length+m:=by
  intro f
  induction f with
  |zero=>intro _ _ _ _ h;simp [Yx]at h
  |succ f ih=>
   intro e n l m h;rw[Yx]at h;split at h
   ·obtain⟨s,a,b,c⟩:=PR.bind_eq_ok h
    have:=jX b;have:=ih _ _ _ _ c;simp only[aB,aJ,aS]at this;omega
   cases h;omega
 have:=j _ _ _ _ _ c;simp only[bW]at this;exact⟨d,by omega⟩
theorem QJ (o:Sz T) (f:Nat): ∀b n l m,tJ b→b.length≤n→Ax T f b n= .ok l m→tJ l∧(n≤T.length→l.length≤T.length):=by
 induction f with
 |zero=>intro _ _ _ _ _ _ h;simp [Ax]at h
 |succ f ih=>
  intro b n l m d t h;rw[Ax]at h;split at h
  ·obtain⟨s,a,g,i⟩:=PR.bind_eq_ok h
   obtain⟨_,c,j,k⟩:=PR.bind_eq_ok i;have p:=As o g;have:=fC j (by decide)
   have e:=ih _ _ _ _ (fun x hx=>by
    rcases eR.1 hx with hx|hx
    ·exact d x hx
    exact p.1 x hx) (by simp only[aB];omega) k
   exact⟨e.1,fun _=>e.2 (by omega)⟩
  cases h;exact⟨d,fun u=>by omega⟩
theorem N4 (a:Sz T) {n m:Nat} {g:Fu} (h:Ln T n= .ok g m):g.ok∧g.params.length≤1000000∧g.locs.length≤1000000:=by
 unfold Ln at h;obtain⟨_,y,G,h⟩:=PR.bind_eq_ok h;obtain⟨t,z,i,h⟩:=PR.bind_eq_ok h;obtain⟨_,A,j,h⟩:=PR.bind_eq_ok h;obtain⟨d,B,c,h⟩:=PR.bind_eq_ok h;obtain⟨_,C,H,h⟩:=PR.bind_eq_ok h;obtain⟨_,D,k,h⟩:=PR.bind_eq_ok h;obtain⟨x,E,o,h⟩:=PR.bind_eq_ok h;obtain⟨b,F,p,h⟩:=PR.bind_eq_ok h;cases h;have J:=a.len;have v:=rR a i;have:=fC j (by decide)
 have u:tJ d∧d.length≤T.length:=by
  split at c
  ·have f:=As a c
   have:=qT c;exact⟨f.1,by have:=f.2;omega⟩
  cases c;exact⟨(fun s h=>by cases h),cM _⟩
 have I:=fC k (by decide);have e:=QJ a _ _ _ _ _ (fun s h=>by cases h) (cM _) o;have K:=e.2 (by omega);exact⟨⟨v.2.1,A3 (l:=d) (by omega) u.1,A3 (l:=x) (by omega) e.1,R2 a p⟩,by simp only;omega,by simp only;omega⟩
def ET (l:List Ar):Prop:= ∀a∈l,a.name.length≤1000000∧eB a.size
theorem LV (j:Sz T) (f:Nat): ∀vs b n l m,tJ vs→ET b→vs.length≤n→b.length≤n→n≤T.length→vQ T f vs b n= .ok l m→tJ l.1∧ET l.2∧l.1.length≤T.length∧l.2.length≤T.length:=by
 induction f with
 |zero=>intro _ _ _ _ _ _ _ _ _ _ h;simp [vQ]at h
 |succ f ih=>
  intro vs b n l m o k H F G h;rw[vQ]at h;split at h
  ·obtain⟨s,a,d,g⟩:=PR.bind_eq_ok h
   obtain⟨_,c,e,i⟩:=PR.bind_eq_ok g;have v:=As j d;have:=fC e (by decide)
   exact ih _ _ _ _ _ (fun x hx=>by
    rcases eR.1 hx with hx|hx
    ·exact o x hx
    exact v.1 x hx) k (by simp only[aB];omega) (by omega) (by omega) i
  split at h
  ·obtain⟨t,A,d,h⟩:=PR.bind_eq_ok h
   obtain⟨_,B,g,h⟩:=PR.bind_eq_ok h;obtain⟨u,C,e,h⟩:=PR.bind_eq_ok h;obtain⟨_,D,i,h⟩:=PR.bind_eq_ok h;obtain⟨_,E,p,h⟩:=PR.bind_eq_ok h;have:=jX d;have:=fC g (by decide);have:=jX e;have:=fC i (by decide);have:=fC p (by decide);have y:=rR j d;have z:=rR j e
   exact ih _ _ _ _ _ o (fun x hx=>by
    rcases eR.1 hx with hx|hx
    ·exact k x hx
    rw[bA]at hx;rw[hx];exact⟨y.2.2,z.1⟩) (by omega) (by simp only[aB,bW];omega) (by omega) h
  cases h;exact⟨o,k,by simp only;omega,by simp only;omega⟩
theorem MB (i:Sz T) (f:Nat): ∀b n l m,(∀g∈b,g.ok∧g.params.length≤1000000∧g.locs.length≤1000000)→b.length≤n→n≤T.length→xJ T f b n= .ok l m→(∀g∈l,g.ok∧g.params.length≤1000000∧g.locs.length≤1000000)∧l.length≤T.length:=by
 induction f with
 |zero=>intro _ _ _ _ _ _ _ h;simp [xJ]at h
 |succ f ih=>
  intro b n l m d k o h;rw[xJ]at h;split at h
  ·obtain⟨s,a,c,e⟩:=PR.bind_eq_ok h
   have j:=N4 i c;have:=zI c
   exact ih _ _ _ _ (fun x hx=>by
    rcases eR.1 hx with hx|hx
    ·exact d x hx
    rw[bA]at hx;rw[hx];exact j) (by simp only[aB,bW];omega) (by omega) e
  cases h;exact⟨d,by omega⟩
theorem FO (d:Sz T) {n m:Nat} {p:Pg} (u:n≤T.length) (h:Da T n= .ok p m):p.ok∧(∀g∈p.funs,g.params.length≤1000000∧g.locs.length≤1000000):=by
 unfold Da at h;obtain⟨i,v,k,h⟩:=PR.bind_eq_ok h;obtain⟨g,y,c,h⟩:=PR.bind_eq_ok h;obtain⟨j,z,l,h⟩:=PR.bind_eq_ok h;cases h;have B:=d.len;have f:=LV d _ _ _ _ _ _ (fun s h=>by cases h) (fun s h=>by cases h) (cM _) (cM _) u k;have t:=N4 d c;have A:=zI c;have e:=MB d _ _ _ _ _ (fun x b=>by rw[bA]at b;rw[b];exact t) (by simp;omega) (by omega) l;refine⟨⟨A3 (by show i.1.length≤_;omega) f.1,by show i.2.length≤_;omega,fun a o=>?_,by show j.length≤_;omega,fun x b=>(e.1 x b).1⟩,fun x b=>(e.1 x b).2⟩;have:=f.2.1 a o;have c:=this.2;unfold eB at c;exact⟨by unfold eV;omega,by unfold iK;omega⟩
theorem V9 (s:List UInt8):eB (gU s).1.num:=by
 cases s with
 |nil=>simp [gU,jQ,eB]
 |cons c r=>
  simp only[gU];split
  ·simp only[yF]
   split
   ·rename_i m b
    have:=yG _ 0 m (by omega) (by omega) (sD _ _) b;exact⟨by simp only;omega,by simp only;omega⟩
   simp [jQ,eB]
  split
  ·rw[tX]
   split
   ·rename_i a _ _ _
    split
    ·have:=UInt8.toNat_lt a
     exact⟨by simp only;omega,by simp only;omega⟩
    simp [jQ,eB]
   simp [jQ,eB]
  split
  ·simp only[Oc]
   split
   ·simp [jQ,eB]
   split<;>simp [eB]
  split<;>simp [jQ,eB]
theorem LM (N:Nat): ∀(s:dC) (k i:Nat) (l:List fQ),s.length≤N→nU s k i= .ok l→l.length≤s.length∧ ∀t∈l,eB t.num∧t.text.length≤N:=by
 intro s
 induction s with
 |nil=>intro k i l _ h;cases k<;>simp [nU]at h<;>subst h<;>simp
 |cons c r ih=>
  intro k i l d h;have a:r.length≤N:=by simp only[aJ]at d;omega
  cases k with
  |succ k=>
   rw[nU]at h;have:=ih k (i+1) l a h;exact⟨by simp only[aJ];omega,this.2⟩
  |zero=>
   rw[nU]at h;split at h
   ·have:=ih 0 (i+1) l a h
    exact⟨by simp only[aJ];omega,this.2⟩
   split at h
   ·have:=ih _ (i+1) l a h
    exact⟨by simp only[aJ];omega,this.2⟩
   split at h
   ·cases hl:nU r ((gU (c::r)).1.text.length - 1) (i+1)with
    |error y=>rw[hl]at h;cases h
    |ok l'=>
     rw[hl]at h;cases h;have:=ih _ (i+1) l' a hl;refine⟨by simp only[aJ];omega,fun t ht=>?_⟩;rcases bK.1 ht with rfl|ht
     ·have b:=V9 (c::r)
      have e:=Ot (c::r);exact⟨b,by simp only;omega⟩
     exact this.2 t ht
   cases h
theorem LL {s:dC} {T:List fQ} (h:Az s= .ok T):Sz T:=by
 unfold Az at h;split at h
 ·cases h
 have:=LM 20000 s 0 0 T (by omega) h;exact⟨by omega,fun t a=>⟨(this.2 t a).1,by have:=(this.2 t a).2;omega⟩⟩
end
section
variable {T : List fQ}
theorem lN {b c d:Type} (x:PR b) (f:b→Nat→PR c) (g:c→Nat→PR d):(x.bind f).bind g=x.bind fun a m=>(f a m).bind g:=by cases x<;>rfl
theorem LG (lo:Nat) (b:1≤lo) (k:Nat): ∀n e,n≤T.length→T.length-n≤k→vL T lo e n=(vL T (lo+1) e n).bind fun a m=>vL T lo a m:=by
 induction k using Nat.strongRecOn with
 |_ k ih=>
  intro n e g d;rw[sT T (lo+1) e n (by omega)];by_cases h:(Ci (dX T n)).2.2<lo+1
  ·rw[bP h];rfl
  have f:=I6 h (by omega);rw[sT T lo e n b,aM (by omega),aM h,lN];refine PR.bind_congr rfl fun x m c=>?_;have:=pB c;exact ih (T.length-m) (by omega) m _ this.2 (bE _)
theorem IG (lo n:Nat) (a:1≤lo):kA T lo n=(kA T (lo+1) n).bind fun e m=>vL T lo e m:=by
 rw[zL T lo n a,zL T (lo+1) n (by omega),lN];refine PR.bind_congr rfl fun x m b=>?_;exact LG lo a _ m x (Pz b).2 (bE _)
theorem W5 (n:Nat):kA T 10 n=tC T n:=by
 rw[zL T 10 n (by decide)]
 cases h:tC T n with
 |bad m=>rfl
 |ok e m=>
  show vL T 10 e m=_;rw[sT T 10 e m (by decide),bP (by have:=TN (dX T m);omega)]
theorem U2 (lo:Nat) (d:1≤lo) (k:Nat): ∀n e c m,n≤T.length→T.length-n≤k→vL T lo e n= .ok c m→(Ci (dX T m)).2.2<lo:=by
 induction k using Nat.strongRecOn with
 |_ k ih=>
  intro n e c m l i h;rw[sT T lo e n d]at h;by_cases b:(Ci (dX T n)).2.2<lo
  ·rw[bP b]at h;cases h;exact b
  have j:=I6 b d;rw[aM b]at h;obtain⟨x,a,f,g⟩:=PR.bind_eq_ok h;have:=pB f;exact ih (T.length-a) (by omega) a _ _ _ this.2 (bE _) g
theorem Ox {lo n m:Nat} {e:Ex} (b:1≤lo) (h:kA T lo n= .ok e m):(Ci (dX T m)).2.2<lo:=by
 rw[zL T lo n b]at h;obtain⟨x,a,c,d⟩:=PR.bind_eq_ok h;exact U2 lo b _ a x e m (Pz c).2 (bE _) d
theorem X8 (n:Nat):tC T n=
  if nG T n=2 then(jS T 2 n).bind fun t m=> .ok (.mk 1 0 t.num [] []) m
  else if dX T n=[103,101,116]then(eZ T [40] (n+1)).bind fun _ m=>(eZ T [41] m).bind fun _ m=> .ok (.mk 5 0 0 [] []) m
  else if dX T n=[33]then(tC T (n+1)).bind fun e m=> .ok (.mk 7 0 0 [] [e]) m
  else if dX T n=[40]then(kA T 1 (n+1)).bind fun e m=>(eZ T [41] m).bind fun _ m=> .ok e m
  else(jS T 1 n).bind fun t m=>
   if dX T m=[91]then(kA T 1 (m+1)).bind fun e m=>(eZ T [93] m).bind fun _ m=> .ok (.mk 3 0 0 t.text [e]) m
   else if dX T m=[40]then(uR T (m+1)).bind fun l m=> .ok (.mk 4 0 0 t.text l) m
   else .ok (.mk 2 0 0 t.text []) m:=by
 rw[JE];by_cases a:dX T n=[33]
 ·rw[a];simp
 simp only[aM a]
end
theorem RF {H:Hp} {b c sz d:Nat} {l l':List (List AV)} (h:H b=some (.rows sz l)) (a:H c=some (.rows d l')) (f:sz≠d):b≠c:=fun e=>by subst e;rw[h]at a;cases a;exact f rfl
theorem dW.kp {sz d:Nat} {v:AV} {rows r:List (List AV)} {H H2:Hp} {b:Nat} (h:dW sz v rows H) (f:H b=some (.rows d r)) (i:d≠sz) (g: ∀x o,x≠b→H x=some o→H2 x=some o):dW sz v rows H2:=by
 rcases h with h|⟨c,e,a⟩
 ·exact .inl h
 exact .inr ⟨c,e,g c _ (fun e=>RF f a i e.symm) a⟩
theorem LY {T:List fQ} {n:Nat} {t:fQ} (h:T[n]?=some t):(T.map fQ.row)[n]?=some [.int .i64 t.kind, .str t.text, .int .u32 t.num, .int .i64 t.pos]:=tV _ h
theorem FW {T:List fQ} {n:Nat} {t:fQ} (h:T[n]?=some t):dX T n=if t.kind=3∨t.kind=4 then t.text else []:=by rw[dX,h]
theorem T0 {T:List fQ} {n:Nat} (h: ¬n<T.length):dX T n=[]:=by rw[dX,dM (by omega)]
theorem Rm {n:Nat} (h:n≤1000000):IntKind.wrap .i64 ((n:Int)+1)=((n+1:Nat):Int):=by rw[aT _ (by omega)];omega
def nR (x:Ex):AV:= .agg [.int .i64 x.kind, .int .i64 x.op, .int .u32 x.num, .str x.name, .isl 5 (x.kids.map Ex.row)]
def Ej (l:List Ex):AV:= .isl 5 (l.map Ex.row)
theorem IJ (b:List Ex) (a:Ex):(b++[a]).map Ex.row=b.map Ex.row++[[.int .i64 a.kind, .int .i64 a.op, .int .u32 a.num, .str a.name, .isl 5 (a.kids.map Ex.row)]]:=by
 rw[cK,cP,dD,Ex.row_eq]
def rT (s:Sm):AV:= .agg [.int .i64 s.kind, .str s.name, .isl 5 (s.es.map Ex.row), .isl 5 (s.thn.map Sm.row), .isl 5 (s.els.map Sm.row)]
def VJ (l:List Sm):AV:= .isl 5 (l.map Sm.row)
theorem Ve (a:List Sm) (s:Sm):(a++[s]).map Sm.row=a.map Sm.row++[[.int .i64 s.kind, .str s.name, .isl 5 (s.es.map Ex.row), .isl 5 (s.thn.map Sm.row), .isl 5 (s.els.map Sm.row)]]:=by
 rw[cK,cP,dD,Sm.row_eq]
def ME (T:List fQ) (nm:dC) (ps:List dC) (w:Bool) (ls:List dC) (c:Nat):PR Fu:=(sA T [] c).bind fun b c=> .ok ⟨nm,ps,ls,w,b⟩ c
def QR (T:List fQ) (nm:dC) (ps:List dC) (m:Nat):PR Fu:=(eZ T [41] m).bind fun _ m=>(eZ T [123] (if dX T m=sF then m+1 else m)).bind fun _ c=>(Vy T [] c).bind fun ls c=>ME T nm ps (decide (dX T m=sF)) ls c
theorem MC (T:List fQ) (n:Nat):Ln T n=(eZ T yQ n).bind fun _ m=>(jS T 1 m).bind fun t m=>(eZ T [40] m).bind fun _ m=>(if nG T m=1 then oN T m else .ok [] m:PR (List dC)).bind fun a m=>QR T t.text a m:=rfl
theorem Gy (l:List dC):((l.map bH).all fun r=>r.all one)=true:=FY (fun _=>rfl) l
def VN (f:Fu):AV:= .agg [.str f.name, .isl 1 (f.params.map bH), .isl 1 (f.locs.map bH), .bool f.word, .isl 5 (f.body.map Sm.row)]
end Go.Proofs.YtaecpjgmcffliaaGreatDoor
namespace Go.Al
theorem dW.app2 {sz a:Nat} {v v':AV} {rows f:List (List AV)} {H H':Hp} (i:dW a v' f H) (g:dW sz v rows H) (k:a≠sz) (j: ∀b o,H b=some o→v≠ .osl sz b rows.length→H' b=some o):dW a v' f H':=by
 rcases i with h|⟨c,e,d⟩
 ·exact .inl h
 exact .inr ⟨c,e,j c _ d (g.nb' d k)⟩
theorem J6 {sz a:Nat} {v x:AV} {rows i:List (List AV)} {H:Hp} (h:dW sz v rows H) (g:dW a x i H) (f:a≠sz):Y9 v x:=fun s b n e=>by
 subst e;rcases g with⟨e,_⟩|⟨c,e,d⟩
 ·cases e
 cases e;exact h.offsz d f
theorem dW.nil (sz:Nat) (H:Hp):dW sz .nsl [] H:= .inl ⟨rfl,rfl⟩
theorem dW.thru {sz d j:Nat} {v v':AV} {rows f r:List (List AV)} {H H':Hp} {g:Nat} (o:dW d v' f H) (n:dW sz v rows H) (u:d≠sz) (k:H g=some (.rows j r)) (y:d≠j) (i:(f.all fun r=>r.all sX)=true)
  (p: ∀b s l,b≠g→Al.off v b→(∀r∈l, ∀x∈r,Y9 v x)→H b=some (.rows s l)→H' b=some (.rows s l)):dW d v' f H':=by
 rcases o with h|⟨c,e,a⟩
 ·exact .inl h
 refine .inr ⟨c,e,p c _ _ (fun e=>?_) (n.offsz a u) (fun r t x z=>?_) a⟩
 ·subst e;rw[k]at a;cases a;exact y rfl
 simp only[cD]at i;exact bU (i r t x z)
theorem Wu (l:List Ar):((l.map Ar.row).all fun r=>r.all sX)=true:=by
 simp only[List.all_map,cD];exact fun x _=>rfl
end Go.Al
namespace Go.Proofs.YtaecpjgmcffliaaGreatDoor
open Go.Al Go.Proofs.Tryz
def Nz (T:List fQ) (va:List dC×List Ar) (m:Nat):PR Pg:=(Ln T m).bind fun g m=>(Hv T [g] m).bind fun fs m=> .ok ⟨va.1,va.2,fs⟩ m
theorem FP (T:List fQ) (n:Nat):Da T n=(Dj T [] [] n).bind (Nz T):=rfl
def WY (p:Pg):AV:= .agg [.isl 1 (p.vars.map bH), .isl 2 (p.arrs.map Ar.row), .isl 5 (p.funs.map Fu.row)]
theorem KQ (sz:Nat) (rows:List (List AV)):Al.iR (VK sz rows) (.isl sz rows):=by
 cases rows with
 |nil=>exact iR.nsl sz
 |cons=>exact iR.refl _
theorem qU: ∀(s:dC) (k i:Nat) (x:Nat×Int),nU s k i= .error x→x.2≠0
 |[],k,i,x,h=>by cases k<;>simp [nU]at h
 |c::r,k+1,i,x,h=>by
  rw[nU]at h;exact qU r k (i+1) x h
 |c::r,0,i,x,h=>by
  rw[nU]at h;split at h
  ·exact qU r 0 (i+1) x h
  split at h
  ·exact qU r _ (i+1) x h
  split at h
  ·cases hl:nU r ((gU (c::r)).1.text.length - 1) (i+1)with
   |ok l=>rw[hl]at h;cases h
   |error y=>rw[hl]at h;cases h;exact qU r _ _ _ hl
  rename_i a;cases h;exact a
theorem GU {s:dC} {i:Nat} {e:Int} (h:Az s= .error (i,e)):e≠0:=by
 unfold Az at h;split at h
 ·cases h;decide
 exact qU _ _ _ _ h
def Zw (r:Pg×Int×Int):AV:= .tup [r.1.av, .int .i64 r.2.1, .int .i64 r.2.2]
theorem LA:fJ [.nsl, .nsl, .nsl] QC.row:=fJ.cons (iR.nsl 1) (fJ.cons (iR.nsl 2) (fJ.cons (iR.nsl 5) (fJ.refl _)))
theorem FH {s:dC} (a:s.length≤1000000) {i:Nat} {e:Int} (h:Az s= .error (i,e)):eH dN 64 [.str s] (.tup [.nsl, .int .i64 (i:Nat), .int .i64 e]):=by
 have:=Vm s a;rw[h]at this;exact this
theorem KY {s:dC} (a:s.length≤1000000) {T:List fQ} (h:Az s= .ok T):eH dN 64 [.str s] (.tup [.isl 4 (T.map fQ.row), .int .i64 0, .int .i64 0]):=by
 have:=Vm s a;rw[h]at this;exact T8 this (iR.tup (fJ.cons (KQ 4 _) (fJ.refl _)))
end Go.Proofs.YtaecpjgmcffliaaGreatDoor
