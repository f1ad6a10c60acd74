/- Sc1 -/
import Derived.Test.YtaecpjgmcffliaaGreatDoorSy2
import Derived.Test.YtaecpjgmcffliaaGreatDoorAl3
set_option linter.unusedSimpArgs false
set_option linter.unusedVariables false
set_option maxRecDepth 10000
set_option maxHeartbeats 4000000
namespace Go.Al
def dA:List dC→dC→Option Nat
 |[],_=>none
 |x::l,s=>if x=s then some 0 else(dA l s).map (· +1)
def pF:Option Nat→Int|some n=>n|none=> -1
theorem iT: ∀(l:List dC) (s:dC) (k:Nat),dA l s=some k→k<l.length∧l[k]?=some s
 |[],s,k,h=>by cases h
 |x::l,s,k,h=>by
  simp only[dA]at h;split at h
  ·rename_i e;cases h;exact⟨by simp,by simp [e]⟩
  rw[bR]at h;obtain⟨j,a,rfl⟩:=h;have:=iT l s j a;exact⟨by simp only[aQ];omega,by simpa using this.2⟩
theorem vZ: ∀(l:List dC) (s:dC) (k:Nat),(l.take k).contains s=false→dA l s=(dA (l.drop k) s).map (· +k)
 |l,s,0,_=>by simp
 |[],s,k+1,_=>by simp [dA]
 |x::l,s,k+1,h=>by
  simp only[gW,List.contains_cons,Vf]at h;have a: ¬x=s:=fun e=>by rw[e]at h;simp at h
  simp only[dA,aL a,nT];rw[vZ l s k h.2];cases dA (l.drop k) s<;>simp [gE]
def gM (f:Fu):List dC:=f.params++f.locs
def kO (p:Pg):List dC:=p.vars++p.arrs.map Ar.name++p.funs.map Fu.name
def tL (p:Pg) (s:dC):Int×Int:=match dA (kO p) s with
 |none=>(0, -1)
 |some k=>if k<p.vars.length then(2,k)else if k-p.vars.length<p.arrs.length then(3,((k-p.vars.length:Nat):Int))else(4,((k-p.vars.length-p.arrs.length:Nat):Int))
def eT (p:Pg) (f:Nat) (s:dC):Int×Int:=match(p.funs[f]?).bind fun g=>dA (gM g) s with
 |some k=>(1,k)
 |none=>tL p s
structure Us where
 name:dC
 kind:Int
 num:Int
def Us.row (u:Us):List AV:=[.str u.name, .int .i64 u.kind, .int .i64 u.num]
def nX (e:Ex):List Us:=if e.kind=2 then [⟨e.name,1,0⟩]else if e.kind=3 then [⟨e.name,3,0⟩]else if e.kind=4 then [⟨e.name,4,e.kids.length⟩]else []
def fY:List Ex→List Us
 |[]=>[]
 | .mk k o n s kids::l=>nX (.mk k o n s kids)++fY kids++fY l
theorem nD (e:Ex) (l:List Ex):fY (e::l)=nX e++fY e.kids++fY l:=by cases e;rw[fY];rfl
def lM (e:Sm):List Us:=if e.kind=1 then [⟨e.name,1,0⟩]else if e.kind=2 then [⟨e.name,3,0⟩]else if e.kind=6 then [⟨e.name,4,e.es.length⟩]else []
def eK:List Sm→List Us
 |[]=>[]
 | .mk k s es t u::l=>lM (.mk k s es t u)++fY es++eK t++eK u++eK l
theorem nC (e:Sm) (l:List Sm):eK (e::l)=lM e++fY e.es++eK e.thn++eK e.els++eK l:=by cases e;rw[eK];rfl
theorem Vr (e:Ex):(nX e).length≤1:=by
 unfold nX
 repeat' split
 all_goals simp
theorem Vs (e:Sm):(lM e).length≤1:=by
 unfold lM
 repeat' split
 all_goals simp
theorem xH (n:Nat): ∀l:List Ex,sN l=n→(fY l).length≤n:=by
 induction n using Nat.strongRecOn with
 |_ n ih=>
  intro l a
  cases l with
  |nil=>simp [fY]
  |cons e l=>
   have d:=e.sz_eq;simp only[sN]at a;rw[nD,aH,aH];have:=Vr e;have b:=ih (sN e.kids) (by omega) e.kids rfl;have c:=ih (sN l) (by omega) l rfl;omega
theorem sV (n:Nat): ∀l:List Sm,oZ l=n→(eK l).length≤n:=by
 induction n using Nat.strongRecOn with
 |_ n ih=>
  intro l a
  cases l with
  |nil=>simp [eK]
  |cons e l=>
   have g:=e.sz_eq;simp only[oZ]at a;rw[nC,aH,aH,aH,aH];have:=Vs e;have b:=xH _ e.es rfl;have c:=ih (oZ e.thn) (by omega) e.thn rfl;have d:=ih (oZ e.els) (by omega) e.els rfl;have f:=ih (oZ l) (by omega) l rfl;omega
theorem Hj {l:List Ex} {k:Nat} (h:k<l.length):fY (l.take (k+1))=fY (l.take k)++(nX l[k]++fY l[k].kids):=by
 have c: ∀a b:List Ex,fY (a++b)=fY a++fY b:=by
  intro a b
  induction a with
  |nil=>simp [fY]
  |cons e a ih=>rw[dM,nD,nD,ih];simp only[bU]
 rw[cL h,c,nD];simp [fY]
theorem Hi {l:List Sm} {k:Nat} (h:k<l.length):eK (l.take (k+1))=eK (l.take k)++(lM l[k]++fY l[k].es++eK l[k].thn++eK l[k].els):=by
 have c: ∀a b:List Sm,eK (a++b)=eK a++eK b:=by
  intro a b
  induction a with
  |nil=>simp [eK]
  |cons e a ih=>rw[dM,nC,nC,ih];simp only[bU]
 rw[cL h,c,nC];simp [eK]
theorem HL (l:List Ex) (k:Nat):sN (l.take k)≤sN l:=by
 induction l generalizing k with
 |nil=>simp
 |cons e l ih=>
  cases k with
  |zero=>simp [sN]
  |succ k=>simp only[gW,sN];have:=ih k;omega
theorem HK (l:List Sm) (k:Nat):oZ (l.take k)≤oZ l:=by
 induction l generalizing k with
 |nil=>simp
 |cons e l ih=>
  cases k with
  |zero=>simp [oZ]
  |succ k=>simp only[gW,oZ];have:=ih k;omega
theorem TN (l:List dC):(l.map bQ).all (fun r=>r.all one)=true:=by
 rw[dB];intro r a;obtain⟨t,_,rfl⟩:=jL.1 a;rfl
theorem NV (l:List Us):(l.map Us.row).all (fun r=>r.all one)=true:=by
 rw[dB];intro r a;obtain⟨t,_,rfl⟩:=jL.1 a;rfl
structure Pg.few (p:Pg):Prop where
 ok:p.ok
 v:p.vars.length≤10000
 a:p.arrs.length≤10000
 f:p.funs.length≤10000
 fs: ∀f∈p.funs,f.params.length≤10000∧f.locs.length≤1100000∧oZ f.body≤1000000
theorem wC: ∀l:List dC,l.Nodup↔ ∀(i:Nat) (h:i<l.length),dA l l[i]=some i
 |[]=>by simp
 |x::l=>by
  rw[List.nodup_cons,wC l];constructor
  ·rintro⟨c,d⟩ i a
   cases i with
   |zero=>simp [dA]
   |succ i=>
    have b:i<l.length:=by simpa using a
    have g: ¬x=l[i]:=fun e=>c (e▸bW b);simp only[List.getElem_cons_succ,dA,aL g,d i b,dY]
  intro h;refine⟨fun k=>?_,fun i a=>?_⟩
  ·obtain⟨i,a,e⟩:=List.getElem_of_mem k
   have:=h (i+1) (by simpa using a);simp [dA,e]at this
  have:=h (i+1) (by simpa using a);simp only[List.getElem_cons_succ,dA]at this;split at this
  ·simp at this
  rw[bR]at this;obtain⟨j,f,e⟩:=this;rw[f];congr 1;omega
def nO (p:Pg) (i:Nat) (u:Us):Bool:=
 !((decide (u.kind=1)&& !decide ((eT p i u.name).1=1)&& !decide ((eT p i u.name).1=2))||(decide (u.kind=3)&& !decide ((eT p i u.name).1=3))||
   (decide (u.kind=4)&&(!decide ((eT p i u.name).1=4)||decide ((i:Int)≤(eT p i u.name).2))))
def jM (p:Pg):Nat→List Fu→Bool
 |_,[]=>true
 |i,f::l=>decide (gM f).Nodup&&(eK f.body).all (nO p i)&&jM p (i+1) l
def kH (p:Pg):Bool:=decide (kO p).Nodup&&jM p 0 p.funs
theorem Ds (p:Pg):(kO p).length=p.vars.length+p.arrs.length+p.funs.length:=by simp [kO];omega
theorem KU (p:Pg) (s:dC) (h:(kO p).length≤1000000): -1≤(tL p s).2∧(tL p s).2≤1000000∧0≤(tL p s).1∧(tL p s).1≤4:=by
 unfold tL;split
 ·simp
 rename_i k a;have:=(iT _ _ _ a).1;split
 ·simp only;omega
 split<;>simp only <;>omega
theorem KV (p:Pg) (i:Nat) (s:dC) (h:(kO p).length≤1000000) (b: ∀f∈p.funs,(gM f).length≤1200000): -1≤(eT p i s).2∧(eT p i s).2≤1200000∧0≤(eT p i s).1∧(eT p i s).1≤4:=by
 unfold eT;split
 ·rename_i k a
  rw[cV]at a;obtain⟨f,c,a⟩:=a;have:=(iT _ _ _ a).1;have:=b f (aZ c);simp only;omega
 have:=KU p s h;exact⟨this.1,by omega,this.2.2⟩
theorem Pg.few.gl {p:Pg} (h:p.few):(kO p).length≤30000:=by
 rw[Ds];have:=h.v;have:=h.a;have:=h.f;omega
theorem Pg.few.nl {p:Pg} (h:p.few): ∀f∈p.funs,(gM f).length≤1200000:=fun f a=>by
 have:=h.fs f a;simp only[gM,aH];omega
theorem XB {l:List Us} {i:Nat} {u:Us} (h:l[i]?=some u):(l.map Us.row)[i]?=some [.str u.name, .int .i64 u.kind, .int .i64 u.num]:=uK _ h
def yD (p:Pg) (i:Nat) (u:Us):Bool:= !decide (u.kind=4)||(match p.funs[(eT p i u.name).2.toNat]? with |some g=>decide ((g.params.length:Int)=u.num)|none=>false)
def jS (p:Pg):Nat→List Fu→Bool
 |_,[]=>true
 |i,f::l=>(eK f.body).all (yD p i)&&jS p (i+1) l
def Po:dC:=[109,97,105,110]
def vE (p:Pg):Bool:=match p.funs[p.funs.length- 1]? with |some g=>decide (g.name=Po)&&decide (g.params.length=0)&& !g.word|none=>false
def qK (p:Pg):Bool:=jS p 0 p.funs&&vE p
def lA (p:Pg):Int:=if kH p then(if qK p then 0 else 1)else 4
theorem nY (p:Pg): ∀(l:List Fu) (i:Nat),jM p i l=true→ ∀(j:Nat) f,l[j]?=some f→(gM f).Nodup∧(eK f.body).all (nO p (i+j))=true
 |[],i,_,j,f,hf=>by simp at hf
 |g::l,i,h,j,f,hf=>by
  simp only[jM,bC,bJ]at h
  cases j with
  |zero=>simp at hf;subst hf;exact h.1
  |succ j=>
   have:=nY p l (i+1) h.2 j f (by simpa using hf);rwa [show i+1+j=i+(j+1)by omega]at this
theorem Jl (p:Pg) (i:Nat) (s:dC) (h:(eT p i s).1=4):0≤(eT p i s).2∧(eT p i s).2<p.funs.length:=by
 unfold eT at *;split at h
 ·exact absurd h (by simp)
 rename_i d;unfold tL at *;split at h
 ·exact absurd h (by decide)
 rename_i k c;split at h
 ·exact absurd h (by simp)
 rename_i a;split at h
 ·exact absurd h (by simp)
 rename_i b;have:=(iT _ _ _ c).1;rw[Ds]at this;rw[aL a,aL b];simp only;omega
def UE (p:Pg) (s:dC):Option Fu:=p.funs.find? fun f=>decide (f.name=s)
def zG (p:Pg) (s:dC):Bool:=(UE p s).isSome
def rW (p:Pg) (s:dC):Bool:=match UE p s with |some f=>f.word|none=>false
mutual
def Y3 (W:dC→Bool):Ex→Int
 | .mk k o _ s l=>if k=1∨k=2∨k=5 then 1 else if k=3 then(if lL W l 1=true then 1 else 0)else if k=4 then(if(W s&&lL W l 1)=true then 1 else 0)
   else if k=6 then(if lL W l 1=true then(if o=14∨o=15 then 2 else 1)else 0)else if k=7∨k=8∨k=9 then(if lL W l 2=true then 2 else 0)else 0
def lL (W:dC→Bool):List Ex→Int→Bool
 |[],_=>true
 |e::l,t=>decide (Y3 W e=t)&&lL W l t
end
theorem E5 (W:dC→Bool) (e:Ex):Y3 W e=if e.kind=1∨e.kind=2∨e.kind=5 then 1 else if e.kind=3 then(if lL W e.kids 1=true then 1 else 0)else if e.kind=4 then(if(W e.name&&lL W e.kids 1)=true then 1 else 0)
   else if e.kind=6 then(if lL W e.kids 1=true then(if e.op=14∨e.op=15 then 2 else 1)else 0)else if e.kind=7∨e.kind=8∨e.kind=9 then(if lL W e.kids 2=true then 2 else 0)else 0:=by
 cases e;simp only[Y3,Ex.kind,Ex.op,Ex.name,Ex.kids];rfl
theorem xW (W:dC→Bool) (e:Ex) (l:List Ex) (t:Int):lL W (e::l) t=(decide (Y3 W e=t)&&lL W l t):=by simp only[lL]
theorem Bi (W:dC→Bool) (t:Int):lL W [] t=true:=by simp only[lL]
mutual
def MM (K:dC→Bool):Ex→Bool
 | .mk k _ _ s l=>(!decide (k=4)||K s)&&Tm K l
def Tm (K:dC→Bool):List Ex→Bool
 |[]=>true
 |e::l=>MM K e&&Tm K l
end
theorem J1 (K:dC→Bool) (e:Ex):MM K e=((!decide (e.kind=4)||K e.name)&&Tm K e.kids):=by
 cases e;simp only[MM,Ex.kind,Ex.name,Ex.kids];rfl
theorem wK (K:dC→Bool) (e:Ex) (l:List Ex):Tm K (e::l)=(MM K e&&Tm K l):=by simp only[Tm]
theorem Ae (K:dC→Bool):Tm K []=true:=by simp only[Tm]
mutual
def XU (K:dC→Bool):Sm→Bool
 | .mk k s l t u=>(!decide (k=6)||K s)&&Tm K l&&wJ K t&&wJ K u
def wJ (K:dC→Bool):List Sm→Bool
 |[]=>true
 |e::l=>XU K e&&wJ K l
end
theorem Tj (K:dC→Bool) (e:Sm):XU K e=((!decide (e.kind=6)||K e.name)&&Tm K e.es&&wJ K e.thn&&wJ K e.els):=by
 cases e;simp only[XU,Sm.kind,Sm.name,Sm.es,Sm.thn,Sm.els];rfl
theorem Ad (K:dC→Bool) (e:Sm) (l:List Sm):wJ K (e::l)=(XU K e&&wJ K l):=by simp only[wJ]
theorem Gy (K:dC→Bool):wJ K []=true:=by simp only[wJ]
def vC (k:Int):Int:=if k=4∨k=5 then 2 else 1
mutual
def PE (W:dC→Bool) (w:Bool):Sm→Bool
 | .mk k s l t u=>lL W l (vC k)&& !(decide (k=6)&&W s)&& !(decide (k=7)&&decide (0<l.length)&& !w)&&nZ W w t&&nZ W w u
def nZ (W:dC→Bool) (w:Bool):List Sm→Bool
 |[]=>true
 |e::l=>PE W w e&&nZ W w l
end
theorem Ue (W:dC→Bool) (w:Bool) (e:Sm):PE W w e=(lL W e.es (vC e.kind)&& !(decide (e.kind=6)&&W e.name)&& !(decide (e.kind=7)&&decide (0<e.es.length)&& !w)&&nZ W w e.thn&&nZ W w e.els):=by
 cases e;simp only[PE,Sm.kind,Sm.name,Sm.es,Sm.thn,Sm.els];rfl
theorem Du (W:dC→Bool) (w:Bool) (e:Sm) (l:List Sm):nZ W w (e::l)=(PE W w e&&nZ W w l):=by simp only[nZ]
theorem Ap (W:dC→Bool) (w:Bool):nZ W w []=true:=by simp only[nZ]
def qH (p:Pg):Int:=if(p.funs.all fun f=>wJ (zG p) f.body)=true then(if(p.funs.all fun f=>nZ (rW p) f.word f.body)=true then 0 else 5)else 4
theorem Jk: ∀(l:List Fu) (s:dC),l.find? (fun f=>decide (f.name=s))=(dA (l.map Fu.name) s).bind fun k=>l[k]?
 |[],s=>by simp [dA]
 |f::l,s=>by
  have a:=Jk l s;simp only[cN,dA];by_cases h:f.name=s
  ·simp [h]
  simp only[List.find?_cons,bA h,aL h,a];cases dA (l.map Fu.name) s<;>simp
theorem uL (p:Pg) (s:dC):UE p s=(dA (p.funs.map Fu.name) s).bind fun k=>p.funs[k]?:=Jk _ _
end Go.Al
namespace Go.Proofs.YtaecpjgmcffliaaGreatDoor
open Go.Al Go.Proofs.Tryz
theorem Cj (l:List dC) (s:dC) (n:fC l):eN dV 190 [.isl 1 (l.map bQ), .str s] (.int .i64 (pF (dA l s))):=by
 have n:l.length≤9223372036854775807:=n;refine bX 19 [.tmp 4] func190 ?_;refine aC fun K a=>?_;refine aG ?_;simp only[RR,seval];apply a;clear a K;refine cP (fun d H=>dA l s=none) (fun K a=>?_) ?_
 ·refine aC fun K a=>?_;refine aG ?_;simp only[RR,seval]
  apply a;clear a K;refine aP ?_;refine eS (fun p d H=> ∃k:Nat,p=l.length-k∧k≤l.length∧d 5= .int .i64 k∧d 0= .isl 1 (l.map bQ)∧d 1= .str s∧dA l s=(dA (l.drop k) s).map (· +k)) (l.length) ⟨0,rfl,cJ _,rfl,rfl,rfl,by simp⟩ ?_;rintro p d H ⟨k,rfl,z,g,f,i,b⟩ v t;refine aI ?_;refine aC fun K a=>?_;refine aG ?_;simp only[RR,seval];simp only[g,f,aE,RR,seval];apply a;clear a K;refine aU ?_ ?_<;>intro c
  ·have o:k<l.length:=by have:=aB c;omega
   clear c;refine aK ?_;simp only[bK];refine aI ?_;refine aP ?_;have j:=Nv (aF o);rw[bG o]at b;simp only[dA]at b;generalize l[k]=x at j b;refine aC fun K a=>?_;refine aG ?_;simp only[RR,seval];simp only[f,i,g,j,RR,seval];apply a;clear a K;refine aU ?_ ?_<;>intro c
   ·have e:x=s:=aB c
    rw[bH e]at b
    repeat' (first|(refine aC fun K a=>?_;refine aG ?_;simp only[g,RR,seval];apply a;clear a K)|(refine aN ?_;simp only[bK,cM,aW,aJ,bN,RR,seval];refine aY.pure ?_))
    rw[b];simp [pF]
   have e: ¬x=s:=aD c;rw[aL e]at b;refine aK ?_;simp only[bK,cM];refine aG ?_;simp only[RR,seval];simp only[g,bK,RR,seval];rw[aS _ (by omega)];refine t (l.length-(k+1)) _ _ (by omega) ⟨k+1,rfl,by omega,rfl,f,i,by rw[b,Option.map_map];congr 1;funext y;simp only[Function.comp];omega⟩
  refine cF ?_;simp only[bK,cM,reduceIte];have u:k=l.length:=by have:=aD c;omega
  clear c;subst u;rw[cX]at b;exact a _ _ (by rw[b];rfl)
 rintro d H f;refine aC fun K a=>?_;refine aG ?_;simp only[RR,seval];apply a;clear a K;refine aN ?_;simp only[aW,aJ,bN,RR,seval];refine aY.pure ?_;rw[f];rfl
theorem Rf (f:Fu) (h:f.params.length≤1000000) (A:f.locs.length≤1200000):eN dV 140 [.agg f.row] (.isl 1 ((gM f).map bQ)):=by
 refine bX 10 [.tmp 2] func140 ?_;simp only[Fu.row];refine cP (fun d H=> ∃b,d 1= .ptr 5 b 0 0∧H b=some (.rows 5 [[.str f.name, .isl 1 (f.params.map bQ), .isl 1 (f.locs.map bQ), .bool f.word, .isl 5 (f.body.map Sm.row)]])) (fun K j=>?_) ?_
 ·refine aG ?_;simp only[RR,seval]
  refine aM fun b g=>?_;simp only[RR,seval];exact j _ _ ⟨b,rfl,bE _ _ _⟩
 rintro d H ⟨b,n,g⟩;refine cP (fun d H=>eB 1 (d 2) ((gM f).map bQ) H) (fun K j=>?_) ?_
 ·refine gB (fun x=>x≠b) [(1,false),(2,false),(4,false),(5,false),(0,true),(3,true),(6,true),(7,true)] eF (by kernel_rfl) rfl ?_
  simp only[tM,fX,n,g,zN,Bz,RR,seval];refine wW fun a o=>?_;have u:b≠a:=fun e=>by rw[e,o]at g;cases g
  have i:(upd H a (some (.rows 1 []))) b=some (.rows 5 [[.str f.name, .isl 1 (f.params.map bQ), .isl 1 (f.locs.map bQ), .bool f.word, .isl 5 (f.body.map Sm.row)]]):=by simp only[upd,aL u,g]
  have c:tU 1 (.osl 1 a 0) [] (upd H a (some (.rows 1 []))):=⟨a,rfl,bE _ _ _⟩;generalize upd H a (some (.rows 1 []))=H1 at i c⊢;simp only[TN,RR,seval];refine tP c (by simp only[aV,aE];omega) (fun x k=>c.far i (by decide) x k) fun B y l t=>?_;have p:=t b _ i (c.nb' i (by decide));simp only[TN,RR,seval];refine tP l (by simp only[cQ,aE];omega) (fun x k=>l.far p (by decide) x k) fun C z v _=>?_;simp only[RR,seval];apply j;simp only[upd,reduceIte,gM,cO];exact v.own
 rintro d H c;refine aN ?_;simp only[aW,aJ,bN,RR,seval];exact c.gives1 rfl
theorem BO (n:Nat): ∀l:List Ex,sN l=n→n≤1000000→Bt l→eN dV 191 [.isl 5 (l.map Ex.row)] (.isl 3 ((fY l).map Us.row)):=by
 induction n using Nat.strongRecOn with
 |_ n ih=>
  intro l Q I z;have J:l.length≤9223372036854775807:=z.fit;refine bX 64 [.tmp 2] func191 ?_;refine aC fun K a=>?_;refine aG ?_;simp only[RR,seval];apply a;clear a K;refine aC fun K a=>?_;refine aG ?_;simp only[RR,seval];apply a;clear a K;refine cP (fun c H=>eB 3 (c 3) ((fY l).map Us.row) H) (fun K a=>?_) ?_
  ·refine aC fun K a=>?_;refine aG ?_;simp only[RR,seval]
   apply a;clear a K;refine aP ?_;refine eS (fun B c H=> ∃k:Nat,B=l.length-k∧k≤l.length∧c 4= .int .i64 k∧c 0= .isl 5 (l.map Ex.row)∧eB 3 (c 3) ((fY (l.take k)).map Us.row) H) (l.length) ⟨0,rfl,cJ _,rfl,rfl, .inl ⟨rfl,by simp [fY]⟩⟩ ?_;rintro B c H ⟨k,rfl,M,f,d,g⟩ G C;refine aI ?_;refine aC fun K a=>?_;refine aG ?_;simp only[RR,seval];simp only[f,d,aE,RR,seval];apply a;clear a K;refine aU ?_ ?_<;>intro b
   ·have u:k<l.length:=by have:=aB b;omega
    clear b;refine aK ?_;simp only[bK];refine aI ?_;refine aP ?_;have j:=qG (aF u);have y:=bW u;have v:=z.all _ y;have E:=nJ y;have A:=Hj u;have O:=xH _ (l.take k) rfl;have P:=HL l k;have F:=Vr l[k];generalize l[k]=e at j A v E F;have R:=e.sz_eq;have N:=xH _ e.kids rfl;have L:e.kids.length≤9223372036854775807:=v.kids.fit;refine cP (fun c H=>c 0= .isl 5 (l.map Ex.row)∧eB 3 (c 3) ((fY (l.take k)++nX e).map Us.row) H∧c 4= .int .i64 k) (fun K a=>?_) ?_
    ·refine aC fun K a=>?_;refine aG ?_;simp only[RR,seval]
     simp only[d,f,j,RR,seval];apply a;clear a K;refine aP ?_;refine aC fun K a=>?_;refine aG ?_;simp only[RR,seval];apply a;clear a K;have t:(((fY (l.take k)).map Us.row).length+1) *32≤140737488355328:=by rw[aE];omega
     by_cases o:e.kind=2
     ·refine dN true (congrArg AV.bool (cD o)) (fun _=>?_) (fun b=>by cases b)
      refine aG ?_;simp only[RR,seval];simp only[d,f,j,RR,seval];refine eG ?_;simp only[RR,seval];refine jF g t (fun _=>trivial) fun x p i _=>?_;simp only[RR,seval];refine a _ _ ⟨d, ?_,f⟩;rw[show nX e=[⟨e.name,1,0⟩]by simp [nX,o],cO];exact i
     refine dN false (congrArg AV.bool (bA o)) (fun b=>by cases b) (fun _=>?_);refine aC fun K a=>?_;refine aG ?_;simp only[RR,seval];apply a;clear a K;by_cases k3:e.kind=3
     ·refine dN true (congrArg AV.bool (cD k3)) (fun _=>?_) (fun b=>by cases b)
      refine aG ?_;simp only[RR,seval];simp only[d,f,j,RR,seval];refine eG ?_;simp only[RR,seval];refine jF g t (fun _=>trivial) fun x p i _=>?_;simp only[RR,seval];refine a _ _ ⟨d, ?_,f⟩;rw[show nX e=[⟨e.name,3,0⟩]by simp [nX,k3],cO];exact i
     refine dN false (congrArg AV.bool (bA k3)) (fun b=>by cases b) (fun _=>?_);refine aC fun K a=>?_;refine aG ?_;simp only[RR,seval];apply a;clear a K;by_cases k4:e.kind=4
     ·refine dN true (congrArg AV.bool (cD k4)) (fun _=>?_) (fun b=>by cases b)
      refine gB (fun _=>True) [(0,false),(1,true),(2,true),(3,true),(4,true),(5,true),(6,true),(7,true),(8,true),(9,true),(10,true),(11,true),(12,true),(13,true),(14,true),(15,true)] eF (by kernel_rfl) rfl ?_;simp only[tM,fX,d,f,j,RR,seval];refine eG ?_;simp only[aE,RR,seval];refine jF g t (fun _=>trivial) fun x p i _=>?_;simp only[RR,seval];refine a _ _ ⟨d, ?_,f⟩;rw[show nX e=[⟨e.name,4,e.kids.length⟩]by simp [nX,k4],cO];exact i
     refine dN false (congrArg AV.bool (bA k4)) (fun b=>by cases b) (fun _=>?_);refine aK ?_;simp only[bK,cM];refine a _ _ ⟨d, ?_,f⟩;rw[show nX e=[]by simp [nX,o,k3,k4],dZ];exact g
    rintro c H ⟨d,g,f⟩;refine aG ?_;simp only[d,f,j,RR,seval];refine aO (ih _ (by omega) e.kids rfl (by omega) v.kids) ?_;simp only[RR,seval];simp only[NV,seval];refine jF g (by simp only[aE,aH];omega) (fun _=>trivial) fun x p i _=>?_;simp only[bK,cM,RR,seval];refine aG ?_;simp only[RR,seval];simp only[f,bK,RR,seval];rw[aS _ (by omega)];refine C (l.length-(k+1)) _ _ (by omega) ⟨k+1,rfl,by omega,rfl,d,by rw[A,←bU,cO];exact i⟩
   refine cF ?_;simp only[bK,cM,reduceIte];have D:k=l.length:=by have:=aD b;omega
   clear b;subst D;rw[dD]at g;exact a _ _ g
  rintro c H g;refine aC fun K a=>?_;refine aG ?_;simp only[RR,seval];apply a;clear a K;refine aN ?_;simp only[aW,aJ,bN,RR,seval];exact g.gives1 rfl
theorem A7 (n:Nat): ∀l:List Sm,oZ l=n→n≤1000000→yM l→eN dV 141 [.isl 5 (l.map Sm.row)] (.isl 3 ((eK l).map Us.row)):=by
 induction n using Nat.strongRecOn with
 |_ n ih=>
  intro l V N z;have O:l.length≤9223372036854775807:=z.fit;refine bX 80 [.tmp 2] func141 ?_;refine aC fun K a=>?_;refine aG ?_;simp only[RR,seval];apply a;clear a K;refine aC fun K a=>?_;refine aG ?_;simp only[RR,seval];apply a;clear a K;refine cP (fun f H=>eB 3 (f 3) ((eK l).map Us.row) H) (fun K a=>?_) ?_
  ·refine aC fun K a=>?_;refine aG ?_;simp only[RR,seval]
   apply a;clear a K;refine aP ?_;refine eS (fun C f H=> ∃k:Nat,C=l.length-k∧k≤l.length∧f 4= .int .i64 k∧f 0= .isl 5 (l.map Sm.row)∧eB 3 (f 3) ((eK (l.take k)).map Us.row) H) (l.length) ⟨0,rfl,cJ _,rfl,rfl, .inl ⟨rfl,by simp [eK]⟩⟩ ?_;rintro C f H ⟨k,rfl,Q,d,c,g⟩ M D;refine aI ?_;refine aC fun K a=>?_;refine aG ?_;simp only[RR,seval];simp only[d,c,aE,RR,seval];apply a;clear a K;refine aU ?_ ?_<;>intro b
   ·have v:k<l.length:=by have:=aB b;omega
    clear b;refine aK ?_;simp only[bK];refine aI ?_;refine aP ?_;have i:=Jg (aF v);have y:=bW v;have o:=z.all _ y;have F:=lU y;have A:=Hi v;have T:=sV _ (l.take k) rfl;have U:=HK l k;have G:=Vs l[k];generalize l[k]=e at i A o F G;have W:=e.sz_eq;have R:=xH _ e.es rfl;have S:=sV _ e.thn rfl;have P:=sV _ e.els rfl;refine cP (fun f H=>f 0= .isl 5 (l.map Sm.row)∧eB 3 (f 3) ((eK (l.take k)++lM e).map Us.row) H∧f 4= .int .i64 k) (fun K a=>?_) ?_
    ·refine aC fun K a=>?_;refine aG ?_;simp only[RR,seval]
     simp only[c,d,i,RR,seval];apply a;clear a K;refine aP ?_;refine aC fun K a=>?_;refine aG ?_;simp only[RR,seval];apply a;clear a K;have u:(((eK (l.take k)).map Us.row).length+1) *32≤140737488355328:=by rw[aE];omega
     by_cases p:e.kind=1
     ·refine dN true (congrArg AV.bool (cD p)) (fun _=>?_) (fun b=>by cases b)
      refine aG ?_;simp only[RR,seval];simp only[c,d,i,RR,seval];refine eG ?_;simp only[RR,seval];refine jF g u (fun _=>trivial) fun x t j _=>?_;simp only[RR,seval];refine a _ _ ⟨c, ?_,d⟩;rw[show lM e=[⟨e.name,1,0⟩]by simp [lM,p],cO];exact j
     refine dN false (congrArg AV.bool (bA p)) (fun b=>by cases b) (fun _=>?_);refine aC fun K a=>?_;refine aG ?_;simp only[RR,seval];apply a;clear a K;by_cases k3:e.kind=2
     ·refine dN true (congrArg AV.bool (cD k3)) (fun _=>?_) (fun b=>by cases b)
      refine aG ?_;simp only[RR,seval];simp only[c,d,i,RR,seval];refine eG ?_;simp only[RR,seval];refine jF g u (fun _=>trivial) fun x t j _=>?_;simp only[RR,seval];refine a _ _ ⟨c, ?_,d⟩;rw[show lM e=[⟨e.name,3,0⟩]by simp [lM,k3],cO];exact j
     refine dN false (congrArg AV.bool (bA k3)) (fun b=>by cases b) (fun _=>?_);refine aC fun K a=>?_;refine aG ?_;simp only[RR,seval];apply a;clear a K;by_cases k4:e.kind=6
     ·refine dN true (congrArg AV.bool (cD k4)) (fun _=>?_) (fun b=>by cases b)
      refine gB (fun _=>True) [(0,false),(1,true),(2,true),(3,true),(4,true),(5,true),(6,true),(7,true),(8,true),(9,true),(10,true),(11,true),(12,true),(13,true),(14,true),(15,true)] eF (by kernel_rfl) rfl ?_;simp only[tM,fX,c,d,i,RR,seval];refine eG ?_;simp only[aE,RR,seval];refine jF g u (fun _=>trivial) fun x t j _=>?_;simp only[RR,seval];refine a _ _ ⟨c, ?_,d⟩;rw[show lM e=[⟨e.name,4,e.es.length⟩]by simp [lM,k4],cO];exact j
     refine dN false (congrArg AV.bool (bA k4)) (fun b=>by cases b) (fun _=>?_);refine aK ?_;simp only[bK,cM];refine a _ _ ⟨c, ?_,d⟩;rw[show lM e=[]by simp [lM,p,k3,k4],dZ];exact g
    rintro f H ⟨c,g,d⟩;refine aC fun K a=>?_;refine aG ?_;simp only[RR,seval];simp only[c,d,i,RR,seval];refine aO (BO _ e.es rfl (by omega) o.es) ?_;simp only[RR,seval];simp only[NV,seval];refine jF g (by simp only[aE,aH];omega) (fun _=>trivial) fun x t j _=>?_;simp only[RR,seval];apply a;clear a K;rw[←cO]at j;refine aC fun K a=>?_;refine aG ?_;simp only[RR,seval];simp only[c,d,i,RR,seval];refine aO (ih _ (by omega) e.thn rfl (by omega) o.thn) ?_;simp only[RR,seval];simp only[NV,seval];refine jF j (by simp only[aE,aH];omega) (fun _=>trivial) fun X J B _=>?_;simp only[RR,seval];apply a;clear a K;rw[←cO]at B;refine aG ?_;simp only[c,d,i,RR,seval];refine aO (ih _ (by omega) e.els rfl (by omega) o.els) ?_;simp only[RR,seval];simp only[NV,seval];refine jF B (by simp only[aE,aH];omega) (fun _=>trivial) fun Y L I _=>?_;simp only[bK,cM,RR,seval];refine aG ?_;simp only[RR,seval];simp only[d,bK,RR,seval];rw[aS _ (by omega)];refine D (l.length-(k+1)) _ _ (by omega) ⟨k+1,rfl,by omega,rfl,c,by rw[A];simp only[←bU];rw[cO];exact I⟩
   refine cF ?_;simp only[bK,cM,reduceIte];have E:k=l.length:=by have:=aD b;omega
   clear b;subst E;rw[dD]at g;exact a _ _ g
  rintro f H g;refine aC fun K a=>?_;refine aG ?_;simp only[RR,seval];apply a;clear a K;refine aN ?_;simp only[aW,aJ,bN,RR,seval];exact g.gives1 rfl
theorem B7 (p:Pg) (L:p.few):B0 dV 139 [p.av] 1 ((kO p).map bQ):=by
 have S:=L.v;have Q:=L.a;have R:=L.f;have E:kO p=p.vars++p.arrs.map Ar.name++p.funs.map Fu.name:=rfl;generalize kO p=G at E⊢;obtain⟨vs,c,i⟩:=p;simp only at S Q R E;refine bX 43 [.tmp 2] func139 ?_;simp only[Pg.av,Pg.row];refine cP (fun d H=> ∃b,d 1= .ptr 3 b 0 0∧H b=some (.rows 3 [[.isl 1 (vs.map bQ), .isl 2 (c.map Ar.row), .isl 5 (i.map Fu.row)]])) (fun K g=>?_) ?_
 ·refine aG ?_;simp only[RR,seval]
  refine aM fun b j=>?_;simp only[RR,seval];exact g _ _ ⟨b,rfl,bE _ _ _⟩
 rintro d H ⟨b,n,j⟩;refine cP (fun d H=>tU 1 (d 3) (vs.map bQ) H∧d 1= .ptr 3 b 0 0∧H b=some (.rows 3 [[.isl 1 (vs.map bQ), .isl 2 (c.map Ar.row), .isl 5 (i.map Fu.row)]])) (fun K g=>?_) ?_
 ·refine aG ?_
  simp only[RR,seval];refine wW fun u T=>?_;have V:b≠u:=fun e=>by rw[e,T]at j;cases j
  have D:(upd H u (some (.rows 1 []))) b=some (.rows 3 [[.isl 1 (vs.map bQ), .isl 2 (c.map Ar.row), .isl 5 (i.map Fu.row)]]):=by simp only[upd,aL V,j]
  have l:tU 1 (.osl 1 u 0) [] (upd H u (some (.rows 1 []))):=⟨u,rfl,bE _ _ _⟩;generalize upd H u (some (.rows 1 []))=H1 at D l⊢;simp only[n,D,TN,RR,seval];refine tP l (by simp only[aV,aE];omega) (fun _ _=>trivial) fun O N B y=>?_;simp only[RR,seval];exact g _ _ ⟨B,n,y b _ D (l.nb' D (by decide))⟩
 rintro d H ⟨l,n,j⟩;refine cP (fun d H=>tU 1 (d 3) ((vs++c.map Ar.name).map bQ) H∧d 1= .ptr 3 b 0 0∧H b=some (.rows 3 [[.isl 1 (vs.map bQ), .isl 2 (c.map Ar.row), .isl 5 (i.map Fu.row)]])) (fun K g=>?_) ?_
 ·refine aC fun K g=>?_;refine aG ?_;simp only[RR,seval]
  apply g;clear g K;refine aP ?_;refine eS (fun C d H=> ∃k:Nat,C=c.length-k∧k≤c.length∧d 4= .int .i64 k∧tU 1 (d 3) ((vs++(c.take k).map Ar.name).map bQ) H∧d 1= .ptr 3 b 0 0∧H b=some (.rows 3 [[.isl 1 (vs.map bQ), .isl 2 (c.map Ar.row), .isl 5 (i.map Fu.row)]])) (c.length) ⟨0,rfl,cJ _,rfl,by simpa [upd]using l,n,j⟩ ?_;rintro C d H ⟨k,rfl,U,t,l,n,j⟩ P F;refine aI ?_;refine aC fun K g=>?_;refine aG ?_;simp only[RR,seval];simp only[t,n,j,aE,RR,seval];apply g;clear g K;refine aU ?_ ?_<;>intro o
  ·have z:k<c.length:=by have:=aB o;omega
   clear o;refine aK ?_;simp only[bK];refine aI ?_;refine aP ?_;have x:=N2 (aF z);have A:c.take (k+1)=c.take k++[c[k]]:=cL z;generalize c[k]=a at x A;have M:(vs++(c.take (k+1)).map Ar.name).map bQ=(vs++(c.take k).map Ar.name).map bQ++[[.str a.name]]:=by rw[A];simp [bQ]
   refine aG ?_;simp only[n,j,t,x,RR,seval];refine eG ?_;simp only[RR,seval];refine tP l (by simp only[aE,aH,aQ,aV,dU];omega) (fun _ _=>trivial) fun O N B y=>?_;simp only[bK,cM,RR,seval];have I:=y b _ j (l.nb' j (by decide));refine aG ?_;simp only[RR,seval];simp only[t,bK,RR,seval];rw[aS _ (by omega)];refine F (c.length-(k+1)) _ _ (by omega) ⟨k+1,rfl,by omega,rfl,by rw[M];exact B,n,I⟩
  refine cF ?_;simp only[bK,cM,reduceIte];have J:k=c.length:=by have:=aD o;omega
  clear o;subst J;rw[dD]at l;exact g _ _ ⟨l,n,j⟩
 rintro d H ⟨l,n,j⟩;refine cP (fun d H=>tU 1 (d 3) (G.map bQ) H) (fun K g=>?_) ?_
 ·refine aC fun K g=>?_;refine aG ?_;simp only[RR,seval]
  apply g;clear g K;refine aP ?_;refine eS (fun C d H=> ∃k:Nat,C=i.length-k∧k≤i.length∧d 5= .int .i64 k∧tU 1 (d 3) ((vs++c.map Ar.name++(i.take k).map Fu.name).map bQ) H∧d 1= .ptr 3 b 0 0∧H b=some (.rows 3 [[.isl 1 (vs.map bQ), .isl 2 (c.map Ar.row), .isl 5 (i.map Fu.row)]])) (i.length) ⟨0,rfl,cJ _,rfl,by simpa [upd]using l,n,j⟩ ?_;rintro C d H ⟨k,rfl,U,t,l,n,j⟩ P F;refine aI ?_;refine aC fun K g=>?_;refine aG ?_;simp only[RR,seval];simp only[t,n,j,aE,RR,seval];apply g;clear g K;refine aU ?_ ?_<;>intro o
  ·have z:k<i.length:=by have:=aB o;omega
   clear o;refine aK ?_;simp only[bK];refine aI ?_;refine aP ?_;have x:=qF (aF z);have A:i.take (k+1)=i.take k++[i[k]]:=cL z;generalize i[k]=a at x A;have M:(vs++c.map Ar.name++(i.take (k+1)).map Fu.name).map bQ=(vs++c.map Ar.name++(i.take k).map Fu.name).map bQ++[[.str a.name]]:=by rw[A];simp [bQ]
   refine aG ?_;simp only[n,j,t,x,RR,seval];refine eG ?_;simp only[RR,seval];refine tP l (by simp only[aE,aH,aQ,aV,dU];omega) (fun _ _=>trivial) fun O N B y=>?_;simp only[bK,cM,RR,seval];have I:=y b _ j (l.nb' j (by decide));refine aG ?_;simp only[RR,seval];simp only[t,bK,RR,seval];rw[aS _ (by omega)];refine F (i.length-(k+1)) _ _ (by omega) ⟨k+1,rfl,by omega,rfl,by rw[M];exact B,n,I⟩
  refine cF ?_;simp only[bK,cM,reduceIte];have J:k=i.length:=by have:=aD o;omega
  clear o;subst J;rw[dD,←E]at l;exact g _ _ l
 rintro d H l;refine aC fun K g=>?_;refine aG ?_;simp only[RR,seval];apply g;clear g K;refine aN ?_;simp only[aW,aJ,bN,RR,seval];exact B0.gives l.own
theorem Gg (p:Pg) (a:p.few):eN dV 139 [p.av] (.isl 1 ((kO p).map bQ)):=(B7 p a).pure
theorem Md (p:Pg) (t:p.few) (i:Nat) (D:i<p.funs.length) (s:dC):eN dV 142 [p.av, .int .i64 i, .str s] (.tup [.int .i64 (eT p i s).1, .int .i64 (eT p i s).2]):=by
 have T:=t.v;have R:=t.a;have S:=t.f;have U:=Ds p;have L:=Gg p t;have W:=Cj (kO p) s (by simp only[fC];omega);have A:=aF D;have a0:=t.fs _ (bW D)
 have o:eT p i s=match dA (gM p.funs[i]) s with |some k=>(1,(k:Int))|none=>tL p s:=by
  simp only[eT,A,cA]
  all_goals (cases dA (gM p.funs[i]) s<;>rfl)
 have J:tL p s=match dA (kO p) s with
  |none=>(0, -1)
  |some k=>if k<p.vars.length then(2,(k:Int))else if k-p.vars.length<p.arrs.length then(3,((k-p.vars.length:Nat):Int))else(4,((k-p.vars.length-p.arrs.length:Nat):Int)):=rfl
 have N:=Rf p.funs[i] (by omega) (by omega);have O:=Cj (gM p.funs[i]) s (by simp only[fC,gM,aH];omega);generalize p.funs[i]=g at A o N O;have V:=fun k M=>(iT (kO p) s k M).1;generalize eT p i s=Y at o⊢;generalize kO p=G at *;obtain⟨vs,j,z⟩:=p;simp only[Pg.av,Pg.row]at L⊢;simp only at T R S A U J D;have X:=qF A;refine bX 58 [.tmp 6, .tmp 7] func142 ?_;refine cP (fun l H=> ∃b,l 1= .int .i64 i∧l 2= .str s∧l 3= .ptr 3 b 0 0∧H b=some (.rows 3 [[.isl 1 (vs.map bQ), .isl 2 (j.map Ar.row), .isl 5 (z.map Fu.row)]])) (fun K c=>?_) ?_
 ·refine aG ?_;simp only[RR,seval]
  refine aM fun b d=>?_;simp only[RR,seval];exact c _ _ ⟨b,rfl,rfl,rfl,bE _ _ _⟩
 rintro l H ⟨b,I,y,e,d⟩;have Q:decide ((i:Int)<z.length)=true:=cD (by omega);refine cP (fun l H=>Y=tL ⟨vs,j,z⟩ s∧l 2= .str s∧l 3= .ptr 3 b 0 0∧H b=some (.rows 3 [[.isl 1 (vs.map bQ), .isl 2 (j.map Ar.row), .isl 5 (z.map Fu.row)]])) (fun K c=>?_) ?_
 ·refine aC fun K c=>?_;refine aG ?_;simp only[RR,seval]
  simp only[I,e,d,aE,Q,RR,seval];apply c;clear c K;refine cR ?_;refine aC fun K c=>?_;refine aG ?_;simp only[RR,seval];simp only[I,e,d,X,RR,seval];refine aO N ?_;simp only[RR,seval];simp only[y,seval];refine aO O ?_;simp only[RR,seval];apply c;clear c K
  cases hpn:dA (gM g) s with
  |some k=>
   rw[hpn]at o;refine aC fun K c=>?_;refine aG ?_;simp only[RR,seval];simp only[pF,RR,seval];apply c;clear c K;refine cR ?_
   repeat' (first|(refine aC fun K c=>?_;refine aG ?_;simp only[RR,seval];apply c;clear c K)|(refine aN ?_;simp only[bK,aW,aJ,bN,RR,seval];refine aY.pure ?_))
   rw[o]
  |none=>
   rw[hpn]at o;refine aC fun K c=>?_;refine aG ?_;simp only[RR,seval];simp only[pF,RR,seval];apply c;clear c K;refine bL ?_;refine aK ?_;simp only[bK];exact c _ _ ⟨o,y,e,d⟩
 rintro l H ⟨n,y,e,d⟩;rw[J]at n;refine aC fun K c=>?_;refine aG ?_;simp only[RR,seval];simp only[e,d,RR,seval];refine aO L ?_;simp only[RR,seval];simp only[y,seval];refine aO W ?_;simp only[RR,seval];apply c;clear c K
 cases hpn:dA G s with
 |none=>
  rw[hpn]at n
  repeat' (first|(refine aC fun K c=>?_;refine aG ?_;simp only[pF,RR,seval];apply c;clear c K)|(refine aI ?_)|(refine cR ?_)|(refine aN ?_;simp only[bK,aW,aJ,bN,RR,seval];refine aY.pure ?_))
  rw[n]
 |some k=>
  rw[hpn]at n;simp only at n;have M:=V k hpn;have P:IntKind.wrap .i64 ((k:Int)-vs.length)=(k:Int)-vs.length:=aS _ (by omega);have Z:IntKind.wrap .i64 ((k:Int)-vs.length-j.length)=(k:Int)-vs.length-j.length:=aS _ (by omega);have F:decide ((k:Int)<0)=false:=bA (by omega);by_cases B:k<vs.length
  ·have u:decide ((k:Int)<vs.length)=true:=cD (by omega)
   repeat' (first|(refine aC fun K c=>?_;refine aG ?_;simp only[pF,e,d,F,u,aE,RR,seval];apply c;clear c K)|(refine aI ?_)|(refine cR ?_)|(refine bL ?_)|(refine aK ?_;simp only[bK])|(refine aN ?_;simp only[bK,aW,aJ,bN,RR,seval];refine aY.pure ?_))
   rw[n,bH B]
  have u:decide ((k:Int)<vs.length)=false:=bA (by omega);by_cases E:k-vs.length<j.length
  ·have C:decide ((k:Int)-vs.length<j.length)=true:=cD (by omega)
   repeat' (first|(refine aC fun K c=>?_;refine aG ?_;simp only[pF,e,d,F,u,C,P,aE,RR,seval];apply c;clear c K)|(refine aI ?_)|(refine cR ?_)|(refine bL ?_)|(refine aK ?_;simp only[bK])|(refine aN ?_;simp only[bK,aW,aJ,bN,RR,seval];refine aY.pure ?_))
   rw[n,aL B,bH E];simp only;rw[show((k-vs.length:Nat):Int)=(k:Int)-vs.length by omega]
  have C:decide ((k:Int)-vs.length<j.length)=false:=bA (by omega);refine aI ?_;refine aC fun K c=>?_;refine aG ?_;simp only[RR,seval];simp only[pF,seval];apply c;clear c K;refine bL ?_;refine aK ?_;simp only[bK];refine aI ?_;refine aC fun K c=>?_;refine aG ?_;simp only[RR,seval];simp only[e,d,aE,u,RR,seval];apply c;clear c K;refine bL ?_;refine aK ?_;simp only[bK];refine aC fun K c=>?_;refine aG ?_;simp only[RR,seval];simp only[e,d,aE,P,RR,seval];apply c;clear c K;refine aI ?_;refine aC fun K c=>?_;refine aG ?_;simp only[RR,seval];simp only[e,d,aE,C,RR,seval];apply c;clear c K;refine bL ?_;refine aK ?_;simp only[bK];refine aC fun K c=>?_;refine gB (fun x=>x≠b) [(0,true),(1,true),(2,true),(3,true),(4,true),(5,true),(6,true)] eF (by kernel_rfl) rfl ?_;simp only[tM,e,d,aE,Z,RR,seval];apply c;clear c K;refine aN ?_;simp only[aW,aJ,bN,RR,seval];refine aY.pure ?_;rw[n,aL B,aL E];simp only;rw[show((k-vs.length-j.length:Nat):Int)=(k:Int)-vs.length-j.length by omega]
theorem Hk (l:List dC) (o:fC l):eN dV 138 [.isl 1 (l.map bQ)] (.bool (decide l.Nodup)):=by
 have C:l.length≤9223372036854775807:=o;refine bX 18 [.tmp 2] func138 ?_;refine aC fun K a=>?_;refine aG ?_;simp only[RR,seval];apply a;clear a K;refine cP (fun c H=>l.Nodup) (fun K a=>?_) ?_
 ·refine aC fun K a=>?_;refine aG ?_;simp only[RR,seval]
  apply a;clear a K;refine aP ?_;refine eS (fun t c H=> ∃k:Nat,t=l.length-k∧k≤l.length∧c 3= .int .i64 k∧c 0= .isl 1 (l.map bQ)∧(∀i (h:i<l.length),i<k→dA l l[i]=some i)) (l.length) ⟨0,rfl,cJ _,rfl,rfl,fun i _ h=>by omega⟩ ?_;rintro t c H ⟨k,rfl,E,g,d,n⟩ B u;refine aI ?_;refine aC fun K a=>?_;refine aG ?_;simp only[RR,seval];simp only[g,d,aE,RR,seval];apply a;clear a K;refine aU ?_ ?_<;>intro b
  ·have p:k<l.length:=by have:=aB b;omega
   clear b;refine aK ?_;simp only[bK];refine aI ?_;refine aP ?_;have x:=Nv (aF p);have v:=Cj l l[k] o;refine aC fun K a=>?_;refine aG ?_;simp only[RR,seval];simp only[d,g,x,RR,seval];refine aO v ?_;simp only[RR,seval];simp only[g,RR,seval];apply a;clear a K;by_cases f:dA l l[k]=some k
   ·refine dN false (by rw[f];simp [upd,ev,pF]) (fun b=>by cases b) (fun _=>?_)
    refine aK ?_;simp only[bK,cM];refine aG ?_;simp only[RR,seval];simp only[g,bK,RR,seval];rw[aS _ (by omega)];refine u (l.length-(k+1)) _ _ (by omega) ⟨k+1,rfl,by omega,rfl,d,fun i h D=>if e:i=k then by subst e;exact f else n i h (by omega)⟩
   have A: ¬pF (dA l l[k])=(k:Int):=fun e=>by
    cases hh:dA l l[k]with
    |none=>rw[hh]at e;simp only[pF]at e;omega
    |some j=>rw[hh]at e f;simp only[pF]at e;exact f (by congr 1;omega)
   refine dN true (by simp [upd,ev,A]) (fun _=>?_) (fun b=>by cases b)
   repeat' (first|(refine aC fun K a=>?_;refine aG ?_;simp only[RR,seval];apply a;clear a K)|(refine aN ?_;simp only[bK,cM,aW,aJ,bN,RR,seval];refine aY.pure ?_))
   congr 1;symm;exact bA fun z=>f ((wC l).1 z k p)
  refine cF ?_;simp only[bK,cM,reduceIte];have y:k=l.length:=by have:=aD b;omega
  clear b;subst y;exact a _ _ ((wC l).2 fun i h=>n i h h)
 rintro c H d;refine aC fun K a=>?_;refine aG ?_;simp only[RR,seval];apply a;clear a K;refine aN ?_;simp only[aW,aJ,bN,RR,seval];refine aY.pure ?_;congr 1;exact(cD d).symm
theorem Ya (p:Pg) (z:p.few):eN dV 93 [p.av] (.bool (kH p)):=by
 have a8:=z.ok;have ga:=z.f;have U:=Gg p z;have N:=Hk (kO p) (by have:=z.gl;simp only[fC];omega);have R:=fun i hi s=>Md p z i hi s;have a1:=fun i s=>KV p i s (by have:=z.gl;omega) (fun f hf=>by have:=z.nl f hf;omega);have E:kH p=(decide (kO p).Nodup&&jM p 0 p.funs):=rfl;have a9: ∀(i:Nat) (u:Us),nO p i u= !((decide (u.kind=1)&& !decide ((eT p i u.name).1=1)&& !decide ((eT p i u.name).1=2))||(decide (u.kind=3)&& !decide ((eT p i u.name).1=3))||(decide (u.kind=4)&&(!decide ((eT p i u.name).1=4)||decide ((i:Int)≤(eT p i u.name).2)))):=fun _ _=>rfl;have b0: ∀(i:Nat) (f:Fu) (l:List Fu),jM p i (f::l)=(decide (gM f).Nodup&&(eK f.body).all (nO p i)&&jM p (i+1) l):=fun _ _ _=>rfl;have T:=z.fs;have W:=a8.funs;have a6: ∀i:Nat,jM p i []=true:=fun _=>rfl;generalize eT p=FF at *;generalize jM p=NF at *;generalize nO p=D at *;generalize kO p=G at *;generalize kH p=Z at E⊢;obtain⟨vs,J,o⟩:=p;simp only[Pg.av,Pg.row]at U R⊢;simp only at ga T W E;refine bX 94 [.tmp 2] func93 ?_;refine cP (fun c H=> ∃b,c 1= .ptr 3 b 0 0∧H b=some (.rows 3 [[.isl 1 (vs.map bQ), .isl 2 (J.map Ar.row), .isl 5 (o.map Fu.row)]])) (fun K a=>?_) ?_
 ·refine aG ?_;simp only[RR,seval]
  refine aM fun b e=>?_;simp only[RR,seval];exact a _ _ ⟨b,rfl,bE _ _ _⟩
 rintro c H ⟨b,n,e⟩;refine aI ?_;refine aC fun K a=>?_;refine aG ?_;simp only[RR,seval];simp only[n,e,RR,seval];refine aO U ?_;simp only[RR,seval];refine aO N ?_;simp only[RR,seval];apply a;clear a K;refine dN (!decide G.Nodup) rfl (fun d=>?_) (fun d=>?_)
 ·repeat' (first|(refine aC fun K a=>?_;refine aG ?_;simp only[RR,seval];apply a;clear a K)|(refine aN ?_;simp only[bK,aW,aJ,bN,RR,seval];refine aY.pure ?_))
  rw[E,show decide G.Nodup=false by simpa using d];rfl
 rw[show decide G.Nodup=true by simpa using d,cB]at E;refine aK ?_;simp only[bK];refine cP (fun c H=>Z=true) (fun K a=>?_) ?_
 ·refine aC fun K a=>?_;refine aG ?_;simp only[RR,seval]
  apply a;clear a K;refine aP ?_;refine eS (fun I c H=> ∃k:Nat,I=o.length-k∧k≤o.length∧c 3= .int .i64 k∧c 1= .ptr 3 b 0 0∧H b=some (.rows 3 [[.isl 1 (vs.map bQ), .isl 2 (J.map Ar.row), .isl 5 (o.map Fu.row)]])∧Z=NF k (o.drop k)) (o.length) ⟨0,rfl,cJ _,rfl,n,e,by rw[dL];exact E⟩ ?_;rintro I c H ⟨k,rfl,b4,t,n,e,y⟩ K2 P;refine aI ?_;refine aC fun K a=>?_;refine aG ?_;simp only[RR,seval];simp only[t,n,e,aE,RR,seval];apply a;clear a K;refine aU ?_ ?_<;>intro d
  ·have F:k<o.length:=by have:=aB d;omega
   clear d;refine aK ?_;simp only[bK];refine aI ?_;refine aP ?_;have M:=qF (aF F);have a3:=T _ (bW F);have X:=W _ (bW F);rw[bG F,b0]at y;generalize o[k]=g at M a3 X y;have a7:=Rf g (by omega) (by omega);have N:=Hk (gM g) (by simp only[fC,gM,aH];omega);have b2:=A7 _ g.body rfl (by omega) X.body;have b1:=sV _ g.body rfl;refine aI ?_;refine aC fun K a=>?_;refine aG ?_;simp only[RR,seval];simp only[n,e,t,M,RR,seval];refine aO a7 ?_;simp only[RR,seval];refine aO N ?_;simp only[RR,seval];apply a;clear a K;refine dN (!decide (gM g).Nodup) rfl (fun d=>?_) (fun d=>?_)
   ·repeat' (first|(refine aC fun K a=>?_;refine aG ?_;simp only[RR,seval];apply a;clear a K)|(refine aN ?_;simp only[bK,cM,aW,aJ,bN,RR,seval];refine aY.pure ?_))
    rw[y,show decide (gM g).Nodup=false by simpa using d];rfl
   rw[show decide (gM g).Nodup=true by simpa using d,cB]at y;refine aK ?_;simp only[bK];refine aC fun K a=>?_;refine aG ?_;simp only[RR,seval];simp only[n,e,t,M,RR,seval];refine aO b2 ?_;simp only[RR,seval];apply a;clear a K;generalize eK g.body=v at y b1;refine aC fun K a=>?_;refine aG ?_;simp only[RR,seval];apply a;clear a K;refine aP ?_;refine eS (fun I c H=> ∃j:Nat,I=v.length-j∧j≤v.length∧c 5= .int .i64 j∧c 1= .ptr 3 b 0 0∧H b=some (.rows 3 [[.isl 1 (vs.map bQ), .isl 2 (J.map Ar.row), .isl 5 (o.map Fu.row)]])∧c 3= .int .i64 k∧c 4= .isl 3 (v.map Us.row)∧v.all (D k)=(v.drop j).all (D k)) (v.length) ⟨0,rfl,cJ _,rfl,n,e,t,rfl,by rw[dL]⟩ ?_;rintro I c H ⟨j,rfl,b3,B,n,e,t,A,C⟩ K3 Q;refine aI ?_;refine aC fun K a=>?_;refine aG ?_;simp only[RR,seval];simp only[B,A,aE,RR,seval];apply a;clear a K;refine aU ?_ ?_<;>intro d
   ·have V:j<v.length:=by have:=aB d;omega
    clear d;refine aK ?_;simp only[bK];refine aI ?_;refine aP ?_;have L:=XB (aF V);rw[bG V,dG]at C;generalize v[j]=u at L C;have S:=R k F u.name;have a2:=a1 k u.name;have Y:=a9 k u;generalize FF k u.name=r at S a2 Y;refine aC fun K a=>?_;refine gB (fun x=>x≠b) [(0,true),(1,true),(2,true),(3,true),(4,true),(5,true),(6,true),(7,true),(8,true),(9,true),(10,true),(11,true),(12,true)] eF (by kernel_rfl) rfl ?_;simp only[tM,n,e,t,B,A,L,RR,seval];refine aO S ?_;simp only[RR,seval];apply a;clear a K;refine cP (fun c H=>c 93= .bool (!D k u)∧c 1= .ptr 3 b 0 0∧H b=some (.rows 3 [[.isl 1 (vs.map bQ), .isl 2 (J.map Ar.row), .isl 5 (o.map Fu.row)]])∧c 3= .int .i64 k∧c 4= .isl 3 (v.map Us.row)∧c 5= .int .i64 j) (fun K a=>?_) ?_
    ·refine aG ?_;simp only[RR,seval]
     simp only[B,A,L,RR,seval]
     repeat' ((first|refine bZ (fun h=>?_) (fun h=>?_)|refine eE (fun h=>?_) (fun h=>?_))<;>simp only[h,t,B,A,L,RR,seval])
     all_goals
      refine a _ _ ⟨?_,n,e,t,A,B⟩;clear a P Q;simp [upd,Y, *]
    rintro c H ⟨a0,n,e,t,A,B⟩;refine dN (!D k u) a0 (fun d=>?_) (fun d=>?_)
    ·repeat' (first|(refine aC fun K a=>?_;refine aG ?_;simp only[RR,seval];apply a;clear a K)|(refine aN ?_;simp only[bK,cM,aW,aJ,bN,RR,seval];refine aY.pure ?_))
     rw[y,C,show D k u=false by simpa using d];rfl
    rw[show D k u=true by simpa using d,cB]at C;refine aK ?_;simp only[bK,cM];refine aG ?_;simp only[RR,seval];simp only[B,bK,RR,seval];rw[aS _ (by omega)];refine Q (v.length-(j+1)) _ _ (by omega) ⟨j+1,rfl,by omega,rfl,n,e,t,A,C⟩
   refine cF ?_;simp only[bK,cM,reduceIte,Nat.reduceEqDiff];have a4:j=v.length:=by have:=aD d;omega
   clear d;subst a4;rw[cX]at C;rw[C,fO,cB]at y;refine aG ?_;simp only[RR,seval];simp only[t,bK,RR,seval];rw[aS _ (by omega)];refine P (o.length-(k+1)) _ _ (by omega) ⟨k+1,rfl,by omega,rfl,n,e,y⟩
  refine cF ?_;simp only[bK,cM,reduceIte];have a5:k=o.length:=by have:=aD d;omega
  clear d;subst a5;rw[cX,a6]at y;exact a _ _ y
 rintro c H O
 repeat' (first|(refine aC fun K a=>?_;refine aG ?_;simp only[O,RR,seval];apply a;clear a K)|(refine aN ?_;simp only[aW,aJ,bN,O,RR,seval];refine aY.pure ?_))
 rfl
theorem Nr (p:Pg) (R:p.few) (hn:kH p=true) (h1:1≤p.funs.length):eN dV 94 [p.av] (.bool (qK p)):=by
 have c3:=R.ok;have ga:=R.f;have a3:=fun i hi s=>Md p R i hi s;have T:qK p=(jS p 0 p.funs&&vE p):=rfl;have F:vE p=match p.funs[p.funs.length- 1]? with |some g=>decide (g.name=Po)&&decide (g.params.length=0)&& !g.word|none=>false:=rfl
 have b2: ∀(i:Nat) (u:Us),yD p i u=(!decide (u.kind=4)||(match p.funs[(eT p i u.name).2.toNat]? with |some g=>decide ((g.params.length:Int)=u.num)|none=>false)):=fun _ _=>rfl;have c5: ∀(i:Nat) (f:Fu) (l:List Fu),jS p i (f::l)=((eK f.body).all (yD p i)&&jS p (i+1) l):=fun _ _ _=>rfl;have c0: ∀i:Nat,jS p i []=true:=fun _=>rfl
 have a1: ∀(i:Nat) f,p.funs[i]?=some f→ ∀u∈eK f.body,u.kind=4→0≤(eT p i u.name).2∧(eT p i u.name).2<p.funs.length:=fun i f hf u hu hk=>by
  simp only[kH,bC]at hn;have Z:=(nY p p.funs 0 hn.2 i f hf).2;rw[dB,bT]at Z;have h3:=Z u hu;refine Jl p i u.name ?_;simp only[nO,hk,mZ,cB]at h3;by_cases h4:(eT p i u.name).1=4
  ·exact h4
  simp [h4]at h3
 have a5:=R.fs;have b3:=c3.funs;generalize vE p=W at *;generalize jS p=NF at *;generalize yD p=X at *;generalize eT p=FF at *;generalize qK p=b5 at T⊢;obtain⟨vs,M,c⟩:=p;simp only[Pg.av,Pg.row]at a3⊢;simp only at ga a5 b3 T a1 b2 F h1;refine bX 81 [.tmp 2] func94 ?_;refine cP (fun d H=> ∃b,d 1= .ptr 3 b 0 0∧H b=some (.rows 3 [[.isl 1 (vs.map bQ), .isl 2 (M.map Ar.row), .isl 5 (c.map Fu.row)]])) (fun K a=>?_) ?_
 ·refine aG ?_;simp only[RR,seval]
  refine aM fun b e=>?_;simp only[RR,seval];exact a _ _ ⟨b,rfl,bE _ _ _⟩
 rintro d H ⟨b,o,e⟩;refine cP (fun d H=>b5=W∧d 1= .ptr 3 b 0 0∧H b=some (.rows 3 [[.isl 1 (vs.map bQ), .isl 2 (M.map Ar.row), .isl 5 (c.map Fu.row)]])) (fun K a=>?_) ?_
 ·refine aC fun K a=>?_;refine aG ?_;simp only[RR,seval]
  apply a;clear a K;refine aP ?_;refine eS (fun L d H=> ∃k:Nat,L=c.length-k∧k≤c.length∧d 3= .int .i64 k∧d 1= .ptr 3 b 0 0∧H b=some (.rows 3 [[.isl 1 (vs.map bQ), .isl 2 (M.map Ar.row), .isl 5 (c.map Fu.row)]])∧b5=(NF k (c.drop k)&&W)) (c.length) ⟨0,rfl,cJ _,rfl,o,e,by rw[dL];exact T⟩ ?_;rintro L d H ⟨k,rfl,d0,B,o,e,A⟩ K2 b6;refine aI ?_;refine aC fun K a=>?_;refine aG ?_;simp only[RR,seval];simp only[B,o,e,aE,RR,seval];apply a;clear a K;refine aU ?_ ?_<;>intro t
  ·have J:k<c.length:=by have:=aB t;omega
   clear t;refine aK ?_;simp only[bK];refine aI ?_;refine aP ?_;have a6:=aF J;have G:=qF a6;have b7:=a5 _ (bW J);have b4:=b3 _ (bW J);have U:=a1 k _ a6;rw[bG J,c5]at A;generalize c[k]=g at G b7 b4 A U;have c7:=A7 _ g.body rfl (by omega) b4.body;have c6:=sV _ g.body rfl;refine aC fun K a=>?_;refine aG ?_;simp only[RR,seval];simp only[o,e,B,G,RR,seval];refine aO c7 ?_;simp only[RR,seval];apply a;clear a K;generalize eK g.body=v at A c6 U;refine aC fun K a=>?_;refine aG ?_;simp only[RR,seval];apply a;clear a K;refine aP ?_;refine eS (fun L d H=> ∃j:Nat,L=v.length-j∧j≤v.length∧d 5= .int .i64 j∧d 1= .ptr 3 b 0 0∧H b=some (.rows 3 [[.isl 1 (vs.map bQ), .isl 2 (M.map Ar.row), .isl 5 (c.map Fu.row)]])∧d 3= .int .i64 k∧d 4= .isl 3 (v.map Us.row)∧v.all (X k)=(v.drop j).all (X k)) (v.length) ⟨0,rfl,cJ _,rfl,o,e,B,rfl,by rw[dL]⟩ ?_;rintro L d H ⟨j,rfl,c9,D,o,e,B,C,z⟩ K3 a0;refine aI ?_;refine aC fun K a=>?_;refine aG ?_;simp only[RR,seval];simp only[D,C,aE,RR,seval];apply a;clear a K;refine aU ?_ ?_<;>intro t
   ·have V:j<v.length:=by have:=aB t;omega
    clear t;refine aK ?_;simp only[bK];refine aI ?_;refine aP ?_;have I:=XB (aF V);have a2:=U _ (bW V);rw[bG V,dG]at z;generalize v[j]=u at I z a2;have y:=b2 k u;by_cases Q:u.kind=4
    ·have a4:=a3 k J u.name
     obtain⟨Y,c2⟩:=a2 Q;generalize FF k u.name=r at a4 y Y c2;obtain⟨n,a9⟩:=gY Y;have b0:n<c.length:=by omega
     have a7:=qF (aF b0);rw[a9,cC,aF b0,Q]at y;simp only[mZ,Ri,oJ]at y;generalize c[n]=S at a7 y;have k4:decide (u.kind=4)=true:=cD Q;refine aI ?_;refine aC fun K a=>?_;refine aG ?_;simp only[RR,seval];simp only[D,C,I,k4,RR,seval];apply a;clear a K;refine bL ?_;refine aK ?_;simp only[bK];refine aC fun K a=>?_;refine gB (fun x=>x≠b) [(0,true),(1,true),(2,true),(3,true),(4,true),(5,true),(6,true),(7,true),(8,true),(9,true),(10,true),(11,true),(12,true)] eF (by kernel_rfl) rfl ?_;simp only[tM,o,e,B,D,C,I,RR,seval];refine aO a4 ?_;simp only[a9,RR,seval];apply a;clear a K;refine aC fun K a=>?_;refine gB (fun x=>x≠b) [(0,true),(1,true),(2,true),(3,true),(4,true),(5,true),(6,true),(7,true),(8,true),(9,true),(10,true),(11,true),(12,true)] eF (by kernel_rfl) rfl ?_;simp only[tM,o,e,D,C,I,a7,aE,RR,seval];apply a;clear a K;refine dN (!decide ((S.params.length:Int)=u.num)) rfl (fun t=>?_) (fun t=>?_)
     ·repeat' (first|(refine aC fun K a=>?_;refine aG ?_;simp only[RR,seval];apply a;clear a K)|(refine aN ?_;simp only[bK,cM,aW,aJ,bN,RR,seval];refine aY.pure ?_))
      rw[A,z,y,show decide ((S.params.length:Int)=u.num)=false by simpa using t];rfl
     rw[y,show decide ((S.params.length:Int)=u.num)=true by simpa using t,cB]at z;refine aK ?_;simp only[bK,cM];refine aG ?_;simp only[RR,seval];simp only[D,bK,RR,seval];rw[aS _ (by omega)];refine a0 (v.length-(j+1)) _ _ (by omega) ⟨j+1,rfl,by omega,rfl,o,e,B,C,z⟩
    have k4:decide (u.kind=4)=false:=bA Q;rw[k4]at y;simp only[DG,Bool.true_or]at y;rw[y,cB]at z;refine aI ?_;refine aC fun K a=>?_;refine aG ?_;simp only[RR,seval];simp only[D,C,I,k4,RR,seval];apply a;clear a K;refine cR ?_;refine cF ?_;simp only[bK,cM,reduceIte,Nat.reduceEqDiff];refine aG ?_;simp only[RR,seval];simp only[D,bK,RR,seval];rw[aS _ (by omega)];refine a0 (v.length-(j+1)) _ _ (by omega) ⟨j+1,rfl,by omega,rfl,o,e,B,C,z⟩
   refine cF ?_;simp only[bK,cM,reduceIte,Nat.reduceEqDiff];have b8:j=v.length:=by have:=aD t;omega
   clear t;subst b8;rw[cX]at z;rw[z,fO,cB]at A;refine aG ?_;simp only[RR,seval];simp only[B,bK,RR,seval];rw[aS _ (by omega)];refine b6 (c.length-(k+1)) _ _ (by omega) ⟨k+1,rfl,by omega,rfl,o,e,A⟩
  refine cF ?_;simp only[bK,cM,reduceIte];have b9:k=c.length:=by have:=aD t;omega
  clear t;subst b9;rw[cX,c0,cB]at A;exact a _ _ ⟨A,o,e⟩
 rintro d H ⟨c4,o,e⟩;have a8:c.length- 1<c.length:=by omega
 have G:=qF (aF a8);rw[aF a8]at F;generalize c[c.length- 1]=g at G F;have w1:IntKind.wrap .i64 ((c.length:Int)- 1)=((c.length- 1:Nat):Int):=by rw[aS _ (by omega)];omega
 have N:decide ((g.params.length:Int)=0)=decide (g.params.length=0):=by rw[cU];simp only[bJ];omega
 refine aC fun K a=>?_;refine aG ?_;simp only[RR,seval];simp only[o,e,w1,G,aE,RR,seval];refine aM fun E c8=>?_;simp only[RR,seval];apply a;clear a K;have P:(upd (upd H E (some (.rows 5 [[.str [], .nsl, .nsl, .bool false, .nsl]]))) E (some (.rows 5 [[.str g.name, .isl 1 (g.params.map bQ), .isl 1 (g.locs.map bQ), .bool g.word, .isl 5 (g.body.map Sm.row)]]))) E=some (.rows 5 [[.str g.name, .isl 1 (g.params.map bQ), .isl 1 (g.locs.map bQ), .bool g.word, .isl 5 (g.body.map Sm.row)]]):=bE _ _ _;generalize(upd (upd H E (some (.rows 5 [[.str [], .nsl, .nsl, .bool false, .nsl]]))) E (some (.rows 5 [[.str g.name, .isl 1 (g.params.map bQ), .isl 1 (g.locs.map bQ), .bool g.word, .isl 5 (g.body.map Sm.row)]])))=H1 at P⊢;simp only at F;subst c4;rw[F]
 cases e1:decide (g.name=Po)with
 |false=>
  have O:decide (g.name=[109,97,105,110])=false:=e1
  repeat' (first|(refine aC fun K a=>?_;refine aG ?_;simp only[P,O,RR,seval];apply a;clear a K)|(refine aN ?_;simp only[aW,aJ,bN,RR,seval];refine aY.pure ?_))
  rfl
 |true=>
  have O:decide (g.name=[109,97,105,110])=true:=e1
  cases e2:decide (g.params.length=0)with
  |false=>
   rw[e2]at N
   repeat' (first|(refine aC fun K a=>?_;refine aG ?_;simp only[P,O,N,aE,RR,seval];apply a;clear a K)|(refine aN ?_;simp only[aW,aJ,bN,RR,seval];refine aY.pure ?_))
   rfl
  |true=>
   rw[e2]at N
   repeat' (first|(refine aC fun K a=>?_;refine aG ?_;simp only[P,O,N,aE,RR,seval];apply a;clear a K)|(refine aN ?_;simp only[aW,aJ,bN,RR,seval];refine aY.pure ?_))
   rfl
theorem H6 (p:Pg) (j:p.few) (k:1≤p.funs.length):eN dV 61 [p.av] (.int .i64 (lA p)):=by
 have g:=Ya p j;have i:=fun h=>Nr p j h k;have c:lA p=if kH p then(if qK p then 0 else 1)else 4:=rfl
 simp only[Pg.av,Pg.row]at g i⊢;generalize lA p=n at *;refine bX 9 [.tmp 2] func61 ?_;refine cP (fun f H=> ∃b,f 1= .ptr 3 b 0 0∧H b=some (.rows 3 [[.isl 1 (p.vars.map bQ), .isl 2 (p.arrs.map Ar.row), .isl 5 (p.funs.map Fu.row)]])) (fun K a=>?_) ?_
 ·refine aG ?_;simp only[RR,seval]
  refine aM fun b d=>?_;simp only[RR,seval];exact a _ _ ⟨b,rfl,bE _ _ _⟩
 rintro f H ⟨b,e,d⟩;refine aI ?_;refine aC fun K a=>?_;refine aG ?_;simp only[RR,seval];simp only[e,d,RR,seval];refine aO g ?_;simp only[RR,seval];apply a
 cases hn:kH p with
 |false=>
  rw[hn]at c
  repeat' (first|(refine aC fun K a=>?_;refine aG ?_;simp only[RR,seval];apply a;clear a K)|(refine cR ?_)|(refine aN ?_;simp only[bK,aW,aJ,bN,RR,seval];refine aY.pure ?_))
  rw[c];rfl
 |true=>
  rw[hn]at c;refine dN false (by simp [upd,ev]) (fun l=>by cases l) (fun _=>?_);refine aK ?_;simp only[bK];refine aI ?_;refine aC fun K a=>?_;refine aG ?_;simp only[RR,seval];simp only[e,d,RR,seval];refine aO (i hn) ?_;simp only[RR,seval];apply a
  cases hm:qK p with
  |false=>
   rw[hm]at c
   repeat' (first|(refine aC fun K a=>?_;refine aG ?_;simp only[RR,seval];apply a;clear a K)|(refine cR ?_)|(refine aN ?_;simp only[bK,aW,aJ,bN,RR,seval];refine aY.pure ?_))
   rw[c];rfl
  |true=>
   rw[hm]at c
   repeat' (first|(refine aC fun K a=>?_;refine aG ?_;simp only[RR,seval];apply a;clear a K)|(refine bL ?_)|(refine aK ?_;simp only[bK])|(refine aN ?_;simp only[aW,aJ,bN,RR,seval];refine aY.pure ?_))
   rw[c];rfl
def gZ (p:Pg):Int:=if gD p=true then(if lA p=0 then qH p else lA p)else 7
theorem qX (p:Pg) (T:fC p.funs) (s:dC):eN dV 143 [p.av, .str s] (.int .i64 (pF (dA (p.funs.map Fu.name) s))):=by
 obtain⟨vs,Q,a⟩:=p;simp only[Pg.av,Pg.row,fC]at *;refine bX 22 [.tmp 4] func143 ?_;refine aA fun K b=>?_;simp only[RR,seval];refine aM fun o S=>?_;simp only[RR,seval];refine b _ _ (aI (aA fun K b=>?_));simp only[RR,seval];refine b _ _ (bM fun N C i H=>?_);have t:=i 1;have d:=i 2;have F:=i 4;have c:=i 5;have g:=H o;simp only[RR,seval]at t d F c g;refine aP (eO [1,2] (a.length) (fun k G M=>G 5= .int .i64 (k:Nat)∧M o=C o∧((a.map Fu.name).take k).contains s=false) ⟨c,rfl,by simp⟩ ?_);rintro k B P R ⟨v,x,l⟩ n O I;have t:=(n 1 rfl).trans t;have d:=(n 2 rfl).trans d;have c:=v;clear v;have g:=x.trans g;have D:=aX.refl [1,2] B;have E:=x;clear n;refine aI (aA fun K b=>?_);simp only[d,c,g,aE,RR,seval];refine b _ _ (aU ?_ ?_)<;>intro u
 ·have j:k<a.length:=by have:=aB u;omega
  clear u;have J:=qF (aF j);have A:(a.map Fu.name).take (k+1)=(a.map Fu.name).take k++[a[k].name]:=by rw[cL (by simpa using j)];simp
  have z:(a.map Fu.name).drop k=a[k].name::(a.map Fu.name).drop (k+1):=by rw[bG (by simpa using j)];simp
  generalize a[k]=f at J A z;refine aK ?_;simp only[RR];refine aI (aP (aA fun K b=>?_));simp only[*,RR,seval];refine b _ _ (aU ?_ ?_)<;>intro y
  ·refine aA fun K b=>?_
   simp only[c,RR,seval];apply b;refine aN ?_;simp only[aW,aJ,bN,RR,seval];refine aY.pure ?_;rw[vZ _ _ _ l,z,dA,bH (aB y)];simp [pF]
  refine aK ?_;try simp only[RR]
  refine aG ?_;simp only[c,RR,seval];rw[aS _ (by omega)];refine I _ _ j ⟨by rfl,E,by rw[A,List.contains_append,l,oJ];have:=aD y;simp;exact fun e=>this e.symm⟩ (by repeat (first|exact D|refine aX.upd rfl ?_))
 have L:k=a.length:=by have:=aD u;omega
 refine cF ?_;simp only[RR,seval];refine aA fun K b=>?_;simp only[RR,seval];apply b;refine aN ?_;simp only[aW,aJ,bN,RR,seval];refine aY.pure ?_;rw[L]at l;rw[vZ _ _ a.length l,List.drop_eq_nil_of_le (by simp)];rfl
def MC (p:Pg) (l:List Ex):Prop:= ∀e∈l,eN dV 192 [p.av, .agg e.row] (.int .i64 (Y3 (rW p) e))
theorem Re (p:Pg) (l:List Ex) (N:fC l) (h:MC p l):eN dV 146 [p.av, .isl 5 (l.map Ex.row)] (.bool (lL (rW p) l 1)):=by
 simp only[fC]at N;unfold MC at h;generalize rW p=W at *;simp only[Pg.av,Pg.row]at *;refine bX 19 [.tmp 4] func146 ?_;refine aA fun K a=>?_;simp only[RR,seval];refine aM fun d S=>?_;simp only[RR,seval];refine a _ _ (aI (aA fun K a=>?_));simp only[RR,seval];refine a _ _ (bM fun O C g H=>?_);have f:=g 1;have o:=g 2;have F:=g 4;have c:=g 5;have u:=H d;simp only[RR,seval]at f o F c u;refine aP (eO [1,2] (l.length) (fun k G M=>G 5= .int .i64 (k:Nat)∧M d=C d∧lL W l 1=lL W (l.drop k) 1) ⟨c,rfl,by rw[dL]⟩ ?_);rintro k B Q R ⟨y,z,b⟩ n P I;have f:=(n 1 rfl).trans f;have o:=(n 2 rfl).trans o;have c:=y;clear y;have u:=z.trans u;have D:=aX.refl [1,2] B;have E:=z;clear n;refine aI (aA fun K a=>?_);simp only[f,c,aE,RR,seval];refine a _ _ (aU ?_ ?_)<;>intro v
 ·have i:k<l.length:=by have:=aB v;omega
  clear v;have J:=qG (aF i);have j:=h _ (bW i);rw[bG i,xW]at b;generalize l[k]=e at J b j;rw[e.row_eq]at j;generalize Y3 W e=t at b j;refine aK ?_;simp only[RR];refine aI (aP (aC fun K a=>?_));refine bB (fun x=>x≠d) [(0,1),(1,3),(2,3),(3,3),(4,1),(5,1),(6,3)] [] eF (by kernel_rfl) rfl rfl ?_;simp only[*,dR,RR,seval];refine aO (j) ?_;simp only[RR,seval];refine a _ _ (aU ?_ ?_)<;>intro A
  ·refine aA fun K a=>?_
   simp only[RR,seval];apply a;refine aN ?_;simp only[aW,aJ,bN,RR,seval];refine aY.pure ?_;rw[b,show decide (t=1)=false by simpa using A,fB]
  refine aK ?_;try simp only[RR]
  refine aG ?_;simp only[c,RR,seval];rw[aS _ (by omega)];refine I _ _ i ⟨by rfl,E,by rw[b,show decide (t=1)=true by simpa using A,cB]⟩ (by repeat (first|exact D|refine aX.upd rfl ?_))
 have L:k=l.length:=by have:=aD v;omega
 refine cF ?_;simp only[RR,seval];refine aA fun K a=>?_;simp only[RR,seval];apply a;refine aN ?_;simp only[aW,aJ,bN,RR,seval];refine aY.pure ?_;rw[b,L,cX,Bi]
theorem Rh (p:Pg) (l:List Ex) (N:fC l) (h:MC p l):eN dV 145 [p.av, .isl 5 (l.map Ex.row)] (.bool (lL (rW p) l 2)):=by
 simp only[fC]at N;unfold MC at h;generalize rW p=W at *;simp only[Pg.av,Pg.row]at *;refine bX 19 [.tmp 4] func145 ?_;refine aA fun K a=>?_;simp only[RR,seval];refine aM fun d S=>?_;simp only[RR,seval];refine a _ _ (aI (aA fun K a=>?_));simp only[RR,seval];refine a _ _ (bM fun O C g H=>?_);have f:=g 1;have o:=g 2;have F:=g 4;have c:=g 5;have u:=H d;simp only[RR,seval]at f o F c u;refine aP (eO [1,2] (l.length) (fun k G M=>G 5= .int .i64 (k:Nat)∧M d=C d∧lL W l 2=lL W (l.drop k) 2) ⟨c,rfl,by rw[dL]⟩ ?_);rintro k B Q R ⟨y,z,b⟩ n P I;have f:=(n 1 rfl).trans f;have o:=(n 2 rfl).trans o;have c:=y;clear y;have u:=z.trans u;have D:=aX.refl [1,2] B;have E:=z;clear n;refine aI (aA fun K a=>?_);simp only[f,c,aE,RR,seval];refine a _ _ (aU ?_ ?_)<;>intro v
 ·have i:k<l.length:=by have:=aB v;omega
  clear v;have J:=qG (aF i);have j:=h _ (bW i);rw[bG i,xW]at b;generalize l[k]=e at J b j;rw[e.row_eq]at j;generalize Y3 W e=t at b j;refine aK ?_;simp only[RR];refine aI (aP (aC fun K a=>?_));refine bB (fun x=>x≠d) [(0,1),(1,3),(2,3),(3,3),(4,1),(5,1),(6,3)] [] eF (by kernel_rfl) rfl rfl ?_;simp only[*,dR,RR,seval];refine aO (j) ?_;simp only[RR,seval];refine a _ _ (aU ?_ ?_)<;>intro A
  ·refine aA fun K a=>?_
   simp only[RR,seval];apply a;refine aN ?_;simp only[aW,aJ,bN,RR,seval];refine aY.pure ?_;rw[b,show decide (t=2)=false by simpa using A,fB]
  refine aK ?_;try simp only[RR]
  refine aG ?_;simp only[c,RR,seval];rw[aS _ (by omega)];refine I _ _ i ⟨by rfl,E,by rw[b,show decide (t=2)=true by simpa using A,cB]⟩ (by repeat (first|exact D|refine aX.upd rfl ?_))
 have L:k=l.length:=by have:=aD v;omega
 refine cF ?_;simp only[RR,seval];refine aA fun K a=>?_;simp only[RR,seval];apply a;refine aN ?_;simp only[aW,aJ,bN,RR,seval];refine aY.pure ?_;rw[b,L,cX,Bi]
theorem A8 (p:Pg) (hp:p.ok) (n:Nat): ∀e:Ex,e.sz≤n→e.ok→eN dV 192 [p.av, .agg e.row] (.int .i64 (Y3 (rW p) e)):=by
 induction n using Nat.strongRecOn with
 |_ n ih=>
  intro e hn he;have hz:=e.sz_eq;have hk:=he.kids;have X:MC p e.kids:=fun x hx=>ih x.sz (by have:=nJ hx;omega) x (bI _) (hk.all x hx);have c:=Re p e.kids hk.fit X;have i:=Rh p e.kids hk.fit X;have j:=qX p hp.ffit e.name;have b:=E5 (rW p) e;have N:rW p e.name=match(dA (p.funs.map Fu.name) e.name).bind (fun k=>p.funs[k]?)with |some f=>f.word|none=>false:=by simp only[rW,uL]<;>rfl
  have a4:=fun k h=>iT (p.funs.map Fu.name) e.name k h;have c1:=hp.ffit;generalize Y3 (rW p) e=c3 at *;generalize rW p e.name=WD at *;generalize lL (rW p) e.kids 1=A1 at *;generalize lL (rW p) e.kids 2=A2 at *
  obtain⟨g,u,a8⟩: ∃g:Fu,(decide ((0:Int)≤pF (dA (p.funs.map Fu.name) e.name))=true→(p.funs.map Fu.row)[(pF (dA (p.funs.map Fu.name) e.name)).toNat]?=some [.str g.name, .isl 1 (g.params.map bQ), .isl 1 (g.locs.map bQ), .bool g.word, .isl 5 (g.body.map Sm.row)])∧WD=(decide ((0:Int)≤pF (dA (p.funs.map Fu.name) e.name))&&g.word):=by
   cases hc:dA (p.funs.map Fu.name) e.name with
   |none=>
    rw[hc]at N;exact⟨⟨[],[],[],false,[]⟩,fun h=>by simp [pF]at h,by rw[N];rfl⟩
   |some k=>
    rw[hc]at N;have a0:=(a4 k hc).1;rw[aE]at a0;refine⟨p.funs[k],fun _=>?_, ?_⟩
    ·simp only[pF,cC]
     exact qF (aF a0)
    rw[N];simp [pF,aF a0]
  have z2:decide ((0:Int)≤pF (dA (p.funs.map Fu.name) e.name))=true→(0:Int)≤pF (dA (p.funs.map Fu.name) e.name):=aB;generalize pF (dA (p.funs.map Fu.name) e.name)=pl at *;clear X ih hp a4 N;subst a8;rw[e.row_eq];simp only[Pg.av,Pg.row,fC]at *;refine bX 63 [.tmp 4] func192 ?_;refine aA fun K a=>?_;simp only[RR,seval];refine aM fun l c2=>?_;simp only[RR,seval];refine aM fun o a3=>?_;have b0:o≠l:=fun e=>by rw[e]at a3;simp only[RR,seval,reduceCtorEq]at a3
  have a9:=b0.symm;simp only[RR,seval];refine a _ _ (aI (aA fun K a=>?_));simp only[RR,seval];refine a _ _ (aP (aI (aA fun K a=>?_)));simp only[RR,seval];refine a _ _ (bM fun F1 D t L=>?_);have A:=t 2;have y:=t 3;have B:=t 4;have d:=t 7;have I:=t 8;have C:=L l;have z:=L o;simp only[a9,RR,seval]at A y B d I C z;refine fQ (fun J M=>aX [2,3,4,7] F1 J∧M l=D l∧M o=D o∧J 8= .bool (decide (e.kind=1∨e.kind=2∨e.kind=5))) (fun b4 W=>?_) ?_
  ·have Q:=aX.refl [2,3,4,7] F1
   have T:D l=D l:=rfl;have U:D o=D o:=rfl;refine dN _ I (fun O=>?_) (fun O=>?_)
   ·refine aK ?_;try simp only[RR]
    refine W _ _ ⟨(by repeat (exact Q)),T,U, ?_⟩
    (rw[I,O];simp [aB O])
   refine aA fun K a=>?_;simp only[d,RR,seval];refine a _ _ (dN _ (by rfl) (fun Z=>?_) (fun Z=>?_))
   ·refine aK ?_;try simp only[RR]
    refine W _ _ ⟨(by repeat (first|exact Q|refine aX.upd rfl ?_)),T,U, ?_⟩
    (simp only[aT,seval];simp [Z,aB];done)
   refine aG ?_;simp only[d,RR,seval];refine W _ _ ⟨(by repeat (first|exact Q|refine aX.upd rfl ?_)),T,U, ?_⟩
   (simp only[aT,seval];simp [O,Z,aB];done)
  rintro F2 M2 ⟨v,F,G,I⟩;have A:=(v 2 rfl).trans A;have y:=(v 3 rfl).trans y;have B:=(v 4 rfl).trans B;have d:=(v 7 rfl).trans d;have C:=F.trans C;have z:=G.trans z;clear v;simp only[RR,seval];refine dN _ I (fun a7=>?_) (fun a7=>?_)
  ·refine aA fun K a=>?_
   simp only[RR,seval];apply a;refine aN ?_;simp only[aW,aJ,bN,RR,seval];refine aY.pure ?_;rw[b];clear c i j b u;simp_all
   all_goals (intros;omega)
  refine aA fun K a=>?_;simp only[d,RR,seval];refine a _ _ (aU ?_ ?_)<;>intro b8
  ·refine aA fun K a=>?_
   simp only[*,RR,seval];refine aO (c) ?_;simp only[RR,seval];refine a _ _ (aU ?_ ?_)<;>intro b9
   ·refine aA fun K a=>?_
    simp only[RR,seval];apply a;refine aN ?_;simp only[aW,aJ,bN,RR,seval];refine aY.pure ?_;rw[b];clear c i j b u;simp_all
    all_goals (intros;omega)
   refine aK ?_;try simp only[RR]
   refine aA fun K a=>?_;simp only[RR,seval];apply a;refine aN ?_;simp only[aW,aJ,bN,RR,seval];refine aY.pure ?_;rw[b];clear c i j b u;simp_all
   all_goals (intros;omega)
  refine aA fun K a=>?_;simp only[d,RR,seval];refine a _ _ (aU ?_ ?_)<;>intro c0
  ·refine aA fun K a=>?_
   simp only[*,RR,seval];refine aO (j) ?_;simp only[RR,seval];refine a _ _ (aA fun K a=>?_);simp only[RR,seval]
   all_goals ((refine eE (fun h=>?_) (fun h=>?_))<;>simp only[*,z2,RR,seval])
   all_goals try ((refine eE (fun h=>?_) (fun h=>?_))<;>simp only[*,RR,seval])
   all_goals try (refine aO (c) ?_;simp only[RR,seval])
   all_goals
    refine a _ _ (aU ?_ ?_)<;>intro a1
    ·try (cases a1;done)
     all_goals
      refine aA fun K a=>?_;simp only[RR,seval];apply a;refine aN ?_;simp only[aW,aJ,bN,RR,seval];refine aY.pure ?_;rw[b];clear c i j b u;simp_all
      all_goals (intros;omega)
    try (cases a1;done)
    all_goals
     refine aK ?_;simp only[RR];refine aA fun K a=>?_;simp only[RR,seval];apply a;refine aN ?_;simp only[aW,aJ,bN,RR,seval];refine aY.pure ?_;rw[b];clear c i j b u;simp_all
     all_goals (intros;omega)
  refine aA fun K a=>?_;simp only[d,RR,seval];refine a _ _ (aU ?_ ?_)<;>intro b5
  ·refine aI (aA fun K a=>?_)
   simp only[*,RR,seval];refine aO (c) ?_;simp only[RR,seval];refine a _ _ (aU ?_ ?_)<;>intro b6
   ·refine aA fun K a=>?_
    simp only[RR,seval];apply a;refine aN ?_;simp only[aW,aJ,bN,RR,seval];refine aY.pure ?_;rw[b];clear c i j b u;simp_all
    all_goals (intros;omega)
   refine aK ?_;try simp only[RR]
   refine aI (aA fun K a=>?_);simp only[y,z,RR,seval]
   repeat' ((refine bZ (fun h=>?_) (fun h=>?_))<;>simp only[h,y,z,RR,seval])
   all_goals
    refine a _ _ (aU ?_ ?_)<;>intro a2
    ·try (cases a2;done)
     all_goals
      refine aA fun K a=>?_;simp only[RR,seval];apply a;refine aN ?_;simp only[aW,aJ,bN,RR,seval];refine aY.pure ?_;rw[b];clear c i j b u;simp_all
      all_goals (intros;omega)
    try (cases a2;done)
    all_goals
     refine aK ?_;simp only[RR];refine aA fun K a=>?_;simp only[RR,seval];apply a;refine aN ?_;simp only[aW,aJ,bN,RR,seval];refine aY.pure ?_;rw[b];clear c i j b u;simp_all
     all_goals (intros;omega)
  refine aI (aA fun K a=>?_);simp only[d,RR,seval];refine a _ _ (bM fun F3 E t L=>?_);have g2:=t 2;have g3:=t 3;have g4:=t 4;have g7:=t 7;have H:=t 55;have F:=L l;have G:=L o;simp only[A,y,B,d,C,z,RR,seval]at g2 g3 g4 g7 H F G;have A:=g2;have y:=g3;have B:=g4;have d:=g7;have C:=F;have z:=G;refine fQ (fun J M=>aX [2,3,4] F3 J∧M l=E l∧M o=E o∧J 55= .bool (decide (e.kind=7∨e.kind=8∨e.kind=9))) (fun b1 V=>?_) ?_
  ·have P:=aX.refl [2,3,4] F3
   have R:E l=E l:=rfl;have S:E o=E o:=rfl;refine dN _ H (fun Y=>?_) (fun Y=>?_)
   ·refine aK ?_;try simp only[RR]
    refine V _ _ ⟨(by repeat (exact P)),R,S, ?_⟩
    (rw[H,Y];simp [aB Y])
   refine aA fun K a=>?_;simp only[d,RR,seval];refine a _ _ (dN _ (by rfl) (fun a5=>?_) (fun a5=>?_))
   ·refine aK ?_;try simp only[RR]
    refine V _ _ ⟨(by repeat (first|exact P|refine aX.upd rfl ?_)),R,S, ?_⟩
    (simp only[aT,seval];simp_all)
   refine aG ?_;simp only[d,RR,seval];refine V _ _ ⟨(by repeat (first|exact P|refine aX.upd rfl ?_)),R,S, ?_⟩
   (simp only[aT,seval];simp_all)
  rintro F4 M4 ⟨v,F,G,H⟩;have A:=(v 2 rfl).trans A;have y:=(v 3 rfl).trans y;have B:=(v 4 rfl).trans B;have C:=F.trans C;have z:=G.trans z;clear v;simp only[RR,seval];refine dN _ H (fun a6=>?_) (fun a6=>?_)
  ·refine aA fun K a=>?_
   simp only[*,RR,seval];refine aO (i) ?_;simp only[RR,seval];refine a _ _ (aU ?_ ?_)<;>intro b7
   ·refine aA fun K a=>?_
    simp only[RR,seval];apply a;refine aN ?_;simp only[aW,aJ,bN,RR,seval];refine aY.pure ?_;rw[b];clear c i j b u;simp_all
    all_goals (intros;omega)
   refine aK ?_;try simp only[RR]
   refine aA fun K a=>?_;simp only[RR,seval];apply a;refine aN ?_;simp only[aW,aJ,bN,RR,seval];refine aY.pure ?_;rw[b];clear c i j b u;simp_all
   all_goals (intros;omega)
  refine aK ?_;try simp only[RR]
  refine aA fun K a=>?_;simp only[RR,seval];apply a;refine aN ?_;simp only[aW,aJ,bN,RR,seval];refine aY.pure ?_;rw[b];clear c i j b u;simp_all
  all_goals (intros;omega)
theorem Px (p:Pg) (s:dC):decide (pF (dA (p.funs.map Fu.name) s)<0)= !zG p s:=by
 have h:zG p s=((dA (p.funs.map Fu.name) s).bind fun k=>p.funs[k]?).isSome:=by simp only[zG,uL]
 cases hc:dA (p.funs.map Fu.name) s with
 |none=>rw[h,hc];rfl
 |some k=>
  have a:=(iT _ _ _ hc).1;rw[aE]at a;rw[h,hc];simp [pF,aF a];exact bA (by omega)
theorem CZ (p:Pg) (N:p.ok) (n:Nat): ∀l:List Ex,sN l≤n→Bt l→eN dV 144 [p.av, .isl 5 (l.map Ex.row)] (.bool (Tm (zG p) l)):=by
 induction n using Nat.strongRecOn with
 |_ n ih=>
  intro l hn B;have a1:=B.fit;have E:=fun s=>qX p N.ffit s;have J:=fun s=>Px p s;generalize zG p=K at *;clear N;simp only[Pg.av,Pg.row,fC]at *;refine bX 38 [.tmp 4] func144 ?_;refine aA fun K a=>?_;simp only[RR,seval];refine aM fun o a3=>?_;simp only[RR,seval];apply a;clear a K;refine aI ?_;refine aA fun K a=>?_;simp only[RR,seval];apply a;clear a K;refine bM fun F1 T j F=>?_;have f:=j 1;have g:=j 2;have W:=j 4;have d:=j 5;have i:=F o;simp only[RR,seval]at f g W d i;clear j F;refine aP ?_;refine eO [1,2] (l.length) (fun k X M=>X 5= .int .i64 (k:Nat)∧M o=T o∧Tm K l=Tm K (l.drop k)) ⟨d,rfl,by rw[dL]⟩ ?_;rintro k P M2 a2 ⟨D,y,c⟩ v K0 Y;have f:=(v 1 rfl).trans f;have g:=(v 2 rfl).trans g;have d:=D;clear D;have i:=y.trans i;have U:=aX.refl [1,2] P;have V:=y;clear y;clear v;refine aI ?_;refine aA fun K a=>?_;simp only[f,d,aE,RR,seval];apply a;clear a K;refine aU ?_ ?_<;>intro t
  ·have u:k<l.length:=by have:=aB t;omega
   clear t;have z:=qG (aF u);have L:=bW u;have A:=(B.all _ L).kids;have a0:=nJ L;rw[bG u,wK,J1]at c;generalize l[k]=e at z c A a0;have hz:=e.sz_eq;have I:=ih (sN e.kids) (by omega) e.kids (bI _) A;have H:=E e.name;have C:=J e.name;generalize K e.name=Q at c C;generalize Tm K e.kids=R at c I;generalize pF (dA (p.funs.map Fu.name) e.name)=pl at H C;obtain⟨S,O⟩: ∃b,decide (e.kind=4)=b:=⟨_,rfl⟩;rw[O]at c;clear ih E J A B;cases Q<;>cases R<;>cases S
   all_goals
    refine aK ?_;simp only[RR];refine aI ?_;refine aP ?_;refine aC fun K a=>?_;refine bB (fun x=>x≠o) [(0,3),(1,3),(2,3),(3,3),(4,1),(5,3),(6,3),(7,1),(8,3),(9,3),(10,3),(11,3),(12,1),(13,1),(14,3),(15,3),(16,3),(17,1),(18,3),(19,3),(20,3),(21,3),(22,1),(23,1),(24,3),(25,3)] [] eF (by kernel_rfl) rfl rfl ?_;simp only[dR,f,g,d,i,z,O,RR,seval]
    all_goals try (refine aO (H) ?_;simp only[f,g,d,i,z,C,RR,seval])
    all_goals try (refine aO (I) ?_;simp only[RR,seval])
    all_goals
     apply a;clear a K;refine aU ?_ ?_<;>intro G
     ·try (cases G;done)
      all_goals
       refine aA fun K a=>?_;simp only[RR,seval];apply a;clear a K;refine aN ?_;simp only[aW,aJ,bN,RR,seval];refine aY.pure ?_;rw[c];rfl
     try (cases G;done)
     all_goals
      refine aK ?_;simp only[RR];refine aG ?_;simp only[d,RR,seval];rw[aS _ (by omega)];refine Y _ _ u ⟨by rfl,V,by rw[c];rfl⟩ (by repeat (first|exact U|refine aX.upd rfl ?_))
  have Z:k=l.length:=by have:=aD t;omega
  clear t;refine cF ?_;simp only[RR,seval];refine aA fun K a=>?_;simp only[RR,seval];apply a;clear a K;refine aN ?_;simp only[aW,aJ,bN,RR,seval];refine aY.pure ?_;rw[c,Z,cX,Ae]
theorem Lu (p:Pg) (I:p.ok) (n:Nat): ∀l:List Sm,oZ l≤n→yM l→eN dV 95 [p.av, .isl 5 (l.map Sm.row)] (.bool (wJ (zG p) l)):=by
 induction n using Nat.strongRecOn with
 |_ n ih=>
  intro l hn H;have a1:=H.fit;have L:=fun s=>qX p I.ffit s;have O:=fun(x:List Ex) (h:Bt x)=>CZ p I _ x (bI _) h;have Q:=fun s=>Px p s;generalize zG p=K at *;clear I;simp only[Pg.av,Pg.row,fC]at *;refine bX 58 [.tmp 4] func95 ?_;refine aA fun K a=>?_;simp only[RR,seval];refine aM fun v a3=>?_;simp only[RR,seval];apply a;clear a K;refine aI ?_;refine aA fun K a=>?_;simp only[RR,seval];apply a;clear a K;refine bM fun F1 T o N=>?_;have f:=o 1;have g:=o 2;have W:=o 4;have c:=o 5;have i:=N v;simp only[RR,seval]at f g W c i;clear o N;refine aP ?_;refine eO [1,2] (l.length) (fun k X M=>X 5= .int .i64 (k:Nat)∧M v=T v∧wJ K l=wJ K (l.drop k)) ⟨c,rfl,by rw[dL]⟩ ?_;rintro k S M2 a2 ⟨J,G,d⟩ F K0 Y;have f:=(F 1 rfl).trans f;have g:=(F 2 rfl).trans g;have c:=J;clear J;have i:=G.trans i;have U:=aX.refl [1,2] S;have V:=G;clear G;clear F;refine aI ?_;refine aA fun K a=>?_;simp only[f,c,aE,RR,seval];apply a;clear a K;refine aU ?_ ?_<;>intro B
  ·have D:k<l.length:=by have:=aB B;omega
   clear B;have j:=Jg (aF D);have R:=bW D;have t:=H.all _ R;have a0:=lU R;rw[bG D,Ad,Tj]at d;generalize l[k]=e at j d t a0;have hz:=e.sz_eq;have y:=O e.es t.es;have z:=ih (oZ e.thn) (by omega) e.thn (bI _) t.thn;have A:=ih (oZ e.els) (by omega) e.els (bI _) t.els;have C:=L e.name;have u:=Q e.name;generalize K e.name=K1 at d u;generalize Tm K e.es=K2 at d y;generalize wJ K e.thn=K4 at d z;generalize wJ K e.els=K5 at d A;generalize pF (dA (p.funs.map Fu.name) e.name)=pl at C u;obtain⟨K3,E⟩: ∃b,decide (e.kind=6)=b:=⟨_,rfl⟩;rw[E]at d;clear ih L Q t H O;refine aK ?_;simp only[RR];refine aI ?_;refine aP ?_;refine aC fun K a=>?_;refine bB (fun x=>x≠v) [(0,3),(1,3),(2,3),(3,3),(4,1),(5,3),(6,3),(7,1),(8,3),(9,3),(10,3),(11,3),(12,1),(13,1),(14,3),(15,3),(16,3),(17,1),(18,3),(19,3),(20,3),(21,3),(22,1),(23,1),(24,3),(25,3),(26,3),(27,1),(28,3),(29,3),(30,3),(31,3),(32,1),(33,1),(34,3),(35,3),(36,3),(37,1),(38,3),(39,3),(40,3),(41,3),(42,1),(43,1),(44,3),(45,3)] [] eF (by kernel_rfl) rfl rfl ?_;simp only[dR,f,c,j,E,RR,seval]
   all_goals ((refine eE (fun h=>?_) (fun h=>?_))<;>simp only[h,f,g,c,i,j,RR,seval])
   all_goals try (refine aO (C) ?_;simp only[u,RR,seval])
   all_goals try ((refine bZ (fun h=>?_) (fun h=>?_))<;>simp only[h,f,g,c,i,j,RR,seval])
   all_goals try (refine aO (y) ?_;simp only[RR,seval])
   all_goals try ((refine bZ (fun h=>?_) (fun h=>?_))<;>simp only[h,f,g,c,i,j,RR,seval])
   all_goals try (refine aO (z) ?_;simp only[RR,seval])
   all_goals try ((refine bZ (fun h=>?_) (fun h=>?_))<;>simp only[h,f,g,c,i,j,RR,seval])
   all_goals try (refine aO (A) ?_;simp only[RR,seval])
   all_goals
    apply a;clear a K;refine aU ?_ ?_<;>intro P
    ·try (cases P;done)
     all_goals
      refine aA fun K a=>?_;simp only[RR,seval];apply a;clear a K;refine aN ?_;simp only[aW,aJ,bN,RR,seval];refine aY.pure ?_;rw[d];clear y z A C u E;simp_all
    try (cases P;done)
    all_goals
     refine aK ?_;simp only[RR];refine aG ?_;simp only[c,RR,seval];rw[aS _ (by omega)];refine Y _ _ D ⟨by rfl,V,by rw[d];clear y z A C u E;simp_all⟩ (by repeat (first|exact U|refine aX.upd rfl ?_))
  have Z:k=l.length:=by have:=aD B;omega
  clear B;refine cF ?_;simp only[RR,seval];refine aA fun K a=>?_;simp only[RR,seval];apply a;clear a K;refine aN ?_;simp only[aW,aJ,bN,RR,seval];refine aY.pure ?_;rw[d,Z,cX,Gy]
theorem Y0 (p:Pg) (s:dC) (h:zG p s=true): ∃(k:Nat) (g:Fu),dA (p.funs.map Fu.name) s=some k∧p.funs[k]?=some g∧rW p s=g.word:=by
 have b:zG p s=((dA (p.funs.map Fu.name) s).bind fun k=>p.funs[k]?).isSome:=by simp only[zG,uL]
 have c:rW p s=match(dA (p.funs.map Fu.name) s).bind (fun k=>p.funs[k]?)with |some f=>f.word|none=>false:=by simp only[rW,uL]<;>rfl
 cases hc:dA (p.funs.map Fu.name) s with
 |none=>rw[b,hc]at h;cases h
 |some k=>
  have a:=(iT _ _ _ hc).1;rw[aE]at a;refine⟨k,p.funs[k],rfl,aF a, ?_⟩;rw[c,hc];simp [aF a]
theorem MJ (p:Pg) (O:p.ok) (w:Bool) (n:Nat): ∀l:List Sm,oZ l≤n→yM l→wJ (zG p) l=true→eN dV 96 [p.av, .bool w, .isl 5 (l.map Sm.row)] (.bool (nZ (rW p) w l)):=by
 induction n using Nat.strongRecOn with
 |_ n ih=>
  intro l hn a0 b9;have c7:=a0.fit;have a8:=fun(x:List Ex) (h:Bt x)=>Re p x h.fit fun e he=>A8 p O _ e (bI _) (h.all e he);have a5:=fun(x:List Ex) (h:Bt x)=>Rh p x h.fit fun e he=>A8 p O _ e (bI _) (h.all e he);have a6:=fun s=>qX p O.ffit s;have b4:=fun s h=>Y0 p s h;have c6:=O.ffit;generalize rW p=W at *;clear O;simp only[Pg.av,Pg.row,fC]at *;refine bX 80 [.tmp 6] func96 ?_;refine aA fun K a=>?_;simp only[RR,seval];refine aM fun i d0=>?_;simp only[RR,seval];refine a _ _ (aI (aA fun K a=>?_));simp only[RR,seval];refine a _ _ (bM fun F1 M1 d H=>?_);have t:=d 1;have o:=d 2;have y:=d 3;have V:=d 6;have j:=d 7;have v:=H i;simp only[RR,seval]at t o y V j v;refine aP ?_;refine eO [1,2,3] (l.length) (fun k Y M=>Y 7= .int .i64 (k:Nat)∧M i=M1 i∧nZ W w l=nZ W w (l.drop k)∧wJ (zG p) (l.drop k)=true) ⟨j,rfl,by rw[dL],by rw[dL];exact b9⟩ ?_;rintro k T M2 c8 ⟨fx,u,c,z⟩ f K0 b7;have t:=(f 1 rfl).trans t;have o:=(f 2 rfl).trans o;have y:=(f 3 rfl).trans y;have j:=fx;clear fx;have v:=u.trans v;have E:=aX.refl [1,2,3] T;have F:=u;clear f;refine aI (aA fun K a=>?_);simp only[o,j,aE,RR,seval];refine a _ _ (aU ?_ ?_)<;>intro hc
  ·have N:k<l.length:=by have:=aB hc;omega
   clear hc;have hg:=Jg (aF N);have hm:=bW N;have C:=a0.all _ hm;have c2:=lU hm;rw[bG N,Du,Ue]at c;rw[bG N,Ad,Tj]at z;generalize l[k]=e at hg c z C c2;have hz:=e.sz_eq;simp only[bC]at z;have Q:=a8 e.es C.es;have R:=a5 e.es C.es;have I:=ih (oZ e.thn) (by omega) e.thn (bI _) C.thn z.1.1.2;have J:=ih (oZ e.els) (by omega) e.els (bI _) C.els z.1.2;have S:=a6 e.name;have z1:decide (e.kind=6)=true→ ∃(k:Nat) (g:Fu),dA (p.funs.map Fu.name) e.name=some k∧p.funs[k]?=some g∧W e.name=g.word:=fun h=>b4 _ (by have:=z.1.1.1.1;rw[h]at this;simpa using this)
   obtain⟨pl,g,P,D,y3⟩: ∃(pl:Nat) (g:Fu),(decide (e.kind=6)=true→pF (dA (p.funs.map Fu.name) e.name)=(pl:Int))∧(decide (e.kind=6)=true→(p.funs.map Fu.row)[pl]?=some [.str g.name, .isl 1 (g.params.map bQ), .isl 1 (g.locs.map bQ), .bool g.word, .isl 5 (g.body.map Sm.row)])∧(decide (e.kind=6)&&W e.name)=(decide (e.kind=6)&&g.word):=by
    cases h6:decide (e.kind=6)with
    |false=>exact⟨0,⟨[],[],[],false,[]⟩,(fun h=>by cases h),(fun h=>by cases h),rfl⟩
    |true=>
     obtain⟨k,g,q1,q2,q3⟩:=z1 h6;exact⟨k,g,(fun _=>by rw[q1];rfl),(fun _=>qF q2),by rw[q3]⟩
   rw[y3]at c;have c3:vC e.kind=if decide (e.kind=4∨e.kind=5)=true then 2 else 1:=by simp only[vC,bJ]
   rw[c3]at c;generalize nZ W w e.thn=K4 at c I;generalize nZ W w e.els=K5 at c J;generalize g.word=WG at c D;have c9:decide ((0:Int)<(e.es.length:Int))=decide (0<e.es.length):=by rw[cU];simp only[bJ];omega
   obtain⟨K7,z7⟩: ∃b,decide (e.kind=7)=b:=⟨_,rfl⟩;obtain⟨K8,z8⟩: ∃b,decide (0<e.es.length)=b:=⟨_,rfl⟩;obtain⟨K6,z6⟩: ∃b,decide (e.kind=6)=b:=⟨_,rfl⟩;rw[z6]at P D;rw[z6,z7,z8]at c;clear ih a6 C a0 a8 a5 b4 z1 y3;cases K6
   all_goals
    refine aK ?_;simp only[RR];refine aI (aP (aA fun K a=>?_));simp only[o,j,hg,RR,seval];refine aM fun B c1=>?_;have c4:=cY c1 v;have b5:=c4.symm;simp only[RR,seval];refine a _ _ (aI (aA fun K a=>?_));simp only[RR,seval]
    repeat' ((refine bZ (fun h=>?_) (fun h=>?_))<;>simp only[h,RR,seval])
    all_goals
     refine a _ _ (bM fun U A d H=>?_);have g1:=d 1;have g2:=d 2;have g3:=d 3;have V:=d 6;have g7:=d 7;have X:=d 8;have a4:=d 26;have u:=H i;have Z:=H B;simp only[t,o,y,j,v,b5,RR,seval]at g1 g2 g3 V g7 X a4 u Z;have E:aX [1,2,3] T U:=aX.same d (by repeat (first|exact E|refine aX.upd rfl ?_));have F:=(H i).trans (by(simp only[b5,aT,seval];exact F));have t:=g1;have o:=g2;have y:=g3;have j:=g7;have v:=u;refine fQ (fun Y M=>aX [1,2,3,7,8] U Y∧M i=A i∧M B=A B∧(lL W e.es (if decide (e.kind=4∨e.kind=5)=true then 2 else 1)=true)) (fun c5 a7=>?_) ?_
     ·have a1:=aX.refl [1,2,3,7,8] U
      have a2:A i=A i:=rfl;have a3:A B=A B:=rfl;refine dN _ a4 (fun L=>?_) (fun L=>?_)
      ·try (cases L;done)
       all_goals
        have G:(if decide (e.kind=4∨e.kind=5)=true then(2:Int)else 1)=2:=by rw[bH];first|simp [aB h]|simp [aB L]
        rw[G]at c;refine aA fun K a=>?_;simp only[*,RR,seval];refine aO (R) ?_;simp only[RR,seval];refine a _ _ (aU ?_ ?_)<;>intro b1
        ·refine aA fun K a=>?_
         simp only[RR,seval];apply a;refine aN ?_;simp only[aW,aJ,bN,RR,seval];refine aY.pure ?_;rw[c,show lL W e.es 2=false by simpa using b1];simp
        refine aK ?_;try simp only[RR]
        refine a7 _ _ ⟨(by repeat (first|exact a1|refine aX.upd rfl ?_)),a2,a3,by rw[G];simpa using b1⟩
      try (cases L;done)
      all_goals
       have G:(if decide (e.kind=4∨e.kind=5)=true then(2:Int)else 1)=1:=by rw[aL];simp [aD h,aD L]
       rw[G]at c;refine aA fun K a=>?_;simp only[*,RR,seval];refine aO (Q) ?_;simp only[RR,seval];refine a _ _ (aU ?_ ?_)<;>intro b2
       ·refine aA fun K a=>?_
        simp only[RR,seval];apply a;refine aN ?_;simp only[aW,aJ,bN,RR,seval];refine aY.pure ?_;rw[c,show lL W e.es 1=false by simpa using b2];simp
       refine aK ?_;try simp only[RR]
       refine a7 _ _ ⟨(by repeat (first|exact a1|refine aX.upd rfl ?_)),a2,a3,by rw[G];simpa using b2⟩
     rintro F4 M4 ⟨f,u,b6,hA⟩;have t:=(f 1 rfl).trans t;have o:=(f 2 rfl).trans o;have y:=(f 3 rfl).trans y;have j:=(f 7 rfl).trans j;have X:=(f 8 rfl).trans X;have v:=u.trans v;have Z:=b6.trans Z;have E:aX [1,2,3] T F4:=aX.sub f rfl E;have F:=u.trans F;clear f;simp only[RR,seval];rw[hA,cB]at c;clear hA;refine aI (aC fun K a=>?_);refine bB (fun x=>x≠i∧x≠B) [(0,3),(1,1),(2,3),(3,3),(4,3),(5,0),(6,1),(7,3),(8,1),(9,1),(10,3),(11,3),(12,1),(13,3),(14,3),(15,3),(16,1),(17,3),(18,3),(19,3),(20,1),(21,3),(22,3),(23,3),(24,3),(25,3),(26,3),(27,3),(28,3)] [] eF (by kernel_rfl) rfl rfl ?_;simp only[*,dR,fX,z6,z7,RR,seval]
     all_goals try ((refine eE (fun h=>?_) (fun h=>?_))<;>simp only[*,aE,z8,RR,seval])
     all_goals try (refine aO (S) ?_;simp only[P,D,RR,seval])
     all_goals try ((first|refine bZ (fun h=>?_) (fun h=>?_)|refine eE (fun h=>?_) (fun h=>?_))<;>simp only[*,z7,RR,seval])
     all_goals try ((refine eE (fun h=>?_) (fun h=>?_))<;>simp only[*,aE,z8,RR,seval])
     all_goals try ((refine eE (fun h=>?_) (fun h=>?_))<;>simp only[h,t,RR,seval])
     all_goals
      refine a _ _ (aU ?_ ?_)<;>intro a9
      ·try (cases a9;done)
       all_goals
        refine aA fun K a=>?_;simp only[RR,seval];apply a;refine aN ?_;simp only[aW,aJ,bN,RR,seval];refine aY.pure ?_;rw[c];clear I J S P D Q R;simp_all
      try (cases a9;done)
      all_goals
       refine aK ?_;simp only[RR];refine aA fun K a=>?_;simp only[*,RR,seval]
       all_goals (refine aO (I) ?_;simp only[RR,seval])
       all_goals ((refine bZ (fun h=>?_) (fun h=>?_))<;>simp only[*,RR,seval])
       all_goals try (refine aO (J) ?_;simp only[RR,seval])
       all_goals
        refine a _ _ (aU ?_ ?_)<;>intro b0
        ·try (cases b0;done)
         all_goals
          refine aA fun K a=>?_;simp only[RR,seval];apply a;refine aN ?_;simp only[aW,aJ,bN,RR,seval];refine aY.pure ?_;rw[c];clear I J S P D Q R;simp_all
        try (cases b0;done)
        all_goals
         refine aK ?_;simp only[RR];refine aG ?_;simp only[j,RR,seval];rw[aS _ (by omega)];refine b7 _ _ N ⟨by rfl,F,(by rw[c];clear I J S P D Q R;simp_all),z.2⟩ (by repeat (first|exact E|refine aX.upd rfl ?_))
  have c0:k=l.length:=by have:=aD hc;omega
  refine cF ?_;simp only[RR,seval];refine aA fun K a=>?_;simp only[RR,seval];apply a;refine aN ?_;simp only[aW,aJ,bN,RR,seval];refine aY.pure ?_;rw[c,c0,cX,Ap]
theorem Xs (p:Pg) (D:p.ok):eN dV 62 [p.av] (.int .i64 (qH p)):=by
 have E:qH p=if(p.funs.all fun f=>wJ (zG p) f.body)=true then(if(p.funs.all fun f=>nZ (rW p) f.word f.body)=true then 0 else 5)else 4:=rfl
 have R:=D.funs;have a8:=D.ffit;have a4:=fun(x:List Sm) (h:yM x)=>Lu p D _ x (bI _) h;have a1:=fun(w:Bool) (x:List Sm) (h:yM x) (o:wJ (zG p) x=true)=>MJ p D w _ x (bI _) h o;generalize qH p=b3 at *;generalize rW p=W at *;generalize zG p=G at *;clear D;obtain⟨vs,aa,b⟩:=p;simp only[Pg.av,Pg.row,fC]at *;refine bX 43 [.tmp 2] func62 ?_;refine aA fun K a=>?_;simp only[RR,seval];refine aM fun e b2=>?_;simp only[RR,seval];refine a _ _ (aI (aA fun K a=>?_));simp only[RR,seval];refine a _ _ (bM fun F1 U n J=>?_);have c:=n 1;have H:=n 2;have y:=n 3;have d:=J e;simp only[RR,seval]at c H y d;refine aP (eO [1] (b.length) (fun k I M=>I 3= .int .i64 (k:Nat)∧M e=U e∧(b.all fun f=>wJ G f.body)=((b.drop k).all fun f=>wJ G f.body)) ⟨y,rfl,by rw[dL]⟩ ?_);rintro k S M2 a9 ⟨A,g,i⟩ v K0 a2;have c:=(v 1 rfl).trans c;have y:=A;clear A;have d:=g.trans d;have X:=aX.refl [1] S;have Z:=g;clear v;refine aI (aA fun K a=>?_);simp only[c,y,d,aE,RR,seval];refine a _ _ (aU ?_ ?_)<;>intro l
 ·have F:k<b.length:=by have:=aB l;omega
  clear l;have L:=qF (aF F);have C:=(R _ (bW F)).body;rw[bG F,dG]at i;generalize b[k]=f at L i C;have o:=a4 f.body C;generalize wJ G f.body=u at o i;refine aK ?_;simp only[RR];refine aI (aP (aC fun K a=>?_));refine bB (fun x=>x≠e) [(0,1),(1,3),(2,1),(3,3),(4,3),(5,3),(6,1),(7,1),(8,3)] [] eF (by kernel_rfl) rfl rfl ?_;simp only[*,dR,RR,seval];refine aO (o) ?_;simp only[RR,seval];refine a _ _ (aU ?_ ?_)<;>intro O
  ·refine aA fun K a=>?_
   simp only[RR,seval];apply a;refine aN ?_;simp only[aW,aJ,bN,RR,seval];refine aY.pure ?_;rw[E,aL (by rw[i,show u=false by simpa using O];simp)]
  refine aK ?_;try simp only[RR]
  refine aG ?_;simp only[y,RR,seval];rw[aS _ (by omega)];refine a2 _ _ F ⟨by rfl,Z,by rw[i,show u=true by simpa using O,cB]⟩ (by repeat (first|exact X|refine aX.upd rfl ?_))
 have a6:k=b.length:=by have:=aD l;omega
 rw[a6,cX,fO]at i;rw[bH i]at E;have a5:=dB.1 i;refine cF ?_;simp only[RR,seval];refine aI (aA fun K a=>?_);simp only[RR,seval];refine a _ _ (bM fun F3 V n J=>?_);have N:=n 1;have H:=n 2;have z:=n 4;have g:=J e;simp only[c,d,RR,seval]at N H z g;have c:=N;have d:=g;refine aP (eO [1] (b.length) (fun j I M=>I 4= .int .i64 (j:Nat)∧M e=V e∧(b.all fun f=>nZ W f.word f.body)=((b.drop j).all fun f=>nZ W f.word f.body)) ⟨z,rfl,by rw[dL]⟩ ?_);rintro j T M4 b0 ⟨A,g,t⟩ v K2 a3;have c:=(v 1 rfl).trans c;have z:=A;clear A;have d:=g.trans d;have Y:=aX.refl [1] T;have a0:=g;clear v;refine aI (aA fun K a=>?_);simp only[c,z,d,aE,RR,seval];refine a _ _ (aU ?_ ?_)<;>intro l
 ·have B:j<b.length:=by have:=aB l;omega
  clear l;have L:=qF (aF B);have C:=(R _ (bW B)).body;have Q:=a5 _ (bW B);rw[bG B,dG]at t;generalize b[j]=f at L t C Q;have o:=a1 f.word f.body C Q;generalize nZ W f.word f.body=u at o t;refine aK ?_;simp only[RR];refine aI (aP (aC fun K a=>?_));refine bB (fun x=>x≠e) [(0,1),(1,3),(2,1),(3,3),(4,3),(5,3),(6,1),(7,3),(8,1),(9,3),(10,3),(11,3),(12,1),(13,1),(14,3)] [] eF (by kernel_rfl) rfl rfl ?_;simp only[*,dR,RR,seval];refine aO (o) ?_;simp only[RR,seval];refine a _ _ (aU ?_ ?_)<;>intro P
  ·refine aA fun K a=>?_
   simp only[RR,seval];apply a;refine aN ?_;simp only[aW,aJ,bN,RR,seval];refine aY.pure ?_;rw[E,aL (by rw[t,show u=false by simpa using P];simp)]
  refine aK ?_;try simp only[RR]
  refine aG ?_;simp only[z,RR,seval];rw[aS _ (by omega)];refine a3 _ _ B ⟨by rfl,a0,by rw[t,show u=true by simpa using P,cB]⟩ (by repeat (first|exact Y|refine aX.upd rfl ?_))
 have a7:j=b.length:=by have:=aD l;omega
 refine cF ?_;simp only[RR,seval];refine aA fun K a=>?_;simp only[RR,seval];apply a;refine aN ?_;simp only[aW,aJ,bN,RR,seval];refine aY.pure ?_;rw[E,bH (by rw[t,a7,cX];rfl)]
theorem Xq (p:Pg) (g:p.ok) (f:gD p=true→p.few):eN dV 35 [p.av] (.int .i64 (gZ p)):=by
 have d:=Ln p g
 have j:gD p=true→1≤p.funs.length:=fun h=>by
  simp only[gD,bC,bJ]at h;exact h.1.1.1.2
 have c:=fun h=>H6 p (f h) (j h);have k:=Xs p g;clear f;have b:gZ p=if gD p=true then(if lA p=0 then qH p else lA p)else 7:=rfl
 generalize gZ p=u at *;generalize qH p=t at *;generalize lA p=o at *;generalize gD p=n at *;simp only[Pg.av,Pg.row]at *
 cases n with
 |false=>
  refine bX 14 [.tmp 2] func35 ?_;refine aA fun K a=>?_;simp only[RR,seval];refine aM fun i l=>?_;simp only[RR,seval];refine a _ _ (aI (aA fun K a=>?_));simp only[RR,seval];refine aO (d) ?_;simp only[RR,seval];refine a _ _ (cR (aA fun K a=>?_));simp only[RR,seval];apply a;refine aN ?_;simp only[aW,aJ,bN,RR,seval];refine aY.pure ?_;rw[b];rfl
 |true=>
  have c:=c rfl;rw[bH rfl]at b;refine bX 14 [.tmp 2] func35 ?_;refine aA fun K a=>?_;simp only[RR,seval];refine aM fun i l=>?_;simp only[RR,seval];refine a _ _ (aI (aA fun K a=>?_));simp only[RR,seval];refine aO (d) ?_;simp only[RR,seval];refine a _ _ (bL ?_);refine aK ?_;simp only[RR];refine aA fun K a=>?_;simp only[RR,seval];refine aO (c) ?_;simp only[RR,seval];refine a _ _ (aI (aA fun K a=>?_));simp only[RR,seval];refine a _ _ (aU ?_ ?_)<;>intro e
  ·refine aA fun K a=>?_
   simp only[RR,seval];apply a;refine aN ?_;simp only[aW,aJ,bN,RR,seval];refine aY.pure ?_;rw[b,aL (by simpa using e)]
  refine aK ?_;try simp only[RR]
  refine aA fun K a=>?_;simp only[RR,seval];refine aO (k) ?_;simp only[RR,seval];apply a;refine aN ?_;simp only[aW,aJ,bN,RR,seval];refine aY.pure ?_;rw[b,bH (by simpa using e)]
end Go.Proofs.YtaecpjgmcffliaaGreatDoor
