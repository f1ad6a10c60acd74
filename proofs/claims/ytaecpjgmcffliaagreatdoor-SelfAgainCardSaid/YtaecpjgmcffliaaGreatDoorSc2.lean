/- Sc2 -/
import Derived.Test.YtaecpjgmcffliaaGreatDoorSc1
set_option linter.unusedSimpArgs false
set_option linter.unusedVariables false
set_option maxHeartbeats 4000000
set_option maxRecDepth 10000
namespace Go.Al
structure Th where
 name:dD
 kind:Int
 num:Int
def A6 (k n:Int):AV:= .agg [.int .i64 k, .int .i64 n]
def Jd (t:Th):AV×AV:=(.str t.name,A6 t.kind t.num)
def kI:List Th→dD→Option (Int×Int)
 |[],_=>none
 |t::l,s=>if s=t.name then some (t.kind,t.num)else kI l s
def Kz (m:List Th) (t:Th):List Th:=if(kI m t.name).isSome then m else m++[t]
def Ut (m:List Th) (u:Bool) (t:Th):Bool:=if(kI m t.name).isSome then false else u
theorem rX (s:dD): ∀(m:List Th) (i:Nat), ∃r,xB (.str s) (m.map Jd) i=some r∧r.map (·.2)=(kI m s).map (fun p=>A6 p.1 p.2)
 |[],i=>⟨none,rfl,rfl⟩
 |t::m,i=>by
  simp only[cU,Jd,xB,KR,kI];by_cases h:s=t.name
  ·simp only[h,nG,cQ]
   exact⟨_,rfl,rfl⟩
  simp only[h,I5,dC];exact rX s m (i+1)
theorem By (s:dD): ∀(m:List Th) (t:Th),kI (m++[t]) s=match kI m s with |some p=>some p|none=>if s=t.name then some (t.kind,t.num)else none
 |[],t=>by simp only[cC,kI]
 |u::m,t=>by
  simp only[cZ,kI];by_cases h:s=u.name
  ·simp only[h,cQ]
  simp only[h,dC];exact By s m t
def pB (k:Int):Nat→List dD→List Th
 |_,[]=>[]
 |i,s::l=>⟨s,k,i⟩::pB k (i+1) l
theorem tC (k:Int): ∀(l:List dD) (i j:Nat) (h:j<l.length),pB k i (l.take (j+1))=pB k i (l.take j)++[⟨l[j],k,((i+j:Nat):Int)⟩]
 |s::l,i,0,_=>by simp [pB]
 |s::l,i,j+1,h=>by
  have:=tC k l (i+1) j (by simpa using h);rw[gV,gV,pB,this,pB];simp only[cZ,List.getElem_cons_succ];rw[show i+1+j=i+(j+1)by omega]
def sB (l:List Th):List Th×Bool:=l.foldl (fun p t=>(Kz p.1 t,Ut p.1 p.2 t)) ([],true)
theorem uF (l:List Th) (t:Th):sB (l++[t])=(Kz (sB l).1 t,Ut (sB l).1 (sB l).2 t):=by simp [sB]
def qF (p:Pg):List Th:=pB 2 0 p.vars++pB 3 0 (p.arrs.map Ar.name)++pB 4 0 (p.funs.map Fu.name)
def Ij (f:Fu):List Th:=pB 1 0 (f.params++f.locs)
theorem Rt (k:Int): ∀(l m:List dD) (i:Nat),pB k i (l++m)=pB k i l++pB k (i+l.length) m
 |[],m,i=>by simp [pB]
 |s::l,m,i=>by
  simp only[cZ,pB,Rt k l m (i+1),aM];rw[show i+1+l.length=i+(l.length+1)by omega]
theorem V6 (k:Int) (a b:List dD) (j:Nat) (h:j<b.length):pB k 0 (a++b.take (j+1))=pB k 0 (a++b.take j)++[⟨b[j],k,((a.length+j:Nat):Int)⟩]:=by
 rw[Rt,Rt,tC k b _ j h,bT,bV]
theorem uR (s:dD): ∀a b:List Th,kI (a++b) s=match kI a s with |some r=>some r|none=>kI b s
 |[],b=>rfl
 |t::a,b=>by
  simp only[cZ,kI];by_cases h:s=t.name
  ·simp only[h,cQ]
  simp only[h,dC];exact uR s a b
theorem sU (s:dD): ∀a b:List dD,cX (a++b) s=match cX a s with |some n=>some n|none=>(cX b s).map (· +a.length)
 |[],b=>by simp [cX]
 |x::a,b=>by
  simp only[cZ,cX];by_cases h:x=s
  ·simp only[h,cQ]
  simp only[h,dC];rw[sU s a b]
  cases cX a s with
  |some n=>rfl
  |none=>cases cX b s<;>simp [gA]
theorem tM (k:Int) (s:dD): ∀(l:List dD) (i:Nat),kI (pB k i l) s=(cX l s).map fun n=>(k,((i+n:Nat):Int))
 |[],i=>rfl
 |x::l,i=>by
  simp only[pB,kI,cX];by_cases h:x=s
  ·subst h;simp
  have b: ¬s=x:=fun e=>h e.symm;simp only[aJ h,aJ b,tM k s l (i+1),Option.map_map];congr 1;funext n;simp only[Function.comp];rw[show i+1+n=i+(n+1)by omega]
theorem Ii (s:dD): ∀l:List Th,(kI l s).isSome=(l.map Th.name).contains s
 |[]=>rfl
 |t::l=>by
  simp only[kI,cU,List.contains_cons];by_cases h:s=t.name
  ·subst h;simp
  have :(s==t.name)=false:=by simp [h]
  rw[aJ h,this,zJ];exact Ii s l
theorem Hj (s:dD) (l:List Th):kI (sB l).1 s=kI l s:=by
 suffices h: ∀n (l:List Th),l.length=n→ ∀s,kI (sB l).1 s=kI l s from h _ l rfl s
 intro n
 induction n with
 |zero=>intro l c s;have:=iE c;subst this;rfl
 |succ n ih=>
  intro l c s;have f:l≠[]:=fun e=>by subst e;simp at c
  obtain⟨b,t,rfl⟩: ∃b t,l=b++[t]:=⟨l.dropLast,l.getLast f,(List.dropLast_concat_getLast f).symm⟩;have d:b.length=n:=by simpa using c
  rw[uF,By];simp only[Kz,ih b d]
  cases h1:kI b t.name with
  |some q=>
   simp only[gC,cQ,ih b d]
   cases h2:kI b s with
   |some r=>rfl
   |none=>
    have : ¬s=t.name:=fun e=>by rw[e,h1]at h2;cases h2
    simp only[aJ this]
  |none=>
   simp only[eO,cF,dC];rw[By,ih b d]
theorem Oq (l:List Th):(sB l).2=decide (l.map Th.name).Nodup:=by
 suffices h: ∀n (l:List Th),l.length=n→(sB l).2=decide (l.map Th.name).Nodup from h _ l rfl
 intro n
 induction n with
 |zero=>intro l d;have:=iE d;subst this;rfl
 |succ n ih=>
  intro l d;have f:l≠[]:=fun e=>by subst e;simp at d
  obtain⟨c,t,rfl⟩: ∃c t,l=c++[t]:=⟨l.dropLast,l.getLast f,(List.dropLast_concat_getLast f).symm⟩;have u:c.length=n:=by simpa using d
  have y:=Ii t.name c;rw[uF];simp only[Ut,Hj,ih c u,y,cO,cU,dI];rw[eK];simp only[bP,List.nodup_append,List.nodup_cons,bN,Fq,List.nodup_nil,TN,true_and,bE,List.contains_iff_mem];constructor
  ·intro h
   split at h
   ·cases h
   rename_i x;refine⟨aD h,fun a k b o e=>?_⟩;subst o;subst e;exact x k
  rintro⟨g,j⟩;rw[aJ (fun v=>j _ v _ rfl rfl)];exact cR g
theorem Bl (k:Int): ∀(l:List dD) (i:Nat),(pB k i l).map Th.name=l
 |[],_=>rfl
 |s::l,i=>by simp only[pB,cU,Bl k l (i+1)]
theorem Yd (p:Pg):(qF p).map Th.name=kN p:=by simp only[qF,kN,cO,Bl]
theorem E6 (f:Fu):(Ij f).map Th.name=gO f:=by simp only[Ij,gO,Bl]
theorem Y0 (p:Pg) (s:dD):(match kI (qF p) s with |some r=>r|none=>(0, -1))=rR p s:=by
 unfold qF rR kN;rw[uR,uR,tM,tM,tM,sU,sU]
 cases h1:cX p.vars s with
 |some n=>
  have:=(iP _ _ _ h1).1;simp only[eD,bV,bD this]
 |none=>
  simp only[iI]
  cases h2:cX (p.arrs.map Ar.name) s with
  |some n=>
   have:=(iP _ _ _ h2).1;rw[aG]at this;simp only[eD,bV];rw[aJ (by omega),bD (by omega),Nat.add_sub_cancel]
  |none=>
   simp only[iI]
   cases h3:cX (p.funs.map Fu.name) s with
   |some n=>
    simp only[eD,bV,aB,aG];rw[aJ (by omega),aJ (by omega)];congr 2;omega
   |none=>rfl
def Oo (p:Pg) (i:Nat) (a:Bool×Bool) (u:Us):Bool×Bool:=(a.1&&jE p i u,a.2&&(!jE p i u||zA p i u))
theorem QL (p:Pg) (i:Nat): ∀(l:List Us) (a b:Bool),l.foldl (Oo p i) (a,b)=(a&&l.all (jE p i),b&&l.all (fun u=> !jE p i u||zA p i u))
 |[],a,b=>by simp
 |u::l,a,b=>by
  simp only[List.foldl_cons,Oo,QL p i l,dZ,Bool.and_assoc]
end Go.Al
namespace Go.Proofs.YtaecpjgmcffliaaGreatDoor
open Go.Al Go.Proofs.Tryz
def vE (bm bu b:Nat) (m:List Th) (u:Bool) (H:Hp):Prop:=H bm=some (.rows 1 [[.mp b]])∧H bu=some (.rows 1 [[.bool u]])∧H b=some (.amap (m.map Jd))
theorem Iu (t:Th) (l d b:Nat) (m:List Th) (u:Bool) (H:Hp) (h:vE l d b m u H):
  oM dP 127 [.str t.name,A6 t.kind t.num, .ptr 1 l 0 0, .ptr 1 d 0 0] H (fun Q z=> ∃v,Q= .ret v∧(v= .tup []∧vE l d b (Kz m t) (Ut m u t) z∧keeps (fun x=>x=d∨x=b) H z)):=by
 obtain⟨n,C,D⟩:=h;have Z:l≠d:=fun e=>by rw[e,C]at n;simp at n
 have n2:l≠b:=fun e=>by rw[e,D]at n;simp at n
 have O:d≠b:=fun e=>by rw[e,D]at C;simp at C
 refine bY 18 [] func127 ?_;simp only[A6];refine cN (fun A z=> ∃b5,A 0= .str t.name∧A 2= .ptr 1 l 0 0∧A 3= .ptr 1 d 0 0∧A 5= .ptr 2 b5 0 0∧z b5=some (.rows 2 [[.int .i64 t.kind, .int .i64 t.num]])∧keeps (fun _=>False) H z) (fun K f=>?_) ?_
 ·refine aH ?_;simp only[RR,seval]
  refine aN fun b5 I=>?_;simp only[RR,seval];exact f _ _ ⟨b5,rfl,rfl,rfl,rfl,bC _ _ _,(keeps.refl _ H).new I _⟩
 rintro A H1 ⟨b5,R,S,T,f5,I,y⟩;have k1:=y _ _ (fun h=>h) n;have F:=y _ _ (fun h=>h) C;have k3:=y _ _ (fun h=>h) D;obtain⟨r,M,B⟩:=rX t.name m 0
 have a0: ∀x o,H1 x=none→keeps (fun _=>False) H (upd H1 x o):=fun x o V c k _ j=>by
  have:=y c k (fun h=>h) j;have U:c≠x:=fun e=>by rw[e,V]at this;cases this
  simp only[upd,aJ U];exact this
 cases hl:kI m t.name with
 |some q=>
  rw[hl]at B
  obtain⟨p,rfl,hp⟩: ∃p,r=some p∧p.2=A6 q.1 q.2:=by
   cases r with
   |none=>simp at B
   |some p=>exact⟨p,rfl,by simpa using B⟩
  refine aI ?_;refine aC fun K f=>?_;refine aH ?_;simp only[RR,seval];simp only[*,k1,k3,A6,jI,RR,seval];refine aN fun b6 E=>?_;simp only[RR,seval];apply f
  have L:(upd (upd H1 b6 (some (.rows 2 [[.int .i64 0, .int .i64 0]]))) b6 (some (.rows 2 [[.int .i64 q.1, .int .i64 q.2]]))) d=some (.rows 1 [[.bool u]]):=by
   have :d≠b6:=fun e=>by rw[e,E]at F;cases F
   simp only[upd,aJ this];exact F
  have g:keeps (fun _=>False) H (upd (upd H1 b6 (some (.rows 2 [[.int .i64 0, .int .i64 0]]))) b6 (some (.rows 2 [[.int .i64 q.1, .int .i64 q.2]]))):=by
   intro c k _ j;have G:=y c k (fun h=>h) j;have :c≠b6:=fun e=>by rw[e,E]at G;cases G
   simp only[upd,aJ this];exact G
  generalize(upd (upd H1 b6 (some (.rows 2 [[.int .i64 0, .int .i64 0]]))) b6 (some (.rows 2 [[.int .i64 q.1, .int .i64 q.2]])))=P at L g⊢;refine aC fun K f=>?_;refine aH ?_;simp only[RR,seval];refine f _ _ (cM ?_);refine aC fun K f=>?_;refine aH ?_;simp only[RR,seval];simp only[T,L,RR,seval];refine f _ _ (aP ?_);simp only[bK,aY,aK,bR,seval];refine aZ.whole ⟨rfl,⟨?_,bC _ _ _|>.trans (by simp only[Ut,hl,gC,cQ]), ?_⟩,fun c k J j=>?_⟩
  ·simp only[upd,aJ Z];exact g _ _ (fun h=>h) n
  ·have :b≠d:=fun e=>O e.symm
   simp only[upd,aJ this,Kz,hl,gC,cQ];exact g _ _ (fun h=>h) D
  have :c≠d:=fun e=>J (.inl e);simp only[upd,aJ this];exact g c k (fun h=>h) j
 |none=>
  rw[hl]at B;obtain rfl:r=none:=by cases r with |none=>rfl|some p=>simp at B
  refine aI ?_;refine aC fun K f=>?_;refine aH ?_;simp only[RR,seval];simp only[R,S,k1,k3,M,jJ,RR,seval];refine aN fun b6 E=>?_;simp only[RR,seval];apply f
  have g:keeps (fun _=>False) H1 (upd (upd H1 b6 (some (.rows 2 [[.int .i64 0, .int .i64 0]]))) b6 (some (.rows 2 [[.int .i64 0, .int .i64 0]]))):=by
   intro c k _ j;have :c≠b6:=fun e=>by rw[e,E]at j;cases j
   simp only[upd,aJ this];exact j
  generalize(upd (upd H1 b6 (some (.rows 2 [[.int .i64 0, .int .i64 0]]))) b6 (some (.rows 2 [[.int .i64 0, .int .i64 0]])))=P at g⊢;have N:=g _ _ (fun h=>h) k1;have W:=g _ _ (fun h=>h) F;have X:=g _ _ (fun h=>h) k3;have Y:=g _ _ (fun h=>h) I;refine aC fun K f=>?_;refine aH ?_;simp only[RR,seval];refine f _ _ (bI ?_);refine aL ?_;simp only[bK];refine aH ?_
  have a1:Zk (m.map Jd) (.str t.name) (.agg [.int .i64 t.kind, .int .i64 t.num])=some ((Kz m t).map Jd):=by
   simp only[Zk,M,Kz,hl,eO,cF,dC,cO,cU,dI,Jd,A6]
  simp only[*,N,X,Y,RR,seval];simp only[aY,aK,bR];refine aZ.whole ⟨rfl,⟨?_, ?_,bC _ _ _⟩,fun c k J j=>?_⟩
  ·simp only[upd,aJ n2];exact N
  ·simp only[upd,aJ O]
   rw[W];simp only[Ut,hl,eO,cF,dC]
  have :c≠b:=fun e=>J (.inr e);simp only[upd,aJ this];exact g c k (fun h=>h) (y c k (fun h=>h) j)
theorem Xt (k:dD) (y:Int) (o d b:Nat) (m:List Th) (u:Bool) (H:Hp) (h:vE o d b m u H):
  oM dP 128 [.str k, .int .i64 y, .ptr 1 o 0 0, .ptr 1 d 0 0] H (fun O G=> ∃v,O= .ret v∧(v= .tup []∧vE o d b (Kz m ⟨k,1,y⟩) (Ut m u ⟨k,1,y⟩) G∧keeps (fun x=>x=d∨x=b) H G)):=by
 obtain⟨n,z,A⟩:=h;have T:o≠d:=fun e=>by rw[e,z]at n;simp at n
 have U:o≠b:=fun e=>by rw[e,A]at n;simp at n
 have M:d≠b:=fun e=>by rw[e,A]at z;simp at z
 refine bY 19 [] func128 ?_;have J:keeps (fun _=>False) H H:=keeps.refl _ H;have k1:=n;have C:=z;have k3:=A;obtain⟨r,F,t⟩:=rX k m 0
 cases hl:kI m k with
 |some q=>
  rw[hl]at t
  obtain⟨p,rfl,P⟩: ∃p,r=some p∧p.2=A6 q.1 q.2:=by
   cases r with
   |none=>simp at t
   |some p=>exact⟨p,rfl,by simpa using t⟩
  refine aI ?_;refine aC fun K g=>?_;refine aH ?_;simp only[RR,seval];simp only[k1,k3,F,P,A6,jI,RR,seval];refine aN fun b6 B=>?_;simp only[RR,seval];apply g
  have I:(upd (upd H b6 (some (.rows 2 [[.int .i64 0, .int .i64 0]]))) b6 (some (.rows 2 [[.int .i64 q.1, .int .i64 q.2]]))) d=some (.rows 1 [[.bool u]]):=by
   have :d≠b6:=fun e=>by rw[e,B]at C;cases C
   simp only[upd,aJ this];exact C
  have f:keeps (fun _=>False) H (upd (upd H b6 (some (.rows 2 [[.int .i64 0, .int .i64 0]]))) b6 (some (.rows 2 [[.int .i64 q.1, .int .i64 q.2]]))):=by
   intro c l _ j;have D:=J c l (fun h=>h) j;have :c≠b6:=fun e=>by rw[e,B]at D;cases D
   simp only[upd,aJ this];exact D
  generalize(upd (upd H b6 (some (.rows 2 [[.int .i64 0, .int .i64 0]]))) b6 (some (.rows 2 [[.int .i64 q.1, .int .i64 q.2]])))=N at I f⊢;refine aC fun K g=>?_;refine aH ?_;simp only[RR,seval];refine g _ _ (cM ?_);refine aC fun K g=>?_;refine aH ?_;simp only[RR,seval];simp only[I,RR,seval];refine g _ _ (aP ?_);simp only[bK,aY,aK,bR,seval];refine aZ.whole ⟨rfl,⟨?_,bC _ _ _|>.trans (by simp only[Ut,hl,gC,cQ]), ?_⟩,fun c l E j=>?_⟩
  ·simp only[upd,aJ T];exact f _ _ (fun h=>h) n
  ·have :b≠d:=fun e=>M e.symm
   simp only[upd,aJ this,Kz,hl,gC,cQ];exact f _ _ (fun h=>h) A
  have :c≠d:=fun e=>E (.inl e);simp only[upd,aJ this];exact f c l (fun h=>h) j
 |none=>
  rw[hl]at t;obtain rfl:r=none:=by cases r with |none=>rfl|some p=>simp at t
  refine aI ?_;refine aC fun K g=>?_;refine aH ?_;simp only[RR,seval];simp only[k1,k3,F,jJ,RR,seval];refine aN fun b6 B=>?_;simp only[RR,seval];apply g
  have f:keeps (fun _=>False) H (upd (upd H b6 (some (.rows 2 [[.int .i64 0, .int .i64 0]]))) b6 (some (.rows 2 [[.int .i64 0, .int .i64 0]]))):=by
   intro c l _ j;have :c≠b6:=fun e=>by rw[e,B]at j;cases j
   simp only[upd,aJ this];exact j
  generalize(upd (upd H b6 (some (.rows 2 [[.int .i64 0, .int .i64 0]]))) b6 (some (.rows 2 [[.int .i64 0, .int .i64 0]])))=N at f⊢;have L:=f _ _ (fun h=>h) k1;have R:=f _ _ (fun h=>h) C;have S:=f _ _ (fun h=>h) k3;refine aC fun K g=>?_;refine aH ?_;simp only[RR,seval];refine g _ _ (bI ?_);refine aL ?_;simp only[bK];refine aH ?_
  have Q:Zk (m.map Jd) (.str k) (.agg [.int .i64 1, .int .i64 y])=some ((Kz m ⟨k,1,y⟩).map Jd):=by
   simp only[Zk,F,Kz,hl,eO,cF,dC,cO,cU,dI,Jd,A6]
  simp only[L,S,Q,RR,seval];simp only[aY,aK,bR];refine aZ.whole ⟨rfl,⟨?_, ?_,bC _ _ _⟩,fun c l E j=>?_⟩
  ·simp only[upd,aJ U];exact L
  ·simp only[upd,aJ M]
   rw[R];simp only[Ut,hl,eO,cF,dC]
  have :c≠b:=fun e=>E (.inr e);simp only[upd,aJ this];exact f c l (fun h=>h) (J c l (fun h=>h) j)
theorem Az {f d b:Nat} {m:List Th} {u:Bool} {H:Hp} (h:vE f d b m u H) {x sz:Nat} {r:List (List AV)} (c:H x=some (.rows sz r)) (k:sz≠1): ¬(x=d∨x=b):=by
 obtain⟨l,g,j⟩:=h;rintro(e|e)
 ·rw[e,g]at c
  simp only[Option.some.injEq,iF.rows.injEq]at c;exact k c.1.symm
 rw[e,j]at c;cases c
theorem Zo {c d b:Nat} {m:List Th} {u:Bool} {H:Hp} (h:vE c d b m u H) {x:Nat} (k:H x=none) (o l:Option iF):vE c d b m u (upd (upd H x o) x l):=by
 obtain⟨f,g,j⟩:=h;refine⟨?_, ?_, ?_⟩
 ·have :c≠x:=fun e=>by rw[e,k]at f;cases f
  simp only[upd,aJ this];exact f
 ·have :d≠x:=fun e=>by rw[e,k]at g;cases g
  simp only[upd,aJ this];exact g
 have :b≠x:=fun e=>by rw[e,k]at j;cases j
 simp only[upd,aJ this];exact j
theorem Yc (p:Pg) (hp:p.few):oM dP 85 [p.av] pZ (fun ae Y=> ∃v,ae= .ret v∧ ∃b,v= .tup [.mp b, .bool (sB (qF p)).2]∧Y b=some (.amap ((sB (qF p)).1.map Jd))):=by
 have gv:=hp.v;have ga:=hp.a;have gf:=hp.f;have Z:qF p=pB 2 0 p.vars++pB 3 0 (p.arrs.map Ar.name)++pB 4 0 (p.funs.map Fu.name):=rfl;generalize qF p=G at Z⊢;obtain⟨vs,n,o⟩:=p;simp only at gv ga gf Z;refine bY 61 [.tmp 2, .tmp 3] func85 ?_;simp only[Pg.av,Pg.row];refine cN (fun c H=> ∃b1,c 1= .ptr 3 b1 0 0∧H b1=some (.rows 3 [[.isl 1 (vs.map bM), .isl 2 (n.map Ar.row), .isl 5 (o.map Fu.row)]])) (fun K d=>?_) ?_
 ·refine aH ?_;simp only[RR,seval]
  refine aN fun b1 a2=>?_;simp only[RR,seval];exact d _ _ ⟨b1,rfl,bC _ _ _⟩
 rintro c H ⟨b1,u,l⟩;refine cN (fun c H=> ∃b g j,c 1= .ptr 3 b1 0 0∧H b1=some (.rows 3 [[.isl 1 (vs.map bM), .isl 2 (n.map Ar.row), .isl 5 (o.map Fu.row)]])∧c 4= .ptr 1 g 0 0∧c 5= .ptr 1 j 0 0∧vE g j b [] true H) (fun K d=>?_) ?_
 ·refine aH ?_;simp only[RR,seval]
  refine aN fun b a1=>?_;simp only[RR,seval];refine aN fun g Q=>?_;simp only[RR,seval];refine aN fun j F=>?_;simp only[RR,seval];have e1:g≠b:=fun e=>by rw[e,bC]at Q;cases Q
  have e2:j≠b:=fun e=>by
   rw[e]at F;have :b≠g:=fun e=>e1 e.symm;simp only[upd,aJ this,cQ]at F;cases F
  have e3:j≠g:=fun e=>by rw[e,bC]at F;cases F
  have e4:g≠j:=fun e=>e3 e.symm;have q0:b1≠b:=fun e=>by rw[e,a1]at l;cases l
  have q1:b1≠g:=fun e=>by
   rw[←e]at Q;simp only[upd,aJ q0]at Q;rw[l]at Q;cases Q
  have q2:b1≠j:=fun e=>by
   rw[←e]at F;simp only[upd,aJ q0,aJ q1]at F;rw[l]at F;cases F
  have e5:b≠g:=fun e=>e1 e.symm;have e6:b≠j:=fun e=>e2 e.symm;simp only[upd,e3,e4,reduceIte,RR,seval];refine d _ _ ⟨b,g,j,u, ?_,rfl,rfl, ?_, ?_, ?_⟩
  ·simp only[upd,aJ q0,aJ q1,aJ q2];exact l
  ·simp [upd,e4]
  ·simp [upd]
  simp [upd,e5,e6]
 rintro c H ⟨b,g,j,u,l,z,A,t⟩;refine aC fun K d=>?_;refine aH ?_;simp only[RR,seval];simp only[z,A,seval];apply d;clear d K;refine cN (fun c H=>c 1= .ptr 3 b1 0 0∧c 4= .ptr 1 g 0 0∧c 5= .ptr 1 j 0 0∧c 6= .fn (.func 127) [] [.ptr 1 g 0 0, .ptr 1 j 0 0]∧H b1=some (.rows 3 [[.isl 1 (vs.map bM), .isl 2 (n.map Ar.row), .isl 5 (o.map Fu.row)]])∧vE g j b (sB (pB 2 0 (vs))).1 (sB (pB 2 0 (vs))).2 H) (fun K d=>?_) ?_
 ·refine aC fun K d=>?_;refine aH ?_;simp only[RR,seval]
  simp only[u,l,aG,RR,seval];apply d;clear d K;refine aQ ?_;refine eP (fun N c H=> ∃k:Nat,N=vs.length-k∧k≤vs.length∧c 18= .int .i64 k∧c 16= .isl 1 (vs.map bM)∧c 17= .int .i64 vs.length∧c 1= .ptr 3 b1 0 0∧c 4= .ptr 1 g 0 0∧c 5= .ptr 1 j 0 0∧c 6= .fn (.func 127) [] [.ptr 1 g 0 0, .ptr 1 j 0 0]∧H b1=some (.rows 3 [[.isl 1 (vs.map bM), .isl 2 (n.map Ar.row), .isl 5 (o.map Fu.row)]])∧vE g j b (sB (pB 2 0 (vs.take k))).1 (sB (pB 2 0 (vs.take k))).2 H) (vs.length) ⟨0,rfl,cK _,rfl,rfl,rfl,u,z,A,rfl,l,t⟩ ?_;rintro N c H ⟨k,rfl,a0,D,J,I,u,z,A,B,l,t⟩ K2 S;refine aC fun K d=>?_;refine aH ?_;simp only[RR,seval];simp only[D,I,RR,seval];apply d;clear d K;refine aI ?_;refine aV ?_ ?_<;>intro C
  ·have M:k<vs.length:=by have:=aD C;omega
   clear C;refine aL ?_;simp only[bK];refine aI ?_;refine aQ ?_;have L:=Ye (aF M);have E:=tC 2 vs 0 k M;rw[bV]at E;generalize vs[k]=s at L E;refine aC fun K d=>?_;refine aH ?_;simp only[RR,seval];simp only[D,J,L,RR,seval];apply d;clear d K;refine aH ?_;simp only[B,RR,seval];refine gJ (Iu ⟨s,2,k⟩ g j b _ _ _ t) (fN.refl _) (fun _=>trivial) fun v Y ⟨X,R,W⟩=>?_;subst X;simp only[bK,cL,RR,seval];refine aH ?_;simp only[RR,seval];simp only[D,bK,RR,seval];rw[aS _ (by omega)];refine S (vs.length-(k+1)) _ _ (by omega) ⟨k+1,rfl,by omega,rfl,J,I,u,z,A,B,W b1 _ (Az t l (by decide)) l,by rw[E,uF];exact R⟩
  refine cG ?_;simp only[bK,cL,reduceIte];have V:k=vs.length:=by have:=aE C;omega
  clear C;subst V;rw[dG]at t;exact d _ _ ⟨u,z,A,B,l,t⟩
 rintro c H ⟨u,z,A,B,l,t⟩;refine cN (fun c H=>c 1= .ptr 3 b1 0 0∧c 4= .ptr 1 g 0 0∧c 5= .ptr 1 j 0 0∧c 6= .fn (.func 127) [] [.ptr 1 g 0 0, .ptr 1 j 0 0]∧H b1=some (.rows 3 [[.isl 1 (vs.map bM), .isl 2 (n.map Ar.row), .isl 5 (o.map Fu.row)]])∧vE g j b (sB (pB 2 0 vs++pB 3 0 (n.map Ar.name))).1 (sB (pB 2 0 vs++pB 3 0 (n.map Ar.name))).2 H) (fun K d=>?_) ?_
 ·refine aC fun K d=>?_;refine aH ?_;simp only[RR,seval]
  simp only[u,l,aG,RR,seval];apply d;clear d K;refine aQ ?_;refine eP (fun N c H=> ∃k:Nat,N=n.length-k∧k≤n.length∧c 32= .int .i64 k∧c 30= .isl 2 (n.map Ar.row)∧c 31= .int .i64 n.length∧c 1= .ptr 3 b1 0 0∧c 4= .ptr 1 g 0 0∧c 5= .ptr 1 j 0 0∧c 6= .fn (.func 127) [] [.ptr 1 g 0 0, .ptr 1 j 0 0]∧H b1=some (.rows 3 [[.isl 1 (vs.map bM), .isl 2 (n.map Ar.row), .isl 5 (o.map Fu.row)]])∧vE g j b (sB (pB 2 0 vs++pB 3 0 ((n.take k).map Ar.name))).1 (sB (pB 2 0 vs++pB 3 0 ((n.take k).map Ar.name))).2 H) (n.length) ⟨0,rfl,cK _,rfl,rfl,rfl,u,z,A,B,l,by simpa [pB]using t⟩ ?_;rintro N c H ⟨k,rfl,a0,D,J,I,u,z,A,B,l,t⟩ K2 S;refine aC fun K d=>?_;refine aH ?_;simp only[RR,seval];simp only[D,I,RR,seval];apply d;clear d K;refine aI ?_;refine aV ?_ ?_<;>intro C
  ·have M:k<n.length:=by have:=aD C;omega
   clear C;refine aL ?_;simp only[bK];refine aI ?_;refine aQ ?_;have L:=JC (aF M);have E:=tC 3 (n.map Ar.name) 0 k (by rw[aG];exact M);rw[bV,←List.map_take,←List.map_take,List.getElem_map]at E;generalize n[k]=a at L E;refine aC fun K d=>?_;refine aH ?_;simp only[RR,seval];simp only[D,J,L,RR,seval];refine aN fun y T=>?_;simp only[RR,seval];apply d;clear d K;have O:=Zo t T (some (.rows 2 [[.str [], .int .i64 0]])) (some (.rows 2 [[.str a.name, .int .i64 a.size]]));have U:(upd (upd H y (some (.rows 2 [[.str [], .int .i64 0]]))) y (some (.rows 2 [[.str a.name, .int .i64 a.size]]))) y=some (.rows 2 [[.str a.name, .int .i64 a.size]]):=bC _ _ _
   have P:(upd (upd H y (some (.rows 2 [[.str [], .int .i64 0]]))) y (some (.rows 2 [[.str a.name, .int .i64 a.size]]))) b1=some (.rows 3 [[.isl 1 (vs.map bM), .isl 2 (n.map Ar.row), .isl 5 (o.map Fu.row)]]):=by
    have :b1≠y:=fun e=>by rw[e,T]at l;cases l
    simp only[upd,aJ this];exact l
   generalize(upd (upd H y (some (.rows 2 [[.str [], .int .i64 0]]))) y (some (.rows 2 [[.str a.name, .int .i64 a.size]])))=H2 at O U P⊢;refine aH ?_;simp only[B,U,RR,seval];refine gJ (Iu ⟨a.name,3,k⟩ g j b _ _ _ O) (fN.refl _) (fun _=>trivial) fun v Y ⟨X,R,W⟩=>?_;subst X;simp only[bK,cL,RR,seval];refine aH ?_;simp only[RR,seval];simp only[D,bK,RR,seval];rw[aS _ (by omega)];refine S (n.length-(k+1)) _ _ (by omega) ⟨k+1,rfl,by omega,rfl,J,I,u,z,A,B,W b1 _ (Az O P (by decide)) P,by rw[E,←bT,uF];exact R⟩
  refine cG ?_;simp only[bK,cL,reduceIte];have V:k=n.length:=by have:=aE C;omega
  clear C;subst V;rw[dG]at t;exact d _ _ ⟨u,z,A,B,l,t⟩
 rintro c H ⟨u,z,A,B,l,t⟩;refine cN (fun c H=>c 1= .ptr 3 b1 0 0∧c 4= .ptr 1 g 0 0∧c 5= .ptr 1 j 0 0∧c 6= .fn (.func 127) [] [.ptr 1 g 0 0, .ptr 1 j 0 0]∧H b1=some (.rows 3 [[.isl 1 (vs.map bM), .isl 2 (n.map Ar.row), .isl 5 (o.map Fu.row)]])∧vE g j b (sB (pB 2 0 vs++pB 3 0 (n.map Ar.name)++pB 4 0 (o.map Fu.name))).1 (sB (pB 2 0 vs++pB 3 0 (n.map Ar.name)++pB 4 0 (o.map Fu.name))).2 H) (fun K d=>?_) ?_
 ·refine aC fun K d=>?_;refine aH ?_;simp only[RR,seval]
  simp only[u,l,aG,RR,seval];apply d;clear d K;refine aQ ?_;refine eP (fun N c H=> ∃k:Nat,N=o.length-k∧k≤o.length∧c 47= .int .i64 k∧c 45= .isl 5 (o.map Fu.row)∧c 46= .int .i64 o.length∧c 1= .ptr 3 b1 0 0∧c 4= .ptr 1 g 0 0∧c 5= .ptr 1 j 0 0∧c 6= .fn (.func 127) [] [.ptr 1 g 0 0, .ptr 1 j 0 0]∧H b1=some (.rows 3 [[.isl 1 (vs.map bM), .isl 2 (n.map Ar.row), .isl 5 (o.map Fu.row)]])∧vE g j b (sB (pB 2 0 vs++pB 3 0 (n.map Ar.name)++pB 4 0 ((o.take k).map Fu.name))).1 (sB (pB 2 0 vs++pB 3 0 (n.map Ar.name)++pB 4 0 ((o.take k).map Fu.name))).2 H) (o.length) ⟨0,rfl,cK _,rfl,rfl,rfl,u,z,A,B,l,by simpa [pB]using t⟩ ?_;rintro N c H ⟨k,rfl,a0,D,J,I,u,z,A,B,l,t⟩ K2 S;refine aC fun K d=>?_;refine aH ?_;simp only[RR,seval];simp only[D,I,RR,seval];apply d;clear d K;refine aI ?_;refine aV ?_ ?_<;>intro C
  ·have M:k<o.length:=by have:=aD C;omega
   clear C;refine aL ?_;simp only[bK];refine aI ?_;refine aQ ?_;have L:=rQ (aF M);have E:=tC 4 (o.map Fu.name) 0 k (by rw[aG];exact M);rw[bV,←List.map_take,←List.map_take,List.getElem_map]at E;generalize o[k]=f at L E;refine aC fun K d=>?_;refine aH ?_;simp only[RR,seval];simp only[D,J,L,RR,seval];refine aN fun y T=>?_;simp only[RR,seval];apply d;clear d K;have O:=Zo t T (some (.rows 5 [[.str [], .nsl, .nsl, .bool false, .nsl]])) (some (.rows 5 [[.str f.name, .isl 1 (f.params.map bM), .isl 1 (f.locs.map bM), .bool f.word, .isl 5 (f.body.map Sm.row)]]));have U:(upd (upd H y (some (.rows 5 [[.str [], .nsl, .nsl, .bool false, .nsl]]))) y (some (.rows 5 [[.str f.name, .isl 1 (f.params.map bM), .isl 1 (f.locs.map bM), .bool f.word, .isl 5 (f.body.map Sm.row)]]))) y=some (.rows 5 [[.str f.name, .isl 1 (f.params.map bM), .isl 1 (f.locs.map bM), .bool f.word, .isl 5 (f.body.map Sm.row)]]):=bC _ _ _
   have P:(upd (upd H y (some (.rows 5 [[.str [], .nsl, .nsl, .bool false, .nsl]]))) y (some (.rows 5 [[.str f.name, .isl 1 (f.params.map bM), .isl 1 (f.locs.map bM), .bool f.word, .isl 5 (f.body.map Sm.row)]]))) b1=some (.rows 3 [[.isl 1 (vs.map bM), .isl 2 (n.map Ar.row), .isl 5 (o.map Fu.row)]]):=by
    have :b1≠y:=fun e=>by rw[e,T]at l;cases l
    simp only[upd,aJ this];exact l
   generalize(upd (upd H y (some (.rows 5 [[.str [], .nsl, .nsl, .bool false, .nsl]]))) y (some (.rows 5 [[.str f.name, .isl 1 (f.params.map bM), .isl 1 (f.locs.map bM), .bool f.word, .isl 5 (f.body.map Sm.row)]])))=H2 at O U P⊢;refine aH ?_;simp only[B,U,RR,seval];refine gJ (Iu ⟨f.name,4,k⟩ g j b _ _ _ O) (fN.refl _) (fun _=>trivial) fun v Y ⟨X,R,W⟩=>?_;subst X;simp only[bK,cL,RR,seval];refine aH ?_;simp only[RR,seval];simp only[D,bK,RR,seval];rw[aS _ (by omega)];refine S (o.length-(k+1)) _ _ (by omega) ⟨k+1,rfl,by omega,rfl,J,I,u,z,A,B,W b1 _ (Az O P (by decide)) P,by rw[E,←bT,uF];exact R⟩
  refine cG ?_;simp only[bK,cL,reduceIte];have V:k=o.length:=by have:=aE C;omega
  clear C;subst V;rw[dG]at t;exact d _ _ ⟨u,z,A,B,l,t⟩
 rintro c H ⟨u,z,A,B,l,t⟩;rw[←Z]at t;obtain⟨i1,i2,i3⟩:=t;refine aC fun K d=>?_;refine fY (fun x=>x≠g∧x≠j) [(0,true),(1,true),(2,true),(3,true)] eE (by kernel_rfl) rfl ?_;simp only[tU,z,A,i1,i2,RR,seval];apply d;clear d K;refine aP ?_;simp only[aY,aK,bR,RR,seval];exact aZ.whole ⟨b,rfl,i3⟩
theorem E5 (f:Fu) (hp:f.params.length≤10000) (hl:f.locs.length≤1100000):oM dP 86 [.agg f.row] pZ (fun Z M=> ∃v,Z= .ret v∧ ∃b,v= .tup [.mp b, .bool (sB (Ij f)).2]∧M b=some (.amap ((sB (Ij f)).1.map Jd))):=by
 have W:Ij f=pB 1 0 (f.params++f.locs):=rfl;generalize Ij f=G at W⊢;refine bY 45 [.tmp 2, .tmp 3] func86 ?_;simp only[Fu.row];refine cN (fun c H=> ∃b1,c 1= .ptr 5 b1 0 0∧H b1=some (.rows 5 [[.str f.name, .isl 1 (f.params.map bM), .isl 1 (f.locs.map bM), .bool f.word, .isl 5 (f.body.map Sm.row)]])) (fun K d=>?_) ?_
 ·refine aH ?_;simp only[RR,seval]
  refine aN fun b1 a2=>?_;simp only[RR,seval];exact d _ _ ⟨b1,rfl,bC _ _ _⟩
 rintro c H ⟨b1,o,l⟩;refine cN (fun c H=> ∃b g j,c 1= .ptr 5 b1 0 0∧H b1=some (.rows 5 [[.str f.name, .isl 1 (f.params.map bM), .isl 1 (f.locs.map bM), .bool f.word, .isl 5 (f.body.map Sm.row)]])∧c 4= .ptr 1 g 0 0∧c 5= .ptr 1 j 0 0∧vE g j b [] true H) (fun K d=>?_) ?_
 ·refine aH ?_;simp only[RR,seval]
  refine aN fun b a0=>?_;simp only[RR,seval];refine aN fun g C=>?_;simp only[RR,seval];refine aN fun j z=>?_;simp only[RR,seval];have T:g≠b:=fun e=>by rw[e,bC]at C;cases C
  have e2:j≠b:=fun e=>by
   rw[e]at z;have :b≠g:=fun e=>T e.symm;simp only[upd,aJ this,cQ]at z;cases z
  have U:j≠g:=fun e=>by rw[e,bC]at z;cases z
  have V:g≠j:=fun e=>U e.symm;have S:b1≠b:=fun e=>by rw[e,a0]at l;cases l
  have X:b1≠g:=fun e=>by
   rw[←e]at C;simp only[upd,aJ S]at C;rw[l]at C;cases C
  have q2:b1≠j:=fun e=>by
   rw[←e]at z;simp only[upd,aJ S,aJ X]at z;rw[l]at z;cases z
  have e5:b≠g:=fun e=>T e.symm;have e6:b≠j:=fun e=>e2 e.symm;simp only[upd,U,V,reduceIte,RR,seval];refine d _ _ ⟨b,g,j,o, ?_,rfl,rfl, ?_, ?_, ?_⟩
  ·simp only[upd,aJ S,aJ X,aJ q2];exact l
  ·simp [upd,V]
  ·simp [upd]
  simp [upd,e5,e6]
 rintro c H ⟨b,g,j,o,l,t,u,n⟩;refine aC fun K d=>?_;refine aH ?_;simp only[RR,seval];simp only[t,u,seval];apply d;clear d K;refine cN (fun c H=>c 1= .ptr 5 b1 0 0∧c 4= .ptr 1 g 0 0∧c 5= .ptr 1 j 0 0∧c 6= .fn (.func 128) [] [.ptr 1 g 0 0, .ptr 1 j 0 0]∧H b1=some (.rows 5 [[.str f.name, .isl 1 (f.params.map bM), .isl 1 (f.locs.map bM), .bool f.word, .isl 5 (f.body.map Sm.row)]])∧vE g j b (sB (pB 1 0 (f.params))).1 (sB (pB 1 0 (f.params))).2 H) (fun K d=>?_) ?_
 ·refine aC fun K d=>?_;refine aH ?_;simp only[RR,seval]
  simp only[o,l,aG,RR,seval];apply d;clear d K;refine aQ ?_;refine eP (fun L c H=> ∃k:Nat,L=f.params.length-k∧k≤f.params.length∧c 16= .int .i64 k∧c 14= .isl 1 (f.params.map bM)∧c 15= .int .i64 f.params.length∧c 1= .ptr 5 b1 0 0∧c 4= .ptr 1 g 0 0∧c 5= .ptr 1 j 0 0∧c 6= .fn (.func 128) [] [.ptr 1 g 0 0, .ptr 1 j 0 0]∧H b1=some (.rows 5 [[.str f.name, .isl 1 (f.params.map bM), .isl 1 (f.locs.map bM), .bool f.word, .isl 5 (f.body.map Sm.row)]])∧vE g j b (sB (pB 1 0 (f.params.take k))).1 (sB (pB 1 0 (f.params.take k))).2 H) (f.params.length) ⟨0,rfl,cK _,rfl,rfl,rfl,o,t,u,rfl,l,n⟩ ?_;rintro L c H ⟨k,rfl,a1,B,F,E,o,t,u,y,l,n⟩ Y O;refine aC fun K d=>?_;refine aH ?_;simp only[RR,seval];simp only[B,E,RR,seval];apply d;clear d K;refine aI ?_;refine aV ?_ ?_<;>intro A
  ·have J:k<f.params.length:=by have:=aD A;omega
   clear A;refine aL ?_;simp only[bK];refine aI ?_;refine aQ ?_;have I:=Ye (aF J);have D:=tC 1 f.params 0 k J;rw[bV]at D;generalize f.params[k]=s at I D;refine aC fun K d=>?_;refine aH ?_;simp only[RR,seval];simp only[B,F,I,RR,seval];apply d;clear d K;refine aH ?_;simp only[y,RR,seval];refine gJ (Xt s k g j b _ _ _ n) (fN.refl _) (fun _=>trivial) fun v M ⟨R,N,Q⟩=>?_;subst R;simp only[bK,cL,RR,seval];refine aH ?_;simp only[RR,seval];simp only[B,bK,RR,seval];rw[aS _ (by omega)];refine O (f.params.length-(k+1)) _ _ (by omega) ⟨k+1,rfl,by omega,rfl,F,E,o,t,u,y,Q b1 _ (Az n l (by decide)) l,by rw[D,uF];exact N⟩
  refine cG ?_;simp only[bK,cL,reduceIte];have P:k=f.params.length:=by have:=aE A;omega
  clear A;subst P;rw[dG]at n;exact d _ _ ⟨o,t,u,y,l,n⟩
 rintro c H ⟨o,t,u,y,l,n⟩;refine cN (fun c H=>c 1= .ptr 5 b1 0 0∧c 4= .ptr 1 g 0 0∧c 5= .ptr 1 j 0 0∧c 6= .fn (.func 128) [] [.ptr 1 g 0 0, .ptr 1 j 0 0]∧H b1=some (.rows 5 [[.str f.name, .isl 1 (f.params.map bM), .isl 1 (f.locs.map bM), .bool f.word, .isl 5 (f.body.map Sm.row)]])∧vE g j b (sB (pB 1 0 (f.params++f.locs))).1 (sB (pB 1 0 (f.params++f.locs))).2 H) (fun K d=>?_) ?_
 ·refine aC fun K d=>?_;refine aH ?_;simp only[RR,seval]
  simp only[o,l,aG,RR,seval];apply d;clear d K;refine aQ ?_;refine eP (fun L c H=> ∃k:Nat,L=f.locs.length-k∧k≤f.locs.length∧c 29= .int .i64 k∧c 27= .isl 1 (f.locs.map bM)∧c 28= .int .i64 f.locs.length∧c 1= .ptr 5 b1 0 0∧c 4= .ptr 1 g 0 0∧c 5= .ptr 1 j 0 0∧c 6= .fn (.func 128) [] [.ptr 1 g 0 0, .ptr 1 j 0 0]∧H b1=some (.rows 5 [[.str f.name, .isl 1 (f.params.map bM), .isl 1 (f.locs.map bM), .bool f.word, .isl 5 (f.body.map Sm.row)]])∧vE g j b (sB (pB 1 0 (f.params++f.locs.take k))).1 (sB (pB 1 0 (f.params++f.locs.take k))).2 H) (f.locs.length) ⟨0,rfl,cK _,rfl,rfl,rfl,o,t,u,y,l,by rw[gD,dQ];exact n⟩ ?_;rintro L c H ⟨k,rfl,a1,B,F,E,o,t,u,y,l,n⟩ Y O;refine aC fun K d=>?_;refine aH ?_;simp only[RR,seval];simp only[B,E,RR,seval];apply d;clear d K;refine aI ?_;refine aV ?_ ?_<;>intro A
  ·have J:k<f.locs.length:=by have:=aD A;omega
   clear A;refine aL ?_;simp only[bK];refine aI ?_;refine aQ ?_;have I:=Ye (aF J);have D:=V6 1 f.params f.locs k J;have w1:IntKind.wrap .i64 ((f.params.length:Int)+k)=((f.params.length+k:Nat):Int):=by rw[aS _ (by omega)];omega
   generalize f.locs[k]=s at I D;refine aC fun K d=>?_;refine aH ?_;simp only[RR,seval];simp only[B,F,I,RR,seval];apply d;clear d K;refine aH ?_;simp only[y,o,l,w1,aG,RR,seval];refine gJ (Xt s ((f.params.length+k:Nat):Int) g j b _ _ _ n) (fN.refl _) (fun _=>trivial) fun v M ⟨R,N,Q⟩=>?_;subst R;simp only[bK,cL,RR,seval];refine aH ?_;simp only[RR,seval];simp only[B,bK,RR,seval];rw[aS _ (by omega)];refine O (f.locs.length-(k+1)) _ _ (by omega) ⟨k+1,rfl,by omega,rfl,F,E,o,t,u,y,Q b1 _ (Az n l (by decide)) l,by rw[D,uF];exact N⟩
  refine cG ?_;simp only[bK,cL,reduceIte];have P:k=f.locs.length:=by have:=aE A;omega
  clear A;subst P;rw[dG]at n;exact d _ _ ⟨o,t,u,y,l,n⟩
 rintro c H ⟨o,t,u,y,l,n⟩;rw[←W]at n;obtain⟨i1,i2,i3⟩:=n;refine aC fun K d=>?_;refine fY (fun x=>x≠g∧x≠j) [(0,true),(1,true),(2,true),(3,true)] eE (by kernel_rfl) rfl ?_;simp only[tU,t,u,i1,i2,RR,seval];apply d;clear d K;refine aP ?_;simp only[aY,aK,bR,RR,seval];exact aZ.whole ⟨b,rfl,i3⟩
def vK (mo mi:List Th) (s:dD):Int×Int:=match kI mi s with |some r=>r|none=>match kI mo s with |some r=>r|none=>(0, -1)
theorem JI (mo mi:List Th) (bo bi:Nat) (s:dD) (H:Hp) (X:H bo=some (.amap (mo.map Jd))) (hi:H bi=some (.amap (mi.map Jd))):
  oM dP 89 [.agg [.mp bo, .mp bi], .str s] H (fun ae C=> ∃v,ae= .ret v∧(v=A6 (vK mo mi s).1 (vK mo mi s).2∧keeps (fun _=>False) H C)):=by
 obtain⟨P,a4,I⟩:=rX s mi 0;obtain⟨Q,a5,J⟩:=rX s mo 0;refine bY 28 [.cell 4 149] func89 ?_;refine cN (fun L C=> ∃j b,L 1= .str s∧L 2= .ptr 2 j 0 0∧L 4= .ptr 2 b 0 0∧C j=some (.rows 2 [[.mp bo, .mp bi]])∧C b=some (.rows 2 [[.int .i64 0, .int .i64 0]])∧H b=none∧keeps (fun _=>False) H C∧j≠b) (fun K c=>?_) ?_
 ·refine aH ?_;simp only[RR,seval]
  refine aN fun j a1=>?_;simp only[RR,seval];refine aN fun b S=>?_;simp only[RR,seval];have N:j≠b:=fun e=>by rw[←e,bC]at S;cases S
  have a3:b≠j:=fun e=>N e.symm;have l:H b=none:=by simpa only[upd,aJ a3]using S
  refine c _ _ ⟨j,b,rfl,rfl,rfl,by simp [upd,N],bC _ _ _,l, ?_,N⟩;exact((keeps.refl _ H).new a1 _).new l _
 rintro L H1 ⟨j,b,f1,f2,A,R,l,a2,M,N⟩;have T: ∀(d:Hp) o,keeps (fun _=>False) H d→keeps (fun _=>False) H (upd d b o):=fun d o h=>h.new a2 o;have Y:=M _ _ (fun h=>h) hi;have ko:=M _ _ (fun h=>h) X
 cases hl:kI mi s with
 |some q=>
  have F:vK mo mi s=q:=by simp only[vK,hl]
  rw[F];rw[hl]at I
  obtain⟨p,rfl,hp⟩: ∃p,P=some p∧p.2=A6 q.1 q.2:=by
   cases P with
   |none=>simp at I
   |some p=>exact⟨p,rfl,by simpa using I⟩
  refine aI ?_;refine aC fun K c=>?_;refine aH ?_;simp only[RR,seval];simp only[*,Y,A6,jI,RR,seval];refine aN fun b6 B=>?_;simp only[RR,seval];apply c;have O:b≠b6:=fun e=>by rw[e,B]at l;cases l
  have a6:b6≠b:=fun e=>O e.symm;have V:(upd (upd H1 b6 (some (.rows 2 [[.int .i64 0, .int .i64 0]]))) b6 (some (.rows 2 [[.int .i64 q.1, .int .i64 q.2]]))) b6=some (.rows 2 [[.int .i64 q.1, .int .i64 q.2]]):=bC _ _ _;have k:(upd (upd H1 b6 (some (.rows 2 [[.int .i64 0, .int .i64 0]]))) b6 (some (.rows 2 [[.int .i64 q.1, .int .i64 q.2]]))) b=some (.rows 2 [[.int .i64 0, .int .i64 0]]):=by simp only[upd,aJ O];exact l
  have x:keeps (fun _=>False) H (upd (upd H1 b6 (some (.rows 2 [[.int .i64 0, .int .i64 0]]))) b6 (some (.rows 2 [[.int .i64 q.1, .int .i64 q.2]]))):=by
   intro g z _ y;have f:=M g z (fun h=>h) y;have :g≠b6:=fun e=>by rw[e,B]at f;cases f
   simp only[upd,aJ this];exact f
  generalize(upd (upd H1 b6 (some (.rows 2 [[.int .i64 0, .int .i64 0]]))) b6 (some (.rows 2 [[.int .i64 q.1, .int .i64 q.2]])))=d at V k x⊢;refine aC fun K c=>?_;refine aH ?_;simp only[RR,seval];refine c _ _ (cM ?_);refine aC fun K c=>?_;refine aH ?_;simp only[RR,seval];simp only[A,V,k,RR,seval];refine c _ _ (aP ?_);have u:upd d b (some (.rows 2 [[.int .i64 q.1, .int .i64 q.2]])) b=some (.rows 2 [[.int .i64 q.1, .int .i64 q.2]]):=bC _ _ _;have t:=T d (some (.rows 2 [[.int .i64 q.1, .int .i64 q.2]])) x;generalize upd d b (some (.rows 2 [[.int .i64 q.1, .int .i64 q.2]]))=n at u t⊢;simp only[bK,aY,aK,bR,A,u,RR,seval];exact aZ.whole ⟨rfl,t⟩
 |none=>
  rw[hl]at I;obtain rfl:P=none:=by cases P with |none=>rfl|some p=>simp at I
  refine aI ?_;refine aC fun K c=>?_;refine aH ?_;simp only[RR,seval];simp only[*,Y,jJ,RR,seval];refine aN fun b6 B=>?_;simp only[RR,seval];apply c;have O:b≠b6:=fun e=>by rw[e,B]at l;cases l
  have n2:j≠b6:=fun e=>by rw[e,B]at R;cases R
  have k:(upd (upd H1 b6 (some (.rows 2 [[.int .i64 0, .int .i64 0]]))) b6 (some (.rows 2 [[.int .i64 0, .int .i64 0]]))) b=some (.rows 2 [[.int .i64 0, .int .i64 0]]):=by simp only[upd,aJ O];exact l
  have a0:(upd (upd H1 b6 (some (.rows 2 [[.int .i64 0, .int .i64 0]]))) b6 (some (.rows 2 [[.int .i64 0, .int .i64 0]]))) j=some (.rows 2 [[.mp bo, .mp bi]]):=by simp only[upd,aJ n2];exact R
  have x:keeps (fun _=>False) H (upd (upd H1 b6 (some (.rows 2 [[.int .i64 0, .int .i64 0]]))) b6 (some (.rows 2 [[.int .i64 0, .int .i64 0]]))):=by
   intro g z _ y;have f:=M g z (fun h=>h) y;have :g≠b6:=fun e=>by rw[e,B]at f;cases f
   simp only[upd,aJ this];exact f
  generalize(upd (upd H1 b6 (some (.rows 2 [[.int .i64 0, .int .i64 0]]))) b6 (some (.rows 2 [[.int .i64 0, .int .i64 0]])))=d at k a0 x⊢;refine aC fun K c=>?_;refine aH ?_;simp only[RR,seval];refine c _ _ (bI ?_);refine aL ?_;simp only[bK];have Z:=x _ _ (fun h=>h) X
  cases hlo:kI mo s with
  |some q=>
   have F:vK mo mi s=q:=by simp only[vK,hl,hlo]
   rw[F];rw[hlo]at J
   obtain⟨p,rfl,hp⟩: ∃p,Q=some p∧p.2=A6 q.1 q.2:=by
    cases Q with
    |none=>simp at J
    |some p=>exact⟨p,rfl,by simpa using J⟩
   refine aI ?_;refine aC fun K c=>?_;refine aH ?_;simp only[RR,seval];simp only[*,Z,A6,jI,RR,seval];refine aN fun b7 G=>?_;simp only[RR,seval];apply c;have U:b≠b7:=fun e=>by rw[e,G]at k;cases k
   have W:(upd (upd d b7 (some (.rows 2 [[.int .i64 0, .int .i64 0]]))) b7 (some (.rows 2 [[.int .i64 q.1, .int .i64 q.2]]))) b7=some (.rows 2 [[.int .i64 q.1, .int .i64 q.2]]):=bC _ _ _;have D:(upd (upd d b7 (some (.rows 2 [[.int .i64 0, .int .i64 0]]))) b7 (some (.rows 2 [[.int .i64 q.1, .int .i64 q.2]]))) b=some (.rows 2 [[.int .i64 0, .int .i64 0]]):=by simp only[upd,aJ U];exact k
   have E:keeps (fun _=>False) H (upd (upd d b7 (some (.rows 2 [[.int .i64 0, .int .i64 0]]))) b7 (some (.rows 2 [[.int .i64 q.1, .int .i64 q.2]]))):=by
    intro g z _ y;have f:=x g z (fun h=>h) y;have :g≠b7:=fun e=>by rw[e,G]at f;cases f
    simp only[upd,aJ this];exact f
   generalize(upd (upd d b7 (some (.rows 2 [[.int .i64 0, .int .i64 0]]))) b7 (some (.rows 2 [[.int .i64 q.1, .int .i64 q.2]])))=n at W D E⊢;refine aC fun K c=>?_;refine aH ?_;simp only[RR,seval];refine c _ _ (cM ?_);refine aC fun K c=>?_;refine aH ?_;simp only[RR,seval];simp only[A,W,D,RR,seval];refine c _ _ (aP ?_);have u:upd n b (some (.rows 2 [[.int .i64 q.1, .int .i64 q.2]])) b=some (.rows 2 [[.int .i64 q.1, .int .i64 q.2]]):=bC _ _ _;have t:=T n (some (.rows 2 [[.int .i64 q.1, .int .i64 q.2]])) E;generalize upd n b (some (.rows 2 [[.int .i64 q.1, .int .i64 q.2]]))=H4 at u t⊢;simp only[bK,aY,aK,bR,A,u,RR,seval];exact aZ.whole ⟨rfl,t⟩
  |none=>
   have F:vK mo mi s=(0, -1):=by simp only[vK,hl,hlo]
   rw[F];rw[hlo]at J;obtain rfl:Q=none:=by cases Q with |none=>rfl|some p=>simp at J
   refine aI ?_;refine aC fun K c=>?_;refine aH ?_;simp only[RR,seval];simp only[*,Z,jJ,RR,seval];refine aN fun b7 G=>?_;simp only[RR,seval];apply c;have U:b≠b7:=fun e=>by rw[e,G]at k;cases k
   have D:(upd (upd d b7 (some (.rows 2 [[.int .i64 0, .int .i64 0]]))) b7 (some (.rows 2 [[.int .i64 0, .int .i64 0]]))) b=some (.rows 2 [[.int .i64 0, .int .i64 0]]):=by simp only[upd,aJ U];exact k
   have E:keeps (fun _=>False) H (upd (upd d b7 (some (.rows 2 [[.int .i64 0, .int .i64 0]]))) b7 (some (.rows 2 [[.int .i64 0, .int .i64 0]]))):=by
    intro g z _ y;have f:=x g z (fun h=>h) y;have :g≠b7:=fun e=>by rw[e,G]at f;cases f
    simp only[upd,aJ this];exact f
   generalize(upd (upd d b7 (some (.rows 2 [[.int .i64 0, .int .i64 0]]))) b7 (some (.rows 2 [[.int .i64 0, .int .i64 0]])))=n at D E⊢;refine aC fun K c=>?_;refine aH ?_;simp only[RR,seval];refine c _ _ (bI ?_);refine aL ?_;simp only[bK];refine aC fun K c=>?_;refine aH ?_;simp only[RR,seval];simp only[A,D,RR,seval];refine c _ _ (aP ?_);have u:upd n b (some (.rows 2 [[.int .i64 0, .int .i64 (-1)]])) b=some (.rows 2 [[.int .i64 0, .int .i64 (-1)]]):=bC _ _ _;have t:=T n (some (.rows 2 [[.int .i64 0, .int .i64 (-1)]])) E;generalize upd n b (some (.rows 2 [[.int .i64 0, .int .i64 (-1)]]))=H4 at u t⊢;simp only[aY,aK,bR,A,u,RR,seval];exact aZ.whole ⟨rfl,t⟩
def QZ (u:Us):AV:= .agg [.int .i64 (if u.kind=1 then 2 else u.kind), .str u.name, .int .i64 u.num]
structure WY (σ:Type) (g:FuncId) (caps:List AV) where
 D:σ→Hp→Prop
 step:σ→Us→σ
 M:Nat→Prop
 spec: ∀s H u,(u.kind=1∨u.kind=3∨u.kind=4)→D s H→oM dP g (QZ u::caps) H (fun ae H'=> ∃v,ae= .ret v∧(v= .tup []∧D (step s u) H'∧keeps M H H'))
 ext: ∀s H H',D s H→keeps (fun _=>False) H H'→D s H'
 old: ∀s H,D s H→ ∀b,M b→H b≠none
theorem C0 {σ:Type} {g:FuncId} {U:List AV} (V:WY σ g U) (F b5:Nat) (X: ¬V.M F) (Y: ¬V.M b5) (n:Nat): ∀l:List Ex,Fp l=n→Br l→ ∀(s:σ) (H:Hp),H F=some (.rows 1 [[.fn (.func g) [] U]])→H b5=some (.rows 1 [[.fn (.func 129) [] [.ptr 1 F 0 0, .ptr 1 b5 0 0]]])→V.D s H→
  oM dP 129 [.isl 5 (l.map Ex.row), .ptr 1 F 0 0, .ptr 1 b5 0 0] H (fun ae E=> ∃v,ae= .ret v∧(v= .tup []∧V.D ((fG l).foldl V.step s) E∧keeps V.M H E)):=by
 induction n using Nat.strongRecOn with
 |_ n ih=>
  intro l hn a0 s P i3 i5 hD;have a7:l.length≤9223372036854775807:=a0.fit;refine bY 43 [] func129 ?_;refine aC fun K b=>?_;refine aH ?_;simp only[RR,seval];simp only[aG,seval];apply b;clear b K;refine aQ ?_;refine eP (fun mm d H=> ∃k:Nat,mm=l.length-k∧k≤l.length∧d 8= .int .i64 k∧d 1= .ptr 1 F 0 0∧d 2= .ptr 1 b5 0 0∧d 6= .isl 5 (l.map Ex.row)∧d 7= .int .i64 l.length∧V.D ((fG (l.take k)).foldl V.step s) H∧keeps V.M P H) (l.length) ⟨0,rfl,cK _,rfl,rfl,rfl,rfl,rfl,by simpa [fG]using hD,keeps.refl _ _⟩ ?_;rintro mm d H ⟨k,rfl,a8,u,t,x,z,y,L,O⟩ K2 a4;refine aC fun K b=>?_;refine aH ?_;simp only[RR,seval];simp only[u,y,RR,seval];apply b;clear b K;refine aI ?_;refine aV ?_ ?_<;>intro c
  ·have S:k<l.length:=by have:=aD c;omega
   clear c;refine aL ?_;simp only[bK];refine aI ?_;refine aQ ?_;have W:=qJ (aF S);have Z:=bX S;have a1:=a0.all _ Z;have a6:=nN Z;have a2:=Gy S;generalize l[k]=e at W a2 a1 a6;have a9:=e.sz_eq;have C:=O _ _ X i3;have I:=O _ _ Y i5;refine aC fun K b=>?_;refine aH ?_;simp only[RR,seval];simp only[u,z,W,RR,seval];refine aN fun f Q=>?_;simp only[RR,seval];apply b;clear b K;have T: ¬V.M f:=fun hm=>V.old _ _ L f hm Q;have j:(upd (upd H f (some (.rows 5 [[.int .i64 0, .int .i64 0, .int .u32 0, .str [], .nsl]]))) f (some (.rows 5 [[.int .i64 e.kind, .int .i64 e.op, .int .u32 e.num, .str e.name, .isl 5 (e.kids.map Ex.row)]]))) f=some (.rows 5 [[.int .i64 e.kind, .int .i64 e.op, .int .u32 e.num, .str e.name, .isl 5 (e.kids.map Ex.row)]]):=bC _ _ _;have G:keeps (fun _=>False) H (upd (upd H f (some (.rows 5 [[.int .i64 0, .int .i64 0, .int .u32 0, .str [], .nsl]]))) f (some (.rows 5 [[.int .i64 e.kind, .int .i64 e.op, .int .u32 e.num, .str e.name, .isl 5 (e.kids.map Ex.row)]]))):=((keeps.refl _ H).new Q _).new Q _;generalize(upd (upd H f (some (.rows 5 [[.int .i64 0, .int .i64 0, .int .u32 0, .str [], .nsl]]))) f (some (.rows 5 [[.int .i64 e.kind, .int .i64 e.op, .int .u32 e.num, .str e.name, .isl 5 (e.kids.map Ex.row)]])))=H1 at j G⊢;have J:=V.ext _ _ _ L G;have N:keeps V.M P H1:=O.trans (G.mono fun _ h=>h.elim);have C:=G _ _ (fun h=>h) C;have I:=G _ _ (fun h=>h) I;refine cN (fun d H=>d 1= .ptr 1 F 0 0∧d 2= .ptr 1 b5 0 0∧d 6= .isl 5 (l.map Ex.row)∧d 7= .int .i64 l.length∧d 8= .int .i64 k∧d 5= .ptr 5 f 0 0∧H f=some (.rows 5 [[.int .i64 e.kind, .int .i64 e.op, .int .u32 e.num, .str e.name, .isl 5 (e.kids.map Ex.row)]])∧V.D ((fG (l.take k)++nF e).foldl V.step s) H∧keeps V.M P H) (fun K b=>?_) ?_
   ·refine aC fun K b=>?_;refine aH ?_;simp only[RR,seval]
    simp only[j,RR,seval];apply b;clear b K;refine aQ ?_;refine aC fun K b=>?_;refine aH ?_;simp only[RR,seval];apply b;clear b K;by_cases k1:e.kind=2
    ·refine dY true (congrArg AV.bool (cR k1)) (fun _=>?_) (fun c=>by cases c)
     refine aH ?_;simp only[t,C,j,RR,seval];refine gJ (V.spec ((fG (l.take k)).foldl V.step s) H1 ⟨e.name,1,0⟩ (by simp) J) (fN.refl _) (fun _=>trivial) fun v E ⟨B,A,o⟩=>?_;subst B;simp only[bK,cL,RR,seval];refine b _ _ ⟨t,x,z,y,u,rfl,o _ _ T j, ?_,N.trans o⟩;rw[show nF e=[⟨e.name,1,0⟩]by simp [nF,k1],lK];exact A
    refine dY false (congrArg AV.bool (bG k1)) (fun c=>by cases c) (fun _=>?_);refine aC fun K b=>?_;refine aH ?_;simp only[RR,seval];apply b;clear b K;by_cases k3:e.kind=3
    ·refine dY true (congrArg AV.bool (cR k3)) (fun _=>?_) (fun c=>by cases c)
     refine aH ?_;simp only[t,C,j,RR,seval];refine gJ (V.spec ((fG (l.take k)).foldl V.step s) H1 ⟨e.name,3,0⟩ (by simp) J) (fN.refl _) (fun _=>trivial) fun v E ⟨B,A,o⟩=>?_;subst B;simp only[bK,cL,RR,seval];refine b _ _ ⟨t,x,z,y,u,rfl,o _ _ T j, ?_,N.trans o⟩;rw[show nF e=[⟨e.name,3,0⟩]by simp [nF,k3],lK];exact A
    refine dY false (congrArg AV.bool (bG k3)) (fun c=>by cases c) (fun _=>?_);refine aC fun K b=>?_;refine aH ?_;simp only[RR,seval];apply b;clear b K;by_cases k4:e.kind=4
    ·refine dY true (congrArg AV.bool (cR k4)) (fun _=>?_) (fun c=>by cases c)
     refine aH ?_;simp only[t,C,j,aG,RR,seval];refine gJ (V.spec ((fG (l.take k)).foldl V.step s) H1 ⟨e.name,4,e.kids.length⟩ (by simp) J) (fN.refl _) (fun _=>trivial) fun v E ⟨B,A,o⟩=>?_;subst B;simp only[bK,cL,RR,seval];refine b _ _ ⟨t,x,z,y,u,rfl,o _ _ T j, ?_,N.trans o⟩;rw[show nF e=[⟨e.name,4,e.kids.length⟩]by simp [nF,k4],lK];exact A
    refine dY false (congrArg AV.bool (bG k4)) (fun c=>by cases c) (fun _=>?_);refine aL ?_;simp only[bK,cL];refine b _ _ ⟨t,x,z,y,u,rfl,j, ?_,N⟩;rw[show nF e=[]by simp [nF,k1,k3,k4],dQ];exact J
   rintro d H2 ⟨t,x,z,y,u,fx,j,a3,R⟩;have C:=R _ _ X i3;have I:=R _ _ Y i5;refine aH ?_;simp only[x,fx,j,I,RR,seval];refine gJ (ih _ (by omega) e.kids rfl a1.kids _ H2 C I a3) (fN.refl _) (fun _=>trivial) fun v E ⟨B,A,o⟩=>?_;subst B;simp only[bK,cL,RR,seval];refine aH ?_;simp only[RR,seval];simp only[u,bK,RR,seval];rw[aS _ (by omega)];refine a4 (l.length-(k+1)) _ _ (by omega) ⟨k+1,rfl,by omega,rfl,t,x,z,y,by rw[a2,←bT,lK];exact A,R.trans o⟩
  refine cG ?_;simp only[bK,cL,reduceIte];have a5:k=l.length:=by have:=aE c;omega
  clear c;subst a5;rw[dG]at L;simp only[aY,aK,bR];exact aZ.whole ⟨rfl,L,O⟩
theorem B9 {σ:Type} {g:FuncId} {a3:List AV} (V:WY σ g a3) (A b5 L:Nat) (R: ¬V.M A) (S: ¬V.M b5) (Z: ¬V.M L) (n:Nat): ∀l:List Sm,sS l=n→yZ l→ ∀(s:σ) (H:Hp),H A=some (.rows 1 [[.fn (.func g) [] a3]])→H b5=some (.rows 1 [[.fn (.func 129) [] [.ptr 1 A 0 0, .ptr 1 b5 0 0]]])→H L=some (.rows 1 [[.fn (.func 130) [] [.ptr 1 A 0 0, .ptr 1 b5 0 0, .ptr 1 L 0 0]]])→V.D s H→
  oM dP 130 [.isl 5 (l.map Sm.row), .ptr 1 A 0 0, .ptr 1 b5 0 0, .ptr 1 L 0 0] H (fun ae J=> ∃v,ae= .ret v∧(v= .tup []∧V.D ((eG l).foldl V.step s) J∧keeps V.M H J)):=by
 induction n using Nat.strongRecOn with
 |_ n ih=>
  intro l hn a5 s H0 i3 i5 i4 hD;have b9:l.length≤9223372036854775807:=a5.fit;refine bY 52 [] func130 ?_;refine aC fun K b=>?_;refine aH ?_;simp only[RR,seval];simp only[aG,seval];apply b;clear b K;refine aQ ?_;refine eP (fun mm d H=> ∃k:Nat,mm=l.length-k∧k≤l.length∧d 9= .int .i64 k∧d 1= .ptr 1 A 0 0∧d 2= .ptr 1 b5 0 0∧d 3= .ptr 1 L 0 0∧d 7= .isl 5 (l.map Sm.row)∧d 8= .int .i64 l.length∧V.D ((eG (l.take k)).foldl V.step s) H∧keeps V.M H0 H) (l.length) ⟨0,rfl,cK _,rfl,rfl,rfl,rfl,rfl,rfl,by simpa [eG]using hD,keeps.refl _ _⟩ ?_;rintro mm d H ⟨k,rfl,c0,C,z,E,B,G,F,W,O⟩ K2 b0;refine aC fun K b=>?_;refine aH ?_;simp only[RR,seval];simp only[C,F,RR,seval];apply b;clear b K;refine aI ?_;refine aV ?_ ?_<;>intro f
  ·have a2:k<l.length:=by have:=aD f;omega
   clear f;refine aL ?_;simp only[bK];refine aI ?_;refine aQ ?_;have hg:=Ns (aF a2);have a4:=bX a2;have a0:=a5.all _ a4;have b8:=nB a4;have a6:=Gx a2;generalize l[k]=e at hg a6 a0 b8;have c1:=e.sz_eq;have j:=O _ _ R i3;have x:=O _ _ S i5;have u:=O _ _ Z i4;refine aC fun K b=>?_;refine aH ?_;simp only[RR,seval];simp only[C,G,hg,RR,seval];refine aN fun o a1=>?_;simp only[RR,seval];apply b;clear b K;have T: ¬V.M o:=fun hm=>V.old _ _ W o hm a1;have c:(upd (upd H o (some (.rows 5 [[.int .i64 0, .str [], .nsl, .nsl, .nsl]]))) o (some (.rows 5 [[.int .i64 e.kind, .str e.name, .isl 5 (e.es.map Ex.row), .isl 5 (e.thn.map Sm.row), .isl 5 (e.els.map Sm.row)]]))) o=some (.rows 5 [[.int .i64 e.kind, .str e.name, .isl 5 (e.es.map Ex.row), .isl 5 (e.thn.map Sm.row), .isl 5 (e.els.map Sm.row)]]):=bC _ _ _;have N:keeps (fun _=>False) H (upd (upd H o (some (.rows 5 [[.int .i64 0, .str [], .nsl, .nsl, .nsl]]))) o (some (.rows 5 [[.int .i64 e.kind, .str e.name, .isl 5 (e.es.map Ex.row), .isl 5 (e.thn.map Sm.row), .isl 5 (e.els.map Sm.row)]]))):=((keeps.refl _ H).new a1 _).new a1 _;generalize(upd (upd H o (some (.rows 5 [[.int .i64 0, .str [], .nsl, .nsl, .nsl]]))) o (some (.rows 5 [[.int .i64 e.kind, .str e.name, .isl 5 (e.es.map Ex.row), .isl 5 (e.thn.map Sm.row), .isl 5 (e.els.map Sm.row)]])))=H1 at c N⊢;have U:=V.ext _ _ _ W N;have X:keeps V.M H0 H1:=O.trans (N.mono fun _ h=>h.elim);have j:=N _ _ (fun h=>h) j;have x:=N _ _ (fun h=>h) x;have u:=N _ _ (fun h=>h) u;refine cN (fun d H=>d 1= .ptr 1 A 0 0∧d 2= .ptr 1 b5 0 0∧d 3= .ptr 1 L 0 0∧d 7= .isl 5 (l.map Sm.row)∧d 8= .int .i64 l.length∧d 9= .int .i64 k∧d 6= .ptr 5 o 0 0∧H o=some (.rows 5 [[.int .i64 e.kind, .str e.name, .isl 5 (e.es.map Ex.row), .isl 5 (e.thn.map Sm.row), .isl 5 (e.els.map Sm.row)]])∧V.D ((eG (l.take k)++kZ e).foldl V.step s) H∧keeps V.M H0 H) (fun K b=>?_) ?_
   ·refine aC fun K b=>?_;refine aH ?_;simp only[RR,seval]
    simp only[c,RR,seval];apply b;clear b K;refine aQ ?_;refine aC fun K b=>?_;refine aH ?_;simp only[RR,seval];apply b;clear b K;by_cases k1:e.kind=1
    ·refine dY true (congrArg AV.bool (cR k1)) (fun _=>?_) (fun f=>by cases f)
     refine aH ?_;simp only[z,j,c,RR,seval];refine gJ (V.spec ((eG (l.take k)).foldl V.step s) H1 ⟨e.name,1,0⟩ (by simp) U) (fN.refl _) (fun _=>trivial) fun v J ⟨t,I,y⟩=>?_;subst t;simp only[bK,cL,RR,seval];refine b _ _ ⟨z,E,B,G,F,C,rfl,y _ _ T c, ?_,X.trans y⟩;rw[show kZ e=[⟨e.name,1,0⟩]by simp [kZ,k1],lK];exact I
    refine dY false (congrArg AV.bool (bG k1)) (fun f=>by cases f) (fun _=>?_);refine aC fun K b=>?_;refine aH ?_;simp only[RR,seval];apply b;clear b K;by_cases k3:e.kind=2
    ·refine dY true (congrArg AV.bool (cR k3)) (fun _=>?_) (fun f=>by cases f)
     refine aH ?_;simp only[z,j,c,RR,seval];refine gJ (V.spec ((eG (l.take k)).foldl V.step s) H1 ⟨e.name,3,0⟩ (by simp) U) (fN.refl _) (fun _=>trivial) fun v J ⟨t,I,y⟩=>?_;subst t;simp only[bK,cL,RR,seval];refine b _ _ ⟨z,E,B,G,F,C,rfl,y _ _ T c, ?_,X.trans y⟩;rw[show kZ e=[⟨e.name,3,0⟩]by simp [kZ,k3],lK];exact I
    refine dY false (congrArg AV.bool (bG k3)) (fun f=>by cases f) (fun _=>?_);refine aC fun K b=>?_;refine aH ?_;simp only[RR,seval];apply b;clear b K;by_cases k4:e.kind=6
    ·refine dY true (congrArg AV.bool (cR k4)) (fun _=>?_) (fun f=>by cases f)
     refine aH ?_;simp only[z,j,c,aG,RR,seval];refine gJ (V.spec ((eG (l.take k)).foldl V.step s) H1 ⟨e.name,4,e.es.length⟩ (by simp) U) (fN.refl _) (fun _=>trivial) fun v J ⟨t,I,y⟩=>?_;subst t;simp only[bK,cL,RR,seval];refine b _ _ ⟨z,E,B,G,F,C,rfl,y _ _ T c, ?_,X.trans y⟩;rw[show kZ e=[⟨e.name,4,e.es.length⟩]by simp [kZ,k4],lK];exact I
    refine dY false (congrArg AV.bool (bG k4)) (fun f=>by cases f) (fun _=>?_);refine aL ?_;simp only[bK,cL];refine b _ _ ⟨z,E,B,G,F,C,rfl,c, ?_,X⟩;rw[show kZ e=[]by simp [kZ,k1,k3,k4],dQ];exact U
   rintro d H2 ⟨z,E,B,G,F,C,fx,c,a7,Y⟩;have j:=Y _ _ R i3;have x:=Y _ _ S i5;have u:=Y _ _ Z i4;refine aC fun K b=>?_;refine aH ?_;simp only[RR,seval];simp only[E,fx,c,x,RR,seval];refine gJ (C0 V A b5 R S _ e.es rfl a0.es _ H2 j x a7) (fN.refl _) (fun _=>trivial) fun v H3 ⟨t,a8,P⟩=>?_;subst t;simp only[RR,seval];apply b;clear b K;have c:=P _ _ T c;have j:=P _ _ R j;have x:=P _ _ S x;have u:=P _ _ Z u;refine aC fun K b=>?_;refine aH ?_;simp only[RR,seval];simp only[B,fx,c,u,RR,seval];refine gJ (ih _ (by omega) e.thn rfl a0.thn _ H3 j x u a8) (fN.refl _) (fun _=>trivial) fun v H4 ⟨t,a9,Q⟩=>?_;subst t;simp only[RR,seval];apply b;clear b K;have c:=Q _ _ T c;have j:=Q _ _ R j;have x:=Q _ _ S x;have u:=Q _ _ Z u;refine aH ?_;simp only[B,fx,c,u,RR,seval];refine gJ (ih _ (by omega) e.els rfl a0.els _ H4 j x u a9) (fN.refl _) (fun _=>trivial) fun v J ⟨t,I,y⟩=>?_;subst t;simp only[bK,cL,RR,seval];refine aH ?_;simp only[RR,seval];simp only[C,bK,RR,seval];rw[aS _ (by omega)];refine b0 (l.length-(k+1)) _ _ (by omega) ⟨k+1,rfl,by omega,rfl,z,E,B,G,F,by rw[a6,←bT,←bT,←bT,lK,lK,lK];exact I,((Y.trans P).trans Q).trans y⟩
  refine cG ?_;simp only[bK,cL,reduceIte];have b2:k=l.length:=by have:=aE f;omega
  clear f;subst b2;rw[dG]at W;simp only[aY,aK,bR];exact aZ.whole ⟨rfl,W,O⟩
theorem V2 {σ:Type} {g:FuncId} {z:List AV} (V:WY σ g z) (f:Fu) (hf:f.ok) (s:σ) (H:Hp) (N:V.D s H):
  oM dP 87 [.agg f.row, .fn (.func g) [] z] H (fun ae j=> ∃v,ae= .ret v∧(v= .tup []∧V.D ((eG f.body).foldl V.step s) j∧keeps V.M H j)):=by
 refine bY 12 [] func87 ?_;simp only[Fu.row];refine cN (fun l j=> ∃k c,l 2= .ptr 5 k 0 0∧l 3= .ptr 1 c 0 0∧j k=some (.rows 5 [[.str f.name, .isl 1 (f.params.map bM), .isl 1 (f.locs.map bM), .bool f.word, .isl 5 (f.body.map Sm.row)]])∧j c=some (.rows 1 [[.fn (.func g) [] z]])∧H k=none∧H c=none∧keeps (fun _=>False) H j∧V.D s j) (fun K n=>?_) ?_
 ·refine aH ?_;simp only[RR,seval]
  refine aN fun k W=>?_;simp only[RR,seval];refine aN fun c P=>?_;simp only[RR,seval];have X:k≠c:=fun e=>by rw[←e,bC]at P;cases P
  have b8:c≠k:=fun e=>X e.symm;have t:H c=none:=by simpa only[upd,aJ b8]using P
  have y:keeps (fun _=>False) H (upd (upd H k (some (.rows 5 [[.str f.name, .isl 1 (f.params.map bM), .isl 1 (f.locs.map bM), .bool f.word, .isl 5 (f.body.map Sm.row)]]))) c (some (.rows 1 [[.fn (.func g) [] z]]))):=((keeps.refl _ H).new W _).new t _;exact n _ _ ⟨k,c,rfl,rfl,by simp [upd,X],bC _ _ _,W,t,y,V.ext _ _ _ N y⟩
 rintro l H1 ⟨k,c,A,x,B,t,n2,n3,y,c0⟩;have O: ∀b,V.M b→H b≠none:=V.old s H N;refine cN (fun l j=> ∃d,l 2= .ptr 5 k 0 0∧l 3= .ptr 1 c 0 0∧l 4= .ptr 1 d 0 0∧j d=some (.rows 1 [[.nfn]])∧H d=none∧H1 d=none∧keeps (fun _=>False) H1 j) (fun K n=>?_) ?_
 ·refine aH ?_;simp only[RR,seval]
  refine aN fun d Q=>?_;simp only[RR,seval]
  have C:H d=none:=by
   cases e:H d with
   |none=>rfl
   |some o=>have:=y _ _ (fun h=>h) e;rw[Q]at this;cases this
  exact n _ _ ⟨d,A,x,rfl,bC _ _ _,C,Q,(keeps.refl _ H1).new Q _⟩
 rintro l J ⟨d,A,x,E,C,n4,a0,G⟩;refine cN (fun l j=> ∃b5,l 2= .ptr 5 k 0 0∧l 3= .ptr 1 c 0 0∧l 4= .ptr 1 d 0 0∧l 5= .ptr 1 b5 0 0∧j b5=some (.rows 1 [[.nfn]])∧H b5=none∧H1 b5=none∧J b5=none∧keeps (fun _=>False) J j) (fun K n=>?_) ?_
 ·refine aH ?_;simp only[RR,seval]
  refine aN fun b5 R=>?_;simp only[RR,seval]
  have F:H1 b5=none:=by
   cases e:H1 b5 with
   |none=>rfl
   |some o=>have:=G _ _ (fun h=>h) e;rw[R]at this;cases this
  have a7:H b5=none:=by
   cases e:H b5 with
   |none=>rfl
   |some o=>have:=y _ _ (fun h=>h) e;rw[F]at this;cases this
  exact n _ _ ⟨b5,A,x,E,rfl,bC _ _ _,a7,F,R,(keeps.refl _ J).new R _⟩
 rintro l u ⟨b5,A,x,E,U,F,n5,a1,b9,I⟩;have m2:=I _ _ (fun h=>h) (G _ _ (fun h=>h) B);have m3:=I _ _ (fun h=>h) (G _ _ (fun h=>h) t);have m4:=I _ _ (fun h=>h) C;have a3:k≠b5:=fun e=>by rw[e,a1]at B;cases B
 have a2:k≠d:=fun e=>by rw[e,a0]at B;cases B
 have a5:c≠b5:=fun e=>by rw[e,a1]at t;cases t
 have a4:c≠d:=fun e=>by rw[e,a0]at t;cases t
 have L:d≠b5:=fun e=>by rw[e,b9]at C;cases C
 have a6:b5≠d:=fun e=>L e.symm;refine aC fun K n=>?_;refine aH ?_;simp only[RR,seval];simp only[x,U,F,RR,seval];apply n;have c1:(upd u b5 (some (.rows 1 [[.fn (.func 129) [] [.ptr 1 c 0 0, .ptr 1 b5 0 0]]]))) d=some (.rows 1 [[.nfn]]):=by simp only[upd,aJ L];exact m4
 refine aC fun K n=>?_;refine aH ?_;simp only[RR,seval];simp only[x,E,U,L,m4,RR,seval];apply n;have Y:(upd (upd u b5 (some (.rows 1 [[.fn (.func 129) [] [.ptr 1 c 0 0, .ptr 1 b5 0 0]]]))) d (some (.rows 1 [[.fn (.func 130) [] [.ptr 1 c 0 0, .ptr 1 b5 0 0, .ptr 1 d 0 0]]]))) k=some (.rows 5 [[.str f.name, .isl 1 (f.params.map bM), .isl 1 (f.locs.map bM), .bool f.word, .isl 5 (f.body.map Sm.row)]]):=by simp only[upd,aJ a3,aJ a2];exact m2
 have Z:(upd (upd u b5 (some (.rows 1 [[.fn (.func 129) [] [.ptr 1 c 0 0, .ptr 1 b5 0 0]]]))) d (some (.rows 1 [[.fn (.func 130) [] [.ptr 1 c 0 0, .ptr 1 b5 0 0, .ptr 1 d 0 0]]]))) c=some (.rows 1 [[.fn (.func g) [] z]]):=by simp only[upd,aJ a5,aJ a4];exact m3
 have T:(upd (upd u b5 (some (.rows 1 [[.fn (.func 129) [] [.ptr 1 c 0 0, .ptr 1 b5 0 0]]]))) d (some (.rows 1 [[.fn (.func 130) [] [.ptr 1 c 0 0, .ptr 1 b5 0 0, .ptr 1 d 0 0]]]))) d=some (.rows 1 [[.fn (.func 130) [] [.ptr 1 c 0 0, .ptr 1 b5 0 0, .ptr 1 d 0 0]]]):=bC _ _ _;have j5:(upd (upd u b5 (some (.rows 1 [[.fn (.func 129) [] [.ptr 1 c 0 0, .ptr 1 b5 0 0]]]))) d (some (.rows 1 [[.fn (.func 130) [] [.ptr 1 c 0 0, .ptr 1 b5 0 0, .ptr 1 d 0 0]]]))) b5=some (.rows 1 [[.fn (.func 129) [] [.ptr 1 c 0 0, .ptr 1 b5 0 0]]]):=by simp only[upd,aJ a6,cQ]
 have S:keeps (fun _=>False) H (upd (upd u b5 (some (.rows 1 [[.fn (.func 129) [] [.ptr 1 c 0 0, .ptr 1 b5 0 0]]]))) d (some (.rows 1 [[.fn (.func 130) [] [.ptr 1 c 0 0, .ptr 1 b5 0 0, .ptr 1 d 0 0]]]))):=(((y.trans G).trans I).new n5 _).new n4 _;generalize(upd (upd u b5 (some (.rows 1 [[.fn (.func 129) [] [.ptr 1 c 0 0, .ptr 1 b5 0 0]]]))) d (some (.rows 1 [[.fn (.func 130) [] [.ptr 1 c 0 0, .ptr 1 b5 0 0, .ptr 1 d 0 0]]])))=H4 at Y Z T j5 S⊢;have a9:=V.ext _ _ _ N S;refine aH ?_;simp only[A,E,Y,T,RR,seval];refine gJ (B9 V c b5 d (fun h=>O _ h n3) (fun h=>O _ h n5) (fun h=>O _ h n4) _ f.body rfl hf.body s H4 Z j5 T a9) (fN.refl _) (fun _=>trivial) fun v j ⟨hv,a8,b0⟩=>?_;subst hv;simp only[aY,aK,bR,RR,seval];exact aZ.whole ⟨rfl,a8,(S.mono fun _ h=>h.elim).trans b0⟩
theorem AC (p:Pg) (i:Nat) (f:Fu) (b:p.funs[i]?=some f) (s:dD):vK (sB (qF p)).1 (sB (Ij f)).1 s=eR p i s:=by
 unfold vK eR;rw[Hj,Hj,b];simp only[cA];rw[show kI (Ij f) s=(cX (gO f) s).map fun n=>(1,((0+n:Nat):Int))from tM 1 s (gO f) 0]
 cases cX (gO f) s with
 |some n=>simp
 |none=>simp only[iI];exact Y0 p s
def qV (p:Pg) (i:Nat) (bn b5 b7 b1 b6 bo bi:Nat) (mo mi:List Th) (a:Bool×Bool) (H:Hp):Prop:=
 H bn=some (.rows 2 [[.mp bo, .mp bi]])∧H b5=some (.rows 1 [[.bool a.1]])∧H b7=some (.rows 1 [[.int .i64 i]])∧H b1=some (.rows 3 [p.row])∧H b6=some (.rows 1 [[.bool a.2]])∧
   H bo=some (.amap (mo.map Jd))∧H bi=some (.amap (mi.map Jd))
section
variable {p : Pg} {i bn b5 b7 b1 b6 bo bi : Nat} {mo mi : List Th} {a : Bool × Bool} {H : Hp}
theorem qV.ext (h:qV p i bn b5 b7 b1 b6 bo bi mo mi a H) {H':Hp} (b:keeps (fun _=>False) H H'):qV p i bn b5 b7 b1 b6 bo bi mo mi a H':=by
 obtain⟨c,d,e,f,g,j,k⟩:=h;exact⟨b _ _ (fun h=>h) c,b _ _ (fun h=>h) d,b _ _ (fun h=>h) e,b _ _ (fun h=>h) f,b _ _ (fun h=>h) g,b _ _ (fun h=>h) j,b _ _ (fun h=>h) k⟩
theorem qV.set5 (h:qV p i bn b5 b7 b1 b6 bo bi mo mi a H) (l:b5≠b6) (x:Bool):qV p i bn b5 b7 b1 b6 bo bi mo mi (x,a.2) (upd H b5 (some (.rows 1 [[.bool x]]))):=by
 obtain⟨c,b,d,f,k,g,j⟩:=h;have n:bn≠b5:=fun e=>by rw[e,b]at c;simp at c
 have o:b7≠b5:=fun e=>by rw[e,b]at d;simp at d
 have t:b1≠b5:=fun e=>by rw[e,b]at f;simp at f
 have u:=l.symm;have v:bo≠b5:=fun e=>by rw[e,b]at g;simp at g
 have y:bi≠b5:=fun e=>by rw[e,b]at j;simp at j
 simp only[qV,upd,n,o,t,u,v,y,cQ,dC];exact⟨c,trivial,d,f,k,g,j⟩
theorem qV.set6 (h:qV p i bn b5 b7 b1 b6 bo bi mo mi a H) (l:b5≠b6) (x:Bool):qV p i bn b5 b7 b1 b6 bo bi mo mi (a.1,x) (upd H b6 (some (.rows 1 [[.bool x]]))):=by
 obtain⟨c,k,d,f,b,g,j⟩:=h;have n:bn≠b6:=fun e=>by rw[e,b]at c;simp at c
 have o:b7≠b6:=fun e=>by rw[e,b]at d;simp at d
 have t:b1≠b6:=fun e=>by rw[e,b]at f;simp at f
 have u:bo≠b6:=fun e=>by rw[e,b]at g;simp at g
 have v:bi≠b6:=fun e=>by rw[e,b]at j;simp at j
 simp only[qV,upd,n,o,t,l,u,v,cQ,dC];exact⟨c,k,d,f,trivial,g,j⟩
end
theorem NZ (p:Pg) (hp:p.few) (i:Nat) (hi:i<p.funs.length) (bn b5 b7 b1 b6 bo bi:Nat) (mo mi:List Th) (a3:b5≠b6) (hF: ∀s,vK mo mi s=eR p i s)
  (a:Bool×Bool) (H:Hp) (u:Us) (hu:u.kind=1∨u.kind=3∨u.kind=4) (hD:qV p i bn b5 b7 b1 b6 bo bi mo mi a H):
  oM dP 88 [QZ u, .ptr 2 bn 0 0, .ptr 1 b5 0 0, .ptr 1 b7 0 0, .ptr 3 b1 0 0, .ptr 1 b6 0 0] H
   (fun U d=> ∃v,U= .ret v∧(v= .tup []∧qV p i bn b5 b7 b1 b6 bo bi mo mi (Oo p i a u) d∧keeps (fun b=>b=b5∨b=b6) H d)):=by
 have a0:=fun d h1 h2=>JI mo mi bo bi u.name d h1 h2;rw[hF]at a0;have l:jE p i u= !((decide (u.kind=1)&& !decide ((eR p i u.name).1=1)&& !decide ((eR p i u.name).1=2))||(decide (u.kind=3)&& !decide ((eR p i u.name).1=3))||(decide (u.kind=4)&&(!decide ((eR p i u.name).1=4)||decide ((i:Int)≤(eR p i u.name).2)))):=rfl;have k:zA p i u=(!decide (u.kind=4)||(match p.funs[(eR p i u.name).2.toNat]? with |some g=>decide ((g.params.length:Int)=u.num)|none=>false)):=rfl;have b2:=Iz p i u.name;have b4:Oo p i a u=(a.1&&jE p i u,a.2&&(!jE p i u||zA p i u)):=rfl;rw[b4];generalize jE p i u=ok at l⊢;generalize zA p i u=nu at k⊢;generalize eR p i u.name=r at *;obtain⟨un,T,uu⟩:=u;simp only at hu l k a0;refine bY 57 [] func88 ?_;simp only[QZ];refine cN (fun f d=> ∃t,f 1= .ptr 2 bn 0 0∧f 2= .ptr 1 b5 0 0∧f 3= .ptr 1 b7 0 0∧f 4= .ptr 3 b1 0 0∧f 5= .ptr 1 b6 0 0∧f 6= .ptr 3 t 0 0∧d t=some (.rows 3 [[.int .i64 (if T=1 then 2 else T), .str un, .int .i64 uu]])∧H t=none∧keeps (fun _=>False) H d) (fun K c=>?_) ?_
 ·refine aH ?_;simp only[RR,seval]
  refine aN fun t B=>?_;simp only[RR,seval];exact c _ _ ⟨t,rfl,rfl,rfl,rfl,rfl,rfl,bC _ _ _,B,(keeps.refl _ H).new B _⟩
 rintro f H1 ⟨t,f1,z,R,f4,f5,O,B,b8,hk⟩;have a6:=hD.ext hk;refine cN (fun f d=> ∃C,f 2= .ptr 1 b5 0 0∧f 3= .ptr 1 b7 0 0∧f 4= .ptr 3 b1 0 0∧f 5= .ptr 1 b6 0 0∧f 6= .ptr 3 t 0 0∧f 7= .ptr 2 C 0 0∧d C=some (.rows 2 [[.int .i64 r.1, .int .i64 r.2]])∧d t=some (.rows 3 [[.int .i64 (if T=1 then 2 else T), .str un, .int .i64 uu]])∧keeps (fun _=>False) H d) (fun K c=>?_) ?_
 ·obtain⟨d1,j,W,Z,d5,d6,d7⟩:=a6
  refine aH ?_;simp only[f1,O,d1,B,RR,seval];refine gJ (a0 H1 d6 d7) (fN.refl _) (fun _=>trivial) fun v Q ⟨hv,J⟩=>?_;subst hv;simp only[A6,RR,seval];refine aN fun C o=>?_;simp only[RR,seval];have a2:=J _ _ (fun h=>h) B;have b3:t≠C:=fun e=>by rw[e,o]at a2;cases a2
  refine c _ _ ⟨C,z,R,f4,f5,O,rfl,bC _ _ _,by simp only[upd,aJ b3];exact a2, ?_⟩;intro V o' hm b0;have h9:=J V o' hm (hk V o' hm b0);have :V≠C:=fun e=>by rw[e,o]at h9;cases h9
  simp only[upd,aJ this];exact h9
 rintro f Q ⟨C,z,R,f4,f5,O,F,o,B,J⟩;have S:=hD.ext J;have a7:=S;obtain⟨d1,j,W,Z,d5,d6,d7⟩:=a7;have G: ∀x:Bool,keeps (fun b=>b=b5∨b=b6) H (upd Q b5 (some (.rows 1 [[.bool x]]))):=fun x=>(J.mono fun _ h=>h.elim).set (.inl rfl) _;have a8: ∀x:Bool,keeps (fun b=>b=b5∨b=b6) H (upd Q b6 (some (.rows 1 [[.bool x]]))):=fun x=>(J.mono fun _ h=>h.elim).set (.inr rfl) _;have I:=fun x=>S.set5 a3 x;have a9:=fun x=>S.set6 a3 x;generalize A:(a.1&&ok)=X;generalize L:(a.2&&(!ok||nu))=Y
 have fin: ∀(x y:Bool) (d:Hp),X=x→Y=y→qV p i bn b5 b7 b1 b6 bo bi mo mi (x,y) d→keeps (fun b=>b=b5∨b=b6) H d→
   aZ (fun U d=> ∃v,U= .ret v∧(v= .tup []∧qV p i bn b5 b7 b1 b6 bo bi mo mi (X,Y) d∧keeps (fun b=>b=b5∨b=b6) H d)) (.tup []) d:=fun x y d D e2 h1 h2=>by
  subst D;subst e2;exact aZ.whole ⟨rfl,h1,h2⟩
 have same:qV p i bn b5 b7 b1 b6 bo bi mo mi (a.1,a.2) Q:=S;refine aC fun K c=>?_;refine aH ?_;simp only[RR,seval];simp only[O,B,RR,seval];refine c _ _ (aQ ?_);rcases hu with hk1|hk1|hk1
 ·subst hk1
  simp only[nG,cP,I5,kC,Bool.or_false,Int.reduceEq,BP,Bool.true_or]at l k;have M:Y=a.2:=by rw[←L,k];simp
  refine aC fun K c=>?_;refine aH ?_;simp only[RR,seval];refine c _ _ (cM ?_)
  cases ha:a.1 with
  |false=>
   rw[ha]at j;refine aH ?_;simp only[z,j,aY,cL,aK,bR,RR,seval];exact fin _ _ _ (by rw[←A];simp [ha]) M (I false) (G false)
  |true=>
   rw[ha]at j;by_cases r1:r.1=1
   ·have D:decide (r.1=1)=true:=cR r1
    refine aH ?_;simp only[z,F,j,o,D,aY,cL,aK,bR,RR,seval];exact fin _ _ _ (by rw[←A,ha,l,D];rfl) M (I true) (G true)
   have D:decide (r.1=1)=false:=bG r1;refine aH ?_;simp only[z,F,j,o,D,aY,cL,aK,bR,RR,seval];exact fin _ _ _ (by rw[←A,ha,l,D];simp) M (I (decide (r.1=2))) (G _)
 ·subst hk1
  simp only[nG,cP,I5,kC,Bool.or_false,zJ,Int.reduceEq,BP,Bool.true_or]at l k;have M:Y=a.2:=by rw[←L,k];simp
  refine aC fun K c=>?_;refine aH ?_;simp only[RR,seval];refine c _ _ (bI ?_);refine aC fun K c=>?_;refine aH ?_;simp only[RR,seval];refine c _ _ (cM ?_)
  cases ha:a.1 with
  |false=>
   rw[ha]at j;refine aH ?_;simp only[z,j,aY,cL,aK,bR,RR,seval];exact fin _ _ _ (by rw[←A];simp [ha]) M (I false) (G false)
  |true=>
   rw[ha]at j;refine aH ?_;simp only[z,F,j,o,aY,cL,aK,bR,RR,seval];exact fin _ _ _ (by rw[←A,ha,l];simp) M (I (decide (r.1=3))) (G _)
 subst hk1;simp only[nG,cP,I5,kC,Bool.or_false,zJ,Int.reduceEq,Rm]at l k;refine aC fun K c=>?_;refine aH ?_;simp only[RR,seval];refine c _ _ (bI ?_);refine aC fun K c=>?_;refine aH ?_;simp only[RR,seval];refine c _ _ (bI ?_);refine aC fun K c=>?_;refine aH ?_;simp only[RR,seval];refine c _ _ (cM ?_);by_cases r4:r.1=4
 ·have E:decide (r.1=4)=true:=cR r4
  by_cases ri:(i:Int)≤r.2
  ·have N:decide ((i:Int)≤r.2)=true:=cR ri
   have P:ok=false:=by rw[l,E,N];rfl
   refine aC fun K c=>?_;refine aH ?_;simp only[RR,seval];simp only[F,R,o,W,E,N,RR,seval];refine c _ _ (cM (aH ?_));simp only[z,j,aY,cL,aK,bR,RR,seval];exact fin _ _ _ (by rw[←A,P,YP]) (by rw[←L,P];simp) (I false) (G _)
  have N:decide ((i:Int)≤r.2)=false:=bG ri;have a1:ok=true:=by rw[l,E,N];rfl
  obtain⟨c1,c2⟩:=b2 r4;obtain⟨n,hn⟩:=hI c1;have a5:n<p.funs.length:=by omega
  have a4:=rQ (aF a5);rw[hn,cB,aF a5]at k;simp only at k;generalize p.funs[n]=g at a4 k;simp only[Pg.row]at Z;refine aC fun K c=>?_;refine aH ?_;simp only[RR,seval];simp only[F,R,o,W,E,N,RR,seval];refine c _ _ (bI (aC fun K c=>?_));refine fY (fun _=>False) [(0,true),(1,true),(2,true),(3,true),(4,true),(5,true),(6,true),(7,true),(8,true),(9,true),(10,true)] eE (by kernel_rfl) rfl ?_;simp only[tU,f4,O,F,Z,o,B,hn,a4,aG,RR,seval];apply c
  cases hnn:decide ((g.params.length:Int)=uu)with
  |true=>
   refine dY false (by simp [upd,ev]) (fun hc=>by cases hc) (fun _=>?_);refine aL ?_;simp only[cL,aY,aK,bR];exact fin _ _ _ (by rw[←A,a1,mZ]) (by rw[←L,k,hnn];simp) same (J.mono fun _ h=>h.elim)
  |false=>
   refine dY true (by simp [upd,ev]) (fun _=>?_) (fun hc=>by cases hc);refine aH ?_;simp only[f5,d5,aY,cL,aK,bR,RR,seval];exact fin _ _ _ (by rw[←A,a1,mZ]) (by rw[←L,a1,k,hnn];simp) (a9 false) (a8 _)
 have E:decide (r.1=4)=false:=bG r4;have P:ok=false:=by rw[l,E];rfl
 refine aC fun K c=>?_;refine aH ?_;simp only[RR,seval];simp only[F,o,E,RR,seval];refine c _ _ (cM (aH ?_));simp only[z,j,aY,cL,aK,bR,RR,seval];exact fin _ _ _ (by rw[←A,P,YP]) (by rw[←L,P];simp) (I false) (G _)
def WB (p:Pg) (hp:p.few) (i:Nat) (hi:i<p.funs.length) (bn b5 b7 b1 b6 bo bi:Nat) (mo mi:List Th) (h56:b5≠b6) (hF: ∀s,vK mo mi s=eR p i s):
    WY (Bool×Bool) 88 [.ptr 2 bn 0 0, .ptr 1 b5 0 0, .ptr 1 b7 0 0, .ptr 3 b1 0 0, .ptr 1 b6 0 0] where
 D:=qV p i bn b5 b7 b1 b6 bo bi mo mi
 step:=Oo p i
 M:=fun b=>b=b5∨b=b6
 spec:=fun s H u hu hD=>NZ p hp i hi bn b5 b7 b1 b6 bo bi mo mi h56 hF s H u hu hD
 ext:=fun s H H' hD hk=>hD.ext hk
 old:=fun s H hD b hb=>by
  obtain⟨_,h2,_,_,h5,_⟩:=hD;rcases hb with rfl|rfl
  ·rw[h2];simp
  rw[h5];simp
theorem BO (p:Pg) (hp:p.few) (h1:1≤p.funs.length):eH dP 58 [p.av] (.int .i64 (lD p)):=by
 have a9:=Yc p hp;have d3:p.funs.length≤10000:=hp.f;have d0:=hp.ok;refine bY 70 [.tmp 2] func58 ?_;simp only[Pg.av]at a9⊢;refine cN (fun b H=> ∃b1,b 1= .ptr 3 b1 0 0∧H b1=some (.rows 3 [p.row])) (fun K c=>?_) ?_
 ·refine aH ?_;simp only[RR,seval]
  simp only[Pg.row];refine aN fun b1 d=>?_;simp only[RR,seval];exact c _ _ ⟨b1,rfl,bC _ _ _⟩
 rintro b H ⟨b1,n,d⟩;refine cN (fun b H=> ∃bo,b 1= .ptr 3 b1 0 0∧b 3= .mp bo∧b 4= .bool (sB (qF p)).2∧H b1=some (.rows 3 [p.row])∧H bo=some (.amap ((sB (qF p)).1.map Jd))) (fun K c=>?_) ?_
 ·refine aH ?_
  have a1:=d;simp only[Pg.row]at a1 a9;simp only[n,a1,RR,seval];refine uZ a9 (fN.refl _) fun v H' H2 ⟨bo,hv,y⟩ R S=>?_;subst hv;simp only[RR,seval];exact c _ _ ⟨bo,n,rfl,rfl,R _ _ (fun h=>h) d,(S _ _ y).1⟩
 rintro b H ⟨bo,n,E,f4,d,y⟩;rw[Oq,Yd]at f4;refine cN (fun b H=> ∃b5 b6,b 1= .ptr 3 b1 0 0∧b 3= .mp bo∧b 5= .ptr 1 b5 0 0∧b 6= .ptr 1 b6 0 0∧b5≠b6∧H b1=some (.rows 3 [p.row])∧H bo=some (.amap ((sB (qF p)).1.map Jd))∧H b5=some (.rows 1 [[.bool (decide (kN p).Nodup)]])∧H b6=some (.rows 1 [[.bool true]])) (fun K c=>?_) ?_
 ·refine aH ?_
  simp only[f4,RR,seval];refine aN fun b5 l=>?_;simp only[RR,seval];refine aN fun b6 t=>?_;have T:b5≠b6:=fun e=>by rw[←e,bC]at t;cases t
  have a3:b6≠b5:=fun e=>T e.symm;have h6:H b6=none:=by simpa only[upd,aJ a3]using t
  have q1:b1≠b5:=fun e=>by rw[e,l]at d;cases d
  have q2:b1≠b6:=fun e=>by rw[e,h6]at d;cases d
  have q3:bo≠b5:=fun e=>by rw[e,l]at y;cases y
  have q4:bo≠b6:=fun e=>by rw[e,h6]at y;cases y
  simp only[upd,T,a3,reduceIte,RR,seval];refine c _ _ ⟨b5,b6,n,E,rfl,rfl,T, ?_, ?_, ?_, ?_⟩
  ·simp only[upd,aJ q1,aJ q2];exact d
  ·simp only[upd,aJ q3,aJ q4];exact y
  ·simp [upd,T]
  simp [upd]
 rintro b H ⟨b5,b6,n,E,C,z,a5,d,y,l,t⟩;refine cN (fun b H=> ∃A B:Bool,b 1= .ptr 3 b1 0 0∧b 5= .ptr 1 b5 0 0∧b 6= .ptr 1 b6 0 0∧H b1=some (.rows 3 [p.row])∧H b5=some (.rows 1 [[.bool A]])∧H b6=some (.rows 1 [[.bool B]])∧kP p=A∧(kP p=true→jS p 0 p.funs=B)) (fun K c=>?_) ?_
 ·have a1:=d
  simp only[Pg.row]at a1;refine aC fun K c=>?_;refine aH ?_;simp only[RR,seval];simp only[n,a1,aG,RR,seval];apply c;clear c K;refine aQ ?_;refine eP (fun mm b H=> ∃k:Nat,mm=p.funs.length-k∧k≤p.funs.length∧b 22= .int .i64 k∧ ∃A B:Bool,b 20= .isl 5 (p.funs.map Fu.row)∧b 21= .int .i64 p.funs.length∧b 1= .ptr 3 b1 0 0∧b 3= .mp bo∧b 5= .ptr 1 b5 0 0∧b 6= .ptr 1 b6 0 0∧H b1=some (.rows 3 [p.row])∧H bo=some (.amap ((sB (qF p)).1.map Jd))∧H b5=some (.rows 1 [[.bool A]])∧H b6=some (.rows 1 [[.bool B]])∧kP p=(A&&jK p k (p.funs.drop k))∧(kP p=true→jS p 0 p.funs=(B&&jS p k (p.funs.drop k)))) (p.funs.length) ⟨0,rfl,cK _,rfl,decide (kN p).Nodup,true,rfl,rfl,n,E,C,z,d,y,l,t,rfl,fun _=>rfl⟩ ?_;rintro mm b H ⟨k,rfl,d4,L,A,B,O,N,n,E,C,z,d,y,l,t,F,U⟩ K2 c5;refine aC fun K c=>?_;refine aH ?_;simp only[RR,seval];simp only[L,N,RR,seval];apply c;clear c K;refine aI ?_;refine aV ?_ ?_<;>intro hc
  ·have W:k<p.funs.length:=by have:=aD hc;omega
   clear hc;refine aL ?_;simp only[bK];refine aI ?_;refine aQ ?_;have a8:=aF W;have hg:=rQ a8;have c8:=hp.fs _ (bX W);have c2:=d0.funs _ (bX W);have a6:=AC p k _ a8;have c1:=fun h=>(nY p p.funs 0 h k _ a8).2;rw[bJ W,jK]at F;rw[bJ W,jS]at U;generalize p.funs[k]=f at hg c8 c2 a6 F U c1;have b4:=E5 f (by omega) (by omega);refine cN (fun b H=> ∃b7 D,b 20= .isl 5 (p.funs.map Fu.row)∧b 21= .int .i64 p.funs.length∧b 22= .int .i64 k∧b 1= .ptr 3 b1 0 0∧b 3= .mp bo∧b 5= .ptr 1 b5 0 0∧b 6= .ptr 1 b6 0 0∧b 7= .ptr 1 b7 0 0∧b 8= .ptr 5 D 0 0∧H b1=some (.rows 3 [p.row])∧H bo=some (.amap ((sB (qF p)).1.map Jd))∧H b5=some (.rows 1 [[.bool A]])∧H b6=some (.rows 1 [[.bool B]])∧H b7=some (.rows 1 [[.int .i64 k]])∧H D=some (.rows 5 [f.row])) (fun K c=>?_) ?_
   ·refine aH ?_
    simp only[O,L,hg,RR,seval];refine aN fun b7 Q=>?_;simp only[RR,seval];refine aN fun D G=>?_;have T:b7≠D:=fun e=>by rw[←e,bC]at G;cases G
    have a3:D≠b7:=fun e=>T e.symm;have h8:H D=none:=by simpa only[upd,aJ a3]using G
    have old: ∀(x:Nat) (o:iF),H x=some o→x≠b7∧x≠D:=fun x o X=>⟨fun e=>(by rw[e,Q]at X;cases X),fun e=>(by rw[e,h8]at X;cases X)⟩;simp only[upd,T,a3,reduceIte,RR,seval];refine c _ _ ⟨b7,D,O,N,L,n,E,C,z,rfl,rfl, ?_, ?_, ?_, ?_, ?_, ?_⟩
    ·obtain⟨I,J⟩:=old _ _ d;simp only[upd,aJ I,aJ J];exact d
    ·obtain⟨I,J⟩:=old _ _ y;simp only[upd,aJ I,aJ J];exact y
    ·obtain⟨I,J⟩:=old _ _ l;simp only[upd,aJ I,aJ J];exact l
    ·obtain⟨I,J⟩:=old _ _ t;simp only[upd,aJ I,aJ J];exact t
    ·simp [upd,T]
    simp [upd,Fu.row]
   rintro b H ⟨b7,D,O,N,L,n,E,C,z,f7,Y,d,y,l,t,Q,G⟩;refine cN (fun b H=> ∃bi,b 20= .isl 5 (p.funs.map Fu.row)∧b 21= .int .i64 p.funs.length∧b 22= .int .i64 k∧b 1= .ptr 3 b1 0 0∧b 3= .mp bo∧b 5= .ptr 1 b5 0 0∧b 6= .ptr 1 b6 0 0∧b 7= .ptr 1 b7 0 0∧b 8= .ptr 5 D 0 0∧b 9= .mp bi∧b 10= .bool (decide (gO f).Nodup)∧H b1=some (.rows 3 [p.row])∧H bo=some (.amap ((sB (qF p)).1.map Jd))∧H b5=some (.rows 1 [[.bool A]])∧H b6=some (.rows 1 [[.bool B]])∧H b7=some (.rows 1 [[.int .i64 k]])∧H D=some (.rows 5 [f.row])∧H bi=some (.amap ((sB (Ij f)).1.map Jd))) (fun K c=>?_) ?_
   ·refine aH ?_
    have a2:=G;simp only[Fu.row]at a2 b4;simp only[Y,a2,RR,seval];refine uZ b4 (fN.refl _) fun v H' H2 ⟨bi,hv,Z⟩ R S=>?_;subst hv;rw[Oq,E6];simp only[RR,seval];exact c _ _ ⟨bi,O,N,L,n,E,C,z,f7,Y,rfl,rfl,R _ _ (fun h=>h) d,R _ _ (fun h=>h) y,R _ _ (fun h=>h) l,R _ _ (fun h=>h) t,R _ _ (fun h=>h) Q,R _ _ (fun h=>h) G,(S _ _ Z).1⟩
   rintro b H ⟨bi,O,N,L,n,E,C,z,f7,Y,f9,c4,d,y,l,t,Q,G,Z⟩;refine cN (fun b H=>b 20= .isl 5 (p.funs.map Fu.row)∧b 21= .int .i64 p.funs.length∧b 22= .int .i64 k∧b 1= .ptr 3 b1 0 0∧b 3= .mp bo∧b 5= .ptr 1 b5 0 0∧b 6= .ptr 1 b6 0 0∧b 7= .ptr 1 b7 0 0∧b 8= .ptr 5 D 0 0∧b 9= .mp bi∧H b1=some (.rows 3 [p.row])∧H bo=some (.amap ((sB (qF p)).1.map Jd))∧H b5=some (.rows 1 [[.bool (A&&decide (gO f).Nodup)]])∧H b6=some (.rows 1 [[.bool B]])∧H b7=some (.rows 1 [[.int .i64 k]])∧H D=some (.rows 5 [f.row])∧H bi=some (.amap ((sB (Ij f)).1.map Jd))) (fun K c=>?_) ?_
   ·have old: ∀(x:Nat) (o:iF),H x=some o→o≠ .rows 1 [[.bool A]]→x≠b5:=fun x o X ho e=>by rw[e,l]at X;cases X;exact ho rfl
    have m1:=old _ _ d (by simp);have mo:=old _ _ y (by simp);have m6:b6≠b5:=fun e=>a5 e.symm;have m7:=old _ _ Q (by simp);have m8:=old _ _ G (by simp);have mi:=old _ _ Z (by simp)
    have fin: ∀a4:Fr,(∀j,j=20∨j=21∨j=22∨j=1∨j=3∨j=5∨j=6∨j=7∨j=8∨j=9→a4 j=b j)→K a4 (upd H b5 (some (.rows 1 [[.bool (A&&decide (gO f).Nodup)]]))):=fun a4 h=>by
     refine c _ _ ⟨(h 20 (by simp)).trans O,(h 21 (by simp)).trans N,(h 22 (by simp)).trans L,(h 1 (by simp)).trans n,(h 3 (by simp)).trans E,(h 5 (by simp)).trans C,(h 6 (by simp)).trans z,(h 7 (by simp)).trans f7,(h 8 (by simp)).trans Y,(h 9 (by simp)).trans f9, ?_, ?_,bC _ _ _, ?_, ?_, ?_, ?_⟩
     ·simp only[upd,aJ m1];exact d
     ·simp only[upd,aJ mo];exact y
     ·simp only[upd,aJ m6];exact t
     ·simp only[upd,aJ m7];exact Q
     ·simp only[upd,aJ m8];exact G
     simp only[upd,aJ mi];exact Z
    cases hAc:A with
    |false=>
     rw[hAc]at l fin;refine aH ?_;simp only[C,l,RR,seval];refine fin _ fun j hj=>?_;rcases hj with rfl|rfl|rfl|rfl|rfl|rfl|rfl|rfl|rfl|rfl<;>rfl
    |true=>
     rw[hAc]at l fin;refine aH ?_;simp only[C,c4,l,RR,seval];refine fin _ fun j hj=>?_;rcases hj with rfl|rfl|rfl|rfl|rfl|rfl|rfl|rfl|rfl|rfl<;>rfl
   rintro b H ⟨O,N,L,n,E,C,z,f7,Y,f9,d,y,l,t,Q,G,Z⟩;refine aC fun K c=>?_;refine aH ?_;simp only[RR,seval];simp only[E,f9,RR,seval];refine aN fun bn b2=>?_;simp only[RR,seval];apply c;clear c K;have b3:keeps (fun _=>False) H (upd (upd H bn (some (.rows 2 [[.nmp, .nmp]]))) bn (some (.rows 2 [[.mp bo, .mp bi]]))):=((keeps.refl _ H).new b2 _).new b2 _;have c0:(upd (upd H bn (some (.rows 2 [[.nmp, .nmp]]))) bn (some (.rows 2 [[.mp bo, .mp bi]]))) bn=some (.rows 2 [[.mp bo, .mp bi]]):=bC _ _ _;generalize(upd (upd H bn (some (.rows 2 [[.nmp, .nmp]]))) bn (some (.rows 2 [[.mp bo, .mp bi]])))=H1 at b3 c0⊢;have kp: ∀(x:Nat) (o:iF),H x=some o→H1 x=some o:=fun x o h=>b3 x o (fun h=>h) h;have hD:qV p k bn b5 b7 b1 b6 bo bi (sB (qF p)).1 (sB (Ij f)).1 (A&&decide (gO f).Nodup,B) H1:=⟨c0,kp _ _ l,kp _ _ Q,kp _ _ d,kp _ _ t,kp _ _ y,kp _ _ Z⟩;have c3:=V2 (WB p hp k W bn b5 b7 b1 b6 bo bi _ _ a5 a6) f c2 _ H1 hD;have a2:=kp _ _ G;simp only[Fu.row]at a2 c3;refine aH ?_;simp only[n,C,z,f7,Y,a2,RR,seval];refine gJ c3 (fN.refl _) (fun _=>trivial) fun v H2 ⟨hv,b0,d5⟩=>?_;subst hv;simp only[bK,cL,RR,seval];rw[show(WB p hp k W bn b5 b7 b1 b6 bo bi _ _ a5 a6).step=Oo p k from rfl,QL]at b0;obtain⟨_,g5,_,g1,g6,go,_⟩:=b0;refine aH ?_;simp only[RR,seval];simp only[L,bK,RR,seval];rw[aS _ (by omega)];refine c5 (p.funs.length-(k+1)) _ _ (by omega) ⟨k+1,rfl,by omega,rfl,_,_,O,N,n,E,C,z,g1,go,g5,g6, ?_, ?_⟩
   ·rw[F];simp only[Bool.and_assoc]
   intro S;have d6:=S;rw[U S];simp only[kP,aX]at S;have a7:=c1 S.2;rw[bV]at a7
   have :(eG f.body).all (fun u=> !jE p k u||zA p k u)=(eG f.body).all (zA p k):=by
    rw[cJ]at a7;rw[eK,cJ,cJ];constructor
    ·intro h u hu
     have:=h u hu;rw[a7 u hu]at this;simpa using this
    intro h u hu;rw[h u hu];simp
   simp only[this,Bool.and_assoc]
  refine cG ?_;simp only[bK,cL,reduceIte];have c9:k=p.funs.length:=by have:=aE hc;omega
  clear hc;subst c9;rw[dB]at F U;exact c _ _ ⟨A,B,n,C,z,d,l,t,by rw[F,jK,mZ],fun h=>by rw[U h,jS,mZ]⟩
 rintro b H ⟨A,B,n,C,z,d,l,t,F,U⟩;have hC:lD p=if kP p then(if rI p then 0 else 1)else 4:=rfl
 have c6:rI p=(jS p 0 p.funs&&Aa p):=rfl;have hL:Aa p=match p.funs[p.funs.length- 1]? with |some g=>decide (g.name=Py)&&decide (g.params.length=0)&& !g.word|none=>false:=rfl
 refine aI ?_
 cases hAc:A with
 |false=>
  rw[hAc]at l F
  repeat' (first|(refine aC fun K c=>?_;refine aH ?_;simp only[C,l,RR,seval];apply c;clear c K)|(refine cM ?_)|(refine aP ?_;simp only[bK,aY,aK,bR,RR,seval];refine aZ.pure ?_))
  rw[hC,F];rfl
 |true=>
  rw[hAc]at l F;refine aC fun K c=>?_;refine aH ?_;simp only[RR,seval];simp only[C,l,RR,seval];apply c;clear c K;refine bI ?_;refine aL ?_;simp only[bK];have b9:p.funs.length- 1<p.funs.length:=by omega
  have hg:=rQ (aF b9);rw[aF b9]at hL;generalize p.funs[p.funs.length- 1]=g at hg hL;have w1:IntKind.wrap .i64 ((p.funs.length:Int)- 1)=((p.funs.length- 1:Nat):Int):=by rw[aS _ (by omega)];omega
  have d1:decide ((0:Int)<g.params.length)= !decide (g.params.length=0):=by rw[eK];simp only[bP,eJ,eX];omega
  simp only[Pg.row]at d;refine aC fun K c=>?_;refine aH ?_;simp only[RR,seval];simp only[n,d,w1,hg,aG,RR,seval];refine aN fun M c7=>?_;simp only[RR,seval];apply c;clear c K;have V:(upd (upd H M (some (.rows 5 [[.str [], .nsl, .nsl, .bool false, .nsl]]))) M (some (.rows 5 [[.str g.name, .isl 1 (g.params.map bM), .isl 1 (g.locs.map bM), .bool g.word, .isl 5 (g.body.map Sm.row)]]))) M=some (.rows 5 [[.str g.name, .isl 1 (g.params.map bM), .isl 1 (g.locs.map bM), .bool g.word, .isl 5 (g.body.map Sm.row)]]):=bC _ _ _
  have P:(upd (upd H M (some (.rows 5 [[.str [], .nsl, .nsl, .bool false, .nsl]]))) M (some (.rows 5 [[.str g.name, .isl 1 (g.params.map bM), .isl 1 (g.locs.map bM), .bool g.word, .isl 5 (g.body.map Sm.row)]]))) b6=some (.rows 1 [[.bool B]]):=by
   have :b6≠M:=fun e=>by rw[e,c7]at t;cases t
   simp only[upd,aJ this];exact t
  generalize(upd (upd H M (some (.rows 5 [[.str [], .nsl, .nsl, .bool false, .nsl]]))) M (some (.rows 5 [[.str g.name, .isl 1 (g.params.map bM), .isl 1 (g.locs.map bM), .bool g.word, .isl 5 (g.body.map Sm.row)]])))=H1 at V P⊢;simp only at hL
  have d2:lD p=if(B&&(decide (g.name=Py)&&decide (g.params.length=0)&& !g.word))then 0 else 1:=by
   rw[hC,F,c6,U F,hL];rfl
  rw[d2]
  cases hBc:B with
  |false=>
   rw[hBc]at P
   repeat' (first|(refine aC fun K c=>?_;refine aH ?_;simp only[z,P,RR,seval];apply c;clear c K)|(refine aI ?_)|(refine cM ?_)|(refine aP ?_;simp only[bK,aY,aK,bR,RR,seval];refine aZ.pure ?_))
   rfl
  |true=>
   rw[hBc]at P
   cases I:decide (g.name=Py)with
   |false=>
    have a0:decide (g.name=[109,97,105,110])=false:=I
    repeat' (first|(refine aC fun K c=>?_;refine aH ?_;simp only[z,P,V,a0,RR,seval];apply c;clear c K)|(refine aI ?_)|(refine cM ?_)|(refine aP ?_;simp only[bK,aY,aK,bR,RR,seval];refine aZ.pure ?_))
    rfl
   |true=>
    have a0:decide (g.name=[109,97,105,110])=true:=I
    cases J:decide (g.params.length=0)with
    |false=>
     rw[J]at d1
     repeat' (first|(refine aC fun K c=>?_;refine aH ?_;simp only[z,P,V,a0,d1,aG,RR,seval];apply c;clear c K)|(refine aI ?_)|(refine cM ?_)|(refine aP ?_;simp only[bK,aY,aK,bR,RR,seval];refine aZ.pure ?_))
     rfl
    |true=>
     rw[J]at d1
     cases e3:g.word with
     |false=>
      rw[e3]at V
      repeat' (first|(refine aC fun K c=>?_;refine aH ?_;simp only[z,P,V,a0,d1,aG,RR,seval];apply c;clear c K)|(refine aI ?_)|(refine bI ?_)|(refine aL ?_;simp only[bK])|(refine aP ?_;simp only[aY,aK,bR,RR,seval];refine aZ.pure ?_))
      rfl
     |true=>
      rw[e3]at V
      repeat' (first|(refine aC fun K c=>?_;refine aH ?_;simp only[z,P,V,a0,d1,aG,RR,seval];apply c;clear c K)|(refine aI ?_)|(refine cM ?_)|(refine aP ?_;simp only[bK,aY,aK,bR,RR,seval];refine aZ.pure ?_))
      rfl
end Go.Proofs.YtaecpjgmcffliaaGreatDoor
