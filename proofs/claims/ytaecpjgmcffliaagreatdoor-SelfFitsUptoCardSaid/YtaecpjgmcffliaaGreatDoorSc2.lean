/- Sc2 -/
import Derived.Test.YtaecpjgmcffliaaGreatDoorSc1
set_option linter.unusedSimpArgs false
set_option linter.unusedVariables false
set_option maxHeartbeats 4000000
set_option maxRecDepth 10000
namespace Go.Al
structure Th where
 name:dC
 kind:Int
 num:Int
def Yw (k n:Int):AV:= .agg [.int .i64 k, .int .i64 n]
def Ib (t:Th):AV×AV:=(.str t.name,Yw t.kind t.num)
def jT:List Th→dC→Option (Int×Int)
 |[],_=>none
 |t::l,s=>if s=t.name then some (t.kind,t.num)else jT l s
def Jm (m:List Th) (t:Th):List Th:=if(jT m t.name).isSome then m else m++[t]
def Td (m:List Th) (u:Bool) (t:Th):Bool:=if(jT m t.name).isSome then false else u
theorem rF (s:dC): ∀(m:List Th) (i:Nat), ∃r,wC (.str s) (m.map Ib) i=some r∧r.map (·.2)=(jT m s).map (fun p=>Yw p.1 p.2)
 |[],i=>⟨none,rfl,rfl⟩
 |t::m,i=>by
  simp only[cP,Ib,wC,JP,jT];by_cases h:s=t.name
  ·simp only[h,nS,cT]
   exact⟨_,rfl,rfl⟩
  simp only[h,UY,dP];exact rF s m (i+1)
theorem Av (s:dC): ∀(m:List Th) (t:Th),jT (m++[t]) s=match jT m s with |some p=>some p|none=>if s=t.name then some (t.kind,t.num)else none
 |[],t=>by simp only[dE,jT]
 |u::m,t=>by
  simp only[cN,jT];by_cases h:s=u.name
  ·simp only[h,cT]
  simp only[h,dP];exact Av s m t
def oJ (k:Int):Nat→List dC→List Th
 |_,[]=>[]
 |i,s::l=>⟨s,k,i⟩::oJ k (i+1) l
theorem sL (k:Int): ∀(l:List dC) (i j:Nat) (h:j<l.length),oJ k i (l.take (j+1))=oJ k i (l.take j)++[⟨l[j],k,((i+j:Nat):Int)⟩]
 |s::l,i,0,_=>by simp [oJ]
 |s::l,i,j+1,h=>by
  have:=sL k l (i+1) j (by simpa using h);rw[fR,fR,oJ,this,oJ];simp only[cN,List.getElem_cons_succ];rw[show i+1+j=i+(j+1)by omega]
def rJ (l:List Th):List Th×Bool:=l.foldl (fun p t=>(Jm p.1 t,Td p.1 p.2 t)) ([],true)
theorem tI (l:List Th) (t:Th):rJ (l++[t])=(Jm (rJ l).1 t,Td (rJ l).1 (rJ l).2 t):=by simp [rJ]
def pQ (p:Pg):List Th:=oJ 2 0 p.vars++oJ 3 0 (p.arrs.map Ar.name)++oJ 4 0 (p.funs.map Fu.name)
def Hg (f:Fu):List Th:=oJ 1 0 (f.params++f.locs)
theorem Ql (k:Int): ∀(l m:List dC) (i:Nat),oJ k i (l++m)=oJ k i l++oJ k (i+l.length) m
 |[],m,i=>by simp [oJ]
 |s::l,m,i=>by
  simp only[cN,oJ,Ql k l m (i+1),aJ];rw[show i+1+l.length=i+(l.length+1)by omega]
theorem Q5 (k:Int) (a b:List dC) (j:Nat) (h:j<b.length):oJ k 0 (a++b.take (j+1))=oJ k 0 (a++b.take j)++[⟨b[j],k,((a.length+j:Nat):Int)⟩]:=by
 rw[Ql,Ql,sL k b _ j h,bQ,eC]
theorem tR (s:dC): ∀a b:List Th,jT (a++b) s=match jT a s with |some r=>some r|none=>jT b s
 |[],b=>rfl
 |t::a,b=>by
  simp only[cN,jT];by_cases h:s=t.name
  ·simp only[h,cT]
  simp only[h,dP];exact tR s a b
theorem sC (s:dC): ∀a b:List dC,cV (a++b) s=match cV a s with |some n=>some n|none=>(cV b s).map (· +a.length)
 |[],b=>by simp [cV]
 |x::a,b=>by
  simp only[cN,cV];by_cases h:x=s
  ·simp only[h,cT]
  simp only[h,dP];rw[sC s a b]
  cases cV a s with
  |some n=>rfl
  |none=>cases cV b s<;>simp [mD]
theorem sU (k:Int) (s:dC): ∀(l:List dC) (i:Nat),jT (oJ k i l) s=(cV l s).map fun n=>(k,((i+n:Nat):Int))
 |[],i=>rfl
 |x::l,i=>by
  simp only[oJ,jT,cV];by_cases h:x=s
  ·subst h;simp
  have b: ¬s=x:=fun e=>h e.symm;simp only[aM h,aM b,sU k s l (i+1),Option.map_map];congr 1;funext n;simp only[Function.comp];rw[show i+1+n=i+(n+1)by omega]
theorem Hf (s:dC): ∀l:List Th,(jT l s).isSome=(l.map Th.name).contains s
 |[]=>rfl
 |t::l=>by
  simp only[jT,cP,List.contains_cons];by_cases h:s=t.name
  ·subst h;simp
  have :(s==t.name)=false:=by simp [h]
  rw[aM h,this,yM];exact Hf s l
theorem Ge (s:dC) (l:List Th):jT (rJ l).1 s=jT l s:=by
 suffices h: ∀n (l:List Th),l.length=n→ ∀s,jT (rJ l).1 s=jT l s from h _ l rfl s
 intro n
 induction n with
 |zero=>intro l c s;have:=gV c;subst this;rfl
 |succ n ih=>
  intro l c s;have f:l≠[]:=fun e=>by subst e;simp at c
  obtain⟨b,t,rfl⟩: ∃b t,l=b++[t]:=⟨l.dropLast,l.getLast f,(List.dropLast_concat_getLast f).symm⟩;have d:b.length=n:=by simpa using c
  rw[tI,Av];simp only[Jm,ih b d]
  cases h1:jT b t.name with
  |some q=>
   simp only[fW,cT,ih b d]
   cases h2:jT b s with
   |some r=>rfl
   |none=>
    have : ¬s=t.name:=fun e=>by rw[e,h1]at h2;cases h2
    simp only[aM this]
  |none=>
   simp only[eI,cF,dP];rw[Av,ih b d]
theorem Nn (l:List Th):(rJ l).2=decide (l.map Th.name).Nodup:=by
 suffices h: ∀n (l:List Th),l.length=n→(rJ l).2=decide (l.map Th.name).Nodup from h _ l rfl
 intro n
 induction n with
 |zero=>intro l d;have:=gV d;subst this;rfl
 |succ n ih=>
  intro l d;have f:l≠[]:=fun e=>by subst e;simp at d
  obtain⟨c,t,rfl⟩: ∃c t,l=c++[t]:=⟨l.dropLast,l.getLast f,(List.dropLast_concat_getLast f).symm⟩;have u:c.length=n:=by simpa using d
  have y:=Hf t.name c;rw[tI];simp only[Td,Ge,ih c u,y,cK,cP,dD];rw[eF];simp only[bO,List.nodup_append,List.nodup_cons,bM,Eh,List.nodup_nil,RP,true_and,bA,List.contains_iff_mem];constructor
  ·intro h
   split at h
   ·cases h
   rename_i x;refine⟨aF h,fun a k b o e=>?_⟩;subst o;subst e;exact x k
  rintro⟨g,j⟩;rw[aM (fun v=>j _ v _ rfl rfl)];exact cO g
theorem Aj (k:Int): ∀(l:List dC) (i:Nat),(oJ k i l).map Th.name=l
 |[],_=>rfl
 |s::l,i=>by simp only[oJ,cP,Aj k l (i+1)]
theorem Ws (p:Pg):(pQ p).map Th.name=jZ p:=by simp only[pQ,jZ,cK,Aj]
theorem A7 (f:Fu):(Hg f).map Th.name=gI f:=by simp only[Hg,gI,Aj]
theorem U3 (p:Pg) (s:dC):(match jT (pQ p) s with |some r=>r|none=>(0, -1))=qZ p s:=by
 unfold pQ qZ jZ;rw[tR,tR,sU,sU,sU,sC,sC]
 cases h1:cV p.vars s with
 |some n=>
  have:=(iO _ _ _ h1).1;simp only[eW,eC,bP this]
 |none=>
  simp only[hQ]
  cases h2:cV (p.arrs.map Ar.name) s with
  |some n=>
   have:=(iO _ _ _ h2).1;rw[aE]at this;simp only[eW,eC];rw[aM (by omega),bP (by omega),Nat.add_sub_cancel]
  |none=>
   simp only[hQ]
   cases h3:cV (p.funs.map Fu.name) s with
   |some n=>
    simp only[eW,eC,aB,aE];rw[aM (by omega),aM (by omega)];congr 2;omega
   |none=>rfl
def Nl (p:Pg) (i:Nat) (a:Bool×Bool) (u:Us):Bool×Bool:=(a.1&&iT p i u,a.2&&(!iT p i u||yE p i u))
theorem PC (p:Pg) (i:Nat): ∀(l:List Us) (a b:Bool),l.foldl (Nl p i) (a,b)=(a&&l.all (iT p i),b&&l.all (fun u=> !iT p i u||yE p i u))
 |[],a,b=>by simp
 |u::l,a,b=>by
  simp only[List.foldl_cons,Nl,PC p i l,dT,Bool.and_assoc]
end Go.Al
namespace Go.Proofs.YtaecpjgmcffliaaGreatDoor
open Go.Al Go.Proofs.Tryz
def uG (bm bu b:Nat) (m:List Th) (u:Bool) (H:Hp):Prop:=H bm=some (.rows 1 [[.mp b]])∧H bu=some (.rows 1 [[.bool u]])∧H b=some (.amap (m.map Ib))
theorem Ht (t:Th) (l d b:Nat) (m:List Th) (u:Bool) (H:Hp) (h:uG l d b m u H):
  pK dN 127 [.str t.name,Yw t.kind t.num, .ptr 1 l 0 0, .ptr 1 d 0 0] H (fun Q z=> ∃v,Q= .ret v∧(v= .tup []∧uG l d b (Jm m t) (Td m u t) z∧keeps (fun x=>x=d∨x=b) H z)):=by
 obtain⟨n,C,D⟩:=h;have Z:l≠d:=fun e=>by rw[e,C]at n;simp at n
 have n2:l≠b:=fun e=>by rw[e,D]at n;simp at n
 have O:d≠b:=fun e=>by rw[e,D]at C;simp at C
 refine bX 18 [] func127 ?_;simp only[Yw];refine cI (fun A z=> ∃b5,A 0= .str t.name∧A 2= .ptr 1 l 0 0∧A 3= .ptr 1 d 0 0∧A 5= .ptr 2 b5 0 0∧z b5=some (.rows 2 [[.int .i64 t.kind, .int .i64 t.num]])∧keeps (fun _=>False) H z) (fun K f=>?_) ?_
 ·refine aG ?_;simp only[RR,seval]
  refine aQ fun b5 I=>?_;simp only[RR,seval];exact f _ _ ⟨b5,rfl,rfl,rfl,rfl,bG _ _ _,(keeps.refl _ H).new I _⟩
 rintro A H1 ⟨b5,R,S,T,f5,I,y⟩;have k1:=y _ _ (fun h=>h) n;have F:=y _ _ (fun h=>h) C;have k3:=y _ _ (fun h=>h) D;obtain⟨r,M,B⟩:=rF t.name m 0
 have a0: ∀x o,H1 x=none→keeps (fun _=>False) H (upd H1 x o):=fun x o V c k _ j=>by
  have:=y c k (fun h=>h) j;have U:c≠x:=fun e=>by rw[e,V]at this;cases this
  simp only[upd,aM U];exact this
 cases hl:jT m t.name with
 |some q=>
  rw[hl]at B
  obtain⟨p,rfl,hp⟩: ∃p,r=some p∧p.2=Yw q.1 q.2:=by
   cases r with
   |none=>simp at B
   |some p=>exact⟨p,rfl,by simpa using B⟩
  refine aI ?_;refine aC fun K f=>?_;refine aG ?_;simp only[RR,seval];simp only[*,k1,k3,Yw,iW,RR,seval];refine aQ fun b6 E=>?_;simp only[RR,seval];apply f
  have L:(upd (upd H1 b6 (some (.rows 2 [[.int .i64 0, .int .i64 0]]))) b6 (some (.rows 2 [[.int .i64 q.1, .int .i64 q.2]]))) d=some (.rows 1 [[.bool u]]):=by
   have :d≠b6:=fun e=>by rw[e,E]at F;cases F
   simp only[upd,aM this];exact F
  have g:keeps (fun _=>False) H (upd (upd H1 b6 (some (.rows 2 [[.int .i64 0, .int .i64 0]]))) b6 (some (.rows 2 [[.int .i64 q.1, .int .i64 q.2]]))):=by
   intro c k _ j;have G:=y c k (fun h=>h) j;have :c≠b6:=fun e=>by rw[e,E]at G;cases G
   simp only[upd,aM this];exact G
  generalize(upd (upd H1 b6 (some (.rows 2 [[.int .i64 0, .int .i64 0]]))) b6 (some (.rows 2 [[.int .i64 q.1, .int .i64 q.2]])))=P at L g⊢;refine aC fun K f=>?_;refine aG ?_;simp only[RR,seval];refine f _ _ (cL ?_);refine aC fun K f=>?_;refine aG ?_;simp only[RR,seval];simp only[T,L,RR,seval];refine f _ _ (aO ?_);simp only[bL,aY,aK,bR,seval];refine aZ.whole ⟨rfl,⟨?_,bG _ _ _|>.trans (by simp only[Td,hl,fW,cT]), ?_⟩,fun c k J j=>?_⟩
  ·simp only[upd,aM Z];exact g _ _ (fun h=>h) n
  ·have :b≠d:=fun e=>O e.symm
   simp only[upd,aM this,Jm,hl,fW,cT];exact g _ _ (fun h=>h) D
  have :c≠d:=fun e=>J (.inl e);simp only[upd,aM this];exact g c k (fun h=>h) j
 |none=>
  rw[hl]at B;obtain rfl:r=none:=by cases r with |none=>rfl|some p=>simp at B
  refine aI ?_;refine aC fun K f=>?_;refine aG ?_;simp only[RR,seval];simp only[R,S,k1,k3,M,iY,RR,seval];refine aQ fun b6 E=>?_;simp only[RR,seval];apply f
  have g:keeps (fun _=>False) H1 (upd (upd H1 b6 (some (.rows 2 [[.int .i64 0, .int .i64 0]]))) b6 (some (.rows 2 [[.int .i64 0, .int .i64 0]]))):=by
   intro c k _ j;have :c≠b6:=fun e=>by rw[e,E]at j;cases j
   simp only[upd,aM this];exact j
  generalize(upd (upd H1 b6 (some (.rows 2 [[.int .i64 0, .int .i64 0]]))) b6 (some (.rows 2 [[.int .i64 0, .int .i64 0]])))=P at g⊢;have N:=g _ _ (fun h=>h) k1;have W:=g _ _ (fun h=>h) F;have X:=g _ _ (fun h=>h) k3;have Y:=g _ _ (fun h=>h) I;refine aC fun K f=>?_;refine aG ?_;simp only[RR,seval];refine f _ _ (bN ?_);refine aL ?_;simp only[bL];refine aG ?_
  have a1:Xy (m.map Ib) (.str t.name) (.agg [.int .i64 t.kind, .int .i64 t.num])=some ((Jm m t).map Ib):=by
   simp only[Xy,M,Jm,hl,eI,cF,dP,cK,cP,dD,Ib,Yw]
  simp only[*,N,X,Y,RR,seval];simp only[aY,aK,bR];refine aZ.whole ⟨rfl,⟨?_, ?_,bG _ _ _⟩,fun c k J j=>?_⟩
  ·simp only[upd,aM n2];exact N
  ·simp only[upd,aM O]
   rw[W];simp only[Td,hl,eI,cF,dP]
  have :c≠b:=fun e=>J (.inr e);simp only[upd,aM this];exact g c k (fun h=>h) (y c k (fun h=>h) j)
theorem Wa (k:dC) (y:Int) (o d b:Nat) (m:List Th) (u:Bool) (H:Hp) (h:uG o d b m u H):
  pK dN 128 [.str k, .int .i64 y, .ptr 1 o 0 0, .ptr 1 d 0 0] H (fun O G=> ∃v,O= .ret v∧(v= .tup []∧uG o d b (Jm m ⟨k,1,y⟩) (Td m u ⟨k,1,y⟩) G∧keeps (fun x=>x=d∨x=b) H G)):=by
 obtain⟨n,z,A⟩:=h;have T:o≠d:=fun e=>by rw[e,z]at n;simp at n
 have U:o≠b:=fun e=>by rw[e,A]at n;simp at n
 have M:d≠b:=fun e=>by rw[e,A]at z;simp at z
 refine bX 19 [] func128 ?_;have J:keeps (fun _=>False) H H:=keeps.refl _ H;have k1:=n;have C:=z;have k3:=A;obtain⟨r,F,t⟩:=rF k m 0
 cases hl:jT m k with
 |some q=>
  rw[hl]at t
  obtain⟨p,rfl,P⟩: ∃p,r=some p∧p.2=Yw q.1 q.2:=by
   cases r with
   |none=>simp at t
   |some p=>exact⟨p,rfl,by simpa using t⟩
  refine aI ?_;refine aC fun K g=>?_;refine aG ?_;simp only[RR,seval];simp only[k1,k3,F,P,Yw,iW,RR,seval];refine aQ fun b6 B=>?_;simp only[RR,seval];apply g
  have I:(upd (upd H b6 (some (.rows 2 [[.int .i64 0, .int .i64 0]]))) b6 (some (.rows 2 [[.int .i64 q.1, .int .i64 q.2]]))) d=some (.rows 1 [[.bool u]]):=by
   have :d≠b6:=fun e=>by rw[e,B]at C;cases C
   simp only[upd,aM this];exact C
  have f:keeps (fun _=>False) H (upd (upd H b6 (some (.rows 2 [[.int .i64 0, .int .i64 0]]))) b6 (some (.rows 2 [[.int .i64 q.1, .int .i64 q.2]]))):=by
   intro c l _ j;have D:=J c l (fun h=>h) j;have :c≠b6:=fun e=>by rw[e,B]at D;cases D
   simp only[upd,aM this];exact D
  generalize(upd (upd H b6 (some (.rows 2 [[.int .i64 0, .int .i64 0]]))) b6 (some (.rows 2 [[.int .i64 q.1, .int .i64 q.2]])))=N at I f⊢;refine aC fun K g=>?_;refine aG ?_;simp only[RR,seval];refine g _ _ (cL ?_);refine aC fun K g=>?_;refine aG ?_;simp only[RR,seval];simp only[I,RR,seval];refine g _ _ (aO ?_);simp only[bL,aY,aK,bR,seval];refine aZ.whole ⟨rfl,⟨?_,bG _ _ _|>.trans (by simp only[Td,hl,fW,cT]), ?_⟩,fun c l E j=>?_⟩
  ·simp only[upd,aM T];exact f _ _ (fun h=>h) n
  ·have :b≠d:=fun e=>M e.symm
   simp only[upd,aM this,Jm,hl,fW,cT];exact f _ _ (fun h=>h) A
  have :c≠d:=fun e=>E (.inl e);simp only[upd,aM this];exact f c l (fun h=>h) j
 |none=>
  rw[hl]at t;obtain rfl:r=none:=by cases r with |none=>rfl|some p=>simp at t
  refine aI ?_;refine aC fun K g=>?_;refine aG ?_;simp only[RR,seval];simp only[k1,k3,F,iY,RR,seval];refine aQ fun b6 B=>?_;simp only[RR,seval];apply g
  have f:keeps (fun _=>False) H (upd (upd H b6 (some (.rows 2 [[.int .i64 0, .int .i64 0]]))) b6 (some (.rows 2 [[.int .i64 0, .int .i64 0]]))):=by
   intro c l _ j;have :c≠b6:=fun e=>by rw[e,B]at j;cases j
   simp only[upd,aM this];exact j
  generalize(upd (upd H b6 (some (.rows 2 [[.int .i64 0, .int .i64 0]]))) b6 (some (.rows 2 [[.int .i64 0, .int .i64 0]])))=N at f⊢;have L:=f _ _ (fun h=>h) k1;have R:=f _ _ (fun h=>h) C;have S:=f _ _ (fun h=>h) k3;refine aC fun K g=>?_;refine aG ?_;simp only[RR,seval];refine g _ _ (bN ?_);refine aL ?_;simp only[bL];refine aG ?_
  have Q:Xy (m.map Ib) (.str k) (.agg [.int .i64 1, .int .i64 y])=some ((Jm m ⟨k,1,y⟩).map Ib):=by
   simp only[Xy,F,Jm,hl,eI,cF,dP,cK,cP,dD,Ib,Yw]
  simp only[L,S,Q,RR,seval];simp only[aY,aK,bR];refine aZ.whole ⟨rfl,⟨?_, ?_,bG _ _ _⟩,fun c l E j=>?_⟩
  ·simp only[upd,aM U];exact L
  ·simp only[upd,aM M]
   rw[R];simp only[Td,hl,eI,cF,dP]
  have :c≠b:=fun e=>E (.inr e);simp only[upd,aM this];exact f c l (fun h=>h) (J c l (fun h=>h) j)
theorem zX {f d b:Nat} {m:List Th} {u:Bool} {H:Hp} (h:uG f d b m u H) {x sz:Nat} {r:List (List AV)} (c:H x=some (.rows sz r)) (k:sz≠1): ¬(x=d∨x=b):=by
 obtain⟨l,g,j⟩:=h;rintro(e|e)
 ·rw[e,g]at c
  simp only[Option.some.injEq,gY.rows.injEq]at c;exact k c.1.symm
 rw[e,j]at c;cases c
theorem Yd {c d b:Nat} {m:List Th} {u:Bool} {H:Hp} (h:uG c d b m u H) {x:Nat} (k:H x=none) (o l:Option gY):uG c d b m u (upd (upd H x o) x l):=by
 obtain⟨f,g,j⟩:=h;refine⟨?_, ?_, ?_⟩
 ·have :c≠x:=fun e=>by rw[e,k]at f;cases f
  simp only[upd,aM this];exact f
 ·have :d≠x:=fun e=>by rw[e,k]at g;cases g
  simp only[upd,aM this];exact g
 have :b≠x:=fun e=>by rw[e,k]at j;cases j
 simp only[upd,aM this];exact j
theorem Wq (p:Pg) (hp:p.few):pK dN 85 [p.av] pX (fun ae Y=> ∃v,ae= .ret v∧ ∃b,v= .tup [.mp b, .bool (rJ (pQ p)).2]∧Y b=some (.amap ((rJ (pQ p)).1.map Ib))):=by
 have gv:=hp.v;have ga:=hp.a;have gf:=hp.f;have Z:pQ p=oJ 2 0 p.vars++oJ 3 0 (p.arrs.map Ar.name)++oJ 4 0 (p.funs.map Fu.name):=rfl;generalize pQ p=G at Z⊢;obtain⟨vs,n,o⟩:=p;simp only at gv ga gf Z;refine bX 61 [.tmp 2, .tmp 3] func85 ?_;simp only[Pg.av,Pg.row];refine cI (fun c H=> ∃b1,c 1= .ptr 3 b1 0 0∧H b1=some (.rows 3 [[.isl 1 (vs.map bH), .isl 2 (n.map Ar.row), .isl 5 (o.map Fu.row)]])) (fun K d=>?_) ?_
 ·refine aG ?_;simp only[RR,seval]
  refine aQ fun b1 a2=>?_;simp only[RR,seval];exact d _ _ ⟨b1,rfl,bG _ _ _⟩
 rintro c H ⟨b1,u,l⟩;refine cI (fun c H=> ∃b g j,c 1= .ptr 3 b1 0 0∧H b1=some (.rows 3 [[.isl 1 (vs.map bH), .isl 2 (n.map Ar.row), .isl 5 (o.map Fu.row)]])∧c 4= .ptr 1 g 0 0∧c 5= .ptr 1 j 0 0∧uG g j b [] true H) (fun K d=>?_) ?_
 ·refine aG ?_;simp only[RR,seval]
  refine aQ fun b a1=>?_;simp only[RR,seval];refine aQ fun g Q=>?_;simp only[RR,seval];refine aQ fun j F=>?_;simp only[RR,seval];have e1:g≠b:=fun e=>by rw[e,bG]at Q;cases Q
  have e2:j≠b:=fun e=>by
   rw[e]at F;have :b≠g:=fun e=>e1 e.symm;simp only[upd,aM this,cT]at F;cases F
  have e3:j≠g:=fun e=>by rw[e,bG]at F;cases F
  have e4:g≠j:=fun e=>e3 e.symm;have q0:b1≠b:=fun e=>by rw[e,a1]at l;cases l
  have q1:b1≠g:=fun e=>by
   rw[←e]at Q;simp only[upd,aM q0]at Q;rw[l]at Q;cases Q
  have q2:b1≠j:=fun e=>by
   rw[←e]at F;simp only[upd,aM q0,aM q1]at F;rw[l]at F;cases F
  have e5:b≠g:=fun e=>e1 e.symm;have e6:b≠j:=fun e=>e2 e.symm;simp only[upd,e3,e4,reduceIte,RR,seval];refine d _ _ ⟨b,g,j,u, ?_,rfl,rfl, ?_, ?_, ?_⟩
  ·simp only[upd,aM q0,aM q1,aM q2];exact l
  ·simp [upd,e4]
  ·simp [upd]
  simp [upd,e5,e6]
 rintro c H ⟨b,g,j,u,l,z,A,t⟩;refine aC fun K d=>?_;refine aG ?_;simp only[RR,seval];simp only[z,A,seval];apply d;clear d K;refine cI (fun c H=>c 1= .ptr 3 b1 0 0∧c 4= .ptr 1 g 0 0∧c 5= .ptr 1 j 0 0∧c 6= .fn (.func 127) [] [.ptr 1 g 0 0, .ptr 1 j 0 0]∧H b1=some (.rows 3 [[.isl 1 (vs.map bH), .isl 2 (n.map Ar.row), .isl 5 (o.map Fu.row)]])∧uG g j b (rJ (oJ 2 0 (vs))).1 (rJ (oJ 2 0 (vs))).2 H) (fun K d=>?_) ?_
 ·refine aC fun K d=>?_;refine aG ?_;simp only[RR,seval]
  simp only[u,l,aE,RR,seval];apply d;clear d K;refine aN ?_;refine eK (fun N c H=> ∃k:Nat,N=vs.length-k∧k≤vs.length∧c 18= .int .i64 k∧c 16= .isl 1 (vs.map bH)∧c 17= .int .i64 vs.length∧c 1= .ptr 3 b1 0 0∧c 4= .ptr 1 g 0 0∧c 5= .ptr 1 j 0 0∧c 6= .fn (.func 127) [] [.ptr 1 g 0 0, .ptr 1 j 0 0]∧H b1=some (.rows 3 [[.isl 1 (vs.map bH), .isl 2 (n.map Ar.row), .isl 5 (o.map Fu.row)]])∧uG g j b (rJ (oJ 2 0 (vs.take k))).1 (rJ (oJ 2 0 (vs.take k))).2 H) (vs.length) ⟨0,rfl,cM _,rfl,rfl,rfl,u,z,A,rfl,l,t⟩ ?_;rintro N c H ⟨k,rfl,a0,D,J,I,u,z,A,B,l,t⟩ K2 S;refine aC fun K d=>?_;refine aG ?_;simp only[RR,seval];simp only[D,I,RR,seval];apply d;clear d K;refine aI ?_;refine aX ?_ ?_<;>intro C
  ·have M:k<vs.length:=by have:=aF C;omega
   clear C;refine aL ?_;simp only[bL];refine aI ?_;refine aN ?_;have L:=Wt (aD M);have E:=sL 2 vs 0 k M;rw[eC]at E;generalize vs[k]=s at L E;refine aC fun K d=>?_;refine aG ?_;simp only[RR,seval];simp only[D,J,L,RR,seval];apply d;clear d K;refine aG ?_;simp only[B,RR,seval];refine gC (Ht ⟨s,2,k⟩ g j b _ _ _ t) (fJ.refl _) (fun _=>trivial) fun v Y ⟨X,R,W⟩=>?_;subst X;simp only[bL,cG,RR,seval];refine aG ?_;simp only[RR,seval];simp only[D,bL,RR,seval];rw[aT _ (by omega)];refine S (vs.length-(k+1)) _ _ (by omega) ⟨k+1,rfl,by omega,rfl,J,I,u,z,A,B,W b1 _ (zX t l (by decide)) l,by rw[E,tI];exact R⟩
  refine cC ?_;simp only[bL,cG,reduceIte];have V:k=vs.length:=by have:=aH C;omega
  clear C;subst V;rw[cZ]at t;exact d _ _ ⟨u,z,A,B,l,t⟩
 rintro c H ⟨u,z,A,B,l,t⟩;refine cI (fun c H=>c 1= .ptr 3 b1 0 0∧c 4= .ptr 1 g 0 0∧c 5= .ptr 1 j 0 0∧c 6= .fn (.func 127) [] [.ptr 1 g 0 0, .ptr 1 j 0 0]∧H b1=some (.rows 3 [[.isl 1 (vs.map bH), .isl 2 (n.map Ar.row), .isl 5 (o.map Fu.row)]])∧uG g j b (rJ (oJ 2 0 vs++oJ 3 0 (n.map Ar.name))).1 (rJ (oJ 2 0 vs++oJ 3 0 (n.map Ar.name))).2 H) (fun K d=>?_) ?_
 ·refine aC fun K d=>?_;refine aG ?_;simp only[RR,seval]
  simp only[u,l,aE,RR,seval];apply d;clear d K;refine aN ?_;refine eK (fun N c H=> ∃k:Nat,N=n.length-k∧k≤n.length∧c 32= .int .i64 k∧c 30= .isl 2 (n.map Ar.row)∧c 31= .int .i64 n.length∧c 1= .ptr 3 b1 0 0∧c 4= .ptr 1 g 0 0∧c 5= .ptr 1 j 0 0∧c 6= .fn (.func 127) [] [.ptr 1 g 0 0, .ptr 1 j 0 0]∧H b1=some (.rows 3 [[.isl 1 (vs.map bH), .isl 2 (n.map Ar.row), .isl 5 (o.map Fu.row)]])∧uG g j b (rJ (oJ 2 0 vs++oJ 3 0 ((n.take k).map Ar.name))).1 (rJ (oJ 2 0 vs++oJ 3 0 ((n.take k).map Ar.name))).2 H) (n.length) ⟨0,rfl,cM _,rfl,rfl,rfl,u,z,A,B,l,by simpa [oJ]using t⟩ ?_;rintro N c H ⟨k,rfl,a0,D,J,I,u,z,A,B,l,t⟩ K2 S;refine aC fun K d=>?_;refine aG ?_;simp only[RR,seval];simp only[D,I,RR,seval];apply d;clear d K;refine aI ?_;refine aX ?_ ?_<;>intro C
  ·have M:k<n.length:=by have:=aF C;omega
   clear C;refine aL ?_;simp only[bL];refine aI ?_;refine aN ?_;have L:=HU (aD M);have E:=sL 3 (n.map Ar.name) 0 k (by rw[aE];exact M);rw[eC,←List.map_take,←List.map_take,List.getElem_map]at E;generalize n[k]=a at L E;refine aC fun K d=>?_;refine aG ?_;simp only[RR,seval];simp only[D,J,L,RR,seval];refine aQ fun y T=>?_;simp only[RR,seval];apply d;clear d K;have O:=Yd t T (some (.rows 2 [[.str [], .int .i64 0]])) (some (.rows 2 [[.str a.name, .int .i64 a.size]]));have U:(upd (upd H y (some (.rows 2 [[.str [], .int .i64 0]]))) y (some (.rows 2 [[.str a.name, .int .i64 a.size]]))) y=some (.rows 2 [[.str a.name, .int .i64 a.size]]):=bG _ _ _
   have P:(upd (upd H y (some (.rows 2 [[.str [], .int .i64 0]]))) y (some (.rows 2 [[.str a.name, .int .i64 a.size]]))) b1=some (.rows 3 [[.isl 1 (vs.map bH), .isl 2 (n.map Ar.row), .isl 5 (o.map Fu.row)]]):=by
    have :b1≠y:=fun e=>by rw[e,T]at l;cases l
    simp only[upd,aM this];exact l
   generalize(upd (upd H y (some (.rows 2 [[.str [], .int .i64 0]]))) y (some (.rows 2 [[.str a.name, .int .i64 a.size]])))=H2 at O U P⊢;refine aG ?_;simp only[B,U,RR,seval];refine gC (Ht ⟨a.name,3,k⟩ g j b _ _ _ O) (fJ.refl _) (fun _=>trivial) fun v Y ⟨X,R,W⟩=>?_;subst X;simp only[bL,cG,RR,seval];refine aG ?_;simp only[RR,seval];simp only[D,bL,RR,seval];rw[aT _ (by omega)];refine S (n.length-(k+1)) _ _ (by omega) ⟨k+1,rfl,by omega,rfl,J,I,u,z,A,B,W b1 _ (zX O P (by decide)) P,by rw[E,←bQ,tI];exact R⟩
  refine cC ?_;simp only[bL,cG,reduceIte];have V:k=n.length:=by have:=aH C;omega
  clear C;subst V;rw[cZ]at t;exact d _ _ ⟨u,z,A,B,l,t⟩
 rintro c H ⟨u,z,A,B,l,t⟩;refine cI (fun c H=>c 1= .ptr 3 b1 0 0∧c 4= .ptr 1 g 0 0∧c 5= .ptr 1 j 0 0∧c 6= .fn (.func 127) [] [.ptr 1 g 0 0, .ptr 1 j 0 0]∧H b1=some (.rows 3 [[.isl 1 (vs.map bH), .isl 2 (n.map Ar.row), .isl 5 (o.map Fu.row)]])∧uG g j b (rJ (oJ 2 0 vs++oJ 3 0 (n.map Ar.name)++oJ 4 0 (o.map Fu.name))).1 (rJ (oJ 2 0 vs++oJ 3 0 (n.map Ar.name)++oJ 4 0 (o.map Fu.name))).2 H) (fun K d=>?_) ?_
 ·refine aC fun K d=>?_;refine aG ?_;simp only[RR,seval]
  simp only[u,l,aE,RR,seval];apply d;clear d K;refine aN ?_;refine eK (fun N c H=> ∃k:Nat,N=o.length-k∧k≤o.length∧c 47= .int .i64 k∧c 45= .isl 5 (o.map Fu.row)∧c 46= .int .i64 o.length∧c 1= .ptr 3 b1 0 0∧c 4= .ptr 1 g 0 0∧c 5= .ptr 1 j 0 0∧c 6= .fn (.func 127) [] [.ptr 1 g 0 0, .ptr 1 j 0 0]∧H b1=some (.rows 3 [[.isl 1 (vs.map bH), .isl 2 (n.map Ar.row), .isl 5 (o.map Fu.row)]])∧uG g j b (rJ (oJ 2 0 vs++oJ 3 0 (n.map Ar.name)++oJ 4 0 ((o.take k).map Fu.name))).1 (rJ (oJ 2 0 vs++oJ 3 0 (n.map Ar.name)++oJ 4 0 ((o.take k).map Fu.name))).2 H) (o.length) ⟨0,rfl,cM _,rfl,rfl,rfl,u,z,A,B,l,by simpa [oJ]using t⟩ ?_;rintro N c H ⟨k,rfl,a0,D,J,I,u,z,A,B,l,t⟩ K2 S;refine aC fun K d=>?_;refine aG ?_;simp only[RR,seval];simp only[D,I,RR,seval];apply d;clear d K;refine aI ?_;refine aX ?_ ?_<;>intro C
  ·have M:k<o.length:=by have:=aF C;omega
   clear C;refine aL ?_;simp only[bL];refine aI ?_;refine aN ?_;have L:=qH (aD M);have E:=sL 4 (o.map Fu.name) 0 k (by rw[aE];exact M);rw[eC,←List.map_take,←List.map_take,List.getElem_map]at E;generalize o[k]=f at L E;refine aC fun K d=>?_;refine aG ?_;simp only[RR,seval];simp only[D,J,L,RR,seval];refine aQ fun y T=>?_;simp only[RR,seval];apply d;clear d K;have O:=Yd t T (some (.rows 5 [[.str [], .nsl, .nsl, .bool false, .nsl]])) (some (.rows 5 [[.str f.name, .isl 1 (f.params.map bH), .isl 1 (f.locs.map bH), .bool f.word, .isl 5 (f.body.map Sm.row)]]));have U:(upd (upd H y (some (.rows 5 [[.str [], .nsl, .nsl, .bool false, .nsl]]))) y (some (.rows 5 [[.str f.name, .isl 1 (f.params.map bH), .isl 1 (f.locs.map bH), .bool f.word, .isl 5 (f.body.map Sm.row)]]))) y=some (.rows 5 [[.str f.name, .isl 1 (f.params.map bH), .isl 1 (f.locs.map bH), .bool f.word, .isl 5 (f.body.map Sm.row)]]):=bG _ _ _
   have P:(upd (upd H y (some (.rows 5 [[.str [], .nsl, .nsl, .bool false, .nsl]]))) y (some (.rows 5 [[.str f.name, .isl 1 (f.params.map bH), .isl 1 (f.locs.map bH), .bool f.word, .isl 5 (f.body.map Sm.row)]]))) b1=some (.rows 3 [[.isl 1 (vs.map bH), .isl 2 (n.map Ar.row), .isl 5 (o.map Fu.row)]]):=by
    have :b1≠y:=fun e=>by rw[e,T]at l;cases l
    simp only[upd,aM this];exact l
   generalize(upd (upd H y (some (.rows 5 [[.str [], .nsl, .nsl, .bool false, .nsl]]))) y (some (.rows 5 [[.str f.name, .isl 1 (f.params.map bH), .isl 1 (f.locs.map bH), .bool f.word, .isl 5 (f.body.map Sm.row)]])))=H2 at O U P⊢;refine aG ?_;simp only[B,U,RR,seval];refine gC (Ht ⟨f.name,4,k⟩ g j b _ _ _ O) (fJ.refl _) (fun _=>trivial) fun v Y ⟨X,R,W⟩=>?_;subst X;simp only[bL,cG,RR,seval];refine aG ?_;simp only[RR,seval];simp only[D,bL,RR,seval];rw[aT _ (by omega)];refine S (o.length-(k+1)) _ _ (by omega) ⟨k+1,rfl,by omega,rfl,J,I,u,z,A,B,W b1 _ (zX O P (by decide)) P,by rw[E,←bQ,tI];exact R⟩
  refine cC ?_;simp only[bL,cG,reduceIte];have V:k=o.length:=by have:=aH C;omega
  clear C;subst V;rw[cZ]at t;exact d _ _ ⟨u,z,A,B,l,t⟩
 rintro c H ⟨u,z,A,B,l,t⟩;rw[←Z]at t;obtain⟨i1,i2,i3⟩:=t;refine aC fun K d=>?_;refine fS (fun x=>x≠g∧x≠j) [(0,true),(1,true),(2,true),(3,true)] eP (by kernel_rfl) rfl ?_;simp only[sZ,z,A,i1,i2,RR,seval];apply d;clear d K;refine aO ?_;simp only[aY,aK,bR,RR,seval];exact aZ.whole ⟨b,rfl,i3⟩
theorem A6 (f:Fu) (hp:f.params.length≤10000) (hl:f.locs.length≤1100000):pK dN 86 [.agg f.row] pX (fun Z M=> ∃v,Z= .ret v∧ ∃b,v= .tup [.mp b, .bool (rJ (Hg f)).2]∧M b=some (.amap ((rJ (Hg f)).1.map Ib))):=by
 have W:Hg f=oJ 1 0 (f.params++f.locs):=rfl;generalize Hg f=G at W⊢;refine bX 45 [.tmp 2, .tmp 3] func86 ?_;simp only[Fu.row];refine cI (fun c H=> ∃b1,c 1= .ptr 5 b1 0 0∧H b1=some (.rows 5 [[.str f.name, .isl 1 (f.params.map bH), .isl 1 (f.locs.map bH), .bool f.word, .isl 5 (f.body.map Sm.row)]])) (fun K d=>?_) ?_
 ·refine aG ?_;simp only[RR,seval]
  refine aQ fun b1 a2=>?_;simp only[RR,seval];exact d _ _ ⟨b1,rfl,bG _ _ _⟩
 rintro c H ⟨b1,o,l⟩;refine cI (fun c H=> ∃b g j,c 1= .ptr 5 b1 0 0∧H b1=some (.rows 5 [[.str f.name, .isl 1 (f.params.map bH), .isl 1 (f.locs.map bH), .bool f.word, .isl 5 (f.body.map Sm.row)]])∧c 4= .ptr 1 g 0 0∧c 5= .ptr 1 j 0 0∧uG g j b [] true H) (fun K d=>?_) ?_
 ·refine aG ?_;simp only[RR,seval]
  refine aQ fun b a0=>?_;simp only[RR,seval];refine aQ fun g C=>?_;simp only[RR,seval];refine aQ fun j z=>?_;simp only[RR,seval];have T:g≠b:=fun e=>by rw[e,bG]at C;cases C
  have e2:j≠b:=fun e=>by
   rw[e]at z;have :b≠g:=fun e=>T e.symm;simp only[upd,aM this,cT]at z;cases z
  have U:j≠g:=fun e=>by rw[e,bG]at z;cases z
  have V:g≠j:=fun e=>U e.symm;have S:b1≠b:=fun e=>by rw[e,a0]at l;cases l
  have X:b1≠g:=fun e=>by
   rw[←e]at C;simp only[upd,aM S]at C;rw[l]at C;cases C
  have q2:b1≠j:=fun e=>by
   rw[←e]at z;simp only[upd,aM S,aM X]at z;rw[l]at z;cases z
  have e5:b≠g:=fun e=>T e.symm;have e6:b≠j:=fun e=>e2 e.symm;simp only[upd,U,V,reduceIte,RR,seval];refine d _ _ ⟨b,g,j,o, ?_,rfl,rfl, ?_, ?_, ?_⟩
  ·simp only[upd,aM S,aM X,aM q2];exact l
  ·simp [upd,V]
  ·simp [upd]
  simp [upd,e5,e6]
 rintro c H ⟨b,g,j,o,l,t,u,n⟩;refine aC fun K d=>?_;refine aG ?_;simp only[RR,seval];simp only[t,u,seval];apply d;clear d K;refine cI (fun c H=>c 1= .ptr 5 b1 0 0∧c 4= .ptr 1 g 0 0∧c 5= .ptr 1 j 0 0∧c 6= .fn (.func 128) [] [.ptr 1 g 0 0, .ptr 1 j 0 0]∧H b1=some (.rows 5 [[.str f.name, .isl 1 (f.params.map bH), .isl 1 (f.locs.map bH), .bool f.word, .isl 5 (f.body.map Sm.row)]])∧uG g j b (rJ (oJ 1 0 (f.params))).1 (rJ (oJ 1 0 (f.params))).2 H) (fun K d=>?_) ?_
 ·refine aC fun K d=>?_;refine aG ?_;simp only[RR,seval]
  simp only[o,l,aE,RR,seval];apply d;clear d K;refine aN ?_;refine eK (fun L c H=> ∃k:Nat,L=f.params.length-k∧k≤f.params.length∧c 16= .int .i64 k∧c 14= .isl 1 (f.params.map bH)∧c 15= .int .i64 f.params.length∧c 1= .ptr 5 b1 0 0∧c 4= .ptr 1 g 0 0∧c 5= .ptr 1 j 0 0∧c 6= .fn (.func 128) [] [.ptr 1 g 0 0, .ptr 1 j 0 0]∧H b1=some (.rows 5 [[.str f.name, .isl 1 (f.params.map bH), .isl 1 (f.locs.map bH), .bool f.word, .isl 5 (f.body.map Sm.row)]])∧uG g j b (rJ (oJ 1 0 (f.params.take k))).1 (rJ (oJ 1 0 (f.params.take k))).2 H) (f.params.length) ⟨0,rfl,cM _,rfl,rfl,rfl,o,t,u,rfl,l,n⟩ ?_;rintro L c H ⟨k,rfl,a1,B,F,E,o,t,u,y,l,n⟩ Y O;refine aC fun K d=>?_;refine aG ?_;simp only[RR,seval];simp only[B,E,RR,seval];apply d;clear d K;refine aI ?_;refine aX ?_ ?_<;>intro A
  ·have J:k<f.params.length:=by have:=aF A;omega
   clear A;refine aL ?_;simp only[bL];refine aI ?_;refine aN ?_;have I:=Wt (aD J);have D:=sL 1 f.params 0 k J;rw[eC]at D;generalize f.params[k]=s at I D;refine aC fun K d=>?_;refine aG ?_;simp only[RR,seval];simp only[B,F,I,RR,seval];apply d;clear d K;refine aG ?_;simp only[y,RR,seval];refine gC (Wa s k g j b _ _ _ n) (fJ.refl _) (fun _=>trivial) fun v M ⟨R,N,Q⟩=>?_;subst R;simp only[bL,cG,RR,seval];refine aG ?_;simp only[RR,seval];simp only[B,bL,RR,seval];rw[aT _ (by omega)];refine O (f.params.length-(k+1)) _ _ (by omega) ⟨k+1,rfl,by omega,rfl,F,E,o,t,u,y,Q b1 _ (zX n l (by decide)) l,by rw[D,tI];exact N⟩
  refine cC ?_;simp only[bL,cG,reduceIte];have P:k=f.params.length:=by have:=aH A;omega
  clear A;subst P;rw[cZ]at n;exact d _ _ ⟨o,t,u,y,l,n⟩
 rintro c H ⟨o,t,u,y,l,n⟩;refine cI (fun c H=>c 1= .ptr 5 b1 0 0∧c 4= .ptr 1 g 0 0∧c 5= .ptr 1 j 0 0∧c 6= .fn (.func 128) [] [.ptr 1 g 0 0, .ptr 1 j 0 0]∧H b1=some (.rows 5 [[.str f.name, .isl 1 (f.params.map bH), .isl 1 (f.locs.map bH), .bool f.word, .isl 5 (f.body.map Sm.row)]])∧uG g j b (rJ (oJ 1 0 (f.params++f.locs))).1 (rJ (oJ 1 0 (f.params++f.locs))).2 H) (fun K d=>?_) ?_
 ·refine aC fun K d=>?_;refine aG ?_;simp only[RR,seval]
  simp only[o,l,aE,RR,seval];apply d;clear d K;refine aN ?_;refine eK (fun L c H=> ∃k:Nat,L=f.locs.length-k∧k≤f.locs.length∧c 29= .int .i64 k∧c 27= .isl 1 (f.locs.map bH)∧c 28= .int .i64 f.locs.length∧c 1= .ptr 5 b1 0 0∧c 4= .ptr 1 g 0 0∧c 5= .ptr 1 j 0 0∧c 6= .fn (.func 128) [] [.ptr 1 g 0 0, .ptr 1 j 0 0]∧H b1=some (.rows 5 [[.str f.name, .isl 1 (f.params.map bH), .isl 1 (f.locs.map bH), .bool f.word, .isl 5 (f.body.map Sm.row)]])∧uG g j b (rJ (oJ 1 0 (f.params++f.locs.take k))).1 (rJ (oJ 1 0 (f.params++f.locs.take k))).2 H) (f.locs.length) ⟨0,rfl,cM _,rfl,rfl,rfl,o,t,u,y,l,by rw[fX,dO];exact n⟩ ?_;rintro L c H ⟨k,rfl,a1,B,F,E,o,t,u,y,l,n⟩ Y O;refine aC fun K d=>?_;refine aG ?_;simp only[RR,seval];simp only[B,E,RR,seval];apply d;clear d K;refine aI ?_;refine aX ?_ ?_<;>intro A
  ·have J:k<f.locs.length:=by have:=aF A;omega
   clear A;refine aL ?_;simp only[bL];refine aI ?_;refine aN ?_;have I:=Wt (aD J);have D:=Q5 1 f.params f.locs k J;have w1:IntKind.wrap .i64 ((f.params.length:Int)+k)=((f.params.length+k:Nat):Int):=by rw[aT _ (by omega)];omega
   generalize f.locs[k]=s at I D;refine aC fun K d=>?_;refine aG ?_;simp only[RR,seval];simp only[B,F,I,RR,seval];apply d;clear d K;refine aG ?_;simp only[y,o,l,w1,aE,RR,seval];refine gC (Wa s ((f.params.length+k:Nat):Int) g j b _ _ _ n) (fJ.refl _) (fun _=>trivial) fun v M ⟨R,N,Q⟩=>?_;subst R;simp only[bL,cG,RR,seval];refine aG ?_;simp only[RR,seval];simp only[B,bL,RR,seval];rw[aT _ (by omega)];refine O (f.locs.length-(k+1)) _ _ (by omega) ⟨k+1,rfl,by omega,rfl,F,E,o,t,u,y,Q b1 _ (zX n l (by decide)) l,by rw[D,tI];exact N⟩
  refine cC ?_;simp only[bL,cG,reduceIte];have P:k=f.locs.length:=by have:=aH A;omega
  clear A;subst P;rw[cZ]at n;exact d _ _ ⟨o,t,u,y,l,n⟩
 rintro c H ⟨o,t,u,y,l,n⟩;rw[←W]at n;obtain⟨i1,i2,i3⟩:=n;refine aC fun K d=>?_;refine fS (fun x=>x≠g∧x≠j) [(0,true),(1,true),(2,true),(3,true)] eP (by kernel_rfl) rfl ?_;simp only[sZ,t,u,i1,i2,RR,seval];apply d;clear d K;refine aO ?_;simp only[aY,aK,bR,RR,seval];exact aZ.whole ⟨b,rfl,i3⟩
def uL (mo mi:List Th) (s:dC):Int×Int:=match jT mi s with |some r=>r|none=>match jT mo s with |some r=>r|none=>(0, -1)
theorem IC (mo mi:List Th) (bo bi:Nat) (s:dC) (H:Hp) (X:H bo=some (.amap (mo.map Ib))) (hi:H bi=some (.amap (mi.map Ib))):
  pK dN 89 [.agg [.mp bo, .mp bi], .str s] H (fun ae C=> ∃v,ae= .ret v∧(v=Yw (uL mo mi s).1 (uL mo mi s).2∧keeps (fun _=>False) H C)):=by
 obtain⟨P,a4,I⟩:=rF s mi 0;obtain⟨Q,a5,J⟩:=rF s mo 0;refine bX 28 [.cell 4 149] func89 ?_;refine cI (fun L C=> ∃j b,L 1= .str s∧L 2= .ptr 2 j 0 0∧L 4= .ptr 2 b 0 0∧C j=some (.rows 2 [[.mp bo, .mp bi]])∧C b=some (.rows 2 [[.int .i64 0, .int .i64 0]])∧H b=none∧keeps (fun _=>False) H C∧j≠b) (fun K c=>?_) ?_
 ·refine aG ?_;simp only[RR,seval]
  refine aQ fun j a1=>?_;simp only[RR,seval];refine aQ fun b S=>?_;simp only[RR,seval];have N:j≠b:=fun e=>by rw[←e,bG]at S;cases S
  have a3:b≠j:=fun e=>N e.symm;have l:H b=none:=by simpa only[upd,aM a3]using S
  refine c _ _ ⟨j,b,rfl,rfl,rfl,by simp [upd,N],bG _ _ _,l, ?_,N⟩;exact((keeps.refl _ H).new a1 _).new l _
 rintro L H1 ⟨j,b,f1,f2,A,R,l,a2,M,N⟩;have T: ∀(d:Hp) o,keeps (fun _=>False) H d→keeps (fun _=>False) H (upd d b o):=fun d o h=>h.new a2 o;have Y:=M _ _ (fun h=>h) hi;have ko:=M _ _ (fun h=>h) X
 cases hl:jT mi s with
 |some q=>
  have F:uL mo mi s=q:=by simp only[uL,hl]
  rw[F];rw[hl]at I
  obtain⟨p,rfl,hp⟩: ∃p,P=some p∧p.2=Yw q.1 q.2:=by
   cases P with
   |none=>simp at I
   |some p=>exact⟨p,rfl,by simpa using I⟩
  refine aI ?_;refine aC fun K c=>?_;refine aG ?_;simp only[RR,seval];simp only[*,Y,Yw,iW,RR,seval];refine aQ fun b6 B=>?_;simp only[RR,seval];apply c;have O:b≠b6:=fun e=>by rw[e,B]at l;cases l
  have a6:b6≠b:=fun e=>O e.symm;have V:(upd (upd H1 b6 (some (.rows 2 [[.int .i64 0, .int .i64 0]]))) b6 (some (.rows 2 [[.int .i64 q.1, .int .i64 q.2]]))) b6=some (.rows 2 [[.int .i64 q.1, .int .i64 q.2]]):=bG _ _ _;have k:(upd (upd H1 b6 (some (.rows 2 [[.int .i64 0, .int .i64 0]]))) b6 (some (.rows 2 [[.int .i64 q.1, .int .i64 q.2]]))) b=some (.rows 2 [[.int .i64 0, .int .i64 0]]):=by simp only[upd,aM O];exact l
  have x:keeps (fun _=>False) H (upd (upd H1 b6 (some (.rows 2 [[.int .i64 0, .int .i64 0]]))) b6 (some (.rows 2 [[.int .i64 q.1, .int .i64 q.2]]))):=by
   intro g z _ y;have f:=M g z (fun h=>h) y;have :g≠b6:=fun e=>by rw[e,B]at f;cases f
   simp only[upd,aM this];exact f
  generalize(upd (upd H1 b6 (some (.rows 2 [[.int .i64 0, .int .i64 0]]))) b6 (some (.rows 2 [[.int .i64 q.1, .int .i64 q.2]])))=d at V k x⊢;refine aC fun K c=>?_;refine aG ?_;simp only[RR,seval];refine c _ _ (cL ?_);refine aC fun K c=>?_;refine aG ?_;simp only[RR,seval];simp only[A,V,k,RR,seval];refine c _ _ (aO ?_);have u:upd d b (some (.rows 2 [[.int .i64 q.1, .int .i64 q.2]])) b=some (.rows 2 [[.int .i64 q.1, .int .i64 q.2]]):=bG _ _ _;have t:=T d (some (.rows 2 [[.int .i64 q.1, .int .i64 q.2]])) x;generalize upd d b (some (.rows 2 [[.int .i64 q.1, .int .i64 q.2]]))=n at u t⊢;simp only[bL,aY,aK,bR,A,u,RR,seval];exact aZ.whole ⟨rfl,t⟩
 |none=>
  rw[hl]at I;obtain rfl:P=none:=by cases P with |none=>rfl|some p=>simp at I
  refine aI ?_;refine aC fun K c=>?_;refine aG ?_;simp only[RR,seval];simp only[*,Y,iY,RR,seval];refine aQ fun b6 B=>?_;simp only[RR,seval];apply c;have O:b≠b6:=fun e=>by rw[e,B]at l;cases l
  have n2:j≠b6:=fun e=>by rw[e,B]at R;cases R
  have k:(upd (upd H1 b6 (some (.rows 2 [[.int .i64 0, .int .i64 0]]))) b6 (some (.rows 2 [[.int .i64 0, .int .i64 0]]))) b=some (.rows 2 [[.int .i64 0, .int .i64 0]]):=by simp only[upd,aM O];exact l
  have a0:(upd (upd H1 b6 (some (.rows 2 [[.int .i64 0, .int .i64 0]]))) b6 (some (.rows 2 [[.int .i64 0, .int .i64 0]]))) j=some (.rows 2 [[.mp bo, .mp bi]]):=by simp only[upd,aM n2];exact R
  have x:keeps (fun _=>False) H (upd (upd H1 b6 (some (.rows 2 [[.int .i64 0, .int .i64 0]]))) b6 (some (.rows 2 [[.int .i64 0, .int .i64 0]]))):=by
   intro g z _ y;have f:=M g z (fun h=>h) y;have :g≠b6:=fun e=>by rw[e,B]at f;cases f
   simp only[upd,aM this];exact f
  generalize(upd (upd H1 b6 (some (.rows 2 [[.int .i64 0, .int .i64 0]]))) b6 (some (.rows 2 [[.int .i64 0, .int .i64 0]])))=d at k a0 x⊢;refine aC fun K c=>?_;refine aG ?_;simp only[RR,seval];refine c _ _ (bN ?_);refine aL ?_;simp only[bL];have Z:=x _ _ (fun h=>h) X
  cases hlo:jT mo s with
  |some q=>
   have F:uL mo mi s=q:=by simp only[uL,hl,hlo]
   rw[F];rw[hlo]at J
   obtain⟨p,rfl,hp⟩: ∃p,Q=some p∧p.2=Yw q.1 q.2:=by
    cases Q with
    |none=>simp at J
    |some p=>exact⟨p,rfl,by simpa using J⟩
   refine aI ?_;refine aC fun K c=>?_;refine aG ?_;simp only[RR,seval];simp only[*,Z,Yw,iW,RR,seval];refine aQ fun b7 G=>?_;simp only[RR,seval];apply c;have U:b≠b7:=fun e=>by rw[e,G]at k;cases k
   have W:(upd (upd d b7 (some (.rows 2 [[.int .i64 0, .int .i64 0]]))) b7 (some (.rows 2 [[.int .i64 q.1, .int .i64 q.2]]))) b7=some (.rows 2 [[.int .i64 q.1, .int .i64 q.2]]):=bG _ _ _;have D:(upd (upd d b7 (some (.rows 2 [[.int .i64 0, .int .i64 0]]))) b7 (some (.rows 2 [[.int .i64 q.1, .int .i64 q.2]]))) b=some (.rows 2 [[.int .i64 0, .int .i64 0]]):=by simp only[upd,aM U];exact k
   have E:keeps (fun _=>False) H (upd (upd d b7 (some (.rows 2 [[.int .i64 0, .int .i64 0]]))) b7 (some (.rows 2 [[.int .i64 q.1, .int .i64 q.2]]))):=by
    intro g z _ y;have f:=x g z (fun h=>h) y;have :g≠b7:=fun e=>by rw[e,G]at f;cases f
    simp only[upd,aM this];exact f
   generalize(upd (upd d b7 (some (.rows 2 [[.int .i64 0, .int .i64 0]]))) b7 (some (.rows 2 [[.int .i64 q.1, .int .i64 q.2]])))=n at W D E⊢;refine aC fun K c=>?_;refine aG ?_;simp only[RR,seval];refine c _ _ (cL ?_);refine aC fun K c=>?_;refine aG ?_;simp only[RR,seval];simp only[A,W,D,RR,seval];refine c _ _ (aO ?_);have u:upd n b (some (.rows 2 [[.int .i64 q.1, .int .i64 q.2]])) b=some (.rows 2 [[.int .i64 q.1, .int .i64 q.2]]):=bG _ _ _;have t:=T n (some (.rows 2 [[.int .i64 q.1, .int .i64 q.2]])) E;generalize upd n b (some (.rows 2 [[.int .i64 q.1, .int .i64 q.2]]))=H4 at u t⊢;simp only[bL,aY,aK,bR,A,u,RR,seval];exact aZ.whole ⟨rfl,t⟩
  |none=>
   have F:uL mo mi s=(0, -1):=by simp only[uL,hl,hlo]
   rw[F];rw[hlo]at J;obtain rfl:Q=none:=by cases Q with |none=>rfl|some p=>simp at J
   refine aI ?_;refine aC fun K c=>?_;refine aG ?_;simp only[RR,seval];simp only[*,Z,iY,RR,seval];refine aQ fun b7 G=>?_;simp only[RR,seval];apply c;have U:b≠b7:=fun e=>by rw[e,G]at k;cases k
   have D:(upd (upd d b7 (some (.rows 2 [[.int .i64 0, .int .i64 0]]))) b7 (some (.rows 2 [[.int .i64 0, .int .i64 0]]))) b=some (.rows 2 [[.int .i64 0, .int .i64 0]]):=by simp only[upd,aM U];exact k
   have E:keeps (fun _=>False) H (upd (upd d b7 (some (.rows 2 [[.int .i64 0, .int .i64 0]]))) b7 (some (.rows 2 [[.int .i64 0, .int .i64 0]]))):=by
    intro g z _ y;have f:=x g z (fun h=>h) y;have :g≠b7:=fun e=>by rw[e,G]at f;cases f
    simp only[upd,aM this];exact f
   generalize(upd (upd d b7 (some (.rows 2 [[.int .i64 0, .int .i64 0]]))) b7 (some (.rows 2 [[.int .i64 0, .int .i64 0]])))=n at D E⊢;refine aC fun K c=>?_;refine aG ?_;simp only[RR,seval];refine c _ _ (bN ?_);refine aL ?_;simp only[bL];refine aC fun K c=>?_;refine aG ?_;simp only[RR,seval];simp only[A,D,RR,seval];refine c _ _ (aO ?_);have u:upd n b (some (.rows 2 [[.int .i64 0, .int .i64 (-1)]])) b=some (.rows 2 [[.int .i64 0, .int .i64 (-1)]]):=bG _ _ _;have t:=T n (some (.rows 2 [[.int .i64 0, .int .i64 (-1)]])) E;generalize upd n b (some (.rows 2 [[.int .i64 0, .int .i64 (-1)]]))=H4 at u t⊢;simp only[aY,aK,bR,A,u,RR,seval];exact aZ.whole ⟨rfl,t⟩
def PP (u:Us):AV:= .agg [.int .i64 (if u.kind=1 then 2 else u.kind), .str u.name, .int .i64 u.num]
structure VP (σ:Type) (g:FuncId) (caps:List AV) where
 D:σ→Hp→Prop
 step:σ→Us→σ
 M:Nat→Prop
 spec: ∀s H u,(u.kind=1∨u.kind=3∨u.kind=4)→D s H→pK dN g (PP u::caps) H (fun ae H'=> ∃v,ae= .ret v∧(v= .tup []∧D (step s u) H'∧keeps M H H'))
 ext: ∀s H H',D s H→keeps (fun _=>False) H H'→D s H'
 old: ∀s H,D s H→ ∀b,M b→H b≠none
theorem Zg {σ:Type} {g:FuncId} {U:List AV} (V:VP σ g U) (F b5:Nat) (X: ¬V.M F) (Y: ¬V.M b5) (n:Nat): ∀l:List Ex,pM l=n→Ae l→ ∀(s:σ) (H:Hp),H F=some (.rows 1 [[.fn (.func g) [] U]])→H b5=some (.rows 1 [[.fn (.func 129) [] [.ptr 1 F 0 0, .ptr 1 b5 0 0]]])→V.D s H→
  pK dN 129 [.isl 5 (l.map Ex.row), .ptr 1 F 0 0, .ptr 1 b5 0 0] H (fun ae E=> ∃v,ae= .ret v∧(v= .tup []∧V.D ((fE l).foldl V.step s) E∧keeps V.M H E)):=by
 induction n using Nat.strongRecOn with
 |_ n ih=>
  intro l hn a0 s P i3 i5 hD;have a7:l.length≤9223372036854775807:=a0.fit;refine bX 43 [] func129 ?_;refine aC fun K b=>?_;refine aG ?_;simp only[RR,seval];simp only[aE,seval];apply b;clear b K;refine aN ?_;refine eK (fun mm d H=> ∃k:Nat,mm=l.length-k∧k≤l.length∧d 8= .int .i64 k∧d 1= .ptr 1 F 0 0∧d 2= .ptr 1 b5 0 0∧d 6= .isl 5 (l.map Ex.row)∧d 7= .int .i64 l.length∧V.D ((fE (l.take k)).foldl V.step s) H∧keeps V.M P H) (l.length) ⟨0,rfl,cM _,rfl,rfl,rfl,rfl,rfl,by simpa [fE]using hD,keeps.refl _ _⟩ ?_;rintro mm d H ⟨k,rfl,a8,u,t,x,z,y,L,O⟩ K2 a4;refine aC fun K b=>?_;refine aG ?_;simp only[RR,seval];simp only[u,y,RR,seval];apply b;clear b K;refine aI ?_;refine aX ?_ ?_<;>intro c
  ·have S:k<l.length:=by have:=aF c;omega
   clear c;refine aL ?_;simp only[bL];refine aI ?_;refine aN ?_;have W:=pR (aD S);have Z:=bV S;have a1:=a0.all _ Z;have a6:=mK Z;have a2:=Fg S;generalize l[k]=e at W a2 a1 a6;have a9:=e.sz_eq;have C:=O _ _ X i3;have I:=O _ _ Y i5;refine aC fun K b=>?_;refine aG ?_;simp only[RR,seval];simp only[u,z,W,RR,seval];refine aQ fun f Q=>?_;simp only[RR,seval];apply b;clear b K;have T: ¬V.M f:=fun hm=>V.old _ _ L f hm Q;have j:(upd (upd H f (some (.rows 5 [[.int .i64 0, .int .i64 0, .int .u32 0, .str [], .nsl]]))) f (some (.rows 5 [[.int .i64 e.kind, .int .i64 e.op, .int .u32 e.num, .str e.name, .isl 5 (e.kids.map Ex.row)]]))) f=some (.rows 5 [[.int .i64 e.kind, .int .i64 e.op, .int .u32 e.num, .str e.name, .isl 5 (e.kids.map Ex.row)]]):=bG _ _ _;have G:keeps (fun _=>False) H (upd (upd H f (some (.rows 5 [[.int .i64 0, .int .i64 0, .int .u32 0, .str [], .nsl]]))) f (some (.rows 5 [[.int .i64 e.kind, .int .i64 e.op, .int .u32 e.num, .str e.name, .isl 5 (e.kids.map Ex.row)]]))):=((keeps.refl _ H).new Q _).new Q _;generalize(upd (upd H f (some (.rows 5 [[.int .i64 0, .int .i64 0, .int .u32 0, .str [], .nsl]]))) f (some (.rows 5 [[.int .i64 e.kind, .int .i64 e.op, .int .u32 e.num, .str e.name, .isl 5 (e.kids.map Ex.row)]])))=H1 at j G⊢;have J:=V.ext _ _ _ L G;have N:keeps V.M P H1:=O.trans (G.mono fun _ h=>h.elim);have C:=G _ _ (fun h=>h) C;have I:=G _ _ (fun h=>h) I;refine cI (fun d H=>d 1= .ptr 1 F 0 0∧d 2= .ptr 1 b5 0 0∧d 6= .isl 5 (l.map Ex.row)∧d 7= .int .i64 l.length∧d 8= .int .i64 k∧d 5= .ptr 5 f 0 0∧H f=some (.rows 5 [[.int .i64 e.kind, .int .i64 e.op, .int .u32 e.num, .str e.name, .isl 5 (e.kids.map Ex.row)]])∧V.D ((fE (l.take k)++mO e).foldl V.step s) H∧keeps V.M P H) (fun K b=>?_) ?_
   ·refine aC fun K b=>?_;refine aG ?_;simp only[RR,seval]
    simp only[j,RR,seval];apply b;clear b K;refine aN ?_;refine aC fun K b=>?_;refine aG ?_;simp only[RR,seval];apply b;clear b K;by_cases k1:e.kind=2
    ·refine dS true (congrArg AV.bool (cO k1)) (fun _=>?_) (fun c=>by cases c)
     refine aG ?_;simp only[t,C,j,RR,seval];refine gC (V.spec ((fE (l.take k)).foldl V.step s) H1 ⟨e.name,1,0⟩ (by simp) J) (fJ.refl _) (fun _=>trivial) fun v E ⟨B,A,o⟩=>?_;subst B;simp only[bL,cG,RR,seval];refine b _ _ ⟨t,x,z,y,u,rfl,o _ _ T j, ?_,N.trans o⟩;rw[show mO e=[⟨e.name,1,0⟩]by simp [mO,k1],kR];exact A
    refine dS false (congrArg AV.bool (bD k1)) (fun c=>by cases c) (fun _=>?_);refine aC fun K b=>?_;refine aG ?_;simp only[RR,seval];apply b;clear b K;by_cases k3:e.kind=3
    ·refine dS true (congrArg AV.bool (cO k3)) (fun _=>?_) (fun c=>by cases c)
     refine aG ?_;simp only[t,C,j,RR,seval];refine gC (V.spec ((fE (l.take k)).foldl V.step s) H1 ⟨e.name,3,0⟩ (by simp) J) (fJ.refl _) (fun _=>trivial) fun v E ⟨B,A,o⟩=>?_;subst B;simp only[bL,cG,RR,seval];refine b _ _ ⟨t,x,z,y,u,rfl,o _ _ T j, ?_,N.trans o⟩;rw[show mO e=[⟨e.name,3,0⟩]by simp [mO,k3],kR];exact A
    refine dS false (congrArg AV.bool (bD k3)) (fun c=>by cases c) (fun _=>?_);refine aC fun K b=>?_;refine aG ?_;simp only[RR,seval];apply b;clear b K;by_cases k4:e.kind=4
    ·refine dS true (congrArg AV.bool (cO k4)) (fun _=>?_) (fun c=>by cases c)
     refine aG ?_;simp only[t,C,j,aE,RR,seval];refine gC (V.spec ((fE (l.take k)).foldl V.step s) H1 ⟨e.name,4,e.kids.length⟩ (by simp) J) (fJ.refl _) (fun _=>trivial) fun v E ⟨B,A,o⟩=>?_;subst B;simp only[bL,cG,RR,seval];refine b _ _ ⟨t,x,z,y,u,rfl,o _ _ T j, ?_,N.trans o⟩;rw[show mO e=[⟨e.name,4,e.kids.length⟩]by simp [mO,k4],kR];exact A
    refine dS false (congrArg AV.bool (bD k4)) (fun c=>by cases c) (fun _=>?_);refine aL ?_;simp only[bL,cG];refine b _ _ ⟨t,x,z,y,u,rfl,j, ?_,N⟩;rw[show mO e=[]by simp [mO,k1,k3,k4],dO];exact J
   rintro d H2 ⟨t,x,z,y,u,fx,j,a3,R⟩;have C:=R _ _ X i3;have I:=R _ _ Y i5;refine aG ?_;simp only[x,fx,j,I,RR,seval];refine gC (ih _ (by omega) e.kids rfl a1.kids _ H2 C I a3) (fJ.refl _) (fun _=>trivial) fun v E ⟨B,A,o⟩=>?_;subst B;simp only[bL,cG,RR,seval];refine aG ?_;simp only[RR,seval];simp only[u,bL,RR,seval];rw[aT _ (by omega)];refine a4 (l.length-(k+1)) _ _ (by omega) ⟨k+1,rfl,by omega,rfl,t,x,z,y,by rw[a2,←bQ,kR];exact A,R.trans o⟩
  refine cC ?_;simp only[bL,cG,reduceIte];have a5:k=l.length:=by have:=aH c;omega
  clear c;subst a5;rw[cZ]at L;simp only[aY,aK,bR];exact aZ.whole ⟨rfl,L,O⟩
theorem Zf {σ:Type} {g:FuncId} {a3:List AV} (V:VP σ g a3) (A b5 L:Nat) (R: ¬V.M A) (S: ¬V.M b5) (Z: ¬V.M L) (n:Nat): ∀l:List Sm,mQ l=n→xH l→ ∀(s:σ) (H:Hp),H A=some (.rows 1 [[.fn (.func g) [] a3]])→H b5=some (.rows 1 [[.fn (.func 129) [] [.ptr 1 A 0 0, .ptr 1 b5 0 0]]])→H L=some (.rows 1 [[.fn (.func 130) [] [.ptr 1 A 0 0, .ptr 1 b5 0 0, .ptr 1 L 0 0]]])→V.D s H→
  pK dN 130 [.isl 5 (l.map Sm.row), .ptr 1 A 0 0, .ptr 1 b5 0 0, .ptr 1 L 0 0] H (fun ae J=> ∃v,ae= .ret v∧(v= .tup []∧V.D ((dY l).foldl V.step s) J∧keeps V.M H J)):=by
 induction n using Nat.strongRecOn with
 |_ n ih=>
  intro l hn a5 s H0 i3 i5 i4 hD;have b9:l.length≤9223372036854775807:=a5.fit;refine bX 52 [] func130 ?_;refine aC fun K b=>?_;refine aG ?_;simp only[RR,seval];simp only[aE,seval];apply b;clear b K;refine aN ?_;refine eK (fun mm d H=> ∃k:Nat,mm=l.length-k∧k≤l.length∧d 9= .int .i64 k∧d 1= .ptr 1 A 0 0∧d 2= .ptr 1 b5 0 0∧d 3= .ptr 1 L 0 0∧d 7= .isl 5 (l.map Sm.row)∧d 8= .int .i64 l.length∧V.D ((dY (l.take k)).foldl V.step s) H∧keeps V.M H0 H) (l.length) ⟨0,rfl,cM _,rfl,rfl,rfl,rfl,rfl,rfl,by simpa [dY]using hD,keeps.refl _ _⟩ ?_;rintro mm d H ⟨k,rfl,c0,C,z,E,B,G,F,W,O⟩ K2 b0;refine aC fun K b=>?_;refine aG ?_;simp only[RR,seval];simp only[C,F,RR,seval];apply b;clear b K;refine aI ?_;refine aX ?_ ?_<;>intro f
  ·have a2:k<l.length:=by have:=aF f;omega
   clear f;refine aL ?_;simp only[bL];refine aI ?_;refine aN ?_;have hg:=Hr (aD a2);have a4:=bV a2;have a0:=a5.all _ a4;have b8:=lI a4;have a6:=Ff a2;generalize l[k]=e at hg a6 a0 b8;have c1:=e.sz_eq;have j:=O _ _ R i3;have x:=O _ _ S i5;have u:=O _ _ Z i4;refine aC fun K b=>?_;refine aG ?_;simp only[RR,seval];simp only[C,G,hg,RR,seval];refine aQ fun o a1=>?_;simp only[RR,seval];apply b;clear b K;have T: ¬V.M o:=fun hm=>V.old _ _ W o hm a1;have c:(upd (upd H o (some (.rows 5 [[.int .i64 0, .str [], .nsl, .nsl, .nsl]]))) o (some (.rows 5 [[.int .i64 e.kind, .str e.name, .isl 5 (e.es.map Ex.row), .isl 5 (e.thn.map Sm.row), .isl 5 (e.els.map Sm.row)]]))) o=some (.rows 5 [[.int .i64 e.kind, .str e.name, .isl 5 (e.es.map Ex.row), .isl 5 (e.thn.map Sm.row), .isl 5 (e.els.map Sm.row)]]):=bG _ _ _;have N:keeps (fun _=>False) H (upd (upd H o (some (.rows 5 [[.int .i64 0, .str [], .nsl, .nsl, .nsl]]))) o (some (.rows 5 [[.int .i64 e.kind, .str e.name, .isl 5 (e.es.map Ex.row), .isl 5 (e.thn.map Sm.row), .isl 5 (e.els.map Sm.row)]]))):=((keeps.refl _ H).new a1 _).new a1 _;generalize(upd (upd H o (some (.rows 5 [[.int .i64 0, .str [], .nsl, .nsl, .nsl]]))) o (some (.rows 5 [[.int .i64 e.kind, .str e.name, .isl 5 (e.es.map Ex.row), .isl 5 (e.thn.map Sm.row), .isl 5 (e.els.map Sm.row)]])))=H1 at c N⊢;have U:=V.ext _ _ _ W N;have X:keeps V.M H0 H1:=O.trans (N.mono fun _ h=>h.elim);have j:=N _ _ (fun h=>h) j;have x:=N _ _ (fun h=>h) x;have u:=N _ _ (fun h=>h) u;refine cI (fun d H=>d 1= .ptr 1 A 0 0∧d 2= .ptr 1 b5 0 0∧d 3= .ptr 1 L 0 0∧d 7= .isl 5 (l.map Sm.row)∧d 8= .int .i64 l.length∧d 9= .int .i64 k∧d 6= .ptr 5 o 0 0∧H o=some (.rows 5 [[.int .i64 e.kind, .str e.name, .isl 5 (e.es.map Ex.row), .isl 5 (e.thn.map Sm.row), .isl 5 (e.els.map Sm.row)]])∧V.D ((dY (l.take k)++kI e).foldl V.step s) H∧keeps V.M H0 H) (fun K b=>?_) ?_
   ·refine aC fun K b=>?_;refine aG ?_;simp only[RR,seval]
    simp only[c,RR,seval];apply b;clear b K;refine aN ?_;refine aC fun K b=>?_;refine aG ?_;simp only[RR,seval];apply b;clear b K;by_cases k1:e.kind=1
    ·refine dS true (congrArg AV.bool (cO k1)) (fun _=>?_) (fun f=>by cases f)
     refine aG ?_;simp only[z,j,c,RR,seval];refine gC (V.spec ((dY (l.take k)).foldl V.step s) H1 ⟨e.name,1,0⟩ (by simp) U) (fJ.refl _) (fun _=>trivial) fun v J ⟨t,I,y⟩=>?_;subst t;simp only[bL,cG,RR,seval];refine b _ _ ⟨z,E,B,G,F,C,rfl,y _ _ T c, ?_,X.trans y⟩;rw[show kI e=[⟨e.name,1,0⟩]by simp [kI,k1],kR];exact I
    refine dS false (congrArg AV.bool (bD k1)) (fun f=>by cases f) (fun _=>?_);refine aC fun K b=>?_;refine aG ?_;simp only[RR,seval];apply b;clear b K;by_cases k3:e.kind=2
    ·refine dS true (congrArg AV.bool (cO k3)) (fun _=>?_) (fun f=>by cases f)
     refine aG ?_;simp only[z,j,c,RR,seval];refine gC (V.spec ((dY (l.take k)).foldl V.step s) H1 ⟨e.name,3,0⟩ (by simp) U) (fJ.refl _) (fun _=>trivial) fun v J ⟨t,I,y⟩=>?_;subst t;simp only[bL,cG,RR,seval];refine b _ _ ⟨z,E,B,G,F,C,rfl,y _ _ T c, ?_,X.trans y⟩;rw[show kI e=[⟨e.name,3,0⟩]by simp [kI,k3],kR];exact I
    refine dS false (congrArg AV.bool (bD k3)) (fun f=>by cases f) (fun _=>?_);refine aC fun K b=>?_;refine aG ?_;simp only[RR,seval];apply b;clear b K;by_cases k4:e.kind=6
    ·refine dS true (congrArg AV.bool (cO k4)) (fun _=>?_) (fun f=>by cases f)
     refine aG ?_;simp only[z,j,c,aE,RR,seval];refine gC (V.spec ((dY (l.take k)).foldl V.step s) H1 ⟨e.name,4,e.es.length⟩ (by simp) U) (fJ.refl _) (fun _=>trivial) fun v J ⟨t,I,y⟩=>?_;subst t;simp only[bL,cG,RR,seval];refine b _ _ ⟨z,E,B,G,F,C,rfl,y _ _ T c, ?_,X.trans y⟩;rw[show kI e=[⟨e.name,4,e.es.length⟩]by simp [kI,k4],kR];exact I
    refine dS false (congrArg AV.bool (bD k4)) (fun f=>by cases f) (fun _=>?_);refine aL ?_;simp only[bL,cG];refine b _ _ ⟨z,E,B,G,F,C,rfl,c, ?_,X⟩;rw[show kI e=[]by simp [kI,k1,k3,k4],dO];exact U
   rintro d H2 ⟨z,E,B,G,F,C,fx,c,a7,Y⟩;have j:=Y _ _ R i3;have x:=Y _ _ S i5;have u:=Y _ _ Z i4;refine aC fun K b=>?_;refine aG ?_;simp only[RR,seval];simp only[E,fx,c,x,RR,seval];refine gC (Zg V A b5 R S _ e.es rfl a0.es _ H2 j x a7) (fJ.refl _) (fun _=>trivial) fun v H3 ⟨t,a8,P⟩=>?_;subst t;simp only[RR,seval];apply b;clear b K;have c:=P _ _ T c;have j:=P _ _ R j;have x:=P _ _ S x;have u:=P _ _ Z u;refine aC fun K b=>?_;refine aG ?_;simp only[RR,seval];simp only[B,fx,c,u,RR,seval];refine gC (ih _ (by omega) e.thn rfl a0.thn _ H3 j x u a8) (fJ.refl _) (fun _=>trivial) fun v H4 ⟨t,a9,Q⟩=>?_;subst t;simp only[RR,seval];apply b;clear b K;have c:=Q _ _ T c;have j:=Q _ _ R j;have x:=Q _ _ S x;have u:=Q _ _ Z u;refine aG ?_;simp only[B,fx,c,u,RR,seval];refine gC (ih _ (by omega) e.els rfl a0.els _ H4 j x u a9) (fJ.refl _) (fun _=>trivial) fun v J ⟨t,I,y⟩=>?_;subst t;simp only[bL,cG,RR,seval];refine aG ?_;simp only[RR,seval];simp only[C,bL,RR,seval];rw[aT _ (by omega)];refine b0 (l.length-(k+1)) _ _ (by omega) ⟨k+1,rfl,by omega,rfl,z,E,B,G,F,by rw[a6,←bQ,←bQ,←bQ,kR,kR,kR];exact I,((Y.trans P).trans Q).trans y⟩
  refine cC ?_;simp only[bL,cG,reduceIte];have b2:k=l.length:=by have:=aH f;omega
  clear f;subst b2;rw[cZ]at W;simp only[aY,aK,bR];exact aZ.whole ⟨rfl,W,O⟩
theorem Q2 {σ:Type} {g:FuncId} {z:List AV} (V:VP σ g z) (f:Fu) (hf:f.ok) (s:σ) (H:Hp) (N:V.D s H):
  pK dN 87 [.agg f.row, .fn (.func g) [] z] H (fun ae j=> ∃v,ae= .ret v∧(v= .tup []∧V.D ((dY f.body).foldl V.step s) j∧keeps V.M H j)):=by
 refine bX 12 [] func87 ?_;simp only[Fu.row];refine cI (fun l j=> ∃k c,l 2= .ptr 5 k 0 0∧l 3= .ptr 1 c 0 0∧j k=some (.rows 5 [[.str f.name, .isl 1 (f.params.map bH), .isl 1 (f.locs.map bH), .bool f.word, .isl 5 (f.body.map Sm.row)]])∧j c=some (.rows 1 [[.fn (.func g) [] z]])∧H k=none∧H c=none∧keeps (fun _=>False) H j∧V.D s j) (fun K n=>?_) ?_
 ·refine aG ?_;simp only[RR,seval]
  refine aQ fun k W=>?_;simp only[RR,seval];refine aQ fun c P=>?_;simp only[RR,seval];have X:k≠c:=fun e=>by rw[←e,bG]at P;cases P
  have b8:c≠k:=fun e=>X e.symm;have t:H c=none:=by simpa only[upd,aM b8]using P
  have y:keeps (fun _=>False) H (upd (upd H k (some (.rows 5 [[.str f.name, .isl 1 (f.params.map bH), .isl 1 (f.locs.map bH), .bool f.word, .isl 5 (f.body.map Sm.row)]]))) c (some (.rows 1 [[.fn (.func g) [] z]]))):=((keeps.refl _ H).new W _).new t _;exact n _ _ ⟨k,c,rfl,rfl,by simp [upd,X],bG _ _ _,W,t,y,V.ext _ _ _ N y⟩
 rintro l H1 ⟨k,c,A,x,B,t,n2,n3,y,c0⟩;have O: ∀b,V.M b→H b≠none:=V.old s H N;refine cI (fun l j=> ∃d,l 2= .ptr 5 k 0 0∧l 3= .ptr 1 c 0 0∧l 4= .ptr 1 d 0 0∧j d=some (.rows 1 [[.nfn]])∧H d=none∧H1 d=none∧keeps (fun _=>False) H1 j) (fun K n=>?_) ?_
 ·refine aG ?_;simp only[RR,seval]
  refine aQ fun d Q=>?_;simp only[RR,seval]
  have C:H d=none:=by
   cases e:H d with
   |none=>rfl
   |some o=>have:=y _ _ (fun h=>h) e;rw[Q]at this;cases this
  exact n _ _ ⟨d,A,x,rfl,bG _ _ _,C,Q,(keeps.refl _ H1).new Q _⟩
 rintro l J ⟨d,A,x,E,C,n4,a0,G⟩;refine cI (fun l j=> ∃b5,l 2= .ptr 5 k 0 0∧l 3= .ptr 1 c 0 0∧l 4= .ptr 1 d 0 0∧l 5= .ptr 1 b5 0 0∧j b5=some (.rows 1 [[.nfn]])∧H b5=none∧H1 b5=none∧J b5=none∧keeps (fun _=>False) J j) (fun K n=>?_) ?_
 ·refine aG ?_;simp only[RR,seval]
  refine aQ fun b5 R=>?_;simp only[RR,seval]
  have F:H1 b5=none:=by
   cases e:H1 b5 with
   |none=>rfl
   |some o=>have:=G _ _ (fun h=>h) e;rw[R]at this;cases this
  have a7:H b5=none:=by
   cases e:H b5 with
   |none=>rfl
   |some o=>have:=y _ _ (fun h=>h) e;rw[F]at this;cases this
  exact n _ _ ⟨b5,A,x,E,rfl,bG _ _ _,a7,F,R,(keeps.refl _ J).new R _⟩
 rintro l u ⟨b5,A,x,E,U,F,n5,a1,b9,I⟩;have m2:=I _ _ (fun h=>h) (G _ _ (fun h=>h) B);have m3:=I _ _ (fun h=>h) (G _ _ (fun h=>h) t);have m4:=I _ _ (fun h=>h) C;have a3:k≠b5:=fun e=>by rw[e,a1]at B;cases B
 have a2:k≠d:=fun e=>by rw[e,a0]at B;cases B
 have a5:c≠b5:=fun e=>by rw[e,a1]at t;cases t
 have a4:c≠d:=fun e=>by rw[e,a0]at t;cases t
 have L:d≠b5:=fun e=>by rw[e,b9]at C;cases C
 have a6:b5≠d:=fun e=>L e.symm;refine aC fun K n=>?_;refine aG ?_;simp only[RR,seval];simp only[x,U,F,RR,seval];apply n;have c1:(upd u b5 (some (.rows 1 [[.fn (.func 129) [] [.ptr 1 c 0 0, .ptr 1 b5 0 0]]]))) d=some (.rows 1 [[.nfn]]):=by simp only[upd,aM L];exact m4
 refine aC fun K n=>?_;refine aG ?_;simp only[RR,seval];simp only[x,E,U,L,m4,RR,seval];apply n;have Y:(upd (upd u b5 (some (.rows 1 [[.fn (.func 129) [] [.ptr 1 c 0 0, .ptr 1 b5 0 0]]]))) d (some (.rows 1 [[.fn (.func 130) [] [.ptr 1 c 0 0, .ptr 1 b5 0 0, .ptr 1 d 0 0]]]))) k=some (.rows 5 [[.str f.name, .isl 1 (f.params.map bH), .isl 1 (f.locs.map bH), .bool f.word, .isl 5 (f.body.map Sm.row)]]):=by simp only[upd,aM a3,aM a2];exact m2
 have Z:(upd (upd u b5 (some (.rows 1 [[.fn (.func 129) [] [.ptr 1 c 0 0, .ptr 1 b5 0 0]]]))) d (some (.rows 1 [[.fn (.func 130) [] [.ptr 1 c 0 0, .ptr 1 b5 0 0, .ptr 1 d 0 0]]]))) c=some (.rows 1 [[.fn (.func g) [] z]]):=by simp only[upd,aM a5,aM a4];exact m3
 have T:(upd (upd u b5 (some (.rows 1 [[.fn (.func 129) [] [.ptr 1 c 0 0, .ptr 1 b5 0 0]]]))) d (some (.rows 1 [[.fn (.func 130) [] [.ptr 1 c 0 0, .ptr 1 b5 0 0, .ptr 1 d 0 0]]]))) d=some (.rows 1 [[.fn (.func 130) [] [.ptr 1 c 0 0, .ptr 1 b5 0 0, .ptr 1 d 0 0]]]):=bG _ _ _;have j5:(upd (upd u b5 (some (.rows 1 [[.fn (.func 129) [] [.ptr 1 c 0 0, .ptr 1 b5 0 0]]]))) d (some (.rows 1 [[.fn (.func 130) [] [.ptr 1 c 0 0, .ptr 1 b5 0 0, .ptr 1 d 0 0]]]))) b5=some (.rows 1 [[.fn (.func 129) [] [.ptr 1 c 0 0, .ptr 1 b5 0 0]]]):=by simp only[upd,aM a6,cT]
 have S:keeps (fun _=>False) H (upd (upd u b5 (some (.rows 1 [[.fn (.func 129) [] [.ptr 1 c 0 0, .ptr 1 b5 0 0]]]))) d (some (.rows 1 [[.fn (.func 130) [] [.ptr 1 c 0 0, .ptr 1 b5 0 0, .ptr 1 d 0 0]]]))):=(((y.trans G).trans I).new n5 _).new n4 _;generalize(upd (upd u b5 (some (.rows 1 [[.fn (.func 129) [] [.ptr 1 c 0 0, .ptr 1 b5 0 0]]]))) d (some (.rows 1 [[.fn (.func 130) [] [.ptr 1 c 0 0, .ptr 1 b5 0 0, .ptr 1 d 0 0]]])))=H4 at Y Z T j5 S⊢;have a9:=V.ext _ _ _ N S;refine aG ?_;simp only[A,E,Y,T,RR,seval];refine gC (Zf V c b5 d (fun h=>O _ h n3) (fun h=>O _ h n5) (fun h=>O _ h n4) _ f.body rfl hf.body s H4 Z j5 T a9) (fJ.refl _) (fun _=>trivial) fun v j ⟨hv,a8,b0⟩=>?_;subst hv;simp only[aY,aK,bR,RR,seval];exact aZ.whole ⟨rfl,a8,(S.mono fun _ h=>h.elim).trans b0⟩
theorem W0 (p:Pg) (i:Nat) (f:Fu) (b:p.funs[i]?=some f) (s:dC):uL (rJ (pQ p)).1 (rJ (Hg f)).1 s=eL p i s:=by
 unfold uL eL;rw[Ge,Ge,b];simp only[cA];rw[show jT (Hg f) s=(cV (gI f) s).map fun n=>(1,((0+n:Nat):Int))from sU 1 s (gI f) 0]
 cases cV (gI f) s with
 |some n=>simp
 |none=>simp only[hQ];exact U3 p s
def qI (p:Pg) (i:Nat) (bn b5 b7 b1 b6 bo bi:Nat) (mo mi:List Th) (a:Bool×Bool) (H:Hp):Prop:=
 H bn=some (.rows 2 [[.mp bo, .mp bi]])∧H b5=some (.rows 1 [[.bool a.1]])∧H b7=some (.rows 1 [[.int .i64 i]])∧H b1=some (.rows 3 [p.row])∧H b6=some (.rows 1 [[.bool a.2]])∧
   H bo=some (.amap (mo.map Ib))∧H bi=some (.amap (mi.map Ib))
section
variable {p : Pg} {i bn b5 b7 b1 b6 bo bi : Nat} {mo mi : List Th} {a : Bool × Bool} {H : Hp}
theorem qI.ext (h:qI p i bn b5 b7 b1 b6 bo bi mo mi a H) {H':Hp} (b:keeps (fun _=>False) H H'):qI p i bn b5 b7 b1 b6 bo bi mo mi a H':=by
 obtain⟨c,d,e,f,g,j,k⟩:=h;exact⟨b _ _ (fun h=>h) c,b _ _ (fun h=>h) d,b _ _ (fun h=>h) e,b _ _ (fun h=>h) f,b _ _ (fun h=>h) g,b _ _ (fun h=>h) j,b _ _ (fun h=>h) k⟩
theorem qI.set5 (h:qI p i bn b5 b7 b1 b6 bo bi mo mi a H) (l:b5≠b6) (x:Bool):qI p i bn b5 b7 b1 b6 bo bi mo mi (x,a.2) (upd H b5 (some (.rows 1 [[.bool x]]))):=by
 obtain⟨c,b,d,f,k,g,j⟩:=h;have n:bn≠b5:=fun e=>by rw[e,b]at c;simp at c
 have o:b7≠b5:=fun e=>by rw[e,b]at d;simp at d
 have t:b1≠b5:=fun e=>by rw[e,b]at f;simp at f
 have u:=l.symm;have v:bo≠b5:=fun e=>by rw[e,b]at g;simp at g
 have y:bi≠b5:=fun e=>by rw[e,b]at j;simp at j
 simp only[qI,upd,n,o,t,u,v,y,cT,dP];exact⟨c,trivial,d,f,k,g,j⟩
theorem qI.set6 (h:qI p i bn b5 b7 b1 b6 bo bi mo mi a H) (l:b5≠b6) (x:Bool):qI p i bn b5 b7 b1 b6 bo bi mo mi (a.1,x) (upd H b6 (some (.rows 1 [[.bool x]]))):=by
 obtain⟨c,k,d,f,b,g,j⟩:=h;have n:bn≠b6:=fun e=>by rw[e,b]at c;simp at c
 have o:b7≠b6:=fun e=>by rw[e,b]at d;simp at d
 have t:b1≠b6:=fun e=>by rw[e,b]at f;simp at f
 have u:bo≠b6:=fun e=>by rw[e,b]at g;simp at g
 have v:bi≠b6:=fun e=>by rw[e,b]at j;simp at j
 simp only[qI,upd,n,o,t,l,u,v,cT,dP];exact⟨c,k,d,f,trivial,g,j⟩
end
theorem MP (p:Pg) (hp:p.few) (i:Nat) (hi:i<p.funs.length) (bn b5 b7 b1 b6 bo bi:Nat) (mo mi:List Th) (a3:b5≠b6) (hF: ∀s,uL mo mi s=eL p i s)
  (a:Bool×Bool) (H:Hp) (u:Us) (hu:u.kind=1∨u.kind=3∨u.kind=4) (hD:qI p i bn b5 b7 b1 b6 bo bi mo mi a H):
  pK dN 88 [PP u, .ptr 2 bn 0 0, .ptr 1 b5 0 0, .ptr 1 b7 0 0, .ptr 3 b1 0 0, .ptr 1 b6 0 0] H
   (fun U d=> ∃v,U= .ret v∧(v= .tup []∧qI p i bn b5 b7 b1 b6 bo bi mo mi (Nl p i a u) d∧keeps (fun b=>b=b5∨b=b6) H d)):=by
 have a0:=fun d h1 h2=>IC mo mi bo bi u.name d h1 h2;rw[hF]at a0;have l:iT p i u= !((decide (u.kind=1)&& !decide ((eL p i u.name).1=1)&& !decide ((eL p i u.name).1=2))||(decide (u.kind=3)&& !decide ((eL p i u.name).1=3))||(decide (u.kind=4)&&(!decide ((eL p i u.name).1=4)||decide ((i:Int)≤(eL p i u.name).2)))):=rfl;have k:yE p i u=(!decide (u.kind=4)||(match p.funs[(eL p i u.name).2.toNat]? with |some g=>decide ((g.params.length:Int)=u.num)|none=>false)):=rfl;have b2:=Hy p i u.name;have b4:Nl p i a u=(a.1&&iT p i u,a.2&&(!iT p i u||yE p i u)):=rfl;rw[b4];generalize iT p i u=ok at l⊢;generalize yE p i u=nu at k⊢;generalize eL p i u.name=r at *;obtain⟨un,T,uu⟩:=u;simp only at hu l k a0;refine bX 57 [] func88 ?_;simp only[PP];refine cI (fun f d=> ∃t,f 1= .ptr 2 bn 0 0∧f 2= .ptr 1 b5 0 0∧f 3= .ptr 1 b7 0 0∧f 4= .ptr 3 b1 0 0∧f 5= .ptr 1 b6 0 0∧f 6= .ptr 3 t 0 0∧d t=some (.rows 3 [[.int .i64 (if T=1 then 2 else T), .str un, .int .i64 uu]])∧H t=none∧keeps (fun _=>False) H d) (fun K c=>?_) ?_
 ·refine aG ?_;simp only[RR,seval]
  refine aQ fun t B=>?_;simp only[RR,seval];exact c _ _ ⟨t,rfl,rfl,rfl,rfl,rfl,rfl,bG _ _ _,B,(keeps.refl _ H).new B _⟩
 rintro f H1 ⟨t,f1,z,R,f4,f5,O,B,b8,hk⟩;have a6:=hD.ext hk;refine cI (fun f d=> ∃C,f 2= .ptr 1 b5 0 0∧f 3= .ptr 1 b7 0 0∧f 4= .ptr 3 b1 0 0∧f 5= .ptr 1 b6 0 0∧f 6= .ptr 3 t 0 0∧f 7= .ptr 2 C 0 0∧d C=some (.rows 2 [[.int .i64 r.1, .int .i64 r.2]])∧d t=some (.rows 3 [[.int .i64 (if T=1 then 2 else T), .str un, .int .i64 uu]])∧keeps (fun _=>False) H d) (fun K c=>?_) ?_
 ·obtain⟨d1,j,W,Z,d5,d6,d7⟩:=a6
  refine aG ?_;simp only[f1,O,d1,B,RR,seval];refine gC (a0 H1 d6 d7) (fJ.refl _) (fun _=>trivial) fun v Q ⟨hv,J⟩=>?_;subst hv;simp only[Yw,RR,seval];refine aQ fun C o=>?_;simp only[RR,seval];have a2:=J _ _ (fun h=>h) B;have b3:t≠C:=fun e=>by rw[e,o]at a2;cases a2
  refine c _ _ ⟨C,z,R,f4,f5,O,rfl,bG _ _ _,by simp only[upd,aM b3];exact a2, ?_⟩;intro V o' hm b0;have h9:=J V o' hm (hk V o' hm b0);have :V≠C:=fun e=>by rw[e,o]at h9;cases h9
  simp only[upd,aM this];exact h9
 rintro f Q ⟨C,z,R,f4,f5,O,F,o,B,J⟩;have S:=hD.ext J;have a7:=S;obtain⟨d1,j,W,Z,d5,d6,d7⟩:=a7;have G: ∀x:Bool,keeps (fun b=>b=b5∨b=b6) H (upd Q b5 (some (.rows 1 [[.bool x]]))):=fun x=>(J.mono fun _ h=>h.elim).set (.inl rfl) _;have a8: ∀x:Bool,keeps (fun b=>b=b5∨b=b6) H (upd Q b6 (some (.rows 1 [[.bool x]]))):=fun x=>(J.mono fun _ h=>h.elim).set (.inr rfl) _;have I:=fun x=>S.set5 a3 x;have a9:=fun x=>S.set6 a3 x;generalize A:(a.1&&ok)=X;generalize L:(a.2&&(!ok||nu))=Y
 have fin: ∀(x y:Bool) (d:Hp),X=x→Y=y→qI p i bn b5 b7 b1 b6 bo bi mo mi (x,y) d→keeps (fun b=>b=b5∨b=b6) H d→
   aZ (fun U d=> ∃v,U= .ret v∧(v= .tup []∧qI p i bn b5 b7 b1 b6 bo bi mo mi (X,Y) d∧keeps (fun b=>b=b5∨b=b6) H d)) (.tup []) d:=fun x y d D e2 h1 h2=>by
  subst D;subst e2;exact aZ.whole ⟨rfl,h1,h2⟩
 have same:qI p i bn b5 b7 b1 b6 bo bi mo mi (a.1,a.2) Q:=S;refine aC fun K c=>?_;refine aG ?_;simp only[RR,seval];simp only[O,B,RR,seval];refine c _ _ (aN ?_);rcases hu with hk1|hk1|hk1
 ·subst hk1
  simp only[nS,cJ,UY,jO,Bool.or_false,Int.reduceEq,Y7,Bool.true_or]at l k;have M:Y=a.2:=by rw[←L,k];simp
  refine aC fun K c=>?_;refine aG ?_;simp only[RR,seval];refine c _ _ (cL ?_)
  cases ha:a.1 with
  |false=>
   rw[ha]at j;refine aG ?_;simp only[z,j,aY,cG,aK,bR,RR,seval];exact fin _ _ _ (by rw[←A];simp [ha]) M (I false) (G false)
  |true=>
   rw[ha]at j;by_cases r1:r.1=1
   ·have D:decide (r.1=1)=true:=cO r1
    refine aG ?_;simp only[z,F,j,o,D,aY,cG,aK,bR,RR,seval];exact fin _ _ _ (by rw[←A,ha,l,D];rfl) M (I true) (G true)
   have D:decide (r.1=1)=false:=bD r1;refine aG ?_;simp only[z,F,j,o,D,aY,cG,aK,bR,RR,seval];exact fin _ _ _ (by rw[←A,ha,l,D];simp) M (I (decide (r.1=2))) (G _)
 ·subst hk1
  simp only[nS,cJ,UY,jO,Bool.or_false,yM,Int.reduceEq,Y7,Bool.true_or]at l k;have M:Y=a.2:=by rw[←L,k];simp
  refine aC fun K c=>?_;refine aG ?_;simp only[RR,seval];refine c _ _ (bN ?_);refine aC fun K c=>?_;refine aG ?_;simp only[RR,seval];refine c _ _ (cL ?_)
  cases ha:a.1 with
  |false=>
   rw[ha]at j;refine aG ?_;simp only[z,j,aY,cG,aK,bR,RR,seval];exact fin _ _ _ (by rw[←A];simp [ha]) M (I false) (G false)
  |true=>
   rw[ha]at j;refine aG ?_;simp only[z,F,j,o,aY,cG,aK,bR,RR,seval];exact fin _ _ _ (by rw[←A,ha,l];simp) M (I (decide (r.1=3))) (G _)
 subst hk1;simp only[nS,cJ,UY,jO,Bool.or_false,yM,Int.reduceEq,Qg]at l k;refine aC fun K c=>?_;refine aG ?_;simp only[RR,seval];refine c _ _ (bN ?_);refine aC fun K c=>?_;refine aG ?_;simp only[RR,seval];refine c _ _ (bN ?_);refine aC fun K c=>?_;refine aG ?_;simp only[RR,seval];refine c _ _ (cL ?_);by_cases r4:r.1=4
 ·have E:decide (r.1=4)=true:=cO r4
  by_cases ri:(i:Int)≤r.2
  ·have N:decide ((i:Int)≤r.2)=true:=cO ri
   have P:ok=false:=by rw[l,E,N];rfl
   refine aC fun K c=>?_;refine aG ?_;simp only[RR,seval];simp only[F,R,o,W,E,N,RR,seval];refine c _ _ (cL (aG ?_));simp only[z,j,aY,cG,aK,bR,RR,seval];exact fin _ _ _ (by rw[←A,P,XP]) (by rw[←L,P];simp) (I false) (G _)
  have N:decide ((i:Int)≤r.2)=false:=bD ri;have a1:ok=true:=by rw[l,E,N];rfl
  obtain⟨c1,c2⟩:=b2 r4;obtain⟨n,hn⟩:=iM c1;have a5:n<p.funs.length:=by omega
  have a4:=qH (aD a5);rw[hn,dU,aD a5]at k;simp only at k;generalize p.funs[n]=g at a4 k;simp only[Pg.row]at Z;refine aC fun K c=>?_;refine aG ?_;simp only[RR,seval];simp only[F,R,o,W,E,N,RR,seval];refine c _ _ (bN (aC fun K c=>?_));refine fS (fun _=>False) [(0,true),(1,true),(2,true),(3,true),(4,true),(5,true),(6,true),(7,true),(8,true),(9,true),(10,true)] eP (by kernel_rfl) rfl ?_;simp only[sZ,f4,O,F,Z,o,B,hn,a4,aE,RR,seval];apply c
  cases hnn:decide ((g.params.length:Int)=uu)with
  |true=>
   refine dS false (by simp [upd,ev]) (fun hc=>by cases hc) (fun _=>?_);refine aL ?_;simp only[cG,aY,aK,bR];exact fin _ _ _ (by rw[←A,a1,mI]) (by rw[←L,k,hnn];simp) same (J.mono fun _ h=>h.elim)
  |false=>
   refine dS true (by simp [upd,ev]) (fun _=>?_) (fun hc=>by cases hc);refine aG ?_;simp only[f5,d5,aY,cG,aK,bR,RR,seval];exact fin _ _ _ (by rw[←A,a1,mI]) (by rw[←L,a1,k,hnn];simp) (a9 false) (a8 _)
 have E:decide (r.1=4)=false:=bD r4;have P:ok=false:=by rw[l,E];rfl
 refine aC fun K c=>?_;refine aG ?_;simp only[RR,seval];simp only[F,o,E,RR,seval];refine c _ _ (cL (aG ?_));simp only[z,j,aY,cG,aK,bR,RR,seval];exact fin _ _ _ (by rw[←A,P,XP]) (by rw[←L,P];simp) (I false) (G _)
def VA (p:Pg) (hp:p.few) (i:Nat) (hi:i<p.funs.length) (bn b5 b7 b1 b6 bo bi:Nat) (mo mi:List Th) (h56:b5≠b6) (hF: ∀s,uL mo mi s=eL p i s):
    VP (Bool×Bool) 88 [.ptr 2 bn 0 0, .ptr 1 b5 0 0, .ptr 1 b7 0 0, .ptr 3 b1 0 0, .ptr 1 b6 0 0] where
 D:=qI p i bn b5 b7 b1 b6 bo bi mo mi
 step:=Nl p i
 M:=fun b=>b=b5∨b=b6
 spec:=fun s H u hu hD=>MP p hp i hi bn b5 b7 b1 b6 bo bi mo mi h56 hF s H u hu hD
 ext:=fun s H H' hD hk=>hD.ext hk
 old:=fun s H hD b hb=>by
  obtain⟨_,h2,_,_,h5,_⟩:=hD;rcases hb with rfl|rfl
  ·rw[h2];simp
  rw[h5];simp
theorem Y6 (p:Pg) (hp:p.few) (h1:1≤p.funs.length):eH dN 58 [p.av] (.int .i64 (kL p)):=by
 have a9:=Wq p hp;have d3:p.funs.length≤10000:=hp.f;have d0:=hp.ok;refine bX 70 [.tmp 2] func58 ?_;simp only[Pg.av]at a9⊢;refine cI (fun b H=> ∃b1,b 1= .ptr 3 b1 0 0∧H b1=some (.rows 3 [p.row])) (fun K c=>?_) ?_
 ·refine aG ?_;simp only[RR,seval]
  simp only[Pg.row];refine aQ fun b1 d=>?_;simp only[RR,seval];exact c _ _ ⟨b1,rfl,bG _ _ _⟩
 rintro b H ⟨b1,n,d⟩;refine cI (fun b H=> ∃bo,b 1= .ptr 3 b1 0 0∧b 3= .mp bo∧b 4= .bool (rJ (pQ p)).2∧H b1=some (.rows 3 [p.row])∧H bo=some (.amap ((rJ (pQ p)).1.map Ib))) (fun K c=>?_) ?_
 ·refine aG ?_
  have a1:=d;simp only[Pg.row]at a1 a9;simp only[n,a1,RR,seval];refine tZ a9 (fJ.refl _) fun v H' H2 ⟨bo,hv,y⟩ R S=>?_;subst hv;simp only[RR,seval];exact c _ _ ⟨bo,n,rfl,rfl,R _ _ (fun h=>h) d,(S _ _ y).1⟩
 rintro b H ⟨bo,n,E,f4,d,y⟩;rw[Nn,Ws]at f4;refine cI (fun b H=> ∃b5 b6,b 1= .ptr 3 b1 0 0∧b 3= .mp bo∧b 5= .ptr 1 b5 0 0∧b 6= .ptr 1 b6 0 0∧b5≠b6∧H b1=some (.rows 3 [p.row])∧H bo=some (.amap ((rJ (pQ p)).1.map Ib))∧H b5=some (.rows 1 [[.bool (decide (jZ p).Nodup)]])∧H b6=some (.rows 1 [[.bool true]])) (fun K c=>?_) ?_
 ·refine aG ?_
  simp only[f4,RR,seval];refine aQ fun b5 l=>?_;simp only[RR,seval];refine aQ fun b6 t=>?_;have T:b5≠b6:=fun e=>by rw[←e,bG]at t;cases t
  have a3:b6≠b5:=fun e=>T e.symm;have h6:H b6=none:=by simpa only[upd,aM a3]using t
  have q1:b1≠b5:=fun e=>by rw[e,l]at d;cases d
  have q2:b1≠b6:=fun e=>by rw[e,h6]at d;cases d
  have q3:bo≠b5:=fun e=>by rw[e,l]at y;cases y
  have q4:bo≠b6:=fun e=>by rw[e,h6]at y;cases y
  simp only[upd,T,a3,reduceIte,RR,seval];refine c _ _ ⟨b5,b6,n,E,rfl,rfl,T, ?_, ?_, ?_, ?_⟩
  ·simp only[upd,aM q1,aM q2];exact d
  ·simp only[upd,aM q3,aM q4];exact y
  ·simp [upd,T]
  simp [upd]
 rintro b H ⟨b5,b6,n,E,C,z,a5,d,y,l,t⟩;refine cI (fun b H=> ∃A B:Bool,b 1= .ptr 3 b1 0 0∧b 5= .ptr 1 b5 0 0∧b 6= .ptr 1 b6 0 0∧H b1=some (.rows 3 [p.row])∧H b5=some (.rows 1 [[.bool A]])∧H b6=some (.rows 1 [[.bool B]])∧kB p=A∧(kB p=true→jF p 0 p.funs=B)) (fun K c=>?_) ?_
 ·have a1:=d
  simp only[Pg.row]at a1;refine aC fun K c=>?_;refine aG ?_;simp only[RR,seval];simp only[n,a1,aE,RR,seval];apply c;clear c K;refine aN ?_;refine eK (fun mm b H=> ∃k:Nat,mm=p.funs.length-k∧k≤p.funs.length∧b 22= .int .i64 k∧ ∃A B:Bool,b 20= .isl 5 (p.funs.map Fu.row)∧b 21= .int .i64 p.funs.length∧b 1= .ptr 3 b1 0 0∧b 3= .mp bo∧b 5= .ptr 1 b5 0 0∧b 6= .ptr 1 b6 0 0∧H b1=some (.rows 3 [p.row])∧H bo=some (.amap ((rJ (pQ p)).1.map Ib))∧H b5=some (.rows 1 [[.bool A]])∧H b6=some (.rows 1 [[.bool B]])∧kB p=(A&&iZ p k (p.funs.drop k))∧(kB p=true→jF p 0 p.funs=(B&&jF p k (p.funs.drop k)))) (p.funs.length) ⟨0,rfl,cM _,rfl,decide (jZ p).Nodup,true,rfl,rfl,n,E,C,z,d,y,l,t,rfl,fun _=>rfl⟩ ?_;rintro mm b H ⟨k,rfl,d4,L,A,B,O,N,n,E,C,z,d,y,l,t,F,U⟩ K2 c5;refine aC fun K c=>?_;refine aG ?_;simp only[RR,seval];simp only[L,N,RR,seval];apply c;clear c K;refine aI ?_;refine aX ?_ ?_<;>intro hc
  ·have W:k<p.funs.length:=by have:=aF hc;omega
   clear hc;refine aL ?_;simp only[bL];refine aI ?_;refine aN ?_;have a8:=aD W;have hg:=qH a8;have c8:=hp.fs _ (bV W);have c2:=d0.funs _ (bV W);have a6:=W0 p k _ a8;have c1:=fun h=>(nL p p.funs 0 h k _ a8).2;rw[bJ W,iZ]at F;rw[bJ W,jF]at U;generalize p.funs[k]=f at hg c8 c2 a6 F U c1;have b4:=A6 f (by omega) (by omega);refine cI (fun b H=> ∃b7 D,b 20= .isl 5 (p.funs.map Fu.row)∧b 21= .int .i64 p.funs.length∧b 22= .int .i64 k∧b 1= .ptr 3 b1 0 0∧b 3= .mp bo∧b 5= .ptr 1 b5 0 0∧b 6= .ptr 1 b6 0 0∧b 7= .ptr 1 b7 0 0∧b 8= .ptr 5 D 0 0∧H b1=some (.rows 3 [p.row])∧H bo=some (.amap ((rJ (pQ p)).1.map Ib))∧H b5=some (.rows 1 [[.bool A]])∧H b6=some (.rows 1 [[.bool B]])∧H b7=some (.rows 1 [[.int .i64 k]])∧H D=some (.rows 5 [f.row])) (fun K c=>?_) ?_
   ·refine aG ?_
    simp only[O,L,hg,RR,seval];refine aQ fun b7 Q=>?_;simp only[RR,seval];refine aQ fun D G=>?_;have T:b7≠D:=fun e=>by rw[←e,bG]at G;cases G
    have a3:D≠b7:=fun e=>T e.symm;have h8:H D=none:=by simpa only[upd,aM a3]using G
    have old: ∀(x:Nat) (o:gY),H x=some o→x≠b7∧x≠D:=fun x o X=>⟨fun e=>(by rw[e,Q]at X;cases X),fun e=>(by rw[e,h8]at X;cases X)⟩;simp only[upd,T,a3,reduceIte,RR,seval];refine c _ _ ⟨b7,D,O,N,L,n,E,C,z,rfl,rfl, ?_, ?_, ?_, ?_, ?_, ?_⟩
    ·obtain⟨I,J⟩:=old _ _ d;simp only[upd,aM I,aM J];exact d
    ·obtain⟨I,J⟩:=old _ _ y;simp only[upd,aM I,aM J];exact y
    ·obtain⟨I,J⟩:=old _ _ l;simp only[upd,aM I,aM J];exact l
    ·obtain⟨I,J⟩:=old _ _ t;simp only[upd,aM I,aM J];exact t
    ·simp [upd,T]
    simp [upd,Fu.row]
   rintro b H ⟨b7,D,O,N,L,n,E,C,z,f7,Y,d,y,l,t,Q,G⟩;refine cI (fun b H=> ∃bi,b 20= .isl 5 (p.funs.map Fu.row)∧b 21= .int .i64 p.funs.length∧b 22= .int .i64 k∧b 1= .ptr 3 b1 0 0∧b 3= .mp bo∧b 5= .ptr 1 b5 0 0∧b 6= .ptr 1 b6 0 0∧b 7= .ptr 1 b7 0 0∧b 8= .ptr 5 D 0 0∧b 9= .mp bi∧b 10= .bool (decide (gI f).Nodup)∧H b1=some (.rows 3 [p.row])∧H bo=some (.amap ((rJ (pQ p)).1.map Ib))∧H b5=some (.rows 1 [[.bool A]])∧H b6=some (.rows 1 [[.bool B]])∧H b7=some (.rows 1 [[.int .i64 k]])∧H D=some (.rows 5 [f.row])∧H bi=some (.amap ((rJ (Hg f)).1.map Ib))) (fun K c=>?_) ?_
   ·refine aG ?_
    have a2:=G;simp only[Fu.row]at a2 b4;simp only[Y,a2,RR,seval];refine tZ b4 (fJ.refl _) fun v H' H2 ⟨bi,hv,Z⟩ R S=>?_;subst hv;rw[Nn,A7];simp only[RR,seval];exact c _ _ ⟨bi,O,N,L,n,E,C,z,f7,Y,rfl,rfl,R _ _ (fun h=>h) d,R _ _ (fun h=>h) y,R _ _ (fun h=>h) l,R _ _ (fun h=>h) t,R _ _ (fun h=>h) Q,R _ _ (fun h=>h) G,(S _ _ Z).1⟩
   rintro b H ⟨bi,O,N,L,n,E,C,z,f7,Y,f9,c4,d,y,l,t,Q,G,Z⟩;refine cI (fun b H=>b 20= .isl 5 (p.funs.map Fu.row)∧b 21= .int .i64 p.funs.length∧b 22= .int .i64 k∧b 1= .ptr 3 b1 0 0∧b 3= .mp bo∧b 5= .ptr 1 b5 0 0∧b 6= .ptr 1 b6 0 0∧b 7= .ptr 1 b7 0 0∧b 8= .ptr 5 D 0 0∧b 9= .mp bi∧H b1=some (.rows 3 [p.row])∧H bo=some (.amap ((rJ (pQ p)).1.map Ib))∧H b5=some (.rows 1 [[.bool (A&&decide (gI f).Nodup)]])∧H b6=some (.rows 1 [[.bool B]])∧H b7=some (.rows 1 [[.int .i64 k]])∧H D=some (.rows 5 [f.row])∧H bi=some (.amap ((rJ (Hg f)).1.map Ib))) (fun K c=>?_) ?_
   ·have old: ∀(x:Nat) (o:gY),H x=some o→o≠ .rows 1 [[.bool A]]→x≠b5:=fun x o X ho e=>by rw[e,l]at X;cases X;exact ho rfl
    have m1:=old _ _ d (by simp);have mo:=old _ _ y (by simp);have m6:b6≠b5:=fun e=>a5 e.symm;have m7:=old _ _ Q (by simp);have m8:=old _ _ G (by simp);have mi:=old _ _ Z (by simp)
    have fin: ∀a4:Fr,(∀j,j=20∨j=21∨j=22∨j=1∨j=3∨j=5∨j=6∨j=7∨j=8∨j=9→a4 j=b j)→K a4 (upd H b5 (some (.rows 1 [[.bool (A&&decide (gI f).Nodup)]]))):=fun a4 h=>by
     refine c _ _ ⟨(h 20 (by simp)).trans O,(h 21 (by simp)).trans N,(h 22 (by simp)).trans L,(h 1 (by simp)).trans n,(h 3 (by simp)).trans E,(h 5 (by simp)).trans C,(h 6 (by simp)).trans z,(h 7 (by simp)).trans f7,(h 8 (by simp)).trans Y,(h 9 (by simp)).trans f9, ?_, ?_,bG _ _ _, ?_, ?_, ?_, ?_⟩
     ·simp only[upd,aM m1];exact d
     ·simp only[upd,aM mo];exact y
     ·simp only[upd,aM m6];exact t
     ·simp only[upd,aM m7];exact Q
     ·simp only[upd,aM m8];exact G
     simp only[upd,aM mi];exact Z
    cases hAc:A with
    |false=>
     rw[hAc]at l fin;refine aG ?_;simp only[C,l,RR,seval];refine fin _ fun j hj=>?_;rcases hj with rfl|rfl|rfl|rfl|rfl|rfl|rfl|rfl|rfl|rfl<;>rfl
    |true=>
     rw[hAc]at l fin;refine aG ?_;simp only[C,c4,l,RR,seval];refine fin _ fun j hj=>?_;rcases hj with rfl|rfl|rfl|rfl|rfl|rfl|rfl|rfl|rfl|rfl<;>rfl
   rintro b H ⟨O,N,L,n,E,C,z,f7,Y,f9,d,y,l,t,Q,G,Z⟩;refine aC fun K c=>?_;refine aG ?_;simp only[RR,seval];simp only[E,f9,RR,seval];refine aQ fun bn b2=>?_;simp only[RR,seval];apply c;clear c K;have b3:keeps (fun _=>False) H (upd (upd H bn (some (.rows 2 [[.nmp, .nmp]]))) bn (some (.rows 2 [[.mp bo, .mp bi]]))):=((keeps.refl _ H).new b2 _).new b2 _;have c0:(upd (upd H bn (some (.rows 2 [[.nmp, .nmp]]))) bn (some (.rows 2 [[.mp bo, .mp bi]]))) bn=some (.rows 2 [[.mp bo, .mp bi]]):=bG _ _ _;generalize(upd (upd H bn (some (.rows 2 [[.nmp, .nmp]]))) bn (some (.rows 2 [[.mp bo, .mp bi]])))=H1 at b3 c0⊢;have kp: ∀(x:Nat) (o:gY),H x=some o→H1 x=some o:=fun x o h=>b3 x o (fun h=>h) h;have hD:qI p k bn b5 b7 b1 b6 bo bi (rJ (pQ p)).1 (rJ (Hg f)).1 (A&&decide (gI f).Nodup,B) H1:=⟨c0,kp _ _ l,kp _ _ Q,kp _ _ d,kp _ _ t,kp _ _ y,kp _ _ Z⟩;have c3:=Q2 (VA p hp k W bn b5 b7 b1 b6 bo bi _ _ a5 a6) f c2 _ H1 hD;have a2:=kp _ _ G;simp only[Fu.row]at a2 c3;refine aG ?_;simp only[n,C,z,f7,Y,a2,RR,seval];refine gC c3 (fJ.refl _) (fun _=>trivial) fun v H2 ⟨hv,b0,d5⟩=>?_;subst hv;simp only[bL,cG,RR,seval];rw[show(VA p hp k W bn b5 b7 b1 b6 bo bi _ _ a5 a6).step=Nl p k from rfl,PC]at b0;obtain⟨_,g5,_,g1,g6,go,_⟩:=b0;refine aG ?_;simp only[RR,seval];simp only[L,bL,RR,seval];rw[aT _ (by omega)];refine c5 (p.funs.length-(k+1)) _ _ (by omega) ⟨k+1,rfl,by omega,rfl,_,_,O,N,n,E,C,z,g1,go,g5,g6, ?_, ?_⟩
   ·rw[F];simp only[Bool.and_assoc]
   intro S;have d6:=S;rw[U S];simp only[kB,aU]at S;have a7:=c1 S.2;rw[eC]at a7
   have :(dY f.body).all (fun u=> !iT p k u||yE p k u)=(dY f.body).all (yE p k):=by
    rw[cD]at a7;rw[eF,cD,cD];constructor
    ·intro h u hu
     have:=h u hu;rw[a7 u hu]at this;simpa using this
    intro h u hu;rw[h u hu];simp
   simp only[this,Bool.and_assoc]
  refine cC ?_;simp only[bL,cG,reduceIte];have c9:k=p.funs.length:=by have:=aH hc;omega
  clear hc;subst c9;rw[dA]at F U;exact c _ _ ⟨A,B,n,C,z,d,l,t,by rw[F,iZ,mI],fun h=>by rw[U h,jF,mI]⟩
 rintro b H ⟨A,B,n,C,z,d,l,t,F,U⟩;have hC:kL p=if kB p then(if qS p then 0 else 1)else 4:=rfl
 have c6:qS p=(jF p 0 p.funs&&zC p):=rfl;have hL:zC p=match p.funs[p.funs.length- 1]? with |some g=>decide (g.name=Oe)&&decide (g.params.length=0)&& !g.word|none=>false:=rfl
 refine aI ?_
 cases hAc:A with
 |false=>
  rw[hAc]at l F
  repeat' (first|(refine aC fun K c=>?_;refine aG ?_;simp only[C,l,RR,seval];apply c;clear c K)|(refine cL ?_)|(refine aO ?_;simp only[bL,aY,aK,bR,RR,seval];refine aZ.pure ?_))
  rw[hC,F];rfl
 |true=>
  rw[hAc]at l F;refine aC fun K c=>?_;refine aG ?_;simp only[RR,seval];simp only[C,l,RR,seval];apply c;clear c K;refine bN ?_;refine aL ?_;simp only[bL];have b9:p.funs.length- 1<p.funs.length:=by omega
  have hg:=qH (aD b9);rw[aD b9]at hL;generalize p.funs[p.funs.length- 1]=g at hg hL;have w1:IntKind.wrap .i64 ((p.funs.length:Int)- 1)=((p.funs.length- 1:Nat):Int):=by rw[aT _ (by omega)];omega
  have d1:decide ((0:Int)<g.params.length)= !decide (g.params.length=0):=by rw[eF];simp only[bO,eD,eU];omega
  simp only[Pg.row]at d;refine aC fun K c=>?_;refine aG ?_;simp only[RR,seval];simp only[n,d,w1,hg,aE,RR,seval];refine aQ fun M c7=>?_;simp only[RR,seval];apply c;clear c K;have V:(upd (upd H M (some (.rows 5 [[.str [], .nsl, .nsl, .bool false, .nsl]]))) M (some (.rows 5 [[.str g.name, .isl 1 (g.params.map bH), .isl 1 (g.locs.map bH), .bool g.word, .isl 5 (g.body.map Sm.row)]]))) M=some (.rows 5 [[.str g.name, .isl 1 (g.params.map bH), .isl 1 (g.locs.map bH), .bool g.word, .isl 5 (g.body.map Sm.row)]]):=bG _ _ _
  have P:(upd (upd H M (some (.rows 5 [[.str [], .nsl, .nsl, .bool false, .nsl]]))) M (some (.rows 5 [[.str g.name, .isl 1 (g.params.map bH), .isl 1 (g.locs.map bH), .bool g.word, .isl 5 (g.body.map Sm.row)]]))) b6=some (.rows 1 [[.bool B]]):=by
   have :b6≠M:=fun e=>by rw[e,c7]at t;cases t
   simp only[upd,aM this];exact t
  generalize(upd (upd H M (some (.rows 5 [[.str [], .nsl, .nsl, .bool false, .nsl]]))) M (some (.rows 5 [[.str g.name, .isl 1 (g.params.map bH), .isl 1 (g.locs.map bH), .bool g.word, .isl 5 (g.body.map Sm.row)]])))=H1 at V P⊢;simp only at hL
  have d2:kL p=if(B&&(decide (g.name=Oe)&&decide (g.params.length=0)&& !g.word))then 0 else 1:=by
   rw[hC,F,c6,U F,hL];rfl
  rw[d2]
  cases hBc:B with
  |false=>
   rw[hBc]at P
   repeat' (first|(refine aC fun K c=>?_;refine aG ?_;simp only[z,P,RR,seval];apply c;clear c K)|(refine aI ?_)|(refine cL ?_)|(refine aO ?_;simp only[bL,aY,aK,bR,RR,seval];refine aZ.pure ?_))
   rfl
  |true=>
   rw[hBc]at P
   cases I:decide (g.name=Oe)with
   |false=>
    have a0:decide (g.name=[109,97,105,110])=false:=I
    repeat' (first|(refine aC fun K c=>?_;refine aG ?_;simp only[z,P,V,a0,RR,seval];apply c;clear c K)|(refine aI ?_)|(refine cL ?_)|(refine aO ?_;simp only[bL,aY,aK,bR,RR,seval];refine aZ.pure ?_))
    rfl
   |true=>
    have a0:decide (g.name=[109,97,105,110])=true:=I
    cases J:decide (g.params.length=0)with
    |false=>
     rw[J]at d1
     repeat' (first|(refine aC fun K c=>?_;refine aG ?_;simp only[z,P,V,a0,d1,aE,RR,seval];apply c;clear c K)|(refine aI ?_)|(refine cL ?_)|(refine aO ?_;simp only[bL,aY,aK,bR,RR,seval];refine aZ.pure ?_))
     rfl
    |true=>
     rw[J]at d1
     cases e3:g.word with
     |false=>
      rw[e3]at V
      repeat' (first|(refine aC fun K c=>?_;refine aG ?_;simp only[z,P,V,a0,d1,aE,RR,seval];apply c;clear c K)|(refine aI ?_)|(refine bN ?_)|(refine aL ?_;simp only[bL])|(refine aO ?_;simp only[aY,aK,bR,RR,seval];refine aZ.pure ?_))
      rfl
     |true=>
      rw[e3]at V
      repeat' (first|(refine aC fun K c=>?_;refine aG ?_;simp only[z,P,V,a0,d1,aE,RR,seval];apply c;clear c K)|(refine aI ?_)|(refine cL ?_)|(refine aO ?_;simp only[bL,aY,aK,bR,RR,seval];refine aZ.pure ?_))
      rfl
end Go.Proofs.YtaecpjgmcffliaaGreatDoor
