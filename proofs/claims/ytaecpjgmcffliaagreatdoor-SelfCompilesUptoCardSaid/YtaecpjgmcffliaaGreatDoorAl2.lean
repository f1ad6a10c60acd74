/- Al2 -/
import Derived.Test.YtaecpjgmcffliaaGreatDoorAl1
import Derived.Laws.CopyRow
import Derived.Laws.IdiomCopy
import Derived.Lib.ConvBytes
set_option linter.unusedSimpArgs false
set_option linter.unusedVariables false
set_option maxRecDepth 10000
namespace Go.Al
inductive sJ where
 |ret (v:AV)
 |pan (v:AV)
def vH (S:gG) (w:World):sJ→Ending→Prop
 | .ret v,e=> ∃v',e= .returned v'∧cB S w v v'
 | .pan v,e=> ∃v',e= .panicked [{v:=v',recovered:=false}]∧cB S w v v'
def KF (H:Hp):Nat→Prop:=fun b=>H b≠none
def ZB (E:kB) (f:FuncId):Prop:= ∃fn,E.P.funcs[f]?=some fn∧(fn.name== "runtime.NumGoroutine")=false∧fn.body.isNone=false
def pP (E:kB) (f:FuncId) (args:List AV) (H0:Hp) (R:sJ→Hp→Prop):Prop:=
 ZB E f∧ ∀(w0:World) (S0:gG) (vs:List Value),St E ⟨w0,KF H0,S0,[],fun _=>Go.undef⟩ S0 H0 w0→cY S0 w0 args vs→
  Calls E.P f vs.toArray w0 fun e w'=> ∃ae H' S',St E ⟨w0,KF H0,S0,[],fun _=>Go.undef⟩ S' H' w'∧vH S' w' ae e∧R ae H'
def jE (x y:AV):Prop:= ∀S w v,cB S w x v→cB S w y v
def gK (xs ys:List AV):Prop:= ∀S w vs,cY S w xs vs→cY S w ys vs
theorem jE.refl (x:AV):jE x x:=fun _ _ _ h=>h
theorem gK.refl (x:List AV):gK x x:=fun _ _ _ h=>h
theorem gK.cons {x y:AV} {xs c:List AV} (h:jE x y) (d:gK xs c):gK (x::xs) (y::c):=by
 intro S w vs b;simp only[cY]at *;obtain⟨u,g,e,b,f⟩:=b;exact⟨u,g,e,h _ _ _ b,d _ _ _ f⟩
theorem jE.undef (x:AV):jE x .undef:=fun _ _ _ _=>by simp only[cB]
theorem jE.nsl (sz:Nat):jE .nsl (.isl sz []):=by
 intro S w v h;simp only[cB]at *;exact⟨none,0,h,aZ _,by simp [maxLen], .inl trivial⟩
theorem jE.agg {xs c:List AV} (h:gK xs c):jE (.agg xs) (.agg c):=by
 intro S w v b;simp only[cB]at *;obtain⟨vs,e,b⟩:=b;exact⟨vs,e,h _ _ _ b⟩
theorem jE.tup {xs c:List AV} (h:gK xs c):jE (.tup xs) (.tup c):=by
 intro S w v b;simp only[cB]at *;obtain⟨vs,e,b⟩:=b;exact⟨vs,e,h _ _ _ b⟩
def sD (H0 H:Hp):Prop:= ∀b o,H0 b=some o→H b=some o
def kT (H' H0 H:Hp):Hp:=fun b=>match H' b with |some o=>some o|none=>if(H0 b).isSome then none else H b
theorem Qi (H:Hp):kT oN oN H=H:=by funext b;simp [kT,oN]
theorem qK (H:Hp):sD oN H:=fun b o h=>by cases h
section
variable {E : kB} {γ : lR} {S : gG} {H : Hp} {w : World} {fr : Fr} {a : Act}
theorem St.keeps (hst:St E γ S H w) {M:Nat→Prop} {f:World} (e:oI M w f) (g: ∀k,M k→k<w.heap.size→ ¬S k) {d:gG} (i: ∀k,S k→d k):iC S d w f:=
 ⟨fun k b=>e.keep k (hst.lt k b) (fun c=>g k c (hst.lt k b) b),e.shp,i⟩
theorem mY.keeps {b:gG} {c:World} (d:iC S b w c) (e:mY S w fr a):mY b c fr a:=fun t=>cB.mono d _ _ (e t)
theorem mY.put (b:mY S w fr a) {d:Option Nat} (hd: ∀i,d=some i→i<a.tmps.size) {v:AV} {v':Value} (f:cB S w v v'):mY S w (fH fr d v) (a.put d v'):=by
 intro t
 cases d with
 |none=>exact b t
 |some i=>
  have c:=hd i rfl;simp only[fH,Act.put,upd];by_cases h:t=i
  ·subst h
   simp only[cQ];have :(a.tmps.setIfInBounds t v').getD t Go.undef=v':=by simp [iT,c]
   rw[this];exact f
  simp only[aO h]
  have :(a.tmps.setIfInBounds i v').getD t Go.undef=a.tmps.getD t Go.undef:=by
   simp only[iT];rw[Array.getElem?_setIfInBounds_ne (fun e=>h e.symm)]
  rw[this];exact b t
theorem St.step (hst:St E γ S H w) {M:Nat→Prop} {p:World} (f:oI M w p) (x: ∀k,M k→k<w.heap.size→H k≠none) {l:gG} {H':Hp}
  (u: ∀k,S k→l k) (D: ∀k,l k→k<p.heap.size) (G: ∀k,l k→S k∨H k≠none∨w.heap.size≤k)
  (A: ∀b o,H' b=some o→ ¬l b∧((H b=some o∧ ¬M b)∨(jQ l p b o∧(H b≠none∨w.heap.size≤b)))):St E γ l H' p:=by
 have own: ∀b,H b≠none→γ.O b∨γ.w0.heap.size≤b:=fun b v=>by
  cases i:H b with
  |none=>exact absurd i v
  |some o=>exact(hst.obj b o i).2.2
 have t:iC S l w p:=hst.keeps f (fun k d C=>by
  cases i:H k with
  |none=>exact absurd i (x k d C)
  |some o=>exact(hst.obj k o i).2.1) u
 refine⟨D,fun k d=>u k (hst.base k d),fun k d=>?_,fun b o v=>?_, ?_,fun g row B=>?_⟩
 ·rcases G k d with h|h|h
  ·exact hst.src k h
  ·exact .inr (own k h)
  exact .inr (.inr (oH hst.ext.size h))
 ·obtain⟨n,e⟩:=A b o v
  rcases e with⟨e,h3⟩|⟨e,h3⟩
  ·have i:=(hst.obj b o e).1
   exact⟨jQ.mono t (f.keep b i.lt h3) o i,n,(hst.obj b o e).2.2⟩
  refine⟨e,n, ?_⟩;rcases h3 with h3|h3
  ·exact own b h3
  exact .inr (oH hst.ext.size h3)
 ·have j:=hst.ext
  refine⟨f.os.trans j.os,f.tape.trans j.tape,f.output.trans j.output,oH j.size f.size,fun k d y=>?_,fun k z F=>f.shp k z (j.shp k z F)⟩;rw[f.keep k (sG d j.size) (fun c=>?_)]
  ·exact j.keep k d y
  rcases own k (x k c (sG d j.size))with h|h
  ·exact y h
  omega
 obtain⟨n,e⟩:=hst.glb g row B;exact⟨u g n,eU.mono t row g 0 (t.heap g n) e⟩
theorem St.alloc (hst:St E γ S H w) {ob:Obj} {o:iG} (i:jQ S (w.alloc ob) w.heap.size o):H w.heap.size=none∧iC S S w (w.alloc ob)∧St E γ S (upd H w.heap.size (some o)) (w.alloc ob):=by
 have g:H w.heap.size=none:=by
  cases h:H w.heap.size with
  |none=>rfl
  |some f=>exact absurd (hst.obj _ _ h).1.lt (OZ _)
 refine⟨g,hst.keeps (oI.alloc (fun _=>False) w ob) (fun _ h=>h.elim) (fun _ h=>h),hst.step (oI.alloc (fun _=>False) w ob) (fun _ h=>h.elim) (fun _ h=>h) (fun k d=>by simp;exact Nat.lt_succ_of_lt (hst.lt k d)) (fun k d=> .inl d) fun b f c=>?_⟩;by_cases e:b=w.heap.size
 ·subst e
  simp only[upd,cQ,Option.some.injEq]at c;subst c;exact⟨fun j=>OZ _ (hst.lt _ j), .inr ⟨i, .inr (aZ _)⟩⟩
 simp only[upd,aO e]at c;exact⟨(hst.obj b f c).2.1, .inl ⟨c,fun h=>h⟩⟩
theorem St.allocSealed (hst:St E γ S H w) {ob:Obj}:iC S (fun k=>S k∨k=w.heap.size) w (w.alloc ob)∧St E γ (fun k=>S k∨k=w.heap.size) H (w.alloc ob):=by
 refine⟨hst.keeps (oI.alloc (fun _=>False) w ob) (fun _ h=>h.elim) (fun _ h=> .inl h),hst.step (oI.alloc (fun _=>False) w ob) (fun _ h=>h.elim) (fun _ h=> .inl h) (fun k hk=>?_) (fun k hk=>?_) fun b d c=>?_⟩
 ·simp
  rcases hk with hk|hk
  ·exact Nat.lt_succ_of_lt (hst.lt k hk)
  omega
 ·rcases hk with hk|hk
  ·exact .inl hk
  exact .inr (.inr (by omega))
 refine⟨fun hs=>?_, .inl ⟨c,fun h=>h⟩⟩;rcases hs with hs|hs
 ·exact(hst.obj b d c).2.1 hs
 have:=(hst.obj b d c).1.lt;omega
theorem cZ.fresh {cs:Array Value} {e:TypeId} {c:gG} (g:iC S c w (w.alloc (.cells cs e))) {vs:List Value} {sz:Nat} {l:List (List AV)} (k:cs.toList.take (l.length *sz)=vs)
  (n: ∀i row,l[i]?=some row→row.length=sz∧cY S w row ((vs.drop (i *sz)).take sz)):cZ c (w.alloc (.cells cs e)) w.heap.size 0 sz l:=by
 refine cZ.of_get fun i row o=>?_;obtain⟨d,f⟩:=n i row o;refine⟨d,eU.of_vals (cY.mono g _ _ f) fun j v b=>?_⟩;rw[World.cell?_alloc_new];rw[eH]at b;split at b
 ·rw[dW,←k,eH]at b
  split at b
  ·simpa using b
  cases b
 cases b
end
theorem S7 {d:Type} {sz:Nat}: ∀(b:List (List d)) (i:Nat) (c:List d),(∀x∈b,x.length=sz)→b[i]?=some c→(b.flatten.drop (i *sz)).take sz=c
 |[],i,c,_,h=>by simp at h
 |x::b,0,c,hl,h=>by
  simp at h;subst h;have:=hl x (by simp);simp [←this]
 |x::b,i+1,c,hl,h=>by
  simp at h;have e:=hl x (by simp);have g:=S7 b i c (fun y f=>hl y (by simp [f])) h;rw[nL,kQ,sA,List.drop_append,e];simp only[Nat.add_sub_cancel];rw[List.drop_eq_nil_of_le (by omega),cC];exact g
theorem Eo {d:Type} {sz:Nat}: ∀(b:List (List d)),(∀x∈b,x.length=sz)→b.flatten.length=b.length *sz
 |[],_=>by simp
 |x::b,h=>by
  rw[nL,aB,h x (by simp),Eo b (fun y c=>h y (by simp [c])),aJ,kQ,sA,Nat.add_comm]
theorem Jj (sz:Nat): ∀(d:List (Nat×Value)) (k:Nat) (b:Array Value),(∀(i:Nat) q,d[i]?=some q→q.1=k+i∧q.2.cells.size=sz)→(k+d.length) *sz≤b.size→
  ∃g,Instr.fill (fun i=>some (i *sz,sz)) b d=some g∧g.size=b.size∧g.toList.take ((k+d.length) *sz)=b.toList.take (k *sz)++(d.map (·.2.cells.toList)).flatten
 |[],k,b,_,_=>⟨b,by simp [Instr.fill],rfl,by simp⟩
 |(i,v)::d,k,b,h,hs=>by
  obtain⟨n,f⟩:=h 0 _ rfl;simp only[mV]at n f;subst n;simp only[aJ]at hs;have y:(i+1) *sz≤b.size:=oH (gA _ (by omega)) hs;rw[kQ,sA]at y;have l:=Dk (i *sz) v.cells.toList 0 b (by simp [f];omega);simp only[mV,lK,f]at l
  have p:(v.cells.zipIdx.foldl (fun e (c,j)=>e.setIfInBounds (i *sz+j) c) b)=(v.cells.toList.zipIdx.foldl (fun e (c,j)=>e.setIfInBounds (i *sz+j) c) b):=by
   rw[←Array.foldl_toList];simp
  generalize z:(v.cells.zipIdx.foldl (fun e (c,j)=>e.setIfInBounds (i *sz+j) c) b)=new at *;rw[←p]at l
  have o:new.size=b.size:=by
   have:=congrArg List.length l;simp only[lK,aB,dS,fK,f]at this;omega
  obtain⟨g,t,u,x⟩:=Jj sz d (i+1) new (fun j q A=>by
   have:=h (j+1) q (by simpa using A)
   exact⟨by omega,this.2⟩) (by rw[o,show i+1+d.length=i+(d.length+1)by omega];exact hs)
  refine⟨g, ?_,u.trans o, ?_⟩
  ·simp only[Instr.fill]
   rw[aO (by simp;omega),z];exact t
  rw[aJ,show i+(d.length+1)=i+1+d.length by omega,x,l,kQ,sA];rw[List.take_append,List.take_append];simp only[cX,nL];have B:(b.toList.take (i *sz)).length=i *sz:=by simp;omega
  have C:v.cells.toList.length=sz:=by simpa using f
  simp [B,C];rw[show List.take sz v.cells.toList=v.cells.toList from sH (by omega),sH (by omega)]
def oQ (E:kB) (fr:Fr) (size:Nat):Nat→List (Nat×Operand)→Option (List (List AV))
 |_,[]=>some []
 |k,(i,x)::r=>if i=k then(cellsOf (ev E.G fr x)).bind fun cs=>if cs.length=size then(oQ E fr size (k+1) r).map (cs:: ·)else none else none
section
variable {E : kB} {γ : lR} {S : gG} {H : Hp} {w : World} {fr : Fr} {a : Act}
theorem Fh (hst:St E γ S H w) (e:mY S w fr a) {size:Nat}: ∀(b:List (Nat×Operand)) (k:Nat) (rows:List (List AV)),oQ E fr size k b=some rows→
  rows.length=b.length∧(∀(i:Nat) p,b[i]?=some p→p.1=k+i∧((a.eval p.2).cells.size=size))∧
  (∀(i:Nat) row,rows[i]?=some row→row.length=size∧ ∃p,b[i]?=some p∧cY S w row (a.eval p.2).cells.toList)
 |[],k,rows,h=>by simp [oQ]at h;subst h;simp
 |(j,x)::b,k,rows,h=>by
  simp only[oQ,eK,cJ,bG]at h;obtain⟨rfl,B,y,z,r,A,rfl⟩:=h;obtain⟨o,t,u⟩:=Fh hst e b (j+1) r A;have f:=nP (eX hst e x) y;refine⟨by simp [o],fun i p c=>?_,fun i row d=>?_⟩
  ·cases i with
   |zero=>simp at c;subst c;refine⟨by simp, ?_⟩;have v:=f.length;simp at v;show(a.eval x).cells.size=size;omega
   |succ i=>simp at c;have:=t i p c;exact⟨by omega,this.2⟩
  cases i with
  |zero=>simp at d;subst d;exact⟨z,_,rfl,f⟩
  |succ i=>simp at d;obtain⟨g,p,l,n⟩:=u i row d;exact⟨g,p,by simpa using l,n⟩
theorem MI (hst:St E γ S H w) (T:mY S w fr a) {t e:TypeId} {s1 K:Nat} {z1:AV} {c:TI} {len:Nat} {d:Array (Nat×Operand)} {rows:List (List AV)}
  (Z:cF E.P t=some ⟨.slice e,s1,K,z1⟩) (u:cF E.P e=some c) (a1:len *c.size≤16777216) (X:oQ E fr c.size 0 d.toList=some rows) (o:rows.length=len):
  ∃b:Array Value,(Instr.buildSlice t len (d.map fun(i,x)=>(i,a.eval x))).run E.P w= .ok (.slice (some ⟨w.heap.size,0,none⟩) len len) (w.alloc (.cells b e))∧b.size=len *c.size∧
   ∀f,iC S f w (w.alloc (.cells b e))→cZ f (w.alloc (.cells b e)) w.heap.size 0 c.size rows:=by
 obtain⟨y,A,O⟩:=Fh hst T _ _ _ X;obtain⟨z,hz,_⟩:=mN u w;have D:=lS Z
 -- the cells that are filled
 have G: ∀k:Array Value, ∃b:Array Value,Instr.fill (fun i=>some (i *c.size,c.size)) ((Array.range (len *c.size)).map (k[· % k.size]!)) (d.map fun(i,x)=>(i,a.eval x)).toList=some b∧
   b.size=len *c.size∧b.toList.take (len *c.size)=(d.toList.map fun p=>(a.eval p.2).cells.toList).flatten:=fun k=>by
  obtain⟨a0,o1,o2,I⟩:=Jj c.size (d.map fun(i,x)=>(i,a.eval x)).toList 0 ((Array.range (len *c.size)).map (k[· % k.size]!))
   (fun i q C=>by
    simp only[Array.toList_map,cT,bG]at C;obtain⟨p,V,rfl⟩:=C;obtain⟨l,n⟩:=A i p V
    exact⟨l,n⟩) (by simp [←y,o])
  refine⟨a0,o1,by rw[o2];simp, ?_⟩;have :0+(d.map fun(i,x)=>(i,a.eval x)).toList.length=len:=by simp [←o,y]
  rw[this]at I;rw[I];simp [List.map_map,Function.comp_def]
 have J: ∀b:Array Value,b.size=len *c.size→b.toList.take (len *c.size)=(d.toList.map fun p=>(a.eval p.2).cells.toList).flatten→
   ∀f,iC S f w (w.alloc (.cells b e))→cZ f (w.alloc (.cells b e)) w.heap.size 0 c.size rows:=fun b c1 L f R=>by
  refine cZ.fresh R (vs:=(d.toList.map fun p=>(a.eval p.2).cells.toList).flatten) (by rw[o];exact L) fun i row Y=>?_;obtain⟨l,p,n,M⟩:=O i row Y;refine⟨l, ?_⟩;rw[S7 _ i (a.eval p.2).cells.toList (fun x F=>?_) (by simp [n])]
  ·exact M
  simp only[lI]at F;obtain⟨p',W,rfl⟩:=F;obtain⟨j,U⟩:=gO W;simpa using(A j p' U).2
 have B: ¬(len *c.size>2^24):=by simp;omega
 by_cases v:len *c.size=0
 ·obtain⟨b,k1,g,k3⟩:=G #[]
  refine⟨b, ?_,g,J b g k3⟩;simp only[Instr.buildSlice,Sem.run_bind,run_underlying D,Result.andThen_ok,gS u,aO B];rw[bF v];simp only[Sem.run_bind,Sem.run_pure,Result.andThen_ok,k1,newRow,run_newObj];rfl
 obtain⟨b,k1,g,k3⟩:=G z.cells;refine⟨b, ?_,g,J b g k3⟩;simp only[Instr.buildSlice,Sem.run_bind,run_underlying D,Result.andThen_ok,gS u,aO B];rw[aO v];simp only[Sem.run_bind,hz,Sem.run_pure,Result.andThen_ok,k1,newRow,run_newObj];rfl
end
theorem rH {e:Type} (A vs:List e) (p:Nat) (h:p+vs.length≤A.length) (q:Nat):
  (A.take p++vs++A.drop (p+vs.length))[q]?=if q<p then A[q]? else if q<p+vs.length then vs[q-p]? else A[q]?:=by
 have d:(A.take p).length=p:=by simp;omega
 rw[bV,ZN,d];split
 ·rename_i b;rw[eH,bF b]
 rename_i b;rw[ZN];split
 ·rename_i c;rw[bF (by omega)]
 rename_i c;rw[aO (by omega),dW];congr 1;omega
section
variable {S : gG} {w : World}
theorem eU.cells {b off:Nat} {row:List AV} {c:Array Value} {e:TypeId} {f:Nat×Nat} (k:w.heap[b]?=some (.cells c e f)) (h:eU S w b off row):
  cY S w row ((c.toList.drop off).take row.length):=by
 obtain⟨vs,g,l⟩:=h.vals
 have :(c.toList.drop off).take row.length=vs:=by
  apply lJ;intro j;rw[eH,←g.length];split
  ·rename_i d
   have i:=l j _ (aC d);rw[cell_of_row w b (off+j) c e f k]at i;rw[dW,aC d];simpa using i
  rename_i d;rw[dO (by omega)]
 rw[this];exact g
theorem eU.of_cells {b off:Nat} {row:List AV} {d:Array Value} {e:TypeId} {f:Nat×Nat} (g:w.heap[b]?=some (.cells d e f)) {n:Nat} (h:cY S w row ((d.toList.drop off).take n)):
  eU S w b off row:=
 eU.of_vals h fun j v c=>by
  rw[cell_of_row w b (off+j) d e f g];rw[eH]at c;split at c
  ·rw[dW]at c;simpa using c
  cases c
theorem cZ.vals: ∀{l:List (List AV)} {b off sz:Nat},cZ S w b off sz l→ ∃vs,cY S w l.flatten vs∧vs.length=l.length *sz∧ ∀(j:Nat) v,vs[j]?=some v→w.cell? ⟨b,off+j,none⟩=some v
 |[],b,off,sz,_=>⟨[],by simp [cY],by simp,by simp⟩
 |r::rs,b,off,sz,h=>by
  simp only[cZ]at h;obtain⟨t,i,k⟩:=h;obtain⟨e,d,f⟩:=i.vals;obtain⟨p,n,o,g⟩:=cZ.vals k;have x:=d.length;refine⟨e++p,by rw[nL];exact d.append n,by rw[aB,o,aJ,kQ];omega,fun j v c=>?_⟩;rw[ZN]at c;split at c
  ·exact f j v c
  rename_i u;have:=g _ _ c;rwa [show off+sz+(j-e.length)=off+j by omega]at this
end
theorem jR (P:Program) (g o:Nat) (t:TypeId) (c:Nat×Nat): ∀(vs:List Value) (i:Nat) (b:Array Value) (w:World),w.heap[g]?=some (.cells b t c)→J8 c b.size→o+i+vs.length≤b.size→(∀v∈vs,v.oneCell'=true)→
  (storeCells ⟨g,o,none⟩ vs i).run P w= .ok () (w.setRow g (b.toList.take (o+i)++vs++b.toList.drop (o+i+vs.length)).toArray)
 |[],i,b,w,hg,_,_,_=>by
  simp only[storeCells,eF,aT,mV,lZ,eS];rw[setRow_self w g b t c hg];rfl
 |v::rest,i,b,w,hg,hfz,hl,h1=>by
  have k:o+i<b.size:=by simp at hl;omega
  have d:(⟨g,o,none⟩:Addr).add i=⟨g,o+i,none⟩:=by unfold Addr.add;split<;>simp_all
  have f:w.cell? ⟨g,o+i,none⟩=some b[o+i]:=by simp [World.cell?,hg,k]
  have j:w.frozen? ⟨g,o+i,none⟩=false:=by
   obtain⟨y,u⟩:=c;simp only[World.frozen?,hg,uB,eQ];simp only[J8]at hfz;omega
  have l:(store ((⟨g,o,none⟩:Addr).add i) v).run P w= .ok () (w.setRow g (b.setIfInBounds (o+i) v)):=by
   rw[d,run_store P w _ v _ (h1 v (by simp)),f];simp [j,setCell_eq_setRow w g (o+i) b t c v hg]
  have p:=jR P g o t c rest (i+1) (b.setIfInBounds (o+i) v) (w.setRow g (b.setIfInBounds (o+i) v)) (setRow_heap w g b _ t _ hg) (by simpa using hfz) (by simp at hl⊢;omega) (fun x n=>h1 x (by simp [n]));simp only[storeCells,Sem.run_bind,l,Result.andThen_ok,p,setRow_setRow];congr 3;have e:=list_seg_step b.toList (o+i) v rest (by simp at hl⊢;omega);simpa [Array.toList_setIfInBounds,gJ]using e
def one:AV→Bool
 | .undef| .agg _| .tup _=>false
 |_=>true
theorem Ir {S:gG} {w:World} {x:AV} {v:Value} (h:cB S w x v) (b:one x=true):v.oneCell'=true:=by
 cases x<;>simp only[one]at b<;>(try (cases b;done))<;>simp only[cB]at h<;>first
  |(subst h;rfl)
  |(obtain⟨_,_,rfl,_⟩:=h;rfl)
  |(obtain⟨_,rfl,_⟩:=h;rfl)
theorem xL {S:gG} {w:World}: ∀{b:List AV} {vs:List Value},cY S w b vs→b.all one=true→ ∀v∈vs,v.oneCell'=true
 |[],vs,h,_,v,hv=>by simp only[cY]at h;subst h;simp at hv
 |x::b,vs,h,ho,v,hv=>by
  simp only[cY]at h;obtain⟨u,e,rfl,c,d⟩:=h;simp only[eD,aV]at ho;rcases bJ.1 hv with rfl|hv
  ·exact Ir c ho.1
  exact xL d ho.2 v hv
theorem oI.setRow {M:Nat→Prop} {w:World} {b:Nat} {uF cs:Array Value} {e:TypeId} {c:Nat×Nat} (d:w.heap[b]?=some (.cells uF e c)) (j:cs.size=uF.size) (g:M b):oI M w (w.setRow b cs):=by
 refine⟨rfl,rfl,rfl,by simp,fun k _ i=>setRow_other w b k cs (fun h=>i (h▸g)),fun k l h=>?_⟩;by_cases f:k=b
 ·subst f
  simp only[World.shape?,d]at h;simp only[World.shape?,setRow_heap w k uF cs e c d,j];exact h
 rw[rI (setRow_other w b k cs f)];exact h
section
variable {E : kB} {γ : lR} {S : gG} {H : Hp} {w : World} {fr : Fr} {a : Act}
theorem St.setRow (hst:St E γ S H w) {b sz:Nat} {l l':List (List AV)} {f cs:Array Value} {e:TypeId} {g:Nat×Nat} (n:H b=some (.rows sz l)) (t:w.heap[b]?=some (.cells f e g)) (B:J8 g f.size) (x:cs.size=f.size)
  (C:l'.length *sz≤cs.size) (D: ∀(i:Nat) row,l'[i]?=some row→row.length=sz∧cY S w row ((cs.toList.drop (i *sz)).take sz)):
  iC S S w (w.setRow b cs)∧St E γ S (upd H b (some (.rows sz l'))) (w.setRow b cs):=by
 have y:oI (fun k=>k=b) w (w.setRow b cs):=oI.setRow t x rfl;have v: ¬S b:=(hst.obj b _ n).2.1;have p:iC S S w (w.setRow b cs):=hst.keeps y (fun k c _=>c▸v) (fun _ h=>h);refine⟨p,hst.step y (fun k c _=>by subst c;simp [n]) (fun _ h=>h) (fun k c=>by simp;exact hst.lt k c) (fun k c=> .inl c) fun j o d=>?_⟩;by_cases h:j=b
 ·subst h
  simp only[upd,cQ,Option.some.injEq]at d;subst d;refine⟨v, .inr ⟨?_, .inl (by simp [n])⟩⟩;simp only[jQ];have u:=setRow_heap w j f cs e g t;refine⟨cs,e,⟨g,u,by rw[x];exact B⟩,C,cZ.of_get fun i row F=>?_⟩;obtain⟨z,A⟩:=D i row F;refine⟨z, ?_⟩;rw[cD];exact eU.of_cells u (cY.mono p _ _ A)
 simp only[upd,aO h]at d;exact⟨(hst.obj j o d).2.1, .inl ⟨d,h⟩⟩
theorem If (hst:St E γ S H w) {t:TypeId} {O:TI} (ht:cF E.P t=some O) {sz b i j:Nat} {l:List (List AV)} {row:List AV} {x:AV} {d:Value} {cs:List AV} (B:H b=some (.rows sz l)) (J:l[i]?=some row)
  (hx:cB S w x d) (V:cellsOf x=some cs) (hn:cs.length=O.size) (hj:j+cs.length≤row.length) (U:cs.all one=true):
  ∃z,(storeVar t ⟨b,i *sz+j,none⟩ d).run E.P w= .ok () z∧iC S S w z∧St E γ S (upd H b (some (.rows sz (l.set i (row.take j++cs++row.drop (j+cs.length)))))) z:=by
 have F:=(hst.obj b _ B).1;simp only[jQ]at F;obtain⟨c,e,⟨R,n,C⟩,a3,G⟩:=F;obtain⟨a2,I⟩:=cZ.get i G J;rw[cD]at I;have y:=nP hx V;have g:d.cells.toList.length=cs.length:=y.length;have Y:i<l.length:=(bD.1 J).1;have W:(i+1) *sz≤c.size:=oH (gA _ Y) a3;rw[kQ,sA]at W;have K:=jR E.P b (i *sz+j) e R d.cells.toList 0 c w n C (by omega) (xL y U);simp only[mV]at K;refine⟨w.setRow b (c.toList.take (i *sz+j)++d.cells.toList++c.toList.drop (i *sz+j+d.cells.toList.length)).toArray, ?_, ?_⟩
 ·simp only[storeVar,Sem.run_bind,gS ht,Result.andThen_ok]
  rw[aO (by simp at g;simp;omega)];exact K
 refine hst.setRow B n C (by simp at g⊢;omega) (by simp at g⊢;omega) fun k a4 o=>?_;have D:=rH c.toList d.cells.toList (i *sz+j) (by simp at g⊢;omega);rw[hJ]at o;split at o
 ·rename_i v
  subst v;cases o;have a0:(row.take j++cs++row.drop (j+cs.length)).length=sz:=by simp;omega
  refine⟨a0, ?_⟩;have f:=eU.cells n I;rw[a2]at f
  have u:(List.drop (i *sz) (c.toList.take (i *sz+j)++d.cells.toList++c.toList.drop (i *sz+j+d.cells.toList.length))).take sz=
    ((c.toList.drop (i *sz)).take sz).take j++d.cells.toList++((c.toList.drop (i *sz)).take sz).drop (j+d.cells.toList.length):=by
   have Z:((c.toList.drop (i *sz)).take sz).length=sz:=by simp;omega
   apply lJ;intro q;rw[rH _ _ _ (by rw[Z];omega),eH,dW,D]
   have X: ∀q,((c.toList.drop (i *sz)).take sz)[q]?=if q<sz then c.toList[i *sz+q]? else none:=fun q=>by
    rw[eH,dW]
   rw[X];by_cases p:q<sz
   ·rw[bF p,bF p]
    by_cases L:q<j
    ·rw[bF (by omega),bF L]
    rw[aO (by omega),aO L];by_cases M:q<j+d.cells.toList.length
    ·rw[bF (by omega),bF M];congr 1;omega
    rw[aO (by omega),aO M]
   rw[aO p,aO p,aO (by omega),aO (by omega)]
  rw[u];exact(cY.append (f.take j) y).append (by rw[g];exact f.drop _)
 rename_i v;obtain⟨A,T⟩:=cZ.get k G o;refine⟨A, ?_⟩;have f:=eU.cells n T;rw[A,cD]at f
 have u:(List.drop (k *sz) (c.toList.take (i *sz+j)++d.cells.toList++c.toList.drop (i *sz+j+d.cells.toList.length))).take sz=(c.toList.drop (k *sz)).take sz:=by
  apply lJ;intro q;rw[eH,eH,dW,dW,D];split
  ·rename_i hq
   rcases Nat.lt_or_gt_of_ne v with a1|hgt
   ·have :(i+1) *sz≤k *sz:=gA _ a1
    rw[kQ,sA]at this;rw[aO (by omega),aO (by omega)]
   have :(k+1) *sz≤i *sz:=gA _ hgt;rw[kQ,sA]at this;rw[bF (by omega)]
  rfl
 rw[u];exact f
end
def Do (H:Hp) (sz:Nat):AV→Option (List (List AV))
 | .nsl=>some []
 | .isl sz' l=>if sz'=sz then some l else none
 | .osl sz' b len=>match H b with
   |some (.rows sz'' l)=>if sz'=sz∧sz''=sz∧len≤l.length then some (l.take len)else none
   |_=>none
 |_=>none
section
variable {E : kB} {γ : lR} {S : gG} {H : Hp} {w : World} {fr : Fr} {a : Act}
theorem BJ (hst:St E γ S H w) {sz:Nat} {x:AV} {p:Value} {n:List (List AV)} (f:cB S w x p) (h:Do H sz x=some n):
  ∃k c g,p= .slice k n.length c∧cY S w n.flatten g∧g.length=n.length *sz∧(∀r∈n,r.length=sz)∧
   (n=[]∨ ∃o,k=some o∧ ∀(j:Nat) v,g[j]?=some v→w.cell? (o.add j)=some v):=by
 have u: ∀(b off:Nat) (c:Nat) (l:List (List AV)),cZ S w b off sz l→p= .slice (some ⟨b,off,none⟩) l.length c→
   ∃k c g,p= .slice k l.length c∧cY S w l.flatten g∧g.length=l.length *sz∧(∀r∈l,r.length=sz)∧
   (l=[]∨ ∃o,k=some o∧ ∀(j:Nat) v,g[j]?=some v→w.cell? (o.add j)=some v):=by
  intro b off c l d e;obtain⟨vs,y,z,A⟩:=d.vals;refine⟨_,c,vs,e,y,z,fun r I=>?_, .inr ⟨_,rfl,fun j v F=>?_⟩⟩
  ·obtain⟨i,D⟩:=gO I
   exact(cZ.get i d D).1
  rw[Addr.add_lit];exact A j v F
 cases x<;>simp only[Do]at h<;>try (cases h;done)
 case isl sz' l=>
  split at h<;>cases h;rename_i e;subst e;simp only[cB]at f;obtain⟨k,c,e,_,_,d⟩:=f;rcases d with rfl|⟨b,off,rfl,_,d⟩
  ·exact⟨k,c,[],e,by simp [cY],by simp,by simp, .inl rfl⟩
  exact u b off c _ d e
 case nsl=>
  cases h;simp only[cB]at f;exact⟨none,0,[],f,by simp [cY],by simp,by simp, .inl rfl⟩
 case osl sz' b len=>
  split at h<;>try (cases h;done)
  rename_i M l B;split at h<;>cases h;rename_i C;obtain⟨rfl,rfl,L⟩:=C;have t:=(hst.obj b _ B).1;simp only[jQ]at t;obtain⟨J,e,_,_,d⟩:=t;simp only[cB]at f;obtain⟨c,K,f,_⟩:=f;have G:(l.take len).length=len:=by simp;omega
  exact u b 0 c (l.take len) (d.take len) (by rw[G];exact f)
structure RF (E:kB) (t e:TypeId) (te:TI):Prop where
 ht: ∃s1 b1 z1,cF E.P t=some ⟨.slice e,s1,b1,z1⟩
 he:cF E.P e=some te
 hz:(cellsOf te.zero).map List.length=some te.size
 hb:1≤te.bytes
theorem St.drew (hst:St E γ S H w):iC S S w w.drew∧St E γ S H w.drew:=by
 have e:oI (fun _=>False) w w.drew:=oI.drew _ w;exact⟨hst.keeps e (fun _ h=>h.elim) (fun _ h=>h),hst.step e (fun _ h=>h.elim) (fun _ h=>h) (fun k c=>hst.lt k c) (fun k c=> .inl c) fun b o d=>⟨(hst.obj b o d).2.1, .inl ⟨d,fun h=>h⟩⟩⟩
theorem HG {S:gG} {w:World} {c:List (List AV)} {b:List Value} (h:cY S w c.flatten b) (d:c.all (fun r=>r.all one)=true): ∀v∈b,v.oneCell'=true:=
 xL h (by simpa [List.all_flatten]using d)
theorem yO {S:gG} {w:World} {sz:Nat}: ∀{b:List (List AV)} {c:List Value} (i:Nat) {row:List AV},cY S w b.flatten c→(∀r∈b,r.length=sz)→b[i]?=some row→cY S w row ((c.drop (i *sz)).take sz):=by
 intro b c i row h d e;have:=(h.drop (i *sz)).take sz;rwa [S7 b i row d e]at this
theorem St.newRows (hst:St E γ S H w) {e:TypeId} {cs:Array Value} {sz:Nat} {rows:List (List AV)} {vs:List Value} (f:cY S w rows.flatten vs) (c: ∀r∈rows,r.length=sz) (d:cs.toList.take (rows.length *sz)=vs) (g:rows.length *sz≤cs.size):
  H w.heap.size=none∧iC S S w (w.alloc (.cells cs e))∧St E γ S (upd H w.heap.size (some (.rows sz rows))) (w.alloc (.cells cs e)):=by
 refine hst.alloc ?_;simp only[jQ];refine⟨cs,e,⟨(0,0),heap_alloc_new w _, .inl (aZ _)⟩,g,cZ.fresh (hst.keeps (oI.alloc (fun _=>False) w (.cells cs e)) (fun _ h=>h.elim) (fun _ h=>h)) d fun i row b=>?_⟩;exact⟨c row (aW b),yO i f c b⟩
theorem qL (P:Program) (t ty e:TypeId) (i:TypeInfo) (j:P.underlying t=some (.slice e)) (g:P.info? e=some i) (b:Option Addr) (n cap:Nat) (f:n≤cap) (d:Option Addr) (c:Nat) (w1:World):
  (Builtin.append_ #[t,t] ty #[.slice b n cap, .slice d 0 c]).run P w1= .ok (.slice b n cap) w1:=by
 cases b<;>cases d<;>simp [Builtin.append_,run_underlying j,sizeOf,typeInfo,g,Builtin.lenOf,f,Builtin.firstCells,loadCells,loadCellsFrom,storeCells]
theorem yJ (P:Program) (w1:World) (t ty e n:TypeId) (i:TypeInfo) (F:P.underlying t=some (.slice e)) (A:P.info? e=some i)
  (g d l:Nat) (f:Array Value) (k:Nat×Nat) (z:w1.heap[g]?=some (.cells f n k)) (y:J8 k f.size)
  (a:Addr) (m c:Nat) (b:List Value) (B:b.length=m *i.size) (C: ∀(j:Nat) u,b[j]?=some u→w1.cell? (a.add j)=some u) (p: ∀u∈b,u.oneCell'=true)
  (D:d+m≤l) (x:d *i.size+b.length≤f.size):
  (Builtin.append_ #[t,t] ty #[.slice (some ⟨g,0,none⟩) d l, .slice (some a) m c]).run P w1=
   .ok (.slice (some ⟨g,0,none⟩) (d+m) l) (w1.setRow g (f.toList.take (d *i.size)++b++f.toList.drop (d *i.size+b.length)).toArray):=by
 have v:=run_firstCells_some (P:=P) w1 i.size m a m c b B C;have o:=jR P g (d *i.size) n k b 0 f w1 z y (by simpa using x) p;simp only[mV]at o;simp [Builtin.append_,run_underlying F,sizeOf,typeInfo,A,Builtin.lenOf,D,v,Addr.add_lit,o]
theorem Ii (hst:St E γ S H w) {t e ty:TypeId} {u:TI} (d6:RF E t e u) {s x:AV} {s' x':Value} {c:List (List AV)} (hs:cB S w s s') (hx:cB S w x x') (d9:Do H u.size x=some c) (h1:c.all (fun r=>r.all one)=true):
  (s= .nsl→c.length *u.bytes≤140737488355328→ ∃T y H' v,(Builtin.append_ #[t,t] ty #[s',x']).run E.P w= .ok T y∧iC S S w y∧St E γ S H' y∧cB S y v T∧
   ((c=[]∧v= .nsl∧H'=H)∨(c≠[]∧ ∃b,H b=none∧v= .osl u.size b c.length∧H'=upd H b (some (.rows u.size c)))))∧
  (∀b l,s= .osl u.size b l.length→H b=some (.rows u.size l)→(l.length+c.length) *u.bytes≤140737488355328→ ∃T y A,(Builtin.append_ #[t,t] ty #[s',x']).run E.P w= .ok T y∧iC S S w y∧
   (A=b∨H A=none)∧St E γ S (upd (upd H b none) A (some (.rows u.size (l++c)))) y∧cB S y (.osl u.size A (l.length+c.length)) T):=by
 obtain⟨⟨s1,b1,z1,ht⟩,he,hz,a4⟩:=d6;obtain⟨oa,J,f,rfl,b0,D,a1,b9⟩:=BJ hst hx d9;have I:=lS ht;obtain⟨d,i,z,hd,G,c9,b5⟩:=kF he;have es:u.size=i.size:=by rw[b5]
 have eb:u.bytes=i.bytes:=by rw[b5]
 rw[es]at D a1 hz;rw[eb]at a4;rw[es,eb]
 have e0:z.cells.size=i.size:=by
  rw[bG]at hz;obtain⟨cs,hc,e1⟩:=hz;rw[b5]at hc;have:=(nP (nQ S w z) hc).length;simp at this;omega
 have a7:=hst.drew
 -- the new block
 have grow: ∀(n:List Value) (l:List (List AV)) (uF:Nat),cY S w l.flatten n→(∀r∈l,r.length=i.size)→l.length+c.length≤maxLen→
   H w.heap.size=none∧iC S S w (w.drew.alloc (.cells (n.toArray++f.toArray++Builtin.zeroCells z.cells (grownCap w (l.length+c.length) uF e-(l.length+c.length))) e))∧
   (∀H',(∀b o,H' b=some o→H b=some o)→St E γ S (upd H' w.heap.size (some (.rows i.size (l++c)))) (w.drew.alloc (.cells (n.toArray++f.toArray++Builtin.zeroCells z.cells (grownCap w (l.length+c.length) uF e-(l.length+c.length))) e)))∧
   cB S (w.drew.alloc (.cells (n.toArray++f.toArray++Builtin.zeroCells z.cells (grownCap w (l.length+c.length) uF e-(l.length+c.length))) e)) (.osl i.size w.heap.size (l.length+c.length)) (.slice (some ⟨w.heap.size,0,none⟩) (l.length+c.length) (grownCap w (l.length+c.length) uF e)):=by
  intro n l uF ho a2 d4;have a8:=grownCap_ge w (l.length+c.length) uF e;have a5:=grownCap_le_maxLen w (l.length+c.length) uF e d4
  have Y: ∀r∈l++c,r.length=i.size:=fun r O=>by
   rcases eV.1 O with h|h
   ·exact a2 r h
   exact a1 r h
  have c6:=Eo (l++c) Y
  have a3:cY S w.drew (l++c).flatten (n++f):=by
   rw[List.flatten_append];exact(cY.mono a7.1 _ _ ho).append (cY.mono a7.1 _ _ b0)
  have c8:=a3.length
  have R:(n.toArray++f.toArray++Builtin.zeroCells z.cells (grownCap w (l.length+c.length) uF e-(l.length+c.length))).size=grownCap w (l.length+c.length) uF e *i.size:=by
   have h5:(n++f).length=(l.length+c.length) *i.size:=by rw[c8,c6,aB]
   rw[aB]at h5;simp only[Array.size_append,Gn,size_zeroCells,e0];rw[Nat.sub_mul,h5];have:=gA i.size a8;omega
  have c1:=fun H' (X: ∀b o,H' b=some o→H b=some o)=>St.newRows (e:=e) (cs:=n.toArray++f.toArray++Builtin.zeroCells z.cells (grownCap w (l.length+c.length) uF e-(l.length+c.length))) (sz:=i.size) (rows:=l++c) (vs:=n++f)
   (hst:=a7.2.step (oI.refl (fun _=>False) _) (fun _ h=>h.elim) (fun _ h=>h) (fun k p=>hst.lt k p) (fun k p=> .inl p) (H':=H') fun b o L=>⟨(hst.obj b o (X b o L)).2.1, .inl ⟨X b o L,fun h=>h⟩⟩)
   a3 Y (by
    have hq:(l++c).length *i.size=(n++f).length:=by rw[c8,c6]
    rw[hq];simp only[Array.toList_append,bV];rw[←bV]
    exact ZM) (by rw[R,aB];exact gA _ a8)
  obtain⟨f1,f2,f3⟩:=c1 H (fun _ _ h=>h);refine⟨f1,⟨fun k p=>(f2.heap k p),f2.shp,f2.sub⟩,fun H' X=>(c1 H' X).2.2, ?_⟩;simp only[cB];refine⟨_,e,rfl, ?_,a8,a5⟩;have:=heap_alloc_new w.drew (.cells (n.toArray++f.toArray++Builtin.zeroCells z.cells (grownCap w (l.length+c.length) uF e-(l.length+c.length))) e);simp only[World.size_drew]at this;simp only[World.shape?,this,R]
 constructor
 ·rintro rfl Z
  simp only[cB]at hs;subst hs;have hm:c.length≤140737488355328:=oH (Nat.le_mul_of_pos_right _ a4) Z;rcases b9 with rfl|⟨U,rfl,a0⟩
  ·exact⟨.slice none 0 0,w,H, .nsl,qL E.P t ty e i I G none 0 0 (aZ _) oa J w,hst.keeps (oI.refl (fun _=>False) w) (fun _ h=>h.elim) (fun _ h=>h),hst,by simp only[cB], .inl ⟨rfl,rfl,rfl⟩⟩
  by_cases b6:c=[]
  ·subst b6
   exact⟨.slice none 0 0,w,H, .nsl,qL E.P t ty e i I G none 0 0 (aZ _) _ J w,hst.keeps (oI.refl (fun _=>False) w) (fun _ h=>h.elim) (fun _ h=>h),hst,by simp only[cB], .inl ⟨rfl,rfl,rfl⟩⟩
  have d7:0<c.length:=List.length_pos_iff.2 b6;obtain⟨K,F,V,W⟩:=grow [] [] 0 (by simp [cY]) (by simp) (by simp [maxLen];omega);simp only[aT,cD,cC]at F V W;refine⟨_,_,_,_, ?_,F,V H (fun _ _ h=>h),W, .inr ⟨b6,_,K,rfl,rfl⟩⟩;have:=run_append_nil (P:=E.P) w t ty e i z I G c9 U c.length J f D a0 d7 (by omega) (by omega);rw[this];congr 2;congr 2;simp
 rintro b l rfl L Z;simp only[cB]at hs;obtain⟨B,e3,rfl,b4,c5,a5⟩:=hs;have hm:l.length+c.length≤140737488355328:=oH (Nat.le_mul_of_pos_right _ a4) Z;have ho:=(hst.obj b _ L).1;simp only[jQ]at ho;obtain⟨g,e4,⟨fz,M,c2⟩,e6,O⟩:=ho
 have b8:g.size=B *i.size:=by
  simp only[World.shape?,M,Option.some.injEq,Prod.mk.injEq]at b4;exact b4.2
 obtain⟨n,o1,o2,o3⟩:=O.vals
 have a2: ∀r∈l,r.length=i.size:=fun r b2=>by
  obtain⟨k,p⟩:=gO b2;exact(cZ.get k O p).1
 -- in place
 have d0: ∀C:l.length+c.length≤B, ∃cs:Array Value,cs=(g.toList.take (l.length *i.size)++f++g.toList.drop (l.length *i.size+f.length)).toArray∧iC S S w (w.setRow b cs)∧
   St E γ S (upd (upd H b none) b (some (.rows i.size (l++c)))) (w.setRow b cs)∧cB S (w.setRow b cs) (.osl i.size b (l.length+c.length)) (.slice (some ⟨b,0,none⟩) (l.length+c.length) B):=by
  intro C;have a9:=gA i.size C;rw[kQ]at a9;have c0:l.length *i.size+f.length≤g.toList.length:=by rw[D];simp;omega
  have c3:=rH g.toList f (l.length *i.size) c0;refine⟨_,rfl, ?_⟩
  have R:(g.toList.take (l.length *i.size)++f++g.toList.drop (l.length *i.size+f.length)).toArray.size=g.size:=by
   simp at c0⊢;omega
  have Y: ∀r∈l++c,r.length=i.size:=fun r b2=>by
   rcases eV.1 b2 with h|h
   ·exact a2 r h
   exact a1 r h
  have b3:=hst.setRow (l':=l++c) L M c2 R (by rw[R,b8,aB];exact gA _ C) fun k row p=>by
   refine⟨Y row (aW p), ?_⟩;rw[ZN]at p;split at p
   ·rename_i c4
    obtain⟨K,F⟩:=cZ.get k O p;have c7:=eU.cells M F;rw[K,cD]at c7;have d3:=gA i.size (show k+1≤l.length from c4);rw[kQ,sA]at d3
    have e2:(List.drop (k *i.size) (g.toList.take (l.length *i.size)++f++g.toList.drop (l.length *i.size+f.length))).take i.size=(g.toList.drop (k *i.size)).take i.size:=by
     apply lJ;intro q;rw[eH,eH,dW,dW,c3];split
     ·rw[bF (by omega)]
     rfl
    rw[e2];exact c7
   rename_i c4;have a3:=yO (k-l.length) b0 a1 p
   have e2:(List.drop (k *i.size) (g.toList.take (l.length *i.size)++f++g.toList.drop (l.length *i.size+f.length))).take i.size=(f.drop ((k-l.length) *i.size)).take i.size:=by
    have d1:k-l.length<c.length:=(bD.1 p).1;have d2:=gA i.size (show k-l.length+1≤c.length from d1);have e5:k *i.size=l.length *i.size+(k-l.length) *i.size:=by rw[←kQ];congr 1;omega
    rw[kQ,sA]at d2;apply lJ;intro q;rw[eH,eH,dW,dW,c3];split
    ·rw[aO (by omega),bF (by omega)];congr 1;omega
    rfl
   rw[e2];exact a3
  refine⟨b3.1, ?_, ?_⟩
  ·have :upd (upd H b none) b (some (.rows i.size (l++c)))=upd H b (some (.rows i.size (l++c))):=by
    funext k;simp only[upd];split<;>rfl
   rw[this];exact b3.2
  simp only[cB];exact⟨B,e3,rfl,b3.1.shp _ _ b4,C,a5⟩
 -- b7
 have b7:H w.heap.size=none∧_:=grow n l B o1 a2 (by simp [maxLen];omega);obtain⟨K,F,V,W⟩:=b7
 have sD: ∀A o,upd H b none A=some o→H A=some o:=fun A o h=>by
  simp only[upd]at h;split at h
  ·cases h
  exact h
 rcases b9 with rfl|⟨U,rfl,a0⟩
 ·obtain⟨cs,a6,i1,i2,i3⟩:=d0 (by simpa using c5)
  have d8:w.setRow b cs=w:=by
   subst a6;have d5:f=[]:=nF (by simpa using D);subst d5;simp only[eF,aT,mV,lZ,eS];exact setRow_self w b g e4 fz M
  rw[d8]at i1 i2 i3;exact⟨_,w,b,qL E.P t ty e i I G _ _ _ c5 oa J w,i1, .inl rfl,i2,by simpa using i3⟩
 by_cases C:l.length+c.length≤B
 ·obtain⟨cs,a6,i1,i2,i3⟩:=d0 C
  refine⟨_,_,b, ?_,i1, .inl rfl,i2,i3⟩;have a9:=gA i.size C;rw[kQ]at a9;rw[a6];exact yJ E.P w t ty e e4 i I G b l.length B g fz M c2 U c.length J f D a0 (HG b0 h1) C (by rw[D,b8];omega)
 refine⟨_,_,w.heap.size, ?_,F, .inr K,V _ sD,W⟩;exact run_append_grow (P:=E.P) w t ty e i z I G c9 ⟨b,0,none⟩ l.length B n o2 (fun j v hj=>by rw[Addr.add_lit];exact o3 j v hj) U c.length J f D a0 (by omega) (by omega) (growslice_fits (by omega) Z)
end
section
variable {E : kB} {γ : lR} {S : gG} {H : Hp} {w : World} {fr : Fr} {a : Act}
theorem X0 {f:Type} [Inhabited f] (z:Array f) (n:Nat) (e:0<z.size):((Array.range (n *z.size)).map (fun k=>z[k % z.size]!)).toList=(List.replicate n z.toList).flatten:=by
 apply lJ;intro q;have t:(List.replicate n z.toList).flatten.length=n *z.size:=by simp
 by_cases c:q<n *z.size
 ·have g:((Array.range (n *z.size)).map (fun k=>z[k % z.size]!)).toList[q]?=some z[q % z.size]! :=by
   simp [c]
  rw[g];have d:=sF q e;have o:q/z.size<n:=(Nat.div_lt_iff_lt_mul e).2 c;have j:=S7 (sz:=z.size) (List.replicate n z.toList) (q/z.size) z.toList (fun x p=>by rw[(Bl.1 p).2];simp) (by simp [o]);have i:((List.replicate n z.toList).flatten.drop (q/z.size *z.size)).take z.size=z.toList:=j;have b:=congrArg (fun l=>l[q % z.size]?) i;simp only[eH,dW,d,cQ]at b;rw[show q/z.size *z.size+q % z.size=q by rw[Nat.mul_comm];exact Nat.div_add_mod q z.size]at b;rw[b];simp [d]
 rw[dO (by simpa using Nat.le_of_not_lt c),dO (by omega)]
theorem HF (hst:St E γ S H w) {t e:TypeId} {s1 B:Nat} {z1:AV} {b:TI} {c:List AV} {n:Int} (U:cF E.P t=some ⟨.slice e,s1,B,z1⟩) (V:cF E.P e=some b) (y:cellsOf b.zero=some c) (Z:c.length=b.size) (a3:0<b.size)
  (a1:1≤b.bytes) (I:0≤n) (hn:b.bytes *n≤281474976710656) {k k':IntKind}:
  ∃l,(Instr.makeSlice t (.int k n) (.int k' n)).run E.P w= .ok (.slice (some ⟨w.heap.size,0,none⟩) n.toNat n.toNat) l∧H w.heap.size=none∧iC S S w l∧
   St E γ S (upd H w.heap.size (some (.rows b.size (List.replicate n.toNat c)))) l∧cB S l (.osl b.size w.heap.size n.toNat) (.slice (some ⟨w.heap.size,0,none⟩) n.toNat n.toNat):=by
 have W:=lS U;obtain⟨d,i,z,hd,o,Y,p⟩:=kF V;have es:b.size=i.size:=by rw[p]
 have C:b.bytes=i.bytes:=by rw[p]
 have A:cY S w c z.cells.toList:=nP (nQ S w z) (by rw[p]at y;exact y);have a0:z.cells.size=b.size:=by have:=A.length;simp at this;omega
 have M:(1:Int)≤(b.bytes:Int):=by omega
 have a2:n≤281474976710656:=by
  have h5:1 *n≤(b.bytes:Int) *n:=Int.mul_le_mul_of_nonneg_right M I;omega
 have X:IntKind.i64.wrap n=n:=aU n ⟨by omega,by omega⟩;have v:(List.replicate n.toNat c).length=n.toNat:=by simp
 have T:cY S w (List.replicate n.toNat c).flatten (List.replicate n.toNat z.cells.toList).flatten:=by
  generalize n.toNat=m
  induction m with
  |zero=>simp [cY]
  |succ m ih=>simp only[List.replicate_succ,nL];exact A.append ih
 have L: ∀r∈List.replicate n.toNat c,r.length=b.size:=fun r R=>by rw[(Bl.1 R).2,Z]
 generalize f:(Array.range (n.toNat *b.size)).map (fun k=>z.cells[k % z.cells.size]!)=cs
 have u:cs.toList=(List.replicate n.toNat z.cells.toList).flatten:=by
  rw[←f,←a0];exact X0 z.cells n.toNat (by omega)
 have j:cs.size=n.toNat *b.size:=by rw[←f];simp
 obtain⟨D,F,G⟩:=hst.newRows (e:=e) (cs:=cs) T L (by
  rw[v,u,←j];rw[←lK,u]
  exact dV) (by rw[v];exact qE j.symm)
 refine⟨_, ?_,D,F,G, ?_⟩
 ·have J: ¬n<0:=by omega
  have h2: ¬((i.bytes:Int) *n>2^48):=by rw[←C];simp;omega
  have K: ¬n>n:=by omega
  simp only[Instr.makeSlice,Sem.run_bind,run_underlying W,Result.andThen_ok,asInt,asIntOf,Sem.run_pure,typeInfo,run_program,o,X];rw[aO (by simp only[kK,bH];simp [J,K];omega)];simp only[Sem.run_bind,run_askRoom,Result.andThen_ok,sizeOf,typeInfo,run_program,o,Sem.run_pure];by_cases g:n.toNat *i.size=0
  ·rw[bF g]
   have O:cs= #[]:=by
    apply Array.eq_empty_of_size_eq_zero;rw[j,es];exact g
   simp only[Sem.run_bind,Sem.run_pure,Result.andThen_ok,newRow,run_newObj,g,O];rw[show(Array.map (fun x=>(#[]:Array Value)[x % (#[]:Array Value).size]!) (Array.range 0))= #[]from by simp];rfl
  rw[aO g];rw[es]at f;simp only[Sem.run_bind,zeroValue,typeInfo,run_program,o,Y,Sem.run_pure,Result.andThen_ok,newRow,run_newObj,f];rfl
 simp only[cB];have:=heap_alloc_new w (.cells cs e);exact⟨n.toNat,e,rfl,by simp only[World.shape?,this,j],aZ _,by simp only[maxLen];omega⟩
def nU (es:List (AV×AV)) (k v:AV):Option (List (AV×AV)):=
 match iR k es 0 with
 |some (some (i,_))=>some (es.set i (k,v))
 |some none=>some (es++[(k,v)])
 |none=>none
theorem fU.length {S:gG} {w:World}: ∀{es:List (AV×AV)} {b:List MapEntry},fU S w es b→b.length=es.length
 |[],b,h=>by simp only[fU]at h;subst h;rfl
 |(k,v)::es,b,h=>by simp only[fU]at h;obtain⟨e,c,rfl,_,_,h⟩:=h;simp [fU.length h]
theorem fU.append {S:gG} {w:World} {k v:AV} {e:MapEntry} (c:cB S w k e.key) (d:cB S w v e.val): ∀{es:List (AV×AV)} {b:List MapEntry},fU S w es b→fU S w (es++[(k,v)]) (b++[e])
 |[],b,h=>by simp only[fU]at h;subst h;simp only[cC,fU];exact⟨e,[],rfl,c,d,rfl⟩
 |(k',v')::es,b,h=>by
  simp only[fU]at h;obtain⟨f,j,rfl,g,i,h⟩:=h;simp only[cU,fU];exact⟨f,_,rfl,g,i,fU.append c d h⟩
theorem fU.set {S:gG} {w:World} {k v:AV} {f:MapEntry→MapEntry} (j: ∀e,cB S w k (f e).key) (l: ∀e,cB S w v (f e).val): ∀{es:List (AV×AV)} {b:List MapEntry} (i:Nat),fU S w es b→fU S w (es.set i (k,v)) (b.modify i f)
 |[],b,i,h=>by simp only[fU]at h;subst h;simp [fU]
 |(k',v')::es,b,0,h=>by
  simp only[fU]at h;obtain⟨c,n,rfl,d,g,h⟩:=h;simp only[sI,List.modify_cons,fU];exact⟨_,_,rfl,j _,l _,h⟩
 |(k',v')::es,b,i+1,h=>by
  simp only[fU]at h;obtain⟨c,n,rfl,d,g,h⟩:=h;simp only[List.set_cons_succ,fU];exact⟨c,_,by simp [List.modify_succ_cons],d,g,fU.set j l i h⟩
theorem Ig {P:Program} {w1:World} {b c:Nat} {d:Array MapEntry} (h:w1.heap[b]?=some (.map d c)) (o:Obj):(setObj b o).run P w1= .ok () {w1 with heap:=w1.heap.setIfInBounds b o}:=by
 simp only[setObj,Sem.run,h]
theorem Es {x:Value}: ∀(b:List MapEntry) (i j:Nat) (v:Value),Instr.findNow .string x b i=some (some (j,v))→i≤j∧ ∃e,b[j-i]?=some e∧Instr.sameNow .string x e.key=some true
 |[],i,j,v,h=>by simp [Instr.findNow]at h
 |e::b,i,j,v,h=>by
  simp only[Instr.findNow]at h;split at h
  ·rename_i g
   cases h;exact⟨aZ _,e,by simp,g⟩
  ·obtain⟨k,c,d,f⟩:=Es b (i+1) j v h
   refine⟨by omega,c, ?_,f⟩;rw[show j-i=(j-(i+1))+1 by omega];simpa using d
  cases h
theorem yI (hst:St E γ S H w) {t tk te:TypeId} {s1 b1:Nat} {z1:AV} {s2 b2:Nat} {z2:AV} (ht:cF E.P t=some ⟨.map tk te,s1,b1,z1⟩) (a3:cF E.P tk=some ⟨.str,s2,b2,z2⟩) {b:Nat} {es B:List (AV×AV)} (D:H b=some (.amap es))
  {s:List UInt8} {v:AV} {v':Value} (Z:cB S w v v') (n:nU es (.str s) v=some B):
  ∃T,(Instr.mapUpdate t (.map (some b)) (.string ⟨s.toArray⟩) v').run E.P w= .ok () T∧iC S S w T∧St E γ S (upd H b (some (.amap B))) T:=by
 have M:=(hst.obj b _ D).1;have a2:=M.lt;have X:=(hst.obj b _ D).2.1;simp only[jQ]at M;obtain⟨A,K,j,C⟩:=M;have Y:=CM ht;have J:=Dz a3
 -- a map's block is written
 have key: ∀(d:Array MapEntry) (g:Nat),fU S w B d.toList→iC S S w {w with heap:=w.heap.setIfInBounds b (.map d g)}∧St E γ S (upd H b (some (.amap B))) {w with heap:=w.heap.setIfInBounds b (.map d g)}:=by
  intro d g hr
  have hx:oI (fun k=>k=b) w {w with heap:=w.heap.setIfInBounds b (.map d g)}:=by
   refine⟨rfl,rfl,rfl,by simp,fun k _ hn=>?_,fun k sh O=>?_⟩
   ·simp only[Array.getElem?_setIfInBounds];rw[aO (fun e=>hn e.symm)]
   by_cases e:k=b
   ·subst e;simp only[World.shape?,j]at O;cases O
   rw[rI (by simp only[Array.getElem?_setIfInBounds];rw[aO (fun e'=>e e'.symm)])];exact O
  have V:iC S S w {w with heap:=w.heap.setIfInBounds b (.map d g)}:=hst.keeps hx (fun k c _=>c▸X) (fun _ h=>h);refine⟨V,hst.step hx (fun k c _=>by subst c;simp [D]) (fun _ h=>h) (fun k c=>by simp;exact hst.lt k c) (fun k c=> .inl c) fun U o l=>?_⟩;by_cases e:U=b
  ·subst e
   simp only[upd,cQ,Option.some.injEq]at l;subst l;refine⟨X, .inr ⟨?_, .inl (by simp [D])⟩⟩;simp only[jQ];exact⟨d,g,by simp [a2],fU.mono V _ _ hr⟩
  simp only[upd,aO e]at l;exact⟨(hst.obj U o l).2.1, .inl ⟨l,e⟩⟩
 have F:cB S w (.str s) (.string ⟨s.toArray⟩):=by simp only[cB]
 unfold nU at n;split at n<;>first|(cases n;done)|skip
 ·rename_i i u L
  cases n;obtain⟨R,G,I⟩:=xX F es A.toList 0 _ C L
  cases R with
  |none=>simp only at I
  |some p=>
   obtain⟨pi,pv⟩:=p;obtain⟨e1,_,_,_⟩:=I;subst e1;obtain⟨_,e,W,z⟩:=Es _ _ _ _ G;simp only[Nat.sub_zero]at W
   have a1:Instr.sameBits 10000 e.key (.string ⟨s.toArray⟩)=true:=by
    cases c:e.key<;>rw[c]at z<;>simp only[Instr.sameNow]at z<;>try (cases z;done)
    simp only[Option.some.injEq]at z
    have a0: ∀x y:ByteArray,(x==y)=true→(y==x)=true:=fun x y h=>by
     rw[beq_toListBytes]at h⊢;rw[xU]at h⊢;simp at h⊢;exact h.symm
    exact a0 _ _ z
   refine⟨_, ?_,key (A.modify i fun e=>{e with key:= .string ⟨s.toArray⟩,val:=v'}) K ?_⟩
   ·simp only[Instr.mapUpdate,Sem.run_bind,run_underlying Y,Result.andThen_ok,zD j,nO J,oJ J G]
    have :((A[i]?).map (·.key)).getD (.string ⟨s.toArray⟩)=e.key:=by
     rw[←Array.getElem?_toList,W];rfl
    simp only[Instr.keyThatStays,this,a1,cQ,Sem.run_pure,Result.andThen_ok,Ig j]
   rw[Array.toList_modify];exact fU.set (f:=fun e=>{e with key:= .string ⟨s.toArray⟩,val:=v'}) (fun _=>F) (fun _=>Z) i C
 rename_i L;cases n;obtain⟨R,G,I⟩:=xX F es A.toList 0 _ C L
 cases R with
 |some p=>simp only at I
 |none=>
  refine⟨_, ?_,key (A.push {key:= .string ⟨s.toArray⟩,val:=v',born:=K}) (K+1) ?_⟩
  ·simp only[Instr.mapUpdate,Sem.run_bind,run_underlying Y,Result.andThen_ok,zD j,nO J,oJ J G,Ig j]
  rw[Array.toList_push];exact fU.append F Z C
end
section
variable {E : kB} {γ : lR} {S : gG} {H : Hp} {w : World} {fr : Fr} {a : Act}
theorem AZ {v:Value} (h:v.oneCell'=true):v.cells= #[v]:=by
 cases v<;>first|rfl|(simp [Value.oneCell']at h;done)
theorem Vs {b:Type} (f:Nat→b) (i:Nat):upd f i (f i)=f:=by
 funext j;unfold upd;split
 ·rename_i h;rw[h]
 rfl
theorem Ad {P:Program} (w:World) (f I ty c:TypeId) (g o e n:Nat) (a:Addr) (l G:Nat) (b:Array Value) (t:TypeId) (d:Nat×Nat) (cs:List Value)
  (F:P.underlying f=some (.slice c)) (k:(P.info? c).map (·.size)=some 1)
  (y:w.heap[g]?=some (.cells b t d)) (x:J8 d b.size) (B:cs.length=Nat.min l e)
  (C: ∀j v,cs[j]?=some v→w.cell? (a.add j)=some v) (u:o+cs.length≤b.size) (p: ∀v∈cs,v.oneCell'=true):
  (Builtin.copy_ #[f,I] ty #[.slice (some ⟨g,o,none⟩) e n, .slice (some a) l G]).run P w=
   .ok (goInt cs.length) (w.setRow g (b.toList.take o++cs++b.toList.drop (o+cs.length)).toArray):=by
 have A:=run_loadCells_list (P:=P) w a cs C;have D:=jR P g o t d cs 0 b w y x (by simpa using u) p
 cases hq:P.info? c with
 |none=>simp [hq]at k
 |some i=>
  have z:i.size=1:=by simpa [hq]using k
  simp [Builtin.copy_,run_underlying F,Builtin.lenOf,Builtin.firstCells,sizeOf,typeInfo,hq,z,←B,A,D]
theorem Q1 (hst:St E γ S H w) {b:Nat} {l:List (List AV)} (K:H b=some (.rows 1 l)) {off:Nat} {d:List (List AV)} {vs:List Value} (y:cY S w d.flatten vs) (C: ∀r∈d,r.length=1) (W:off+d.length≤l.length):
  ∃c e t,w.heap[b]?=some (.cells c e t)∧J8 t c.size∧off+vs.length≤c.size∧iC S S w (w.setRow b (c.toList.take off++vs++c.toList.drop (off+vs.length)).toArray)∧
   St E γ S (upd H b (some (.rows 1 (l.take off++d++l.drop (off+d.length))))) (w.setRow b (c.toList.take off++vs++c.toList.drop (off+vs.length)).toArray):=by
 have O:=(hst.obj b _ K).1;simp only[jQ]at O;obtain⟨c,e,⟨t,F,M⟩,Z,A⟩:=O
 have I:vs.length=d.length:=by
  have p:=y.length
  have : ∀l:List (List AV),(∀r∈l,r.length=1)→l.flatten.length=l.length:=by
   intro l
   induction l with
   |nil=>intro _;rfl
   |cons r l ih=>intro h;rw[nL,aB,h r (dN),ih fun x J=>h x (eR _ J),aJ];omega
  rw[this d C]at p;omega
 rw[nE]at Z
 have L:(c.toList.take off++vs++c.toList.drop (off+vs.length)).toArray.size=c.size:=by
  simp only[Gn,aB,dS,fK,lK];omega
 refine⟨c,e,t,F,M,by omega, ?_⟩;refine St.setRow hst K F M L ?_ fun i row n=>?_
 ·rw[L]
  simp only[aB,dS,fK,nE];omega
 have Y:(l.take off++d++l.drop (off+d.length))[i]?=if i<off then l[i]? else if i<off+d.length then d[i-off]? else l[i]?:=rH l d off W i
 rw[Y]at n
 have uF: ∀{row:List AV},l[i]?=some row→row.length=1∧ ∃v,c.toList[i]?=some v∧cY S w row [v]:=fun {row} h=>by
  obtain⟨k,f⟩:=cZ.get i A h;refine⟨k, ?_⟩;rw[cD,nE]at f
  match row,k,f with
  |[x],_,f=>
   simp only[eU]at f;obtain⟨⟨v,o,q4⟩,_⟩:=f;rw[cell_of_row w b i c e t F]at o;exact⟨v,by rw[←o];simp,by simp only[cY];exact⟨v,[],rfl,q4,rfl⟩⟩
 have z: ∀v,(c.toList.take off++vs++c.toList.drop (off+vs.length))[i]?=some v→(((c.toList.take off++vs++c.toList.drop (off+vs.length)).toArray.toList.drop (i *1)).take 1)=[v]:=fun v P=>by
  rw[nE];have U:=(bD.1 P).1;rw[bM (by simpa using U)];simp only[gV,gN];congr 1;have:=(bD.1 P).2;simpa using this
 have V:off+vs.length≤c.toList.length:=by
  have a1:c.toList.length=c.size:=by simp
  omega
 have g:=rH c.toList vs off V i;rw[I]at g;rw[I]at z;rw[I];split at n
 ·rename_i h
  obtain⟨k,v,f,o⟩:=uF n;rw[bF h]at g;exact⟨k,by rw[z v (by rw[g];exact f)];exact o⟩
 rename_i h;rw[aO h]at g;split at n
 ·rename_i D
  rw[bF D]at g;have k:=C row (aW n)
  have a0: ∀(l:List (List AV)) (vs:List Value),(∀r∈l,r.length=1)→cY S w l.flatten vs→ ∀(j:Nat) row,l[j]?=some row→ ∃v,vs[j]?=some v∧cY S w row [v]:=by
   intro l
   induction l with
   |nil=>intro vs _ _ j row h;simp at h
   |cons r l ih=>
    intro vs A y j row G;have X:=A r (dN)
    match r,X with
    |[x],_=>
     rw[nL,cU,cC,cY]at y;obtain⟨u,us,rfl,R,T⟩:=y
     cases j with
     |zero=>simp at G;subst G;exact⟨u,rfl,by simp only[cY];exact⟨u,[],rfl,R,rfl⟩⟩
     |succ j=>
      obtain⟨v,p,B⟩:=ih us (fun x J=>A x (eR _ J)) T j row (by simpa using G);exact⟨v,by simpa using p,B⟩
  obtain⟨v,p,B⟩:=a0 d vs C y _ row n;exact⟨k,by rw[z v (by rw[g];exact p)];exact B⟩
 rename_i D;obtain⟨k,v,f,o⟩:=uF n;rw[aO D]at g;exact⟨k,by rw[z v (by rw[g];exact f)];exact o⟩
theorem Nu (hst:St E γ S H w) {t e ty:TypeId} {s1 F:Nat} {z1:AV} {c:TI} (C:cF E.P t=some ⟨.slice e,s1,F,z1⟩) (V:cF E.P e=some c) (c1:c.size=1) (k:one c.zero=true)
  {b off len:Nat} {l:List (List AV)} (x:H b=some (.rows 1 l)) (G:off+len≤l.length) {v:Value} (D:cB S w (.sub 1 b off len) v):
  ∃g,(Builtin.clear_ #[t] ty #[v]).run E.P w= .ok (.tuple #[]) g∧iC S S w g∧St E γ S (upd H b (some (.rows 1 (l.take off++List.replicate len [c.zero]++l.drop (off+len))))) g:=by
 simp only[cB]at D;obtain⟨a0,j,rfl,M,_,_⟩:=D;by_cases o:len=0
 ·subst o
  refine⟨w, ?_,hst.keeps (oI.refl (fun _=>False) w) (fun _ h=>h.elim) (fun _ h=>h), ?_⟩
  ·cases j<;>simp [Builtin.clear_,run_underlying (lS C)]
  simp only[List.replicate_zero,eF,mV,lZ];rw[←x,Vs];exact hst
 obtain rfl:j=some ⟨b,off *1,none⟩:=by rcases M with h|h;exact absurd h o;exact h
 rw[nE];obtain⟨z,X,K⟩:=mN V w;have d:=nQ S w z;rw[←K]at d
 have Y:z.cells= #[z]:=by
  have u:=Ir d k;exact AZ u
 have p:=Ir d k
 have U: ∀n,cY S w (List.replicate n [c.zero]).flatten (List.replicate n z):=by
  intro n
  induction n with
  |zero=>simp [cY]
  |succ n ih=>simp only[List.replicate_succ,nL,cU,cC,cY];exact⟨z,_,rfl,d,ih⟩
 obtain⟨I,J,L,O,R,y,A,f⟩:=Q1 hst x (off:=off) (U len) (fun r T=>by rw[PC T];rfl) (by rw[fG];exact G);rw[fG]at y A f;rw[fG]at f;refine⟨_, ?_,A,f⟩
 have Z:(Builtin.zeroCells z.cells len).toList=List.replicate len z:=by
  rw[Y];simp [Builtin.zeroCells];apply List.ext_getElem
  ·simp
  intro i p u;simp [Nat.mod_one]
 have B:=jR E.P b off J L (List.replicate len z) 0 I w O R (by simpa using y) (by intro v W;rw[PC W];exact p);simp only[mV,fG]at B;obtain⟨m,rfl⟩: ∃m,len=m+1:=⟨len- 1,by omega⟩;simp [Builtin.clear_,run_underlying (lS C),X,Z,B]
theorem Su (hst:St E γ S H w) {t u e ty:TypeId} {s1 X:Nat} {z1:AV} {V:TI} (T:cF E.P t=some ⟨.slice e,s1,X,z1⟩) (a6:cF E.P e=some V) (Y:V.size=1)
  {b off len:Nat} {l:List (List AV)} (I:H b=some (.rows 1 l)) {g f c:Nat} {row:List AV} (a2:H g=some (.rows row.length [row])) (Z:row.all one=true) (c3:off+len≤l.length) (c4:f+c≤row.length)
  {v W:Value} (n:cB S w (.sub 1 b off len) v) (U:cB S w (.sub 1 g f c) W):
  ∃A,(Builtin.copy_ #[t,u] ty #[v,W]).run E.P w= .ok (goInt (min c len:Nat)) A∧iC S S w A∧St E γ S (upd H b (some (.rows 1 (l.take off++(((row.drop f).take (min c len)).map fun x=>[x])++l.drop (off+min c len))))) A:=by
 simp only[cB]at n U;obtain⟨D,B,rfl,ha,_,_⟩:=n;obtain⟨F,C,rfl,a1,_,_⟩:=U
 have K:(E.P.info? e).map (·.size)=some 1:=by
  obtain⟨d,i,z,_,hi,_,e1⟩:=kF a6;rw[hi];have :i.size=1:=by rw[←Y,e1]
  rw[←this];rfl
 by_cases G:min c len=0
 ·rw[G]
  refine⟨w, ?_,hst.keeps (oI.refl (fun _=>False) w) (fun _ h=>h.elim) (fun _ h=>h), ?_⟩
  ·exact run_copy_none w t u ty e B C len D c F (lS T) K G
  simp only[gN,dH,eF,mV,lZ];rw[←I,Vs];exact hst
 obtain rfl:B=some ⟨b,off *1,none⟩:=by rcases ha with h|h;omega;exact h
 obtain rfl:C=some ⟨g,f *1,none⟩:=by rcases a1 with h|h;omega;exact h
 rw[nE,nE];have O:=(hst.obj g _ a2).1;simp only[jQ]at O;obtain⟨a7,e2,a8,b0,R⟩:=O;simp only[cZ]at R;obtain⟨vs,p,a3⟩:=R.2.1.vals;have a9:=p.length
 have a5:cY S w ((((row.drop f).take (min c len)).map fun x=>[x]).flatten) ((vs.drop f).take (min c len)):=by
  have : ∀l:List AV,(l.map fun x=>[x]).flatten=l:=by
   intro l
   induction l with
   |nil=>rfl
   |cons x l ih=>rw[cX,nL,ih];rfl
  rw[this];exact(p.drop f).take _
 have M:(((row.drop f).take (min c len)).map fun x=>[x]).length=min c len:=by
  rw[aF,dS,fK];omega
 have o:((vs.drop f).take (min c len)).length=min c len:=by
  rw[dS,fK];omega
 obtain⟨a0,et,fz,hc,a4,J,L,y⟩:=Q1 hst I (off:=off) a5 (fun r hr=>by
  obtain⟨x,_,rfl⟩:=lI.1 hr
  rfl) (by rw[M];omega)
 rw[o]at J L y;rw[M]at y;refine⟨_, ?_,L,y⟩;have:=Ad (P:=E.P) w t u ty e b off len D ⟨g,f,none⟩ c F a0 et fz ((vs.drop f).take (min c len)) (lS T) K hc a4 (by rw[o]) (fun j v k=>?_) (by rw[o];exact J) fun v n=>?_
 ·rw[o]at this
  exact this
 ·rw[eH]at k
  split at k
  ·rw[dW]at k
   rw[Addr.add_lit];have:=a3 _ _ k;rwa [cD]at this
  cases k
 exact xL p Z v (List.mem_of_mem_drop (List.mem_of_mem_take n))
end
def jB (E:kB) (fr:Fr):Op→Option ((Nat→AV)×iG)
 | .alloc t=>(cF E.P t).bind fun ti=>(cellsOf ti.zero).map fun cs=>(fun b=> .ptr cs.length b 0 0, .rows cs.length [cs])
 | .box _ x=>(cellsOf (ev E.G fr x)).map fun cs=>(fun b=> .ptr cs.length b 0 0, .rows cs.length [cs])
 | .makeMap t r=>match cF E.P t,r.map (ev E.G fr)with
   |some ⟨.map _ _,_,_,_⟩,none=>some (fun b=> .mp b, .amap [])
   |some ⟨.map _ _,_,_,_⟩,some (.int _ _)=>some (fun b=> .mp b, .amap [])
   |_,_=>none
 | .makeSlice t l c=>match cF E.P t,ev E.G fr l,ev E.G fr c with
   |some ⟨.slice e,_,_,_⟩, .int _ n, .int _ n'=>(cF E.P e).bind fun te=>(cellsOf te.zero).bind fun zc=>
    if n=n'∧zc.length=te.size∧0<te.size∧1≤te.bytes∧0≤n∧te.bytes *n≤281474976710656 then some (fun b=> .osl te.size b n.toNat, .rows te.size (List.replicate n.toNat zc))else none
   |_,_,_=>none
 | .convert s t x=>match cF E.P s,cF E.P t,ev E.G fr x with
   |some ⟨.str,_,_,_⟩,some ⟨.slice e,_,_,_⟩, .str []=>match cF E.P e with
    |some ⟨.int .u8,_,_,_⟩=>some (fun b=> .osl 1 b 0, .rows 1 [])
    |_=>none
   |_,_,_=>none
 |_=>none
def Of (E:kB) (fr:Fr) (t:TypeId) (len:Nat) (parts:Array (Nat×Operand)):Option (Nat×List (List AV)):=
 match cF E.P t with
 |some ⟨.slice e,_,_,_⟩=>(cF E.P e).bind fun te=>(oQ E fr te.size 0 parts.toList).bind fun rows=>if rows.length=len∧len *te.size≤16777216∧len≤16777216 then some (te.size,rows)else none
 |_=>none
def wV (E:kB) (H:Hp) (fr:Fr) (t:TypeId) (p x:Operand):Option (Nat×Hp):=
 match ev E.G fr p with
 | .ptr sz b i j=>match H b with
   |some (.rows sz' l)=>(l[i]?).bind fun row=>(cF E.P t).bind fun ti=>(cellsOf (ev E.G fr x)).bind fun cs=>
    if sz=sz'∧cs.length=ti.size∧j+cs.length≤row.length∧cs.all one=true then some (b,upd H b (some (.rows sz (l.set i (row.take j++cs++row.drop (j+cs.length))))))else none
   |_=>none
 |_=>none
def qH (E:kB) (H:Hp) (fr:Fr) (t:TypeId) (m k x:Operand):Option (Nat×Hp):=
 match cF E.P t,ev E.G fr m,ev E.G fr k with
 |some ⟨.map tk _,_,_,_⟩, .mp b, .str s=>match cF E.P tk,H b with
  |some ⟨.str,_,_,_⟩,some (.amap es)=>(nU es (.str s) (ev E.G fr x)).map fun es'=>(b,upd H b (some (.amap es')))
  |_,_=>none
 |_,_,_=>none
def Vb (E:kB) (H:Hp) (fr:Fr) (args:Array Operand) (ts:Array TypeId):Option (Nat×Nat×AV×List (List AV)):=
 match args.toList,ts.toList with
 |[s,x],[t,u]=>match cF E.P t with
  |some ⟨.slice e,_,_,_⟩=>(cF E.P e).bind fun te=>(Do H te.size (ev E.G fr x)).bind fun ys=>
   if t=u∧(cellsOf te.zero).map List.length=some te.size∧1≤te.bytes∧ys.all (fun r=>r.all one)=true then some (te.size,te.bytes,ev E.G fr s,ys)else none
  |_=>none
 |_,_=>none
def sY (E:kB) (H:Hp) (fr:Fr) (args:Array Operand) (ts:Array TypeId):Option (Nat×Hp):=
 match args.toList,ts.toList with
 |[s],[t]=>match cF E.P t,ev E.G fr s with
  |some ⟨.slice e,_,_,_⟩, .sub sz b off len=>(cF E.P e).bind fun te=>match H b with
   |some (.rows sz' l)=>if sz=1∧sz'=1∧te.size=1∧one te.zero=true∧off+len≤l.length then some (b,upd H b (some (.rows 1 (l.take off++List.replicate len [te.zero]++l.drop (off+len)))))else none
   |_=>none
  |_,_=>none
 |_,_=>none
def yV (E:kB) (H:Hp) (fr:Fr) (args:Array Operand) (ts:Array TypeId):Option (Nat×Hp×Nat):=
 match args.toList,ts.toList with
 |[d,s],[t,_]=>match cF E.P t,ev E.G fr d,ev E.G fr s with
  |some ⟨.slice e,_,_,_⟩, .sub sz b off len, .sub sz2 b2 off2 len2=>(cF E.P e).bind fun te=>match H b,H b2 with
   |some (.rows sz' l),some (.rows sz3 [row])=>if sz=1∧sz'=1∧sz2=1∧te.size=1∧sz3=row.length∧row.all one=true∧off+len≤l.length∧off2+len2≤row.length then
    some (b,upd H b (some (.rows 1 (l.take off++(((row.drop off2).take (min len2 len)).map fun x=>[x])++l.drop (off+min len2 len)))),min len2 len)else none
   |_,_=>none
  |_,_,_=>none
 |_,_=>none
def lH (E:kB) (okf:Nat→Prop) (o:Op) (fr:Fr) (H:Hp) (K Kp:AV→Hp→Prop):Prop:=
 match o with
 | .alloc _| .box _ _| .makeMap _ _| .makeSlice _ _ _=>match jB E fr o with
   |some p=> ∀b,H b=none→K (p.1 b) (upd H b (some p.2))
   |none=>False
 | .buildSlice t len parts=>match Of E fr t len parts with
   |some p=>K (.isl p.1 p.2) H∨ ∀b,H b=none→K (.osl p.1 b len) (upd H b (some (.rows p.1 p.2)))
   |none=>False
 | .store t p x=>match wV E H fr t p x with
   |some q=>okf q.1∧K (.tup []) q.2
   |none=>False
 | .mapUpdate t m k x| .insert t m k x=>match qH E H fr t m k x with
   |some q=>okf q.1∧K (.tup []) q.2
   |none=>False
 | .panic x=>match ev E.G fr x with
   | .ifc t v=>Kp (.ifc t v) H
   |_=>False
 | .call ⟨.builtin .append,args,ts⟩=>match Vb E H fr args ts with
   |some (sz,by', .nsl,ys)=>ys.length *by'≤140737488355328∧(ys=[]→K .nsl H)∧(ys≠[]→ ∀b,H b=none→K (.osl sz b ys.length) (upd H b (some (.rows sz ys))))
   |some (sz,by', .osl sz' b len,ys)=>match H b with
    |some (.rows sz'' l)=>sz'=sz∧sz''=sz∧len=l.length∧(l.length+ys.length) *by'≤140737488355328∧okf b∧
     ∀b',(b'=b∨H b'=none)→K (.osl sz b' (l.length+ys.length)) (upd (upd H b none) b' (some (.rows sz (l++ys))))
    |_=>False
   |_=>False
 | .call ⟨.builtin .clear,args,ts⟩=>match sY E H fr args ts with
   |some q=>okf q.1∧K (.tup []) q.2
   |none=>False
 | .call ⟨.builtin .copy,args,ts⟩=>match yV E H fr args ts with
   |some q=>okf q.1∧K (.int .i64 q.2.2) q.2.1
   |none=>False
 | .call ⟨.value f,args,_⟩=>match ev E.G fr f with
   | .fn (.func g) first cap=> ∃args' H0 R,gK (first++args.toList.map (ev E.G fr)++cap) args'∧pP E g args' H0 R∧sD H0 H∧(∀b,H0 b≠none→okf b)∧
     ∀ae H',R ae H'→(∀b,H' b≠none→H0 b≠none∨H b=none)→(match ae with | .ret v=>K v (kT H' H0 H)| .pan v=>Kp v (kT H' H0 H))
   |_=>False
 | .convert s t x=>if(t==69)=true then(match jB E fr (.convert s t x)with
   |some p=> ∀b,H b=none→K (p.1 b) (upd H b (some p.2))
   |none=>False)else(match aq E H fr (.convert s t x)with
   |some v=>K v H
   |none=>False)
 |o=>match aq E H fr o with
  |some v=>K v H
  |none=>False
section
variable {E : kB} {γ : lR} {S : gG} {H : Hp} {w : World} {fr : Fr} {a : Act}
theorem I7 (hst:St E γ S H w) {g:FuncId} {z:List AV} {f:Hp} {R:sJ→Hp→Prop} {vs:List Value} (D:pP E g z f R) (A:sD f H) (C:cY S w z vs):
  Calls E.P g vs.toArray w fun e p=> ∃t l n,iC S n w p∧St E γ n (kT l f H) p∧vH n p t e∧R t l∧ ∀b,l b≠none→f b≠none∨H b=none:=by
 have K:St E ⟨w,KF f,S,[],fun _=>Go.undef⟩ S f w:=by
  refine⟨hst.lt,fun _ h=>h,fun _ h=> .inl h,fun b o c=>?_,oI.refl _ _,hst.glb⟩;obtain⟨i,y,_⟩:=hst.obj b o (A b o c);exact⟨i,y, .inl (by simp [KF,c])⟩
 refine(D.2 w S vs K C).mono fun e p ⟨t,l,n,i,y,B⟩=>?_
 have u: ∀k,KF f k→H k≠none:=fun k j=>by
  cases d:f k with
  |none=>exact absurd d j
  |some o=>simp [A k o d]
 have G: ∀b,l b≠none→f b≠none∨w.heap.size≤b:=fun b c=>by
  cases d:l b with
  |none=>exact absurd d c
  |some o=>exact(i.obj b o d).2.2
 have I: ∀b,w.heap.size≤b→H b=none:=fun b c=>by
  cases d:H b with
  |none=>rfl
  |some o=>have:=(hst.obj b o d).1.lt;omega
 have j:iC S n w p:=hst.keeps i.ext (fun k j _=>by
  cases d:H k with
  |none=>exact absurd d (u k j)
  |some o=>exact(hst.obj k o d).2.1) i.base
 refine⟨t,l,n,j, ?_,y,B,fun b c=>?_⟩
 ·refine hst.step i.ext (fun k j _=>u k j) i.base i.lt (fun k j=>?_) fun b o c=>?_
  ·rcases i.src k j with h|h|h
   ·exact .inl h
   ·exact .inr (.inl (u k h))
   exact .inr (.inr h)
  unfold kT at c;split at c
  ·rename_i M d
   cases c;obtain⟨v,x,g3⟩:=i.obj b o d;refine⟨x, .inr ⟨v, ?_⟩⟩;rcases g3 with g3|g3
   ·exact .inl (u b g3)
   exact .inr g3
  split at c
  ·cases c
  rename_i F
  have hd: ¬KF f b:=by
   intro hd;apply F
   cases d:f b with
   |none=>exact absurd d hd
   |some o=>rfl
  obtain⟨v,x,g3⟩:=hst.obj b o c;refine⟨fun J=>?_, .inl ⟨c,hd⟩⟩;rcases i.src b J with h|h|h
  ·exact x h
  ·exact hd h
  have L:=v.lt;simp only at h;omega
 rcases G b c with h|h
 ·exact .inl h
 exact .inr (I b h)
theorem oI.bytes (w:World) (e:TypeId) (s:ByteArray):oI (fun _=>False) w (Lib.bytesWorld w e s):=
 ⟨rfl,rfl,rfl,by rw[Lib.bytesWorld_size];omega,fun k c _=>Lib.bytesWorld_at_old w e s k c,fun k d b=>(rI (Lib.bytesWorld_at_old w e s k (Ib b))).trans b⟩
theorem St.bytes (hst:St E γ S H w) (e:TypeId):H w.heap.size=none∧iC S S w (Lib.bytesWorld w e ⟨#[]⟩)∧St E γ S (upd H w.heap.size (some (.rows 1 []))) (Lib.bytesWorld w e ⟨#[]⟩)∧
  cB S (Lib.bytesWorld w e ⟨#[]⟩) (.osl 1 w.heap.size 0) (.slice (some ⟨w.heap.size,0,none⟩) 0 (grownCap w 0 0 e)):=by
 have l:H w.heap.size=none:=by
  cases h:H w.heap.size with
  |none=>rfl
  |some j=>exact absurd (hst.obj _ _ h).1.lt (OZ _)
 have f:=oI.bytes w e ⟨#[]⟩;have i:=Lib.bytesWorld_at_new w e ⟨#[]⟩;refine⟨l,hst.keeps f (fun _ h=>h.elim) (fun _ h=>h),hst.step f (fun _ h=>h.elim) (fun _ h=>h) (fun k d=>sG (hst.lt k d) f.size) (fun k d=> .inl d) fun b j c=>?_, ?_⟩
 ·by_cases g:b=w.heap.size
  ·subst g
   simp only[upd,cQ,Option.some.injEq]at c;subst c;refine⟨fun n=>OZ _ (hst.lt _ n), .inr ⟨?_, .inr (aZ _)⟩⟩;simp only[jQ];exact⟨_,_,⟨_,i, .inr (aZ _)⟩,by simp,by simp only[cZ]⟩
  simp only[upd,aO g]at c;exact⟨(hst.obj b j c).2.1, .inl ⟨c,fun h=>h⟩⟩
 simp only[cB];refine⟨_,e,rfl, ?_,cN _,grownCap_le_maxLen w 0 0 e (cN _)⟩;simp only[World.shape?,i,Lib.bytesCells];simp;exact Nat.sub_zero _
theorem Zk (hst:St E γ S H w) (A:mY S w fr a) {e4:Nat→Prop} {o:Op} {K Kp:AV→Hp→Prop} (h:lH E e4 o fr H K Kp) {next:Act→World→Prop} {Q:Exit→Act→World→Prop} {B:Option Tmp} {ty:TypeId} {I:String} {F:Array Edge} {g:Option (Nat×Bool)}
  (V: ∀v L Z S' n,iC S S' w n→St E γ S' Z n→cB S' n v L→K v Z→next (a.put B L) n)
  (hq: ∀v L Z S' n,iC S S' w n→St E γ S' Z n→cB S' n v L→Kp v Z→Q (.panic [{v:=L,recovered:=false}]) a n):
  Oper.wp E.P ⟨B,o,ty,I,F,g⟩ a w next Q:=by
 have skip: ∀{n:World} {Z:Hp},(execOp a.eval ⟨B,o,ty,I,F,g⟩).run E.P w= .ok .skip n→iC S S w n→St E γ S Z n→K (.tup []) Z→Oper.wp E.P ⟨B,o,ty,I,F,g⟩ a w next Q:=fun y hk W hK=>by
  simp only[Oper.wp,y,Oper.upon_skip];exact V (.tup []) _ _ _ _ hk W (by simp only[cB];exact⟨[],rfl,by simp only[cY]⟩) hK
 have b8:(match aq E H fr o with |some v=>K v H|none=>False)→Oper.wp E.P ⟨B,o,ty,I,F,g⟩ a w next Q:=fun h=>by
  split at h
  ·rename_i v hv
   obtain⟨L,h1,h2⟩:=LA hst A hv B ty I F g;simp only[Oper.wp,h1,Oper.upon_value];exact V v L H S w (hst.keeps (oI.refl (fun _=>False) w) (fun _ h=>h.elim) (fun _ h=>h)) hst h2 h
  exact h.elim
 have a3: ∀{cs:List AV} {vs:List Value} {e:TypeId},cY S w cs vs→(∀b,H b=none→K (.ptr cs.length b 0 0) (upd H b (some (.rows cs.length [cs]))))→
   (execOp a.eval ⟨B,o,ty,I,F,g⟩).run E.P w= .ok (.value (.pointer (some ⟨w.heap.size,0,none⟩))) (w.alloc (.cells vs.toArray e))→Oper.wp E.P ⟨B,o,ty,I,F,g⟩ a w next Q:=fun {cs vs e} U hK y=>by
  have b4:=U.length;obtain⟨f1,f2,f3⟩:=hst.newRows (e:=e) (cs:=vs.toArray) (sz:=cs.length) (rows:=[cs]) (vs:=vs) (by simpa using U) (by simp) (by simp [←b4]) (by simp [b4]);simp only[Oper.wp,y,Oper.upon_value];exact V _ _ _ S _ f2 f3 (by simp only[cB];simp) (hK _ f1)
 unfold lH at h;split at h
 ·-- alloc
  rename_i t;split at h<;>try (exact h.elim)
  rename_i p j;simp only[jB,cJ,bG]at j;obtain⟨ti,a8,cs,a2,rfl⟩:=j;obtain⟨z,hz,ez⟩:=mN a8 w;have U:=nP (nQ S w z) (by rw[←ez];exact a2);refine a3 (e:=t) U h ?_;simp only[execOp,Instr.alloc,Sem.run_bind,hz,Result.andThen_ok,newVar,newRow,run_newObj,Sem.run_pure,eS];rfl
 ·-- a3
  rename_i t x;split at h<;>try (exact h.elim)
  rename_i p j;simp only[jB,bG]at j;obtain⟨cs,a2,rfl⟩:=j;refine a3 (e:=t) (nP (eX hst A x) a2) h ?_;simp only[execOp,Instr.box,Sem.run_bind,Result.andThen_ok,newVar,newRow,run_newObj,Sem.run_pure,eS];rfl
 ·-- makeMap
  rename_i t r;split at h<;>try (exact h.elim)
  rename_i p j
  have d5:(execOp a.eval ⟨B, .makeMap t r,ty,I,F,g⟩).run E.P w= .ok (.value (.map (some w.heap.size))) (w.alloc (.map #[] 0))∧p=(fun b=> .mp b, .amap []):=by
   simp only[jB]at j;split at j<;>first|(cases j;done)|skip
   ·rename_i O y
    cases j
    cases r with
    |some x=>simp at y
    |none=>refine⟨?_,rfl⟩;simp only[execOp,Instr.makeMap,jF,Sem.run_bind,run_newObj,Result.andThen_ok,Sem.run_pure];rfl
   rename_i O y;cases j
   cases r with
   |none=>simp at y
   |some x=>
    simp only[eE,Option.some.injEq]at y;have X:=eX hst A x;rw[y]at X;simp only[cB]at X;refine⟨?_,rfl⟩;simp only[execOp,Instr.makeMap,eE,Sem.run_bind,run_underlying (CM O),X,asInt,asIntOf,run_newObj,Result.andThen_ok,Sem.run_pure];rfl
  obtain⟨y,rfl⟩:=d5;obtain⟨f1,f2,f3⟩:=hst.alloc (ob:= .map #[] 0) (o:= .amap []) (by simp only[jQ];exact⟨#[],0,heap_alloc_new w _,by simp only[fU]⟩);simp only[Oper.wp,y,Oper.upon_value];exact V _ _ _ S _ f2 f3 (by simp only[cB]) (h _ f1)
 ·-- makeSlice
  rename_i t l c;split at h<;>try (exact h.elim)
  rename_i p j;simp only[jB]at j;split at j<;>first|(cases j;done)|skip
  rename_i _ _ _ _ k1 n1 k2 n2 O e1 e2;simp only[cJ,eK]at j;obtain⟨Y,a0,zc,e3,⟨d2,c1,c2,c3,c4,c5⟩,j⟩:=j;cases j;subst d2;have U:=eX hst A l;have hc:=eX hst A c;rw[e1]at U;rw[e2]at hc;simp only[cB]at U hc;obtain⟨n,J,C,D,r4,r5⟩:=HF hst O a0 e3 c1 c2 c3 c4 c5 (k:=k1) (k':=k2)
  have y:(execOp a.eval ⟨B, .makeSlice t l c,ty,I,F,g⟩).run E.P w= .ok (.value (.slice (some ⟨w.heap.size,0,none⟩) n1.toNat n1.toNat)) n:=by
   simp only[execOp,U,hc,Sem.run_bind,J,Result.andThen_ok,Sem.run_pure]
  simp only[Oper.wp,y,Oper.upon_value];exact V _ _ _ S _ D r4 r5 (h _ C)
 ·-- buildSlice
  rename_i t len e5;split at h<;>try (exact h.elim)
  rename_i p j;simp only[Of]at j;split at j<;>first|(cases j;done)|skip
  rename_i el _ _ _ O;simp only[cJ,eK]at j;obtain⟨Y,a0,rows,d4,⟨U,c6,f6⟩,j⟩:=j;cases j;obtain⟨cs,J,C,D⟩:=MI hst A O a0 c6 d4 U
  have y:(execOp a.eval ⟨B, .buildSlice t len e5,ty,I,F,g⟩).run E.P w= .ok (.value (.slice (some ⟨w.heap.size,0,none⟩) len len)) (w.alloc (.cells cs el)):=by
   simp only[execOp,Sem.run_bind,J,Result.andThen_ok,Sem.run_pure]
  simp only[Oper.wp,y,Oper.upon_value];have b5:len≤maxLen:=by simp only[maxLen];omega
  rcases h with h|h
  ·obtain⟨f1,f2⟩:=hst.allocSealed (ob:= .cells cs _)
   refine V _ _ _ _ _ f1 f2 ?_ h;simp only[cB];refine⟨_,len,by rw[U],by rw[U];exact aZ _,b5, .inr ⟨w.heap.size,0,rfl, .inr rfl,D _ f1⟩⟩
  have hk:iC S S w (w.alloc (.cells cs el)):=hst.keeps (oI.alloc (fun _=>False) w (.cells cs el)) (fun _ h=>h.elim) (fun _ h=>h);obtain⟨f1,f2,f3⟩:=hst.alloc (ob:= .cells cs _) (o:= .rows Y.size rows) (by simp only[jQ];exact⟨cs,el,⟨(0,0),heap_alloc_new w _, .inl (aZ _)⟩,by rw[C,U];exact aZ _,D S hk⟩);refine V _ _ _ S _ f2 f3 ?_ (h _ f1);simp only[cB];have:=heap_alloc_new w (.cells cs el);exact⟨len,el,rfl,by simp only[World.shape?,this,C],aZ _,b5⟩
 ·-- store
  rename_i t p x;split at h<;>try (exact h.elim)
  rename_i q i;simp only[wV]at i;split at i<;>first|(cases i;done)|skip
  rename_i e;split at i<;>first|(cases i;done)|skip
  rename_i T;simp only[cJ,eK]at i;obtain⟨row,d3,ti,a8,cs,a2,⟨rfl,c1,c2,c3⟩,i⟩:=i;cases i;have j:=eX hst A p;rw[e]at j;simp only[cB]at j;obtain⟨n,J,C,D⟩:=If hst a8 T d3 (eX hst A x) a2 c1 c2 c3;refine skip ?_ C D h.2;simp only[execOp,Instr.storeAt,j,Instr.sureAddr,Sem.run_bind,Sem.run_pure,Result.andThen_ok,J]
 ·-- mapUpdate
  rename_i t m k x;split at h<;>try (exact h.elim)
  rename_i q i;simp only[qH]at i;split at i<;>first|(cases i;done)|skip
  rename_i O e1 e2;split at i<;>first|(cases i;done)|skip
  rename_i a9 T;rw[bG]at i;obtain⟨c0,a4,rfl⟩:=i;have hm:=eX hst A m;have hk:=eX hst A k;rw[e1]at hm;rw[e2]at hk;simp only[cB]at hm hk;obtain⟨n,J,C,D⟩:=yI hst O a9 T (eX hst A x) a4;refine skip ?_ C D h.2;simp only[execOp,hm,hk,Sem.run_bind,J,Result.andThen_ok,Sem.run_pure]
 ·-- insert
  rename_i t m k x;split at h<;>try (exact h.elim)
  rename_i q i;simp only[qH]at i;split at i<;>first|(cases i;done)|skip
  rename_i O e1 e2;split at i<;>first|(cases i;done)|skip
  rename_i a9 T;rw[bG]at i;obtain⟨c0,a4,rfl⟩:=i;have hm:=eX hst A m;have hk:=eX hst A k;rw[e1]at hm;rw[e2]at hk;simp only[cB]at hm hk;obtain⟨n,J,C,D⟩:=yI hst O a9 T (eX hst A x) a4;refine skip ?_ C D h.2;simp only[execOp,hm,hk,Sem.run_bind,J,Result.andThen_ok,Sem.run_pure]
 ·-- panic
  rename_i x;split at h<;>try (exact h.elim)
  rename_i t v e;have X:=eX hst A x;have f8:=X;rw[e]at X;have b6:=X;simp only[cB]at X;obtain⟨u,hu,_⟩:=X
  have y:(execOp a.eval ⟨B, .panic x,ty,I,F,g⟩).run E.P w= .halt (.panic (a.eval x)) w:=by
   rw[hu];simp [execOp,hu,Instr.panic]
  simp only[Oper.wp,y,Oper.upon_panic];exact hq _ _ H S w (hst.keeps (oI.refl (fun _=>False) w) (fun _ h=>h.elim) (fun _ h=>h)) hst (by rw[hu]at b6⊢;exact b6) h
 ·-- append
  rename_i M ts
  have b0: ∀{sz a1:Nat} {sv:AV} {ys:List (List AV)},Vb E H fr M ts=some (sz,a1,sv,ys)→ ∃t e Y s x,M= #[s,x]∧ts= #[t,t]∧RF E t e Y∧Y.size=sz∧Y.bytes=a1∧ev E.G fr s=sv∧Do H Y.size (ev E.G fr x)=some ys∧ys.all (fun r=>r.all one)=true:=by
   intro sz a1 sv ys j;simp only[Vb]at j;split at j<;>first|(cases j;done)|skip
   rename_i s x t u ea et;split at j<;>first|(cases j;done)|skip
   rename_i O;simp only[cJ,eK]at j;obtain⟨Y,a0,g3,e0,⟨rfl,c1,c2,c3⟩,j⟩:=j;cases j;exact⟨t,_,Y,s,x,by rw[←eS (xs:=M),ea],by rw[←eS (xs:=ts),et],⟨⟨_,_,_,O⟩,a0,c1,c2⟩,rfl,rfl,rfl,e0,c3⟩
  split at h<;>try (exact h.elim)
  ·rename_i sz a1 ys j
   obtain⟨t,e,Y,s,x,rfl,rfl,a6,rfl,rfl,es,a7,h1⟩:=b0 j;have W:=eX hst A s;rw[es]at W;obtain⟨L,n,Z,v,J,C,D,r4,r5⟩:=(Ii hst a6 (ty:=ty) W (eX hst A x) a7 h1).1 rfl h.1
   have y:(execOp a.eval ⟨B, .call ⟨.builtin .append, #[s,x], #[t,t]⟩,ty,I,F,g⟩).run E.P w= .ok (.value L) n:=by
    simp [execOp,resolve,invoke,builtin,J]
   simp only[Oper.wp,y,Oper.upon_value];refine V v L Z S n C D r4 ?_;rcases r5 with⟨e1,rfl,rfl⟩|⟨e1,b,T,rfl,rfl⟩
   ·exact h.2.1 e1
   exact h.2.2 e1 b T
  rename_i sz a1 b9 b len ys j;obtain⟨t,e,Y,s,x,rfl,rfl,a6,rfl,rfl,es,a7,h1⟩:=b0 j;split at h<;>try (exact h.elim)
  rename_i g0 l T;obtain⟨rfl,rfl,rfl,c9,_,hK⟩:=h;have W:=eX hst A s;rw[es]at W;obtain⟨L,n,b',J,C,D,r4,r5⟩:=(Ii hst a6 (ty:=ty) W (eX hst A x) a7 h1).2 b l rfl T c9
  have y:(execOp a.eval ⟨B, .call ⟨.builtin .append, #[s,x], #[t,t]⟩,ty,I,F,g⟩).run E.P w= .ok (.value L) n:=by
   simp [execOp,resolve,invoke,builtin,J]
  simp only[Oper.wp,y,Oper.upon_value];exact V _ L _ S n C r4 r5 (hK b' D)
 ·-- clear
  rename_i M ts;split at h<;>try (exact h.elim)
  rename_i q i;simp only[sY]at i;split at i<;>first|(cases i;done)|skip
  rename_i s t ea et;split at i<;>first|(cases i;done)|skip
  rename_i el _ _ _ sz b off len O es;simp only[cJ]at i;obtain⟨Y,a0,i⟩:=i;split at i<;>first|(cases i;done)|skip
  rename_i b9 l T;simp only[eK]at i;obtain⟨⟨rfl,rfl,c1,c3,c4⟩,i⟩:=i;cases i;obtain rfl:M= #[s]:=by rw[←eS (xs:=M),ea]
  obtain rfl:ts= #[t]:=by rw[←eS (xs:=ts),et]
  have W:=eX hst A s;rw[es]at W;obtain⟨n,J,C,D⟩:=Nu hst O a0 c1 c3 T c4 W (ty:=ty)
  have y:(execOp a.eval ⟨B, .call ⟨.builtin .clear, #[s], #[t]⟩,ty,I,F,g⟩).run E.P w= .ok (.value (.tuple #[])) n:=by
   simp [execOp,resolve,invoke,builtin,J]
  simp only[Oper.wp,y,Oper.upon_value];exact V (.tup []) _ _ _ _ C D (by simp only[cB];exact⟨[],rfl,by simp only[cY]⟩) h.2
 ·-- copy
  rename_i M ts;split at h<;>try (exact h.elim)
  rename_i q i;simp only[yV]at i;split at i<;>first|(cases i;done)|skip
  rename_i d s t u ea et;split at i<;>first|(cases i;done)|skip
  rename_i el _ _ _ sz b off len g1 b2 f9 b7 O ed es;simp only[cJ]at i;obtain⟨Y,a0,i⟩:=i;split at i<;>first|(cases i;done)|skip
  rename_i b9 l g2 row T c8;simp only[eK]at i;obtain⟨⟨rfl,rfl,rfl,c1,rfl,c2,c3,c4⟩,i⟩:=i;cases i;obtain rfl:M= #[d,s]:=by rw[←eS (xs:=M),ea]
  obtain rfl:ts= #[t,u]:=by rw[←eS (xs:=ts),et]
  have hd:=eX hst A d;have W:=eX hst A s;rw[ed]at hd;rw[es]at W;obtain⟨n,J,C,D⟩:=Su hst O a0 c1 T c8 c2 c3 c4 hd W (ty:=ty) (u:=u)
  have y:(execOp a.eval ⟨B, .call ⟨.builtin .copy, #[d,s], #[t,u]⟩,ty,I,F,g⟩).run E.P w= .ok (.value (goInt (min b7 len:Nat))) n:=by
   simp [execOp,resolve,invoke,builtin,J]
  simp only[Oper.wp,y,Oper.upon_value];exact V (.int .i64 (min b7 len:Nat)) _ _ _ _ C D (by simp only[cB];rfl) h.2
 ·-- a call
  rename_i f M ts;split at h<;>try (exact h.elim)
  rename_i fn first e7 e
  obtain⟨e6,H0,R,sD,b3,d1,_,hK⟩:=h;have a5:=eX hst A f;rw[e]at a5;simp only[cB]at a5;obtain⟨vs,us,f5,d9,d8⟩:=a5;have c7:=sD S w (vs++M.toList.map a.eval++us) ((d9.append (cY.map hst A M.toList)).append d8);obtain⟨e8,f0,f7,e9⟩:=b3.1
  have y:(execOp a.eval ⟨B, .call ⟨.value f,M,ts⟩,ty,I,F,g⟩).run E.P w= .ok (.enter fn (vs++M.toList.map a.eval++us).toArray) w:=by
   have ea:vs.toArray++M.map a.eval++us.toArray=(vs++M.toList.map a.eval++us).toArray:=by
    apply Array.ext';simp
   simp only[*,execOp,resolve,Deferred.ofValue,Sem.run_bind,Sem.run_pure,Result.andThen_ok,invoke,callFunc,run_program,cK,dT,ea]
  simp only[Oper.wp,y,Oper.upon_enter];refine(I7 hst b3 d1 c7).mono fun en n ⟨ae,Z,S',k1,k2,k3,k4,k5⟩=>?_;have b1:=hK ae Z k4 k5
  cases ae with
  |ret v=>
   simp only[vH]at k3;obtain⟨L,rfl,hv⟩:=k3;exact V v L _ S' n k1 k2 hv b1
  |pan v=>
   simp only[vH]at k3;obtain⟨L,rfl,hv⟩:=k3;exact hq v L _ S' n k1 k2 hv b1
 ·-- bytes of an empty string
  rename_i s t x;split at h
  ·split at h<;>try (exact h.elim)
   rename_i p j;simp only[jB]at j;split at j<;>first|(cases j;done)|skip
   rename_i e _ _ _ d6 d7 d0;split at j<;>first|(cases j;done)|skip
   rename_i a0;cases j;have X:=eX hst A x;rw[d0]at X;simp only[cB]at X;obtain⟨f1,f2,f3,f4⟩:=hst.bytes e
   have y:(execOp a.eval ⟨B, .convert s t x,ty,I,F,g⟩).run E.P w= .ok (.value (.slice (some ⟨w.heap.size,0,none⟩) 0 (grownCap w 0 0 e))) (Lib.bytesWorld w e ⟨#[]⟩):=by
    have:=Lib.run_convert_string_bytes w s t e ⟨#[]⟩ (Dz d6) (lS d7) (CN a0);simp only[execOp,X,Sem.run_bind];exact(congrArg (fun r=>Result.andThen r _) this).trans rfl
   simp only[Oper.wp,y,Oper.upon_value];exact V _ _ _ S _ f2 f3 f4 (h _ f1)
  exact b8 h
 exact b8 h
end
def UO (γ:lR) (N:Nat) (a:Act):Prop:=a.defers=γ.D∧ ∀t,t<N/1048576→a.tmps.getD t Go.undef=γ.pin t
def He (E:kB) (γ:lR) (N:Nat) (fr:Fr) (H:Hp) (a:Act) (w:World):Prop:=
 UO γ N a∧a.tmps.size=N % 1048576∧ ∃S,St E γ S H w∧mY S w fr a
inductive XI where
 |normal
 |exit (id:Nat)
 |ret
 |pan (v:AV)
abbrev fF:=XI→Fr→Hp→Prop
def S1:Fr:=fun _=> .undef
def wI (E:kB) (γ:lR) (N:Nat) (Q:fF):Exit→Act→World→Prop
 | .normal,a,w=> ∃fr H,He E γ N fr H a w∧Q .normal fr H
 | .exit id,a,w=> ∃fr H,He E γ N fr H a w∧Q (.exit id) fr H
 | .ret,a,w=> ∃fr H,He E γ N fr H a w∧Q .ret fr H
 | .panic chain,a,w=>UO γ N a∧ ∃v v' S H,chain=[{v:=v',recovered:=false}]∧St E γ S H w∧cB S w v v'∧Q (.pan v) S1 H
 |_,_,_=>False
def mI (ds:List (Option Nat)) (fr:Fr) (g:Option (Nat×Bool)):Option Bool:=
 match g with
 |none=>some true
 |some (j,want)=>match ds[j]? with
  |some (some d)=>match fr d with
   | .bool b=>some (b==want)
   | .tup _=>some false
   |_=>none
  |_=>none
theorem Fp {S:gG} {w:World} {fr:Fr} {a:Act} (n:mY S w fr a) {ops:Array Oper} {o:Oper} {b:Bool} (h:mI (ops.toList.map (·.dst)) fr o.guard=some b):Region.wanted o (yielded ops a.tmps)=b:=by
 unfold mI at h;unfold Region.wanted;split at h
 ·rename_i g;rw[g];simpa using h
 rename_i j v g;rw[g];split at h<;>first|(cases h;done)|skip
 rename_i d hd
 have l:(ops[j]?).bind (·.dst)=some d:=by
  rw[cT,bG]at hd;obtain⟨u,p,e⟩:=hd;have :ops[j]?=some u:=by simpa using p
  rw[this];exact e
 have c:=n d;simp only[yielded,l];split at h<;>first|(cases h;done)|skip
 ·rename_i i e
  cases h;rw[e]at c;simp only[cB]at c
  have t:a.tmps[d]?=some (.bool i):=by
   simp only[iT]at c
   cases f:a.tmps[d]? with
   |none=>rw[f]at c;simp [Go.undef]at c
   |some x=>rw[f]at c;simp at c;rw[c]
  simp only[bX,t];cases i<;>cases v<;>rfl
 rename_i vs e;cases h;rw[e]at c;simp only[cB]at c;obtain⟨y,c,_⟩:=c
 have :(a.tmps[d]?)=none∨ ∃k,a.tmps[d]?=some (.tuple k):=by
  simp only[iT]at c
  cases f:a.tmps[d]? with
  |none=>exact .inl rfl
  |some x=>rw[f]at c;simp at c;exact .inr ⟨_,by rw[c]⟩
 rcases this with f|⟨k,f⟩<;>simp [f]
def aop (E:kB) (okf:Nat→Prop) (ds:List (Option Nat)) (o:Oper) (fr:Fr) (H:Hp) (K:Fr→Hp→Prop) (Kp:AV→Hp→Prop):Prop:=
 match mI ds fr o.guard with
 |some true=>lH E okf o.op fr H (fun v H'=>K (fH fr o.dst v) H') Kp
 |some false=>K (fH fr o.dst (.tup [])) H
 |none=>False
def qC:AV→Option Nat
 | .ptr _ b _ _=>some b
 | .mp b=>some b
 |_=>none
def yP:Nat→List Operand→List (Nat×Operand)
 |_,[]=>[]
 |i,x::r=>(i,x)::yP (i+1) r
def XF (E:kB) (fr:Fr) (c:Call):Option AV:=match c.argTypes.toList with
 |[t]=>(Of E fr t c.args.size (yP 0 c.args.toList).toArray).map fun p=> .isl p.1 p.2
 |_=>none
def eC (E:kB) (F:Nat→Prop) (ds:List (Option Nat)) (Q:fF):List Oper→Fr→Hp→Prop
 |[],fr,H=>Q .normal fr H
 |o::rest,fr,H=>match o.op with
  | .entry x=>match mI ds fr o.guard with
    |some true=>(∀b,qC (ev E.G fr x)=some b→ ¬F b)∧eC E F ds Q rest (fH fr o.dst (.tup [])) H
    |some false=>eC E F ds Q rest (fH fr o.dst (.tup [])) H
    |none=>False
  | .go c=>match mI ds fr o.guard with
    |some true=>match XF E fr c with
     |some v=>eC E F ds Q rest (fH fr o.dst v) H
     |none=>False
    |some false=>eC E F ds Q rest (fH fr o.dst (.tup [])) H
    |none=>False
  |_=>aop E F ds o fr H (eC E F ds Q rest) (fun v H'=>Q (.pan v) S1 H')
def kU (N:Nat) (o:Oper):Bool:=(match o.op with | .entry _| .go _=>false|_=>true)&&match o.dst with |some d=>decide (N/1048576≤d∧d<N % 1048576)|none=>true
theorem tV {E:kB} {F:Nat→Prop} {b:List (Option Nat)} {Q:fF} {N:Nat} {o:Oper} (h:kU N o=true) (c:List Oper) (fr:Fr) (H:Hp):
  eC E F b Q (o::c) fr H=aop E F b o fr H (eC E F b Q c) (fun v e=>Q (.pan v) S1 e):=by
 obtain⟨d,op,j,i,f,g⟩:=o;cases op<;>first|rfl|(simp [kU]at h;done)
section
variable {E : kB} {γ : lR} {N : Nat} {fr : Fr} {H : Hp} {a : Act} {w : World}
theorem Yr {o:Oper} (h:kU N o=true) {i:Nat} (b:o.dst=some i):N/1048576≤i∧i<N % 1048576:=by
 simp only[kU,b,aV,bH]at h;exact h.2
theorem He.put {S:gG} (hst:St E γ S H w) (f:mY S w fr a) (b:UO γ N a) (c:a.tmps.size=N % 1048576) {o:Oper} (hd:kU N o=true) {v:AV} {v':Value} (k:cB S w v v'):He E γ N (fH fr o.dst v) H (a.put o.dst v') w:=by
 refine⟨?_, ?_,S,hst,f.put (fun i g=>?_) k⟩
 ·cases ho:o.dst with
  |none=>exact b
  |some i=>
   have:=(Yr hd ho).1;refine⟨b.1,fun t d=>?_⟩;have j:i≠t:=fun e=>absurd d (by rw[←e];exact Nat.not_lt.2 this);rw[←b.2 t d];simp only[Act.put,iT];rw[Array.getElem?_setIfInBounds_ne j]
 ·cases o.dst<;>simp [Act.put,c]
 rw[c];exact(Yr hd g).2
theorem Ds (D:He E γ N fr H a w) {F:Nat→Prop} {ops:Array Oper} {o:Oper} (hd:kU N o=true) {K:Fr→Hp→Prop} {n:AV→Hp→Prop} (h:aop E F (ops.toList.map (·.dst)) o fr H K n)
  {next:Act→World→Prop} {Q:Exit→Act→World→Prop} (y: ∀t c p b,He E γ N t c p b→K t c→next p b)
  (C: ∀v f d c b,St E γ d c b→cB d b v f→n v c→Q (.panic [{v:=f,recovered:=false}]) a b):
  if Region.wanted o (yielded ops a.tmps)then o.wp E.P a w next Q∨(o.asks E.P a w∧LetsOut Q)else next (a.put o.dst Go.undef) w:=by
 obtain⟨u,x,S,z,e⟩:=D;unfold aop at h;split at h
 ·rename_i l
  rw[bF (Fp e l)];left;obtain⟨dst,op,I,G,A,g⟩:=o;refine Zk z e h (fun v f c d b B j k i=>?_) (fun v f c d b _ j k i=>C v f d c b j k i);exact y _ _ _ _ (He.put (o:=⟨dst,op,I,G,A,g⟩) j (e.keeps B) u x hd k) i
 ·rename_i l
  rw[aO (by rw[Fp e l];simp)];exact y _ _ _ _ (He.put z e u x hd (by simp only[cB];exact⟨[],rfl,by simp only[cY]⟩)) h
 exact h.elim
theorem Jx {F:Nat→Prop} {ops:Array Oper} {Q:fF}: ∀(l:List Oper) (fr:Fr) (H:Hp) (a:Act) (w:World),l.all (kU N)=true→He E γ N fr H a w→eC E F (ops.toList.map (·.dst)) Q l fr H→
  wpList E.P ops (wI E γ N Q) l a w
 |[],fr,H,a,w,_,hs,h=>⟨fr,H,hs,h⟩
 |o::rest,fr,H,a,w,hd,hs,h=>by
  simp only[eD,aV]at hd;have i:=hs.1;rw[tV hd.1]at h;refine Ds hs hd.1 h (fun g b f d j c=>Jx rest g b f d hd.2 j c) (fun v p e b d k n c=>?_);exact⟨i,v,p,e,b,rfl,k,n,c⟩
end
def mB (E:kB) (N:Nat) (c:Code) (Q:fF) (fr:Fr) (H:Hp):Prop:=
 ∀γ a w,He E γ N fr H a w→c.wp E.P (wI E γ N Q) a w
section
variable {E : kB} {N : Nat} {Q Q' : fF} {fr : Fr} {H : Hp}
theorem Z1 {γ:lR} (h: ∀e fr H,Q e fr H→Q' e fr H) (e:Exit) (a:Act) (w:World) (d:wI E γ N Q e a w):wI E γ N Q' e a w:=by
 cases e<;>simp only[wI]at *
 ·obtain⟨fr,H,b,c⟩:=d;exact⟨fr,H,b,h _ _ _ c⟩
 ·obtain⟨fr,H,b,c⟩:=d;exact⟨fr,H,b,h _ _ _ c⟩
 ·obtain⟨fr,H,b,c⟩:=d;exact⟨fr,H,b,h _ _ _ c⟩
 obtain⟨hd,v,i,S,H,b,c,f,g⟩:=d;exact⟨hd,v,i,S,H,b,c,f,h _ _ _ g⟩
theorem Jv {c:Code} (h:mB E N c Q fr H) (b: ∀e fr H,Q e fr H→Q' e fr H):mB E N c Q' fr H:=
 fun γ a w d=>wp_mono (h γ a w d) (Z1 b)
theorem aL (h:Q .normal fr H):mB E N .skip Q fr H:=fun _ _ _ b=>wp_skip ⟨fr,H,b,h⟩
theorem cH {id:Nat} (h:Q (.exit id) fr H):mB E N (.exit id) Q fr H:=fun _ _ _ b=>wp_exit ⟨fr,H,b,h⟩
theorem aP (h:Q .ret fr H):mB E N .ret Q fr H:=fun _ _ _ b=>wp_ret ⟨fr,H,b,h⟩
def bR (next:Fr→Hp→Prop) (Q:fF):fF
 | .normal,fr,H=>next fr H
 |e,fr,H=>Q e fr H
theorem aH {x y:Code} (h:mB E N x (bR (mB E N y Q) Q) fr H):mB E N (.seq x y) Q fr H:=fun γ a w f=>by
 refine wp_seq (wp_mono (h γ a w f) fun e a w b=>?_);cases e<;>simp only[wI,Exit.then,bR]at *
 ·obtain⟨i,g,c,d⟩:=b;exact d γ a w c
 ·exact b
 ·exact b
 exact b
def dC (id:Nat) (Q:fF):fF
 | .exit id',fr,H=>if id'=id then Q .normal fr H else Q (.exit id') fr H
 |e,fr,H=>Q e fr H
theorem aQ {id:Nat} {c:Code} (h:mB E N c (dC id Q) fr H):mB E N (.block id c) Q fr H:=fun γ a w d=>by
 refine wp_block (wp_mono (h γ a w d) fun e a w b=>?_);cases e<;>simp only[wI,Exit.inBlock,dC]at *
 ·exact b
 ·split
  ·rename_i e;simp only[e,cQ]at b;exact b
  rename_i e;simp only[e,dT]at b;exact b
 ·exact b
 exact b
theorem Ax {c:Operand} {x y:Code} {t:Bool} (l:ev E.G fr c= .bool t) (j:t=true→mB E N x Q fr H) (k:t=false→mB E N y Q fr H):mB E N (.cond c x y) Q fr H:=fun γ a w n=>by
 obtain⟨g,i,S,d,b⟩:=n;have f:=eX d b c;rw[l]at f;simp only[cB]at f;exact wp_cond_split f (fun e=>j e γ a w ⟨g,i,S,d,b⟩) (fun e=>k e γ a w ⟨g,i,S,d,b⟩)
theorem lD {id:Nat} {l:List Oper} (hd:l.all (kU N)=true) (h:eC E (fun _=>True) (l.map (·.dst)) Q l fr H):mB E N (.region id l.toArray false) Q fr H:=fun γ a w b=>
 wp_region_list (by simpa using Jx (ops:=l.toArray) l fr H a w hd b (by simpa using h))
theorem Yz {c:Code} (I:Nat→Fr→Hp→Prop) (n:Nat) (A:I n fr H) (L: ∀n fr H,I n fr H→mB E N c (bR (fun u p=> ∃m,m<n∧I m u p) Q) fr H):mB E N (.loop c) Q fr H:=by
 intro γ a w v b k t
 have K: ∀n a w,(∃fr H,He E γ N fr H a w∧I n fr H)→ ∃e j o,wI E γ N Q e j o∧Arrives E.P (lone (b.at a (.code c:: .inLoop c::k)) t w) b k t e j o:=by
  intro n
  induction n using Nat.strongRecOn with
  |_ n ih=>
   rintro a w ⟨fr,H,v,B⟩;obtain⟨e,f,g,d,i⟩:=L n fr H B γ a w v b (.inLoop c::k) t
   cases e with
   |normal=>
    obtain⟨u,p,J,m,F,C⟩:=d;obtain⟨z,y,M,G,D⟩:=ih m F f g ⟨u,p,J,C⟩;exact⟨z,y,M,G, .of_steps (Steps.trans i (.one step_inLoop)) D⟩
   |exit id=>exact⟨_,f,g,(by simpa only[wI,bR]using d:wI E γ N Q (.exit id) f g), .pass (x:= .inLoop c) rfl (fun _ _=> .inl (by simp)) i⟩
   |goto l=>exact d.elim
   |ret=>exact⟨_,f,g,(by simpa only[wI,bR]using d:wI E γ N Q .ret f g), .pass (x:= .inLoop c) rfl (fun _ _=> .inl (by simp)) i⟩
   |panic ch=>exact⟨_,f,g,(by simpa only[wI,bR]using d:wI E γ N Q (.panic ch) f g), .pass (x:= .inLoop c) rfl (fun _ _=> .inl (by simp)) i⟩
   |outgrown=>exact d.elim
 obtain⟨e,j,o,d,i⟩:=K n a w ⟨fr,H,v,A⟩;exact⟨e,j,o,d, .of_steps (.one step_loop) i⟩
end
def bP (P:Program) (fr:Fr) (H:Hp):List ResultVar→Option (List AV)
 |[]=>some []
 | .tmp t::r=>(bP P fr H r).map (fr t:: ·)
 | .cell p t::r=>(cF P t).bind fun ti=>(vN H ti (fr p)).bind fun v=>(bP P fr H r).map (v:: ·)
def aK (P:Program) (fr:Fr) (H:Hp) (rs:List ResultVar):Option AV:=
 match bP P fr H rs with
 |some [v]=>some v
 |some vs=>some (.tup vs)
 |none=>none
theorem zQ {E:kB} {γ:lR} {S:gG} {H:Hp} {w:World} {fr:Fr} {a:Act} (hst:St E γ S H w) (d:mY S w fr a): ∀(o:List ResultVar) (vs:List AV),bP E.P fr H o=some vs→
  ∃c,(o.mapM (m:=Sem) fun | .tmp t=>pure (a.tmps.getD t Go.undef)| .cell p t=>do loadVar t (←asAddr (a.tmps.getD p Go.undef))).run E.P w= .ok c w∧cY S w vs c
 |[],vs,h=>by
  simp only[bP,Option.some.injEq]at h;subst h;exact⟨[],by simp,by simp only[cY]⟩
 | .tmp t::r,vs,h=>by
   simp only[bP,bG]at h;obtain⟨l,h,rfl⟩:=h;obtain⟨c,j,k⟩:=zQ hst d r l h;refine⟨a.tmps.getD t Go.undef::c, ?_,by simp only[cY];exact⟨_,_,rfl,d t,k⟩⟩;simp only[List.mapM_cons,Sem.run_bind,Sem.run_pure,Result.andThen_ok,j]
 | .cell p t::r,vs,h=>by
   simp only[bP,cJ,bG]at h;obtain⟨A,z,v,i,l,h,rfl⟩:=h;obtain⟨c,j,k⟩:=zQ hst d r l h;obtain⟨u,g,y⟩:=Fo hst z (d p) i;refine⟨u::c, ?_,by simp only[cY];exact⟨_,_,rfl,y,k⟩⟩
   have n:(do loadVar t (←asAddr (a.tmps.getD p Go.undef)):Sem Value).run E.P w= .ok u w:=by
    have f:=d p;cases e:fr p<;>rw[e]at f i<;>simp only[vN]at i<;>try (cases i;done)
    ·simp only[cB]at f
     rw[f]at g⊢;simpa [Instr.loadAt,Instr.sureAddr,asAddr]using g
    simp only[cB]at f;obtain⟨b,off,x,_⟩:=f;rw[x]at g⊢;simpa [Instr.loadAt,Instr.sureAddr,asAddr]using g
   simp only[List.mapM_cons,Sem.run_bind]at n⊢;simp only[n,Result.andThen_ok,j,Sem.run_pure]
theorem yU {E:kB} {γ:lR} {S:gG} {H:Hp} {w:World} {fr:Fr} {a:Act} (hst:St E γ S H w) (n:mY S w fr a) {g:Func} {v:AV} (h:aK E.P fr H g.results.toList=some v):
  ∃u,(results g a.tmps).run E.P w= .ok u w∧cB S w v u:=by
 unfold aK at h
 have j: ∀vs,bP E.P fr H g.results.toList=some vs→ ∃b:List Value,(results g a.tmps).run E.P w= .ok (if h:b.toArray.size=1 then b.toArray[0]else .tuple b.toArray) w∧cY S w vs b:=fun vs f=>by
  obtain⟨b,d,c⟩:=zQ hst n _ vs f;refine⟨b, ?_,c⟩;unfold results;rw[Array.mapM_eq_mapM_toList];simp only[Sem.run_bind,Sem.run_map,Sem.run_pure];exact congrArg (fun r:Result (List Value)=>(r.andThen fun a i=>Result.ok a.toArray i).andThen fun a i=>Result.ok (if h:a.size=1 then a[0]else Value.tuple a) i) d
 split at h
 ·rename_i k f
  cases h;obtain⟨b,d,c⟩:=j _ f;simp only[cY]at c;obtain⟨u,t,rfl,l,rfl⟩:=c;exact⟨u,by simpa using d,l⟩
 ·rename_i vs p f
  cases h;obtain⟨b,d,c⟩:=j _ f
  have o: ¬b.toArray.size=1:=by
   intro e;have:=c.length;simp at e;rw[e]at this
   match vs,this with
   |[k],_=>exact p k rfl
  rw[dif_neg o]at d;exact⟨_,d,by simp only[cB];exact⟨b,rfl,c⟩⟩
 cases h
def kY (v:AV) (H:Hp) (v':AV) (H':Hp):Prop:= ∀(E:kB) (γ:lR) (S:gG) (w:World) (x:Value),St E γ S H w→cB S w v x→ ∃S',iC S S' w w∧St E γ S' H' w∧cB S' w v' x
theorem kY.refl (v:AV) (H:Hp):kY v H v H:=fun _ _ S _ _ b c=>⟨S,⟨fun _ _=>rfl,fun _ _ h=>h,fun _ h=>h⟩,b,c⟩
theorem kY.trans {v v' c:AV} {H H' b:Hp} (h:kY v H v' H') (f:kY v' H' c b):kY v H c b:=fun E γ S w x g i=>by
 obtain⟨d,k1,n,k⟩:=h E γ S w x g i;obtain⟨e,j,o,l⟩:=f E γ d w x n k;exact⟨e,⟨fun _ _=>rfl,fun _ _ h=>h,fun _ h=>j.sub _ (k1.sub _ h)⟩,o,l⟩
theorem kY.sub {v v':AV} {H:Hp} (h:jE v v'):kY v H v' H:=fun _ _ S _ _ b c=>⟨S,⟨fun _ _=>rfl,fun _ _ h=>h,fun _ h=>h⟩,b,h _ _ _ c⟩
theorem kY.drop {v:AV} {H H':Hp} (h:sD H' H):kY v H v H':=fun _ _ S w _ c e=>
 ⟨S,⟨fun _ _=>rfl,fun _ _ h=>h,fun _ h=>h⟩,c.step (oI.refl (fun _=>False) w) (fun _ h=>h.elim) (fun _ h=>h) c.lt (fun k f=> .inl f) fun b o d=>⟨(c.obj b o (h b o d)).2.1, .inl ⟨h b o d,fun h=>h⟩⟩,e⟩
def rX (b sz:Nat) (l:List (List AV)) (v v':AV):Prop:= ∀(S:gG) (w:World) (x:Value),S b→cZ S w b 0 sz l→cB S w v x→cB S w v' x
theorem rX.refl (b sz:Nat) (l:List (List AV)) (v:AV):rX b sz l v v:=fun _ _ _ _ _ h=>h
theorem rX.osl (b sz:Nat) (l:List (List AV)):rX b sz l (.osl sz b l.length) (.isl sz l):=fun S w x i j h=>by
 simp only[cB]at *;obtain⟨c,e,d,_,f,g⟩:=h;exact⟨_,c,d,f,g, .inr ⟨b,0,rfl,i,j⟩⟩
theorem rX.list {b sz:Nat} {l:List (List AV)} {S:gG} {w:World} (g:S b) (j:cZ S w b 0 sz l): ∀{vs e:List AV} {f:List Value},vs.length=e.length→(∀(i:Nat) v d,vs[i]?=some v→e[i]?=some d→rX b sz l v d)→cY S w vs f→cY S w e f
 |[],[],_,_,_,h=>h
 |[],_::_,_,hl,_,_=>by simp at hl
 |_::_,[],_,hl,_,_=>by simp at hl
 |v::vs,d::e,f,hl,hf,h=>by
  simp only[cY]at *;obtain⟨u,t,rfl,k,n⟩:=h;exact⟨u,t,rfl,hf 0 v d rfl rfl S w u g j k,rX.list g j (by simpa using hl) (fun i a c o p=>hf (i+1) a c (by simpa using o) (by simpa using p)) n⟩
theorem rX.cons {b sz:Nat} {l:List (List AV)} {v v':AV} {vs j:List AV} (h:rX b sz l v v') (n:rX b sz l (.tup vs) (.tup j)):rX b sz l (.tup (v::vs)) (.tup (v'::j)):=fun S w x f g i=>by
 simp only[cB,cY]at i⊢;obtain⟨t,rfl,u,c,rfl,o,p⟩:=i;have d:=n S w (.tuple c.toArray) f g (by simp only[cB];exact⟨c,rfl,p⟩);simp only[cB]at d;obtain⟨ws,e,d⟩:=d;have k:c=ws:=by simpa using e
 subst k;exact⟨u::c,rfl,u,c,rfl,h S w u f g o,d⟩
theorem kY.freeze {b sz:Nat} {l:List (List AV)} {v v':AV} {H:Hp} (g:H b=some (.rows sz l)) (h:rX b sz l v v'):kY v H v' (upd H b none):=fun E γ S w x d j=>by
 have hk:iC S (fun k=>S k∨k=b) w w:=⟨fun _ _=>rfl,fun _ _ h=>h,fun _ h=> .inl h⟩;have f:=(d.obj b _ g).1;have n:=f.lt;simp only[jQ]at f;obtain⟨u,e,_,_,t⟩:=f;refine⟨fun k=>S k∨k=b,hk, ?_,h _ w x (.inr rfl) (cZ.mono hk l b 0 sz rfl t) (cB.mono hk _ _ j)⟩;refine d.step (oI.refl (fun _=>False) w) (fun _ h=>h.elim) (fun _ h=> .inl h) (fun k hk=>?_) (fun k hk=>?_) fun i o c=>?_
 ·rcases hk with hk|hk
  ·exact d.lt k hk
  exact hk▸n
 ·rcases hk with hk|hk
  ·exact .inl hk
  exact .inr (.inl (by rw[hk,g];simp))
 simp only[upd]at c;split at c
 ·cases c
 rename_i p;refine⟨fun hs=>?_, .inl ⟨c,fun h=>h⟩⟩;rcases hs with hs|hs
 ·exact(d.obj i o c).2.1 hs
 exact p hs
def BL (args:List AV):Fr:=fun t=>args.getD t (.tup [])
def bB (R:sJ→Hp→Prop) (v:AV) (H:Hp):Prop:= ∃v' H',kY v H v' H'∧R (.ret v') H'
theorem bB.self {R:sJ→Hp→Prop} {v:AV} {H:Hp} (h:R (.ret v) H):bB R v H:=⟨v,H,kY.refl _ _,h⟩
def aY (P:Program) (rs:List ResultVar) (R:sJ→Hp→Prop):fF
 | .normal,fr,H| .ret,fr,H=>match aK P fr H rs with |some v=>bB R v H|none=>False
 | .pan v,_,H=>R (.pan v) H
 | .exit _,_,_=>False
theorem TX {E:kB} {f:FuncId} {d:Func} {c:Code} {b:List AV} {p:Hp} {R:sJ→Hp→Prop} (N:Nat) (O:List ResultVar) (M:E.P.funcs[f]?=some d) (L:d.body=some c) (Y:(d.name== "runtime.NumGoroutine")=false) (V:b.length+(d.ntmps-b.length)=N) (a0:d.results.toList=O)
  (h:mB E N c (aY E.P O R) (BL b) p) (a3:N/1048576=0:=by rfl):pP E f b p R:=by
 subst a0;have W:N % 1048576=N:=by omega
 refine⟨⟨d,M,Y,by rw[L];rfl⟩,fun T J vs a2 K=>?_⟩;have j:=K.length;refine calls_of_wp M L ?_
 have a1:He E ⟨T,KF p,J,[],fun _=>Go.undef⟩ N (BL b) p {tmps:=vs.toArray++Array.replicate (d.ntmps-vs.toArray.size) Go.undef,defers:=[]} T:=by
  refine⟨⟨rfl,fun t i=>by omega⟩,by simp [j,V,W],J,a2,fun t=>?_⟩;simp only[BL];by_cases i:t<b.length
  ·obtain⟨v,l,Z⟩:=K.get t (aC i)
   have z:b.getD t (.tup [])=b[t]:=by simp [List.getD,i]
   have A:(vs.toArray++Array.replicate (d.ntmps-vs.toArray.size) Go.undef).getD t Go.undef=v:=by
    have X:t<vs.length:=by omega
    simp only[iT];rw[Array.getElem?_append_left (by simpa using X)];simp [l]
   rw[z,A];exact Z
  have z:b.getD t (.tup [])= .tup []:=by simp [List.getD,dO (Nat.le_of_not_lt i)]
  have A:(vs.toArray++Array.replicate (d.ntmps-vs.toArray.size) Go.undef).getD t Go.undef=Go.undef:=by
   simp only[iT];rw[Array.getElem?_append_right (by simp;omega)];simp only[Array.getElem?_replicate];split<;>rfl
  rw[z,A];simp only[cB];exact⟨[],rfl,by simp only[cY]⟩
 refine wp_mono (h _ _ _ a1) fun e a w j=>?_;cases e<;>simp only[wI,aY,bodyPost]at j⊢
 ·obtain⟨fr,H,⟨n,U,S,k,B⟩,g⟩:=j
  refine⟨n.1, ?_⟩;split at g<;>try (exact g.elim)
  rename_i v l;obtain⟨u,C,D⟩:=yU k B l;obtain⟨I,x,i,o⟩:=g;obtain⟨y,_,F,G⟩:=i _ _ _ _ _ k D;exact⟨u,C,_,x,y,F,by simp only[vH];exact⟨u,rfl,G⟩,o⟩
 ·obtain⟨fr,H,_,g⟩:=j;exact g.elim
 ·obtain⟨fr,H,⟨n,U,S,k,B⟩,g⟩:=j
  refine⟨n.1, ?_⟩;split at g<;>try (exact g.elim)
  rename_i v l;obtain⟨u,C,D⟩:=yU k B l;obtain⟨I,x,i,o⟩:=g;obtain⟨y,_,F,G⟩:=i _ _ _ _ _ k D;exact⟨u,C,_,x,y,F,by simp only[vH];exact⟨u,rfl,G⟩,o⟩
 obtain⟨n,v,I,S,H,rfl,k,l,o⟩:=j;exact⟨n.1,_,H,S,k,by simp only[vH];exact⟨I,rfl,l⟩,o⟩
theorem bU {E:kB} {f:FuncId} {fn:Func} {c:Code} {args:List AV} {H0:Hp} {R:sJ→Hp→Prop} (N:Nat) (rs:List ResultVar) (hf:E.P.funcs[f]?=some fn) (h:mB E N c (aY E.P rs R) (BL args) H0) (hb:fn.body=some c:=by exact rfl) (hname:(fn.name== "runtime.NumGoroutine")=false:=by exact rfl) (hN:args.length+(fn.ntmps-args.length)=N:=by exact rfl) (hrs:fn.results.toList=rs:=by exact rfl) (hN2:N/1048576=0:=by exact rfl):pP E f args H0 R:=TX N rs hf hb hname hN hrs h hN2
end Go.Al
