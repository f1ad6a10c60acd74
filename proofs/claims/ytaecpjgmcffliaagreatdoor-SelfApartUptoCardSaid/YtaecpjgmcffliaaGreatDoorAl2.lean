/- The little logic, eighth part: contracts of functions; the operations that make memory, write it, or call. The little logic, ninth part: what the operations that make memory do. The little logic, tenth part: what a store and an append do. The little logic, eleventh part: append, make, maps. The little logic, twelfth part: make and the writing of maps. The little logic: a piece of a block is cleared, or copied into. The little logic, thirteenth part: one operation, of whatever kind. The little logic, fourteenth part: lists of operations, one behind the other; code; entering a function. -/
import Derived.Test.YtaecpjgmcffliaaGreatDoorAl1
import Derived.Laws.CopyRow
import Derived.Laws.IdiomCopy
set_option linter.unusedSimpArgs false
set_option linter.unusedVariables false
set_option maxRecDepth 10000
namespace Go.Al
inductive vK where
 |ret (v:AV)
 |pan (v:AV)
def nW (S:dL) (w:World):vK→Ending→Prop
 | .ret v,e=> ∃v',e= .returned v'∧bO S w v v'
 | .pan v,e=> ∃v',e= .panicked [{v:=v',recovered:=false}]∧bO S w v v'
def G5 (H:Hp):Nat→Prop:=fun b=>H b≠none
def CQ (E:fR) (f:FuncId):Prop:= ∃fn,E.P.funcs[f]?=some fn∧(fn.name== "runtime.NumGoroutine")=false∧fn.body.isNone=false
def rK (E:fR) (f:FuncId) (args:List AV) (H0:Hp) (R:vK→Hp→Prop):Prop:=
 CQ E f∧ ∀(w0:World) (S0:dL) (vs:List Value),St E ⟨w0,G5 H0,S0,[],fun _=>Go.undef⟩ S0 H0 w0→bW S0 w0 args vs→
  Calls E.P f vs.toArray w0 fun e w'=> ∃ae H' S',St E ⟨w0,G5 H0,S0,[],fun _=>Go.undef⟩ S' H' w'∧nW S' w' ae e∧R ae H'
def dQ (x y:AV):Prop:= ∀S w v,bO S w x v→bO S w y v
def cY (xs ys:List AV):Prop:= ∀S w vs,bW S w xs vs→bW S w ys vs
theorem dQ.refl (x:AV):dQ x x:=fun _ _ _ h=>h
theorem cY.refl (x:List AV):cY x x:=fun _ _ _ h=>h
theorem cY.cons {x y:AV} {xs ys:List AV} (h:dQ x y) (h':cY xs ys):cY (x::xs) (y::ys):=by
 intro S w vs h1;simp only[bW]at *;obtain⟨u,us,e,h1,h2⟩:=h1;exact⟨u,us,e,h _ _ _ h1,h' _ _ _ h2⟩
theorem dQ.undef (x:AV):dQ x .undef:=fun _ _ _ _=>by simp only[bO]
theorem dQ.nsl (sz:Nat):dQ .nsl (.isl sz []):=by
 intro S w v h;simp only[bO]at *;exact⟨none,0,h,bF _,by simp [maxLen], .inl trivial⟩
theorem dQ.agg {xs ys:List AV} (h:cY xs ys):dQ (.agg xs) (.agg ys):=by
 intro S w v h1;simp only[bO]at *;obtain⟨vs,e,h1⟩:=h1;exact⟨vs,e,h _ _ _ h1⟩
theorem dQ.tup {xs ys:List AV} (h:cY xs ys):dQ (.tup xs) (.tup ys):=by
 intro S w v h1;simp only[bO]at *;obtain⟨vs,e,h1⟩:=h1;exact⟨vs,e,h _ _ _ h1⟩
def mQ (H0 H:Hp):Prop:= ∀b o,H0 b=some o→H b=some o
def gA (H' H0 H:Hp):Hp:=fun b=>match H' b with |some o=>some o|none=>if(H0 b).isSome then none else H b
theorem Ua (H:Hp):gA lG lG H=H:=by funext b;simp [gA,lG]
theorem mP (H:Hp):mQ lG H:=fun b o h=>by cases h
section
variable {E : fR} {γ : gD} {S : dL} {H : Hp} {w : World} {fr : Fr} {a : Act}
theorem St.keeps (hst:St E γ S H w) {M:Nat→Prop} {w':World} (hE:iY M w w') (hM: ∀k,M k→k<w.heap.size→ ¬S k) {S':dL} (hS: ∀k,S k→S' k):eC S S' w w':=
 ⟨fun k hk=>hE.keep k (hst.lt k hk) (fun c=>hM k c (hst.lt k hk) hk),hE.shp,hS⟩
theorem gO.keeps {S':dL} {w':World} (Y:eC S S' w w') (hf:gO S w fr a):gO S' w' fr a:=fun t=>bO.mono Y _ _ (hf t)
theorem gO.put (hf:gO S w fr a) {d:Option Nat} (hd: ∀i,d=some i→i<a.tmps.size) {v:AV} {v':Value} (hv:bO S w v v'):gO S w (dF fr d v) (a.put d v'):=by
 intro t
 cases d with
 |none=>exact hf t
 |some i=>
  have hi:=hd i rfl;simp only[dF,Act.put,upd];by_cases h:t=i
  ·subst h
   simp only[if_true];have :(a.tmps.setIfInBounds t v').getD t Go.undef=v':=by simp [Array.getD_eq_getD_getElem?,hi]
   rw[this];exact hv
  simp only[if_neg h]
  have :(a.tmps.setIfInBounds i v').getD t Go.undef=a.tmps.getD t Go.undef:=by
   simp only[Array.getD_eq_getD_getElem?];rw[Array.getElem?_setIfInBounds_ne (fun e=>h e.symm)]
  rw[this];exact hf t
theorem St.step (hst:St E γ S H w) {M:Nat→Prop} {w':World} (hE:iY M w w') (hM: ∀k,M k→k<w.heap.size→H k≠none) {S':dL} {H':Hp}
  (hS: ∀k,S k→S' k) (hlt: ∀k,S' k→k<w'.heap.size) (hsrc: ∀k,S' k→S k∨H k≠none∨w.heap.size≤k)
  (hH: ∀b o,H' b=some o→ ¬S' b∧((H b=some o∧ ¬M b)∨(eR S' w' b o∧(H b≠none∨w.heap.size≤b)))):St E γ S' H' w':=by
 have own: ∀b,H b≠none→γ.O b∨γ.w0.heap.size≤b:=fun b hb=>by
  cases ho:H b with
  |none=>exact absurd ho hb
  |some o=>exact(hst.obj b o ho).2.2
 have Y:eC S S' w w':=hst.keeps hE (fun k hk hl=>by
  cases ho:H k with
  |none=>exact absurd ho (hM k hk hl)
  |some o=>exact(hst.obj k o ho).2.1) hS
 refine⟨hlt,fun k hk=>hS k (hst.base k hk),fun k hk=>?_,fun b o hb=>?_, ?_,fun g row hg=>?_⟩
 ·rcases hsrc k hk with h|h|h
  ·exact hst.src k h
  ·exact .inr (own k h)
  exact .inr (.inr (Nat.le_trans hst.ext.size h))
 ·obtain⟨h1,h2⟩:=hH b o hb
  rcases h2 with⟨h2,h3⟩|⟨h2,h3⟩
  ·have ho:=(hst.obj b o h2).1
   exact⟨eR.mono Y (hE.keep b ho.lt h3) o ho,h1,(hst.obj b o h2).2.2⟩
  refine⟨h2,h1, ?_⟩;rcases h3 with h3|h3
  ·exact own b h3
  exact .inr (Nat.le_trans hst.ext.size h3)
 ·have hx:=hst.ext
  refine⟨hE.os.trans hx.os,hE.tape.trans hx.tape,hE.output.trans hx.output,Nat.le_trans hx.size hE.size,fun k hk hn=>?_,fun k sh hs=>hE.shp k sh (hx.shp k sh hs)⟩;rw[hE.keep k (Nat.lt_of_lt_of_le hk hx.size) (fun c=>?_)]
  ·exact hx.keep k hk hn
  rcases own k (hM k c (Nat.lt_of_lt_of_le hk hx.size))with h|h
  ·exact hn h
  omega
 obtain⟨h1,h2⟩:=hst.glb g row hg;exact⟨hS g h1,cL.mono Y row g 0 (Y.heap g h1) h2⟩
theorem St.alloc (hst:St E γ S H w) {ob:Obj} {o:iG} (ho:eR S (w.alloc ob) w.heap.size o):H w.heap.size=none∧eC S S w (w.alloc ob)∧St E γ S (upd H w.heap.size (some o)) (w.alloc ob):=by
 have hn:H w.heap.size=none:=by
  cases h:H w.heap.size with
  |none=>rfl
  |some o'=>exact absurd (hst.obj _ _ h).1.lt (Nat.lt_irrefl _)
 refine⟨hn,hst.keeps (iY.alloc (fun _=>False) w ob) (fun _ h=>h.elim) (fun _ h=>h),hst.step (iY.alloc (fun _=>False) w ob) (fun _ h=>h.elim) (fun _ h=>h) (fun k hk=>by simp;exact Nat.lt_succ_of_lt (hst.lt k hk)) (fun k hk=> .inl hk) fun b o' hb=>?_⟩;by_cases e:b=w.heap.size
 ·subst e
  simp only[upd,if_true,Option.some.injEq]at hb;subst hb;exact⟨fun hs=>Nat.lt_irrefl _ (hst.lt _ hs), .inr ⟨ho, .inr (bF _)⟩⟩
 simp only[upd,if_neg e]at hb;exact⟨(hst.obj b o' hb).2.1, .inl ⟨hb,fun h=>h⟩⟩
theorem St.allocSealed (hst:St E γ S H w) {ob:Obj}:eC S (fun k=>S k∨k=w.heap.size) w (w.alloc ob)∧St E γ (fun k=>S k∨k=w.heap.size) H (w.alloc ob):=by
 refine⟨hst.keeps (iY.alloc (fun _=>False) w ob) (fun _ h=>h.elim) (fun _ h=> .inl h),hst.step (iY.alloc (fun _=>False) w ob) (fun _ h=>h.elim) (fun _ h=> .inl h) (fun k hk=>?_) (fun k hk=>?_) fun b o' hb=>?_⟩
 ·simp
  rcases hk with hk|hk
  ·exact Nat.lt_succ_of_lt (hst.lt k hk)
  omega
 ·rcases hk with hk|hk
  ·exact .inl hk
  exact .inr (.inr (by omega))
 refine⟨fun hs=>?_, .inl ⟨hb,fun h=>h⟩⟩;rcases hs with hs|hs
 ·exact(hst.obj b o' hb).2.1 hs
 have:=(hst.obj b o' hb).1.lt;omega
theorem bZ.fresh {cs:Array Value} {e:TypeId} {S':dL} (Y:eC S S' w (w.alloc (.cells cs e))) {vs:List Value} {sz:Nat} {l:List (List AV)} (hcs:cs.toList.take (l.length *sz)=vs)
  (hl: ∀i row,l[i]?=some row→row.length=sz∧bW S w row ((vs.drop (i *sz)).take sz)):bZ S' (w.alloc (.cells cs e)) w.heap.size 0 sz l:=by
 refine bZ.of_get fun i row hr=>?_;obtain⟨h1,h2⟩:=hl i row hr;refine⟨h1,cL.of_vals (bW.mono Y _ _ h2) fun j v hj=>?_⟩;rw[World.cell?_alloc_new];rw[List.getElem?_take]at hj;split at hj
 ·rw[List.getElem?_drop,←hcs,List.getElem?_take]at hj
  split at hj
  ·simpa using hj
  cases hj
 cases hj
end
end Go.Al
namespace Go.Al
theorem Qo {α:Type} {sz:Nat}: ∀(ls:List (List α)) (i:Nat) (c:List α),(∀x∈ls,x.length=sz)→ls[i]?=some c→(ls.flatten.drop (i *sz)).take sz=c
 |[],i,c,_,h=>by simp at h
 |x::ls,0,c,hl,h=>by
  simp at h;subst h;have:=hl x (by simp);simp [←this]
 |x::ls,i+1,c,hl,h=>by
  simp at h;have hx:=hl x (by simp);have ih:=Qo ls i c (fun y hy=>hl y (by simp [hy])) h;rw[List.flatten_cons,Nat.add_mul,Nat.one_mul,List.drop_append,hx];simp only[Nat.add_sub_cancel];rw[List.drop_eq_nil_of_le (by omega),List.nil_append];exact ih
theorem uM {α:Type} {sz:Nat}: ∀(ls:List (List α)),(∀x∈ls,x.length=sz)→ls.flatten.length=ls.length *sz
 |[],_=>by simp
 |x::ls,h=>by
  rw[List.flatten_cons,aI,h x (by simp),uM ls (fun y hy=>h y (by simp [hy])),aQ,Nat.add_mul,Nat.one_mul,Nat.add_comm]
theorem xM (sz:Nat): ∀(qs:List (Nat×Value)) (k:Nat) (cur:Array Value),(∀(i:Nat) q,qs[i]?=some q→q.1=k+i∧q.2.cells.size=sz)→(k+qs.length) *sz≤cur.size→
  ∃out,Instr.fill (fun i=>some (i *sz,sz)) cur qs=some out∧out.size=cur.size∧out.toList.take ((k+qs.length) *sz)=cur.toList.take (k *sz)++(qs.map (·.2.cells.toList)).flatten
 |[],k,cur,_,_=>⟨cur,by simp [Instr.fill],rfl,by simp⟩
 |(i,v)::qs,k,cur,h,hs=>by
  obtain⟨e1,e2⟩:=h 0 _ rfl;simp only[Nat.add_zero]at e1 e2;subst e1;simp only[aQ]at hs;have hb:(i+1) *sz≤cur.size:=Nat.le_trans (Nat.mul_le_mul_right _ (by omega)) hs;rw[Nat.add_mul,Nat.one_mul]at hb;have hfold:=tQ (i *sz) v.cells.toList 0 cur (by simp [e2];omega);simp only[Nat.add_zero,Array.length_toList,e2]at hfold
  have e3:(v.cells.zipIdx.foldl (fun cs (c,j)=>cs.setIfInBounds (i *sz+j) c) cur)=(v.cells.toList.zipIdx.foldl (fun cs (c,j)=>cs.setIfInBounds (i *sz+j) c) cur):=by
   rw[←Array.foldl_toList];simp
  generalize hnew:(v.cells.zipIdx.foldl (fun cs (c,j)=>cs.setIfInBounds (i *sz+j) c) cur)=new at *;rw[←e3]at hfold
  have hnl:new.size=cur.size:=by
   have:=congrArg List.length hfold;simp only[Array.length_toList,aI,dR,List.length_drop,e2]at this;omega
  obtain⟨out,h1,h2,h3⟩:=xM sz qs (i+1) new (fun j q hq=>by
   have:=h (j+1) q (by simpa using hq)
   exact⟨by omega,this.2⟩) (by rw[hnl,show i+1+qs.length=i+(qs.length+1)by omega];exact hs)
  refine⟨out, ?_,h2.trans hnl, ?_⟩
  ·simp only[Instr.fill]
   rw[if_neg (by simp;omega),hnew];exact h1
  rw[aQ,show i+(qs.length+1)=i+1+qs.length by omega,h3,hfold,Nat.add_mul,Nat.one_mul];rw[List.take_append,List.take_append];simp only[List.map_cons,List.flatten_cons];have l1:(cur.toList.take (i *sz)).length=i *sz:=by simp;omega
  have l2:v.cells.toList.length=sz:=by simpa using e2
  simp [l1,l2];rw[show List.take sz v.cells.toList=v.cells.toList from List.take_of_length_le (by omega),List.take_of_length_le (by omega)]
def iQ (E:fR) (fr:Fr) (size:Nat):Nat→List (Nat×Operand)→Option (List (List AV))
 |_,[]=>some []
 |k,(i,x)::r=>if i=k then(cellsOf (ev E.G fr x)).bind fun cs=>if cs.length=size then(iQ E fr size (k+1) r).map (cs:: ·)else none else none
section
variable {E : fR} {γ : gD} {S : dL} {H : Hp} {w : World} {fr : Fr} {a : Act}
theorem uY (hst:St E γ S H w) (hf:gO S w fr a) {size:Nat}: ∀(ps:List (Nat×Operand)) (k:Nat) (rows:List (List AV)),iQ E fr size k ps=some rows→
  rows.length=ps.length∧(∀(i:Nat) p,ps[i]?=some p→p.1=k+i∧((a.eval p.2).cells.size=size))∧
  (∀(i:Nat) row,rows[i]?=some row→row.length=size∧ ∃p,ps[i]?=some p∧bW S w row (a.eval p.2).cells.toList)
 |[],k,rows,h=>by simp [iQ]at h;subst h;simp
 |(j,x)::ps,k,rows,h=>by
  simp only[iQ,Option.ite_none_right_eq_some,bU,bH]at h;obtain⟨rfl,cs,hc,hl,r,hr,rfl⟩:=h;obtain⟨h1,h2,h3⟩:=uY hst hf ps (j+1) r hr;have hv:=hO (cP hst hf x) hc;refine⟨by simp [h1],fun i p hp=>?_,fun i row hrow=>?_⟩
  ·cases i with
   |zero=>simp at hp;subst hp;refine⟨by simp, ?_⟩;have h5:=hv.length;simp at h5;show(a.eval x).cells.size=size;omega
   |succ i=>simp at hp;have:=h2 i p hp;exact⟨by omega,this.2⟩
  cases i with
  |zero=>simp at hrow;subst hrow;exact⟨hl,_,rfl,hv⟩
  |succ i=>simp at hrow;obtain⟨e1,p,e2,e3⟩:=h3 i row hrow;exact⟨e1,p,by simpa using e2,e3⟩
theorem N3 (hst:St E γ S H w) (hf:gO S w fr a) {t e:TypeId} {s1 b1:Nat} {z1:AV} {te:TI} {len:Nat} {parts:Array (Nat×Operand)} {rows:List (List AV)}
  (ht:bP E.P t=some ⟨.slice e,s1,b1,z1⟩) (hte:bP E.P e=some te) (h24:len *te.size≤16777216) (hr:iQ E fr te.size 0 parts.toList=some rows) (hl:rows.length=len):
  ∃cs:Array Value,(Instr.buildSlice t len (parts.map fun(i,x)=>(i,a.eval x))).run E.P w= .ok (.slice (some ⟨w.heap.size,0,none⟩) len len) (w.alloc (.cells cs e))∧cs.size=len *te.size∧
   ∀S',eC S S' w (w.alloc (.cells cs e))→bZ S' (w.alloc (.cells cs e)) w.heap.size 0 te.size rows:=by
 obtain⟨h1,h2,h3⟩:=uY hst hf _ _ _ hr;obtain⟨z,hz,_⟩:=gJ hte w;have hu:=gQ ht
 -- the cells that are filled
 have key: ∀zero:Array Value, ∃cs:Array Value,Instr.fill (fun i=>some (i *te.size,te.size)) ((Array.range (len *te.size)).map (zero[· % zero.size]!)) (parts.map fun(i,x)=>(i,a.eval x)).toList=some cs∧
   cs.size=len *te.size∧cs.toList.take (len *te.size)=(parts.toList.map fun p=>(a.eval p.2).cells.toList).flatten:=fun zero=>by
  obtain⟨out,o1,o2,o3⟩:=xM te.size (parts.map fun(i,x)=>(i,a.eval x)).toList 0 ((Array.range (len *te.size)).map (zero[· % zero.size]!))
   (fun i q hq=>by
    simp only[Array.toList_map,cE,bH]at hq;obtain⟨p,hp,rfl⟩:=hq;obtain⟨e1,e2⟩:=h2 i p hp
    exact⟨e1,e2⟩) (by simp [←h1,hl])
  refine⟨out,o1,by rw[o2];simp, ?_⟩;have :0+(parts.map fun(i,x)=>(i,a.eval x)).toList.length=len:=by simp [←hl,h1]
  rw[this]at o3;rw[o3];simp [List.map_map,Function.comp_def]
 have rel: ∀cs:Array Value,cs.size=len *te.size→cs.toList.take (len *te.size)=(parts.toList.map fun p=>(a.eval p.2).cells.toList).flatten→
   ∀S',eC S S' w (w.alloc (.cells cs e))→bZ S' (w.alloc (.cells cs e)) w.heap.size 0 te.size rows:=fun cs c1 c2 S' Y=>by
  refine bZ.fresh Y (vs:=(parts.toList.map fun p=>(a.eval p.2).cells.toList).flatten) (by rw[hl];exact c2) fun i row hrow=>?_;obtain⟨e1,p,e2,e3⟩:=h3 i row hrow;refine⟨e1, ?_⟩;rw[Qo _ i (a.eval p.2).cells.toList (fun x hx=>?_) (by simp [e2])]
  ·exact e3
  simp only[List.mem_map]at hx;obtain⟨p',hp',rfl⟩:=hx;obtain⟨j,hj⟩:=List.getElem?_of_mem hp';simpa using(h2 j p' hj).2
 have hn: ¬(len *te.size>2^24):=by simp;omega
 by_cases h0:len *te.size=0
 ·obtain⟨cs,k1,k2,k3⟩:=key #[]
  refine⟨cs, ?_,k2,rel cs k2 k3⟩;simp only[Instr.buildSlice,Sem.run_bind,run_underlying hu,Result.andThen_ok,dV hte,if_neg hn];rw[if_pos h0];simp only[Sem.run_bind,Sem.run_pure,Result.andThen_ok,k1,newRow,run_newObj];rfl
 obtain⟨cs,k1,k2,k3⟩:=key z.cells;refine⟨cs, ?_,k2,rel cs k2 k3⟩;simp only[Instr.buildSlice,Sem.run_bind,run_underlying hu,Result.andThen_ok,dV hte,if_neg hn];rw[if_neg h0];simp only[Sem.run_bind,hz,Sem.run_pure,Result.andThen_ok,k1,newRow,run_newObj];rfl
end
end Go.Al
namespace Go.Al
theorem kN {α:Type} (A vs:List α) (p:Nat) (h:p+vs.length≤A.length) (q:Nat):
  (A.take p++vs++A.drop (p+vs.length))[q]?=if q<p then A[q]? else if q<p+vs.length then vs[q-p]? else A[q]?:=by
 have l1:(A.take p).length=p:=by simp;omega
 rw[List.append_assoc,List.getElem?_append,l1];split
 ·rename_i hq;rw[List.getElem?_take,if_pos hq]
 rename_i hq;rw[List.getElem?_append];split
 ·rename_i h2;rw[if_pos (by omega)]
 rename_i h2;rw[if_neg (by omega),List.getElem?_drop];congr 1;omega
section
variable {S : dL} {w : World}
theorem cL.cells {b off:Nat} {row:List AV} {cur:Array Value} {e:TypeId} {fz:Nat×Nat} (hb:w.heap[b]?=some (.cells cur e fz)) (h:cL S w b off row):
  bW S w row ((cur.toList.drop off).take row.length):=by
 obtain⟨vs,hl,hc⟩:=h.vals
 have :(cur.toList.drop off).take row.length=vs:=by
  apply List.ext_getElem?;intro j;rw[List.getElem?_take,←hl.length];split
  ·rename_i hj
   have hv:=hc j _ (aG hj);rw[cell_of_row w b (off+j) cur e fz hb]at hv;rw[List.getElem?_drop,aG hj];simpa using hv
  rename_i hj;rw[List.getElem?_eq_none (by omega)]
 rw[this];exact hl
theorem cL.of_cells {b off:Nat} {row:List AV} {cur:Array Value} {e:TypeId} {fz:Nat×Nat} (hb:w.heap[b]?=some (.cells cur e fz)) {n:Nat} (h:bW S w row ((cur.toList.drop off).take n)):
  cL S w b off row:=
 cL.of_vals h fun j v hj=>by
  rw[cell_of_row w b (off+j) cur e fz hb];rw[List.getElem?_take]at hj;split at hj
  ·rw[List.getElem?_drop]at hj;simpa using hj
  cases hj
theorem bZ.vals: ∀{l:List (List AV)} {b off sz:Nat},bZ S w b off sz l→ ∃vs,bW S w l.flatten vs∧vs.length=l.length *sz∧ ∀(j:Nat) v,vs[j]?=some v→w.cell? ⟨b,off+j,none⟩=some v
 |[],b,off,sz,_=>⟨[],by simp [bW],by simp,by simp⟩
 |r::rs,b,off,sz,h=>by
  simp only[bZ]at h;obtain⟨h1,h2,h3⟩:=h;obtain⟨v1,l1,c1⟩:=h2.vals;obtain⟨v2,l2,n2,c2⟩:=bZ.vals h3;have hn:=l1.length;refine⟨v1++v2,by rw[List.flatten_cons];exact l1.append l2,by rw[aI,n2,aQ,Nat.add_mul];omega,fun j v hj=>?_⟩;rw[List.getElem?_append]at hj;split at hj
  ·exact c1 j v hj
  rename_i hlt;have:=c2 _ _ hj;rwa [show off+sz+(j-v1.length)=off+j by omega]at this
end
def one:AV→Bool
 | .undef| .agg _| .tup _=>false
 |_=>true
theorem wR {S:dL} {w:World} {x:AV} {v:Value} (h:bO S w x v) (ho:one x=true):v.oneCell'=true:=by
 cases x<;>simp only[one]at ho<;>(try (cases ho;done))<;>simp only[bO]at h<;>first
  |(subst h;rfl)
  |(obtain⟨_,_,rfl,_⟩:=h;rfl)
  |(obtain⟨_,rfl,_⟩:=h;rfl)
theorem pT {S:dL} {w:World}: ∀{xs:List AV} {vs:List Value},bW S w xs vs→xs.all one=true→ ∀v∈vs,v.oneCell'=true
 |[],vs,h,_,v,hv=>by simp only[bW]at h;subst h;simp at hv
 |x::xs,vs,h,ho,v,hv=>by
  simp only[bW]at h;obtain⟨u,us,rfl,h1,h2⟩:=h;simp only[List.all_cons,bA]at ho;rcases List.mem_cons.1 hv with rfl|hv
  ·exact wR h1 ho.1
  exact pT h2 ho.2 v hv
theorem iY.setRow {M:Nat→Prop} {w:World} {b:Nat} {old cs:Array Value} {e:TypeId} {fz:Nat×Nat} (hb:w.heap[b]?=some (.cells old e fz)) (hs:cs.size=old.size) (hm:M b):iY M w (w.setRow b cs):=by
 refine⟨rfl,rfl,rfl,by simp,fun k _ hn=>setRow_other w b k cs (fun h=>hn (h▸hm)),fun k sh h=>?_⟩;by_cases hk:k=b
 ·subst hk
  simp only[World.shape?,hb]at h;simp only[World.shape?,setRow_heap w k old cs e fz hb,hs];exact h
 rw[mH (setRow_other w b k cs hk)];exact h
section
variable {E : fR} {γ : gD} {S : dL} {H : Hp} {w : World} {fr : Fr} {a : Act}
theorem St.setRow (hst:St E γ S H w) {b sz:Nat} {l l':List (List AV)} {cur cs:Array Value} {e:TypeId} (hH:H b=some (.rows sz l)) (hb:w.heap[b]?=some (.cells cur e (0,0))) (hs:cs.size=cur.size)
  (hl:l'.length *sz≤cs.size) (hr: ∀(i:Nat) row,l'[i]?=some row→row.length=sz∧bW S w row ((cs.toList.drop (i *sz)).take sz)):
  eC S S w (w.setRow b cs)∧St E γ S (upd H b (some (.rows sz l'))) (w.setRow b cs):=by
 have hx:iY (fun k=>k=b) w (w.setRow b cs):=iY.setRow hb hs rfl;have hnb: ¬S b:=(hst.obj b _ hH).2.1;have Y:eC S S w (w.setRow b cs):=hst.keeps hx (fun k hk _=>hk▸hnb) (fun _ h=>h);refine⟨Y,hst.step hx (fun k hk _=>by subst hk;simp [hH]) (fun _ h=>h) (fun k hk=>by simp;exact hst.lt k hk) (fun k hk=> .inl hk) fun b' o hb'=>?_⟩;by_cases h:b'=b
 ·subst h
  simp only[upd,if_true,Option.some.injEq]at hb';subst hb';refine⟨hnb, .inr ⟨?_, .inl (by simp [hH])⟩⟩;simp only[eR];have hb2:=setRow_heap w b' cur cs e (0,0) hb;refine⟨cs,e,hb2,hl,bZ.of_get fun i row hrow=>?_⟩;obtain⟨h1,h2⟩:=hr i row hrow;refine⟨h1, ?_⟩;rw[Nat.zero_add];exact cL.of_cells hb2 (bW.mono Y _ _ h2)
 simp only[upd,if_neg h]at hb';exact⟨(hst.obj b' o hb').2.1, .inl ⟨hb',h⟩⟩
theorem wK (hst:St E γ S H w) {t:TypeId} {ti:TI} (ht:bP E.P t=some ti) {sz b i j:Nat} {l:List (List AV)} {row:List AV} {x:AV} {x':Value} {cs:List AV} (hH:H b=some (.rows sz l)) (hrow:l[i]?=some row)
  (hx:bO S w x x') (hc:cellsOf x=some cs) (hn:cs.length=ti.size) (hj:j+cs.length≤row.length) (h1:cs.all one=true):
  ∃w',(storeVar t ⟨b,i *sz+j,none⟩ x').run E.P w= .ok () w'∧eC S S w w'∧St E γ S (upd H b (some (.rows sz (l.set i (row.take j++cs++row.drop (j+cs.length)))))) w':=by
 have ho:=(hst.obj b _ hH).1;simp only[eR]at ho;obtain⟨cur,e,hb,hsz,hr⟩:=ho;obtain⟨hrl,hri⟩:=bZ.get i hr hrow;rw[Nat.zero_add]at hri;have hv:=hO hx hc;have hvl:x'.cells.toList.length=cs.length:=hv.length;have hil:i<l.length:=(bV.1 hrow).1;have hfit:(i+1) *sz≤cur.size:=Nat.le_trans (Nat.mul_le_mul_right _ hil) hsz;rw[Nat.add_mul,Nat.one_mul]at hfit;have hst2:=run_storeCells_at E.P b (i *sz+j) e x'.cells.toList 0 cur w hb (by omega) (pT hv h1);simp only[Nat.add_zero]at hst2;refine⟨w.setRow b (cur.toList.take (i *sz+j)++x'.cells.toList++cur.toList.drop (i *sz+j+x'.cells.toList.length)).toArray, ?_, ?_⟩
 ·simp only[storeVar,Sem.run_bind,dV ht,Result.andThen_ok]
  rw[if_neg (by simp at hvl;simp;omega)];exact hst2
 refine hst.setRow hH hb (by simp at hvl⊢;omega) (by simp at hvl⊢;omega) fun k row' hk=>?_;have hget:=kN cur.toList x'.cells.toList (i *sz+j) (by simp at hvl⊢;omega);rw[List.getElem?_set]at hk;split at hk
 ·rename_i hki
  subst hki;cases hk;have hlen:(row.take j++cs++row.drop (j+cs.length)).length=sz:=by simp;omega
  refine⟨hlen, ?_⟩;have hold:=cL.cells hb hri;rw[hrl]at hold
  have e2:(List.drop (i *sz) (cur.toList.take (i *sz+j)++x'.cells.toList++cur.toList.drop (i *sz+j+x'.cells.toList.length))).take sz=
    ((cur.toList.drop (i *sz)).take sz).take j++x'.cells.toList++((cur.toList.drop (i *sz)).take sz).drop (j+x'.cells.toList.length):=by
   have hl0:((cur.toList.drop (i *sz)).take sz).length=sz:=by simp;omega
   apply List.ext_getElem?;intro q;rw[kN _ _ _ (by rw[hl0];omega),List.getElem?_take,List.getElem?_drop,hget]
   have hg2: ∀q,((cur.toList.drop (i *sz)).take sz)[q]?=if q<sz then cur.toList[i *sz+q]? else none:=fun q=>by
    rw[List.getElem?_take,List.getElem?_drop]
   rw[hg2];by_cases q1:q<sz
   ·rw[if_pos q1,if_pos q1]
    by_cases q2:q<j
    ·rw[if_pos (by omega),if_pos q2]
    rw[if_neg (by omega),if_neg q2];by_cases q3:q<j+x'.cells.toList.length
    ·rw[if_pos (by omega),if_pos q3];congr 1;omega
    rw[if_neg (by omega),if_neg q3]
   rw[if_neg q1,if_neg q1,if_neg (by omega),if_neg (by omega)]
  rw[e2];exact(bW.append (hold.take j) hv).append (by rw[hvl];exact hold.drop _)
 rename_i hki;obtain⟨g1,g2⟩:=bZ.get k hr hk;refine⟨g1, ?_⟩;have hold:=cL.cells hb g2;rw[g1,Nat.zero_add]at hold
 have e2:(List.drop (k *sz) (cur.toList.take (i *sz+j)++x'.cells.toList++cur.toList.drop (i *sz+j+x'.cells.toList.length))).take sz=(cur.toList.drop (k *sz)).take sz:=by
  apply List.ext_getElem?;intro q;rw[List.getElem?_take,List.getElem?_take,List.getElem?_drop,List.getElem?_drop,hget];split
  ·rename_i hq
   rcases Nat.lt_or_gt_of_ne hki with hlt|hgt
   ·have :(i+1) *sz≤k *sz:=Nat.mul_le_mul_right _ hlt
    rw[Nat.add_mul,Nat.one_mul]at this;rw[if_neg (by omega),if_neg (by omega)]
   have :(k+1) *sz≤i *sz:=Nat.mul_le_mul_right _ hgt;rw[Nat.add_mul,Nat.one_mul]at this;rw[if_pos (by omega)]
  rfl
 rw[e2];exact hold
end
end Go.Al
namespace Go.Al
def tU (H:Hp) (sz:Nat):AV→Option (List (List AV))
 | .nsl=>some []
 | .isl sz' l=>if sz'=sz then some l else none
 | .osl sz' b len=>match H b with
   |some (.rows sz'' l)=>if sz'=sz∧sz''=sz∧len≤l.length then some (l.take len)else none
   |_=>none
 |_=>none
section
variable {E : fR} {γ : gD} {S : dL} {H : Hp} {w : World} {fr : Fr} {a : Act}
theorem Uz (hst:St E γ S H w) {sz:Nat} {x:AV} {x':Value} {ys:List (List AV)} (hx:bO S w x x') (h:tU H sz x=some ys):
  ∃oa cap news,x'= .slice oa ys.length cap∧bW S w ys.flatten news∧news.length=ys.length *sz∧(∀r∈ys,r.length=sz)∧
   (ys=[]∨ ∃ad,oa=some ad∧ ∀(j:Nat) v,news[j]?=some v→w.cell? (ad.add j)=some v):=by
 have some_case: ∀(b off:Nat) (cap:Nat) (l:List (List AV)),bZ S w b off sz l→x'= .slice (some ⟨b,off,none⟩) l.length cap→
   ∃oa cap news,x'= .slice oa l.length cap∧bW S w l.flatten news∧news.length=l.length *sz∧(∀r∈l,r.length=sz)∧
   (l=[]∨ ∃ad,oa=some ad∧ ∀(j:Nat) v,news[j]?=some v→w.cell? (ad.add j)=some v):=by
  intro b off cap l hr e;obtain⟨vs,h1,h2,h3⟩:=hr.vals;refine⟨_,cap,vs,e,h1,h2,fun r hrm=>?_, .inr ⟨_,rfl,fun j v hj=>?_⟩⟩
  ·obtain⟨i,hi⟩:=List.getElem?_of_mem hrm
   exact(bZ.get i hr hi).1
  rw[Addr.add_lit];exact h3 j v hj
 cases x<;>simp only[tU]at h<;>try (cases h;done)
 case isl sz' l=>
  split at h<;>cases h;rename_i e;subst e;simp only[bO]at hx;obtain⟨oa,cap,e,_,_,hr⟩:=hx;rcases hr with rfl|⟨b,off,rfl,_,hr⟩
  ·exact⟨oa,cap,[],e,by simp [bW],by simp,by simp, .inl rfl⟩
  exact some_case b off cap _ hr e
 case nsl=>
  cases h;simp only[bO]at hx;exact⟨none,0,[],hx,by simp [bW],by simp,by simp, .inl rfl⟩
 case osl sz' b len=>
  split at h<;>try (cases h;done)
  rename_i sz'' l hb;split at h<;>cases h;rename_i hc;obtain⟨rfl,rfl,hlen⟩:=hc;have ho:=(hst.obj b _ hb).1;simp only[eR]at ho;obtain⟨cur,e,_,_,hr⟩:=ho;simp only[bO]at hx;obtain⟨cap,e2,hx,_⟩:=hx;have hl2:(l.take len).length=len:=by simp;omega
  exact some_case b 0 cap (l.take len) (hr.take len) (by rw[hl2];exact hx)
structure W8 (E:fR) (t e:TypeId) (te:TI):Prop where
 ht: ∃s1 b1 z1,bP E.P t=some ⟨.slice e,s1,b1,z1⟩
 he:bP E.P e=some te
 hz:(cellsOf te.zero).map List.length=some te.size
 hb:1≤te.bytes
theorem St.drew (hst:St E γ S H w):eC S S w w.drew∧St E γ S H w.drew:=by
 have hx:iY (fun _=>False) w w.drew:=iY.drew _ w;exact⟨hst.keeps hx (fun _ h=>h.elim) (fun _ h=>h),hst.step hx (fun _ h=>h.elim) (fun _ h=>h) (fun k hk=>hst.lt k hk) (fun k hk=> .inl hk) fun b o hb=>⟨(hst.obj b o hb).2.1, .inl ⟨hb,fun h=>h⟩⟩⟩
theorem Zj {S:dL} {w:World} {ys:List (List AV)} {news:List Value} (h:bW S w ys.flatten news) (h1:ys.all (fun r=>r.all one)=true): ∀v∈news,v.oneCell'=true:=
 pT h (by simpa [List.all_flatten]using h1)
theorem qL {S:dL} {w:World} {sz:Nat}: ∀{ys:List (List AV)} {news:List Value} (i:Nat) {row:List AV},bW S w ys.flatten news→(∀r∈ys,r.length=sz)→ys[i]?=some row→bW S w row ((news.drop (i *sz)).take sz):=by
 intro ys news i row h hl hr;have:=(h.drop (i *sz)).take sz;rwa [Qo ys i row hl hr]at this
theorem St.newRows (hst:St E γ S H w) {e:TypeId} {cs:Array Value} {sz:Nat} {rows:List (List AV)} {vs:List Value} (hl:bW S w rows.flatten vs) (hr: ∀r∈rows,r.length=sz) (hc:cs.toList.take (rows.length *sz)=vs) (hs:rows.length *sz≤cs.size):
  H w.heap.size=none∧eC S S w (w.alloc (.cells cs e))∧St E γ S (upd H w.heap.size (some (.rows sz rows))) (w.alloc (.cells cs e)):=by
 refine hst.alloc ?_;simp only[eR];refine⟨cs,e,heap_alloc_new w _,hs,bZ.fresh (hst.keeps (iY.alloc (fun _=>False) w (.cells cs e)) (fun _ h=>h.elim) (fun _ h=>h)) hc fun i row hi=>?_⟩;exact⟨hr row (fG hi),qL i hl hr hi⟩
theorem kB (P:Program) (t ty e:TypeId) (i:TypeInfo) (ht:P.underlying t=some (.slice e)) (hi:P.info? e=some i) (base:Option Addr) (n cap:Nat) (hc:n≤cap) (oa:Option Addr) (c:Nat) (w1:World):
  (Builtin.append_ #[t,t] ty #[.slice base n cap, .slice oa 0 c]).run P w1= .ok (.slice base n cap) w1:=by
 cases base<;>cases oa<;>simp [Builtin.append_,run_underlying ht,sizeOf,typeInfo,hi,Builtin.lenOf,hc,Builtin.firstCells,loadCells,loadCellsFrom,storeCells]
theorem qI (P:Program) (w1:World) (t ty e e':TypeId) (i:TypeInfo) (ht:P.underlying t=some (.slice e)) (hi:P.info? e=some i)
  (g sLen sCap:Nat) (cur:Array Value) (hg:w1.heap[g]?=some (.cells cur e' (0,0)))
  (a:Addr) (m c:Nat) (news:List Value) (hl:news.length=m *i.size) (hnews: ∀(j:Nat) u,news[j]?=some u→w1.cell? (a.add j)=some u) (h1: ∀u∈news,u.oneCell'=true)
  (hroom:sLen+m≤sCap) (hfit:sLen *i.size+news.length≤cur.size):
  (Builtin.append_ #[t,t] ty #[.slice (some ⟨g,0,none⟩) sLen sCap, .slice (some a) m c]).run P w1=
   .ok (.slice (some ⟨g,0,none⟩) (sLen+m) sCap) (w1.setRow g (cur.toList.take (sLen *i.size)++news++cur.toList.drop (sLen *i.size+news.length)).toArray):=by
 have hf:=run_firstCells_some (P:=P) w1 i.size m a m c news hl hnews;have hst:=run_storeCells_at P g (sLen *i.size) e' news 0 cur w1 hg (by simpa using hfit) h1;simp only[Nat.add_zero]at hst;simp [Builtin.append_,run_underlying ht,sizeOf,typeInfo,hi,Builtin.lenOf,hroom,hf,Addr.add_lit,hst]
theorem wN (hst:St E γ S H w) {t e ty:TypeId} {te:TI} (hok:W8 E t e te) {s x:AV} {s' x':Value} {ys:List (List AV)} (hs:bO S w s s') (hx:bO S w x x') (hsrc:tU H te.size x=some ys) (h1:ys.all (fun r=>r.all one)=true):
  (s= .nsl→ys.length *te.bytes≤140737488355328→ ∃v' w' H' v,(Builtin.append_ #[t,t] ty #[s',x']).run E.P w= .ok v' w'∧eC S S w w'∧St E γ S H' w'∧bO S w' v v'∧
   ((ys=[]∧v= .nsl∧H'=H)∨(ys≠[]∧ ∃b,H b=none∧v= .osl te.size b ys.length∧H'=upd H b (some (.rows te.size ys)))))∧
  (∀b l,s= .osl te.size b l.length→H b=some (.rows te.size l)→(l.length+ys.length) *te.bytes≤140737488355328→ ∃v' w' b',(Builtin.append_ #[t,t] ty #[s',x']).run E.P w= .ok v' w'∧eC S S w w'∧
   (b'=b∨H b'=none)∧St E γ S (upd (upd H b none) b' (some (.rows te.size (l++ys)))) w'∧bO S w' (.osl te.size b' (l.length+ys.length)) v'):=by
 obtain⟨⟨s1,b1,z1,ht⟩,he,hz,hb1⟩:=hok;obtain⟨oa,xcap,news,rfl,hn1,hn2,hn3,hfirst⟩:=Uz hst hx hsrc;have htu:=gQ ht;obtain⟨d,i,z,hd,hi,hzi,hte⟩:=eW he;have es:te.size=i.size:=by rw[hte]
 have eb:te.bytes=i.bytes:=by rw[hte]
 rw[es]at hn2 hn3 hz;rw[eb]at hb1;rw[es,eb]
 have hzs:z.cells.size=i.size:=by
  rw[bH]at hz;obtain⟨cs,hc,hcl⟩:=hz;rw[hte]at hc;have:=(hO (iD S w z) hc).length;simp at this;omega
 have hdw:=hst.drew
 -- the new block
 have grow: ∀(olds:List Value) (l:List (List AV)) (old:Nat),bW S w l.flatten olds→(∀r∈l,r.length=i.size)→l.length+ys.length≤maxLen→
   H w.heap.size=none∧eC S S w (w.drew.alloc (.cells (olds.toArray++news.toArray++Builtin.zeroCells z.cells (grownCap w (l.length+ys.length) old e-(l.length+ys.length))) e))∧
   (∀H',(∀b o,H' b=some o→H b=some o)→St E γ S (upd H' w.heap.size (some (.rows i.size (l++ys)))) (w.drew.alloc (.cells (olds.toArray++news.toArray++Builtin.zeroCells z.cells (grownCap w (l.length+ys.length) old e-(l.length+ys.length))) e)))∧
   bO S (w.drew.alloc (.cells (olds.toArray++news.toArray++Builtin.zeroCells z.cells (grownCap w (l.length+ys.length) old e-(l.length+ys.length))) e)) (.osl i.size w.heap.size (l.length+ys.length)) (.slice (some ⟨w.heap.size,0,none⟩) (l.length+ys.length) (grownCap w (l.length+ys.length) old e)):=by
  intro olds l old ho hol hmax;have hge:=grownCap_ge w (l.length+ys.length) old e;have hcm:=grownCap_le_maxLen w (l.length+ys.length) old e hmax
  have hall: ∀r∈l++ys,r.length=i.size:=fun r hr=>by
   rcases List.mem_append.1 hr with h|h
   ·exact hol r h
   exact hn3 r h
  have hlen:=uM (l++ys) hall
  have hrel:bW S w.drew (l++ys).flatten (olds++news):=by
   rw[List.flatten_append];exact(bW.mono hdw.1 _ _ ho).append (bW.mono hdw.1 _ _ hn1)
  have hvl:=hrel.length
  have hsize:(olds.toArray++news.toArray++Builtin.zeroCells z.cells (grownCap w (l.length+ys.length) old e-(l.length+ys.length))).size=grownCap w (l.length+ys.length) old e *i.size:=by
   have h5:(olds++news).length=(l.length+ys.length) *i.size:=by rw[hvl,hlen,aI]
   rw[aI]at h5;simp only[Array.size_append,List.size_toArray,size_zeroCells,hzs];rw[Nat.sub_mul,h5];have:=Nat.mul_le_mul_right i.size hge;omega
  have hfull:=fun H' (hH': ∀b o,H' b=some o→H b=some o)=>St.newRows (e:=e) (cs:=olds.toArray++news.toArray++Builtin.zeroCells z.cells (grownCap w (l.length+ys.length) old e-(l.length+ys.length))) (sz:=i.size) (rows:=l++ys) (vs:=olds++news)
   (hst:=hdw.2.step (iY.refl (fun _=>False) _) (fun _ h=>h.elim) (fun _ h=>h) (fun k hk=>hst.lt k hk) (fun k hk=> .inl hk) (H':=H') fun b o hb=>⟨(hst.obj b o (hH' b o hb)).2.1, .inl ⟨hH' b o hb,fun h=>h⟩⟩)
   hrel hall (by
    have hq:(l++ys).length *i.size=(olds++news).length:=by rw[hvl,hlen]
    rw[hq];simp only[Array.toList_append,List.append_assoc];rw[←List.append_assoc]
    exact List.take_left) (by rw[hsize,aI];exact Nat.mul_le_mul_right _ hge)
  obtain⟨f1,f2,f3⟩:=hfull H (fun _ _ h=>h);refine⟨f1,⟨fun k hk=>(f2.heap k hk),f2.shp,f2.sub⟩,fun H' hH'=>(hfull H' hH').2.2, ?_⟩;simp only[bO];refine⟨_,e,rfl, ?_,hge,hcm⟩;have:=heap_alloc_new w.drew (.cells (olds.toArray++news.toArray++Builtin.zeroCells z.cells (grownCap w (l.length+ys.length) old e-(l.length+ys.length))) e);simp only[World.size_drew]at this;simp only[World.shape?,this,hsize]
 constructor
 ·rintro rfl hbnd
  simp only[bO]at hs;subst hs;have hm:ys.length≤140737488355328:=Nat.le_trans (Nat.le_mul_of_pos_right _ hb1) hbnd;rcases hfirst with rfl|⟨ad,rfl,hcell⟩
  ·exact⟨.slice none 0 0,w,H, .nsl,kB E.P t ty e i htu hi none 0 0 (bF _) oa xcap w,hst.keeps (iY.refl (fun _=>False) w) (fun _ h=>h.elim) (fun _ h=>h),hst,by simp only[bO], .inl ⟨rfl,rfl,rfl⟩⟩
  by_cases hyn:ys=[]
  ·subst hyn
   exact⟨.slice none 0 0,w,H, .nsl,kB E.P t ty e i htu hi none 0 0 (bF _) _ xcap w,hst.keeps (iY.refl (fun _=>False) w) (fun _ h=>h.elim) (fun _ h=>h),hst,by simp only[bO], .inl ⟨rfl,rfl,rfl⟩⟩
  have hpos:0<ys.length:=List.length_pos_iff.2 hyn;obtain⟨g1,g2,g3,g4⟩:=grow [] [] 0 (by simp [bW]) (by simp) (by simp [maxLen];omega);simp only[List.length_nil,Nat.zero_add,List.nil_append]at g2 g3 g4;refine⟨_,_,_,_, ?_,g2,g3 H (fun _ _ h=>h),g4, .inr ⟨hyn,_,g1,rfl,rfl⟩⟩;have:=run_append_nil (P:=E.P) w t ty e i z htu hi hzi ad ys.length xcap news hn2 hcell hpos (by omega) (by omega);rw[this];congr 2;congr 2;simp
 rintro b l rfl hb hbnd;simp only[bO]at hs;obtain⟨cap,e3,rfl,hsh,hlc,hcm⟩:=hs;have hm:l.length+ys.length≤140737488355328:=Nat.le_trans (Nat.le_mul_of_pos_right _ hb1) hbnd;have ho:=(hst.obj b _ hb).1;simp only[eR]at ho;obtain⟨cur,e4,hcur,hsz,hr⟩:=ho
 have hcs:cur.size=cap *i.size:=by
  simp only[World.shape?,hcur,Option.some.injEq,Prod.mk.injEq]at hsh;exact hsh.2
 obtain⟨olds,o1,o2,o3⟩:=hr.vals
 have hol: ∀r∈l,r.length=i.size:=fun r hrm=>by
  obtain⟨k,hk⟩:=List.getElem?_of_mem hrm;exact(bZ.get k hr hk).1
 -- in place
 have inplace: ∀hroom:l.length+ys.length≤cap, ∃cs:Array Value,cs=(cur.toList.take (l.length *i.size)++news++cur.toList.drop (l.length *i.size+news.length)).toArray∧eC S S w (w.setRow b cs)∧
   St E γ S (upd (upd H b none) b (some (.rows i.size (l++ys)))) (w.setRow b cs)∧bO S (w.setRow b cs) (.osl i.size b (l.length+ys.length)) (.slice (some ⟨b,0,none⟩) (l.length+ys.length) cap):=by
  intro hroom;have hmul:=Nat.mul_le_mul_right i.size hroom;rw[Nat.add_mul]at hmul;have hfit:l.length *i.size+news.length≤cur.toList.length:=by rw[hn2];simp;omega
  have hget:=kN cur.toList news (l.length *i.size) hfit;refine⟨_,rfl, ?_⟩
  have hsize:(cur.toList.take (l.length *i.size)++news++cur.toList.drop (l.length *i.size+news.length)).toArray.size=cur.size:=by
   simp at hfit⊢;omega
  have hall: ∀r∈l++ys,r.length=i.size:=fun r hrm=>by
   rcases List.mem_append.1 hrm with h|h
   ·exact hol r h
   exact hn3 r h
  have hset:=hst.setRow (l':=l++ys) hb hcur hsize (by rw[hsize,hcs,aI];exact Nat.mul_le_mul_right _ hroom) fun k row hk=>by
   refine⟨hall row (fG hk), ?_⟩;rw[List.getElem?_append]at hk;split at hk
   ·rename_i hkl
    obtain⟨g1,g2⟩:=bZ.get k hr hk;have hold:=cL.cells hcur g2;rw[g1,Nat.zero_add]at hold;have hkm:=Nat.mul_le_mul_right i.size (show k+1≤l.length from hkl);rw[Nat.add_mul,Nat.one_mul]at hkm
    have e2:(List.drop (k *i.size) (cur.toList.take (l.length *i.size)++news++cur.toList.drop (l.length *i.size+news.length))).take i.size=(cur.toList.drop (k *i.size)).take i.size:=by
     apply List.ext_getElem?;intro q;rw[List.getElem?_take,List.getElem?_take,List.getElem?_drop,List.getElem?_drop,hget];split
     ·rw[if_pos (by omega)]
     rfl
    rw[e2];exact hold
   rename_i hkl;have hrel:=qL (k-l.length) hn1 hn3 hk
   have e2:(List.drop (k *i.size) (cur.toList.take (l.length *i.size)++news++cur.toList.drop (l.length *i.size+news.length))).take i.size=(news.drop ((k-l.length) *i.size)).take i.size:=by
    have hk2:k-l.length<ys.length:=(bV.1 hk).1;have hk3:=Nat.mul_le_mul_right i.size (show k-l.length+1≤ys.length from hk2);have hk4:k *i.size=l.length *i.size+(k-l.length) *i.size:=by rw[←Nat.add_mul];congr 1;omega
    rw[Nat.add_mul,Nat.one_mul]at hk3;apply List.ext_getElem?;intro q;rw[List.getElem?_take,List.getElem?_take,List.getElem?_drop,List.getElem?_drop,hget];split
    ·rw[if_neg (by omega),if_pos (by omega)];congr 1;omega
    rfl
   rw[e2];exact hrel
  refine⟨hset.1, ?_, ?_⟩
  ·have :upd (upd H b none) b (some (.rows i.size (l++ys)))=upd H b (some (.rows i.size (l++ys))):=by
    funext k;simp only[upd];split<;>rfl
   rw[this];exact hset.2
  simp only[bO];exact⟨cap,e3,rfl,hset.1.shp _ _ hsh,hroom,hcm⟩
 -- grown
 have grown:H w.heap.size=none∧_:=grow olds l cap o1 hol (by simp [maxLen];omega);obtain⟨g1,g2,g3,g4⟩:=grown
 have mQ: ∀b' o,upd H b none b'=some o→H b'=some o:=fun b' o h=>by
  simp only[upd]at h;split at h
  ·cases h
  exact h
 rcases hfirst with rfl|⟨ad,rfl,hcell⟩
 ·obtain⟨cs,hcs2,i1,i2,i3⟩:=inplace (by simpa using hlc)
  have hself:w.setRow b cs=w:=by
   subst hcs2;have hnn:news=[]:=List.eq_nil_of_length_eq_zero (by simpa using hn2);subst hnn;simp only[List.append_nil,List.length_nil,Nat.add_zero,List.take_append_drop,Array.toArray_toList];exact setRow_self w b cur e4 (0,0) hcur
  rw[hself]at i1 i2 i3;exact⟨_,w,b,kB E.P t ty e i htu hi _ _ _ hlc oa xcap w,i1, .inl rfl,i2,by simpa using i3⟩
 by_cases hroom:l.length+ys.length≤cap
 ·obtain⟨cs,hcs2,i1,i2,i3⟩:=inplace hroom
  refine⟨_,_,b, ?_,i1, .inl rfl,i2,i3⟩;have hmul:=Nat.mul_le_mul_right i.size hroom;rw[Nat.add_mul]at hmul;rw[hcs2];exact qI E.P w t ty e e4 i htu hi b l.length cap cur hcur ad ys.length xcap news hn2 hcell (Zj hn1 h1) hroom (by rw[hn2,hcs];omega)
 refine⟨_,_,w.heap.size, ?_,g2, .inr g1,g3 _ mQ,g4⟩;exact run_append_grow (P:=E.P) w t ty e i z htu hi hzi ⟨b,0,none⟩ l.length cap olds o2 (fun j v hj=>by rw[Addr.add_lit];exact o3 j v hj) ad ys.length xcap news hn2 hcell (by omega) (by omega) (growslice_fits (by omega) hbnd)
end
end Go.Al
namespace Go.Al
section
variable {E : fR} {γ : gD} {S : dL} {H : Hp} {w : World} {fr : Fr} {a : Act}
theorem Ry {α:Type} [Inhabited α] (z:Array α) (n:Nat) (hz:0<z.size):((Array.range (n *z.size)).map (fun k=>z[k % z.size]!)).toList=(List.replicate n z.toList).flatten:=by
 apply List.ext_getElem?;intro q;have hl:(List.replicate n z.toList).flatten.length=n *z.size:=by simp
 by_cases hq:q<n *z.size
 ·have e1:((Array.range (n *z.size)).map (fun k=>z[k % z.size]!)).toList[q]?=some z[q % z.size]! :=by
   simp [hq]
  rw[e1];have hm:=Nat.mod_lt q hz;have hdiv:q/z.size<n:=(Nat.div_lt_iff_lt_mul hz).2 hq;have hc:=Qo (sz:=z.size) (List.replicate n z.toList) (q/z.size) z.toList (fun x hx=>by rw[(List.mem_replicate.1 hx).2];simp) (by simp [hdiv]);have e2:((List.replicate n z.toList).flatten.drop (q/z.size *z.size)).take z.size=z.toList:=hc;have e3:=congrArg (fun l=>l[q % z.size]?) e2;simp only[List.getElem?_take,List.getElem?_drop,hm,if_true]at e3;rw[show q/z.size *z.size+q % z.size=q by rw[Nat.mul_comm];exact Nat.div_add_mod q z.size]at e3;rw[e3];simp [hm]
 rw[List.getElem?_eq_none (by simpa using Nat.le_of_not_lt hq),List.getElem?_eq_none (by omega)]
theorem Zi (hst:St E γ S H w) {t e:TypeId} {s1 b1:Nat} {z1:AV} {te:TI} {zc:List AV} {n:Int} (ht:bP E.P t=some ⟨.slice e,s1,b1,z1⟩) (hte:bP E.P e=some te) (hz:cellsOf te.zero=some zc) (hzl:zc.length=te.size) (hz0:0<te.size)
  (hb1:1≤te.bytes) (h0:0≤n) (hn:te.bytes *n≤281474976710656) {k k':IntKind}:
  ∃w',(Instr.makeSlice t (.int k n) (.int k' n)).run E.P w= .ok (.slice (some ⟨w.heap.size,0,none⟩) n.toNat n.toNat) w'∧H w.heap.size=none∧eC S S w w'∧
   St E γ S (upd H w.heap.size (some (.rows te.size (List.replicate n.toNat zc)))) w'∧bO S w' (.osl te.size w.heap.size n.toNat) (.slice (some ⟨w.heap.size,0,none⟩) n.toNat n.toNat):=by
 have hu:=gQ ht;obtain⟨d,i,z,hd,hi,hzi,hti⟩:=eW hte;have es:te.size=i.size:=by rw[hti]
 have eb:te.bytes=i.bytes:=by rw[hti]
 have hzc:bW S w zc z.cells.toList:=hO (iD S w z) (by rw[hti]at hz;exact hz);have hzs:z.cells.size=te.size:=by have:=hzc.length;simp at this;omega
 have hbn:(1:Int)≤(te.bytes:Int):=by omega
 have hnle:n≤281474976710656:=by
  have h5:1 *n≤(te.bytes:Int) *n:=Int.mul_le_mul_of_nonneg_right hbn h0;omega
 have hw:IntKind.i64.wrap n=n:=aV n ⟨by omega,by omega⟩;have hrows:(List.replicate n.toNat zc).length=n.toNat:=by simp
 have hrel:bW S w (List.replicate n.toNat zc).flatten (List.replicate n.toNat z.cells.toList).flatten:=by
  generalize n.toNat=m
  induction m with
  |zero=>simp [bW]
  |succ m ih=>simp only[List.replicate_succ,List.flatten_cons];exact hzc.append ih
 have hall: ∀r∈List.replicate n.toNat zc,r.length=te.size:=fun r hr=>by rw[(List.mem_replicate.1 hr).2,hzl]
 generalize hcs:(Array.range (n.toNat *te.size)).map (fun k=>z.cells[k % z.cells.size]!)=cs
 have hcl:cs.toList=(List.replicate n.toNat z.cells.toList).flatten:=by
  rw[←hcs,←hzs];exact Ry z.cells n.toNat (by omega)
 have hsize:cs.size=n.toNat *te.size:=by rw[←hcs];simp
 obtain⟨f1,f2,f3⟩:=hst.newRows (e:=e) (cs:=cs) hrel hall (by
  rw[hrows,hcl,←hsize];rw[←Array.length_toList,hcl]
  exact List.take_length) (by rw[hrows];exact Nat.le_of_eq hsize.symm)
 refine⟨_, ?_,f1,f2,f3, ?_⟩
 ·have h1: ¬n<0:=by omega
  have h2: ¬((i.bytes:Int) *n>2^48):=by rw[←eb];simp;omega
  have h3: ¬n>n:=by omega
  simp only[Instr.makeSlice,Sem.run_bind,run_underlying hu,Result.andThen_ok,asInt,asIntOf,Sem.run_pure,typeInfo,run_program,hi,hw];rw[if_neg (by simp only[Bool.or_eq_true,bC];simp [h1,h3];omega)];simp only[Sem.run_bind,run_askRoom,Result.andThen_ok,sizeOf,typeInfo,run_program,hi,Sem.run_pure];by_cases hn0:n.toNat *i.size=0
  ·rw[if_pos hn0]
   have hcs0:cs= #[]:=by
    apply Array.eq_empty_of_size_eq_zero;rw[hsize,es];exact hn0
   simp only[Sem.run_bind,Sem.run_pure,Result.andThen_ok,newRow,run_newObj,hn0,hcs0];rw[show(Array.map (fun x=>(#[]:Array Value)[x % (#[]:Array Value).size]!) (Array.range 0))= #[]from by simp];rfl
  rw[if_neg hn0];rw[es]at hcs;simp only[Sem.run_bind,zeroValue,typeInfo,run_program,hi,hzi,Sem.run_pure,Result.andThen_ok,newRow,run_newObj,hcs];rfl
 simp only[bO];have:=heap_alloc_new w (.cells cs e);exact⟨n.toNat,e,rfl,by simp only[World.shape?,this,hsize],bF _,by simp only[maxLen];omega⟩
def Ew (es:List (AV×AV)) (k v:AV):Option (List (AV×AV)):=
 match pM k es 0 with
 |some (some (i,_))=>some (es.set i (k,v))
 |some none=>some (es++[(k,v)])
 |none=>none
theorem dB.length {S:dL} {w:World}: ∀{es:List (AV×AV)} {ms:List MapEntry},dB S w es ms→ms.length=es.length
 |[],ms,h=>by simp only[dB]at h;subst h;rfl
 |(k,v)::es,ms,h=>by simp only[dB]at h;obtain⟨e,es',rfl,_,_,h⟩:=h;simp [dB.length h]
theorem dB.append {S:dL} {w:World} {k v:AV} {e:MapEntry} (hk:bO S w k e.key) (hv:bO S w v e.val): ∀{es:List (AV×AV)} {ms:List MapEntry},dB S w es ms→dB S w (es++[(k,v)]) (ms++[e])
 |[],ms,h=>by simp only[dB]at h;subst h;simp only[List.nil_append,dB];exact⟨e,[],rfl,hk,hv,rfl⟩
 |(k',v')::es,ms,h=>by
  simp only[dB]at h;obtain⟨e',es',rfl,h1,h2,h⟩:=h;simp only[List.cons_append,dB];exact⟨e',_,rfl,h1,h2,dB.append hk hv h⟩
theorem dB.set {S:dL} {w:World} {k v:AV} {f:MapEntry→MapEntry} (hk: ∀e,bO S w k (f e).key) (hv: ∀e,bO S w v (f e).val): ∀{es:List (AV×AV)} {ms:List MapEntry} (i:Nat),dB S w es ms→dB S w (es.set i (k,v)) (ms.modify i f)
 |[],ms,i,h=>by simp only[dB]at h;subst h;simp [dB]
 |(k',v')::es,ms,0,h=>by
  simp only[dB]at h;obtain⟨e',es',rfl,h1,h2,h⟩:=h;simp only[List.set_cons_zero,List.modify_cons,dB];exact⟨_,_,rfl,hk _,hv _,h⟩
 |(k',v')::es,ms,i+1,h=>by
  simp only[dB]at h;obtain⟨e',es',rfl,h1,h2,h⟩:=h;simp only[List.set_cons_succ,dB];exact⟨e',_,by simp [List.modify_succ_cons],h1,h2,dB.set hk hv i h⟩
theorem wL {P:Program} {w1:World} {b clock:Nat} {ms:Array MapEntry} (h:w1.heap[b]?=some (.map ms clock)) (o:Obj):(setObj b o).run P w1= .ok () {w1 with heap:=w1.heap.setIfInBounds b o}:=by
 simp only[setObj,Sem.run,h]
theorem uO {x:Value}: ∀(ms:List MapEntry) (i j:Nat) (v:Value),Instr.findNow .string x ms i=some (some (j,v))→i≤j∧ ∃e,ms[j-i]?=some e∧Instr.sameNow .string x e.key=some true
 |[],i,j,v,h=>by simp [Instr.findNow]at h
 |e::ms,i,j,v,h=>by
  simp only[Instr.findNow]at h;split at h
  ·rename_i hs
   cases h;exact⟨bF _,e,by simp,hs⟩
  ·obtain⟨h1,e',h2,h3⟩:=uO ms (i+1) j v h
   refine⟨by omega,e', ?_,h3⟩;rw[show j-i=(j-(i+1))+1 by omega];simpa using h2
  cases h
theorem qH (hst:St E γ S H w) {t tk te:TypeId} {s1 b1:Nat} {z1:AV} {s2 b2:Nat} {z2:AV} (ht:bP E.P t=some ⟨.map tk te,s1,b1,z1⟩) (htk:bP E.P tk=some ⟨.str,s2,b2,z2⟩) {b:Nat} {es es':List (AV×AV)} (hb:H b=some (.amap es))
  {s:List UInt8} {v:AV} {v':Value} (hv:bO S w v v') (hp:Ew es (.str s) v=some es'):
  ∃w',(Instr.mapUpdate t (.map (some b)) (.string ⟨s.toArray⟩) v').run E.P w= .ok () w'∧eC S S w w'∧St E γ S (upd H b (some (.amap es'))) w':=by
 have ho:=(hst.obj b _ hb).1;have hlt:=ho.lt;have hnS:=(hst.obj b _ hb).2.1;simp only[eR]at ho;obtain⟨ms,clock,h1,h2⟩:=ho;have hu:=Vm ht;have huk:=vV htk
 -- a map's block is written
 have key: ∀(ms':Array MapEntry) (clock':Nat),dB S w es' ms'.toList→eC S S w {w with heap:=w.heap.setIfInBounds b (.map ms' clock')}∧St E γ S (upd H b (some (.amap es'))) {w with heap:=w.heap.setIfInBounds b (.map ms' clock')}:=by
  intro ms' clock' hr
  have hx:iY (fun k=>k=b) w {w with heap:=w.heap.setIfInBounds b (.map ms' clock')}:=by
   refine⟨rfl,rfl,rfl,by simp,fun k _ hn=>?_,fun k sh hs=>?_⟩
   ·simp only[Array.getElem?_setIfInBounds];rw[if_neg (fun e=>hn e.symm)]
   by_cases e:k=b
   ·subst e;simp only[World.shape?,h1]at hs;cases hs
   rw[mH (by simp only[Array.getElem?_setIfInBounds];rw[if_neg (fun e'=>e e'.symm)])];exact hs
  have Y:eC S S w {w with heap:=w.heap.setIfInBounds b (.map ms' clock')}:=hst.keeps hx (fun k hk _=>hk▸hnS) (fun _ h=>h);refine⟨Y,hst.step hx (fun k hk _=>by subst hk;simp [hb]) (fun _ h=>h) (fun k hk=>by simp;exact hst.lt k hk) (fun k hk=> .inl hk) fun b' o hb'=>?_⟩;by_cases e:b'=b
  ·subst e
   simp only[upd,if_true,Option.some.injEq]at hb';subst hb';refine⟨hnS, .inr ⟨?_, .inl (by simp [hb])⟩⟩;simp only[eR];exact⟨ms',clock',by simp [hlt],dB.mono Y _ _ hr⟩
  simp only[upd,if_neg e]at hb';exact⟨(hst.obj b' o hb').2.1, .inl ⟨hb',e⟩⟩
 have hks:bO S w (.str s) (.string ⟨s.toArray⟩):=by simp only[bO]
 unfold Ew at hp;split at hp<;>first|(cases hp;done)|skip
 ·rename_i i u hf
  cases hp;obtain⟨r',hr1,hr2⟩:=pZ hks es ms.toList 0 _ h2 hf
  cases r' with
  |none=>simp only at hr2
  |some p=>
   obtain⟨pi,pv⟩:=p;obtain⟨e1,_,_,_⟩:=hr2;subst e1;obtain⟨_,e,he,hsame⟩:=uO _ _ _ _ hr1;simp only[Nat.sub_zero]at he
   have hkey:Instr.sameBits 10000 e.key (.string ⟨s.toArray⟩)=true:=by
    cases hk:e.key<;>rw[hk]at hsame<;>simp only[Instr.sameNow]at hsame<;>try (cases hsame;done)
    simp only[Option.some.injEq]at hsame
    have hcomm: ∀x y:ByteArray,(x==y)=true→(y==x)=true:=fun x y h=>by
     rw[beq_toListBytes]at h⊢;rw[pX]at h⊢;simp at h⊢;exact h.symm
    exact hcomm _ _ hsame
   refine⟨_, ?_,key (ms.modify i fun e=>{e with key:= .string ⟨s.toArray⟩,val:=v'}) clock ?_⟩
   ·simp only[Instr.mapUpdate,Sem.run_bind,run_underlying hu,Result.andThen_ok,qX h1,hJ huk,iJ huk hr1]
    have :((ms[i]?).map (·.key)).getD (.string ⟨s.toArray⟩)=e.key:=by
     rw[←Array.getElem?_toList,he];rfl
    simp only[Instr.keyThatStays,this,hkey,if_true,Sem.run_pure,Result.andThen_ok,wL h1]
   rw[Array.toList_modify];exact dB.set (f:=fun e=>{e with key:= .string ⟨s.toArray⟩,val:=v'}) (fun _=>hks) (fun _=>hv) i h2
 rename_i hf;cases hp;obtain⟨r',hr1,hr2⟩:=pZ hks es ms.toList 0 _ h2 hf
 cases r' with
 |some p=>simp only at hr2
 |none=>
  refine⟨_, ?_,key (ms.push {key:= .string ⟨s.toArray⟩,val:=v',born:=clock}) (clock+1) ?_⟩
  ·simp only[Instr.mapUpdate,Sem.run_bind,run_underlying hu,Result.andThen_ok,qX h1,hJ huk,iJ huk hr1,wL h1]
  rw[Array.toList_push];exact dB.append hks hv h2
end
end Go.Al
namespace Go.Al
section
variable {E : fR} {γ : gD} {S : dL} {H : Hp} {w : World} {fr : Fr} {a : Act}
theorem Up {v:Value} (h:v.oneCell'=true):v.cells= #[v]:=by
 cases v<;>first|rfl|(simp [Value.oneCell']at h;done)
theorem Ft {α:Type} (f:Nat→α) (i:Nat):upd f i (f i)=f:=by
 funext j;unfold upd;split
 ·rename_i h;rw[h]
 rfl
theorem Qb (hst:St E γ S H w) {b:Nat} {l:List (List AV)} (hb:H b=some (.rows 1 l)) {off:Nat} {news:List (List AV)} {vs:List Value} (hl:bW S w news.flatten vs) (h1: ∀r∈news,r.length=1) (hoff:off+news.length≤l.length):
  ∃cur e,w.heap[b]?=some (.cells cur e (0,0))∧off+vs.length≤cur.size∧eC S S w (w.setRow b (cur.toList.take off++vs++cur.toList.drop (off+vs.length)).toArray)∧
   St E γ S (upd H b (some (.rows 1 (l.take off++news++l.drop (off+news.length))))) (w.setRow b (cur.toList.take off++vs++cur.toList.drop (off+vs.length)).toArray):=by
 have ho:=(hst.obj b _ hb).1;simp only[eR]at ho;obtain⟨cur,e,hc,hsz,hr⟩:=ho
 have hvl:vs.length=news.length:=by
  have e1:=hl.length
  have : ∀l:List (List AV),(∀r∈l,r.length=1)→l.flatten.length=l.length:=by
   intro l
   induction l with
   |nil=>intro _;rfl
   |cons r l ih=>intro h;rw[List.flatten_cons,aI,h r (List.mem_cons_self),ih fun x hx=>h x (List.mem_cons_of_mem _ hx),aQ];omega
  rw[this news h1]at e1;omega
 rw[Nat.mul_one]at hsz
 have hcs:(cur.toList.take off++vs++cur.toList.drop (off+vs.length)).toArray.size=cur.size:=by
  simp only[List.size_toArray,aI,dR,List.length_drop,Array.length_toList];omega
 refine⟨cur,e,hc,by omega, ?_⟩;refine St.setRow hst hb hc hcs ?_ fun i row hi=>?_
 ·rw[hcs]
  simp only[aI,dR,List.length_drop,Nat.mul_one];omega
 have hsp:(l.take off++news++l.drop (off+news.length))[i]?=if i<off then l[i]? else if i<off+news.length then news[i-off]? else l[i]?:=kN l news off hoff i
 rw[hsp]at hi
 have old: ∀{row:List AV},l[i]?=some row→row.length=1∧ ∃v,cur.toList[i]?=some v∧bW S w row [v]:=fun {row} h=>by
  obtain⟨q1,q2⟩:=bZ.get i hr h;refine⟨q1, ?_⟩;rw[Nat.zero_add,Nat.mul_one]at q2
  match row,q1,q2 with
  |[x],_,q2=>
   simp only[cL]at q2;obtain⟨⟨v,q3,q4⟩,_⟩:=q2;rw[cell_of_row w b i cur e (0,0) hc]at q3;exact⟨v,by rw[←q3];simp,by simp only[bW];exact⟨v,[],rfl,q4,rfl⟩⟩
 have cell: ∀v,(cur.toList.take off++vs++cur.toList.drop (off+vs.length))[i]?=some v→(((cur.toList.take off++vs++cur.toList.drop (off+vs.length)).toArray.toList.drop (i *1)).take 1)=[v]:=fun v hv=>by
  rw[Nat.mul_one];have hlt:=(bV.1 hv).1;rw[bD (by simpa using hlt)];simp only[List.take_succ_cons,List.take_zero];congr 1;have:=(bV.1 hv).2;simpa using this
 have hoc:off+vs.length≤cur.toList.length:=by
  have hcl:cur.toList.length=cur.size:=by simp
  omega
 have hsv:=kN cur.toList vs off hoc i;rw[hvl]at hsv;rw[hvl]at cell;rw[hvl];split at hi
 ·rename_i h
  obtain⟨q1,v,q2,q3⟩:=old hi;rw[if_pos h]at hsv;exact⟨q1,by rw[cell v (by rw[hsv];exact q2)];exact q3⟩
 rename_i h;rw[if_neg h]at hsv;split at hi
 ·rename_i h2
  rw[if_pos h2]at hsv;have q1:=h1 row (fG hi)
  have key: ∀(l:List (List AV)) (vs:List Value),(∀r∈l,r.length=1)→bW S w l.flatten vs→ ∀(j:Nat) row,l[j]?=some row→ ∃v,vs[j]?=some v∧bW S w row [v]:=by
   intro l
   induction l with
   |nil=>intro vs _ _ j row h;simp at h
   |cons r l ih=>
    intro vs hr hl j row hj;have hr1:=hr r (List.mem_cons_self)
    match r,hr1 with
    |[x],_=>
     rw[List.flatten_cons,List.cons_append,List.nil_append,bW]at hl;obtain⟨u,us,rfl,g1,g2⟩:=hl
     cases j with
     |zero=>simp at hj;subst hj;exact⟨u,rfl,by simp only[bW];exact⟨u,[],rfl,g1,rfl⟩⟩
     |succ j=>
      obtain⟨v,e1,e2⟩:=ih us (fun x hx=>hr x (List.mem_cons_of_mem _ hx)) g2 j row (by simpa using hj);exact⟨v,by simpa using e1,e2⟩
  obtain⟨v,e1,e2⟩:=key news vs h1 hl _ row hi;exact⟨q1,by rw[cell v (by rw[hsv];exact e1)];exact e2⟩
 rename_i h2;obtain⟨q1,v,q2,q3⟩:=old hi;rw[if_neg h2]at hsv;exact⟨q1,by rw[cell v (by rw[hsv];exact q2)];exact q3⟩
theorem zL (hst:St E γ S H w) {t e ty:TypeId} {s1 b1:Nat} {z1:AV} {te:TI} (ht:bP E.P t=some ⟨.slice e,s1,b1,z1⟩) (hte:bP E.P e=some te) (c1:te.size=1) (c3:one te.zero=true)
  {b off len:Nat} {l:List (List AV)} (hb:H b=some (.rows 1 l)) (c4:off+len≤l.length) {v:Value} (hv:bO S w (.sub 1 b off len) v):
  ∃w',(Builtin.clear_ #[t] ty #[v]).run E.P w= .ok (.tuple #[]) w'∧eC S S w w'∧St E γ S (upd H b (some (.rows 1 (l.take off++List.replicate len [te.zero]++l.drop (off+len))))) w':=by
 simp only[bO]at hv;obtain⟨cap,ad,rfl,ha,_,_⟩:=hv;by_cases h0:len=0
 ·subst h0
  refine⟨w, ?_,hst.keeps (iY.refl (fun _=>False) w) (fun _ h=>h.elim) (fun _ h=>h), ?_⟩
  ·cases ad<;>simp [Builtin.clear_,run_underlying (gQ ht)]
  simp only[List.replicate_zero,List.append_nil,Nat.add_zero,List.take_append_drop];rw[←hb,Ft];exact hst
 obtain rfl:ad=some ⟨b,off *1,none⟩:=by rcases ha with h|h;exact absurd h h0;exact h
 rw[Nat.mul_one];obtain⟨z,hz,ez⟩:=gJ hte w;have hzr:=iD S w z;rw[←ez]at hzr
 have hzc:z.cells= #[z]:=by
  have h2:=wR hzr c3;exact Up h2
 have h1:=wR hzr c3
 have hrep: ∀n,bW S w (List.replicate n [te.zero]).flatten (List.replicate n z):=by
  intro n
  induction n with
  |zero=>simp [bW]
  |succ n ih=>simp only[List.replicate_succ,List.flatten_cons,List.cons_append,List.nil_append,bW];exact⟨z,_,rfl,hzr,ih⟩
 obtain⟨cur,et,hc,hfit,hk,hs⟩:=Qb hst hb (off:=off) (hrep len) (fun r hr=>by rw[List.eq_of_mem_replicate hr];rfl) (by rw[CN];exact c4);rw[CN]at hfit hk hs;rw[CN]at hs;refine⟨_, ?_,hk,hs⟩
 have hzl:(Builtin.zeroCells z.cells len).toList=List.replicate len z:=by
  rw[hzc];simp [Builtin.zeroCells];apply List.ext_getElem
  ·simp
  intro i h1 h2;simp [Nat.mod_one]
 have hst2:=run_storeCells_at E.P b off et (List.replicate len z) 0 cur w hc (by simpa using hfit) (by intro v hv';rw[List.eq_of_mem_replicate hv'];exact h1);simp only[Nat.add_zero,CN]at hst2;obtain⟨m,rfl⟩: ∃m,len=m+1:=⟨len- 1,by omega⟩;simp [Builtin.clear_,run_underlying (gQ ht),hz,hzl,hst2]
theorem Dt (hst:St E γ S H w) {t u e ty:TypeId} {s1 b1:Nat} {z1:AV} {te:TI} (ht:bP E.P t=some ⟨.slice e,s1,b1,z1⟩) (hte:bP E.P e=some te) (c1:te.size=1)
  {b off len:Nat} {l:List (List AV)} (hb:H b=some (.rows 1 l)) {b2 off2 len2:Nat} {row:List AV} (hb2:H b2=some (.rows row.length [row])) (c2:row.all one=true) (c3:off+len≤l.length) (c4:off2+len2≤row.length)
  {v v2:Value} (hv:bO S w (.sub 1 b off len) v) (hv2:bO S w (.sub 1 b2 off2 len2) v2):
  ∃w',(Builtin.copy_ #[t,u] ty #[v,v2]).run E.P w= .ok (goInt (min len2 len:Nat)) w'∧eC S S w w'∧St E γ S (upd H b (some (.rows 1 (l.take off++(((row.drop off2).take (min len2 len)).map fun x=>[x])++l.drop (off+min len2 len))))) w':=by
 simp only[bO]at hv hv2;obtain⟨cap,ad,rfl,ha,_,_⟩:=hv;obtain⟨cap2,ad2,rfl,ha2,_,_⟩:=hv2
 have hinfo:(E.P.info? e).map (·.size)=some 1:=by
  obtain⟨d,i,z,_,hi,_,e1⟩:=eW hte;rw[hi];have :i.size=1:=by rw[←c1,e1]
  rw[←this];rfl
 by_cases h0:min len2 len=0
 ·rw[h0]
  refine⟨w, ?_,hst.keeps (iY.refl (fun _=>False) w) (fun _ h=>h.elim) (fun _ h=>h), ?_⟩
  ·exact run_copy_none w t u ty e ad ad2 len cap len2 cap2 (gQ ht) hinfo h0
  simp only[List.take_zero,List.map_nil,List.append_nil,Nat.add_zero,List.take_append_drop];rw[←hb,Ft];exact hst
 obtain rfl:ad=some ⟨b,off *1,none⟩:=by rcases ha with h|h;omega;exact h
 obtain rfl:ad2=some ⟨b2,off2 *1,none⟩:=by rcases ha2 with h|h;omega;exact h
 rw[Nat.mul_one,Nat.mul_one];have ho:=(hst.obj b2 _ hb2).1;simp only[eR]at ho;obtain⟨cur2,e2,hc2,hsz2,hr2⟩:=ho;simp only[bZ]at hr2;obtain⟨vs,hl,hcell⟩:=hr2.2.1.vals;have hlen:=hl.length
 have hln:bW S w ((((row.drop off2).take (min len2 len)).map fun x=>[x]).flatten) ((vs.drop off2).take (min len2 len)):=by
  have : ∀l:List AV,(l.map fun x=>[x]).flatten=l:=by
   intro l
   induction l with
   |nil=>rfl
   |cons x l ih=>rw[List.map_cons,List.flatten_cons,ih];rfl
  rw[this];exact(hl.drop off2).take _
 have hnl:(((row.drop off2).take (min len2 len)).map fun x=>[x]).length=min len2 len:=by
  rw[aC,dR,List.length_drop];omega
 have hvn:((vs.drop off2).take (min len2 len)).length=min len2 len:=by
  rw[dR,List.length_drop];omega
 obtain⟨cur,et,hc,hfit,hk,hs⟩:=Qb hst hb (off:=off) hln (fun r hr=>by
  obtain⟨x,_,rfl⟩:=List.mem_map.1 hr
  rfl) (by rw[hnl];omega)
 rw[hvn]at hfit hk hs;rw[hnl]at hs;refine⟨_, ?_,hk,hs⟩;have:=run_copy_row (P:=E.P) w t u ty e b off len cap ⟨b2,off2,none⟩ len2 cap2 cur et ((vs.drop off2).take (min len2 len)) (gQ ht) hinfo hc (by rw[hvn]) (fun j v hj=>?_) (by rw[hvn];exact hfit) fun v hv=>?_
 ·rw[hvn]at this
  exact this
 ·rw[List.getElem?_take]at hj
  split at hj
  ·rw[List.getElem?_drop]at hj
   rw[Addr.add_lit];have:=hcell _ _ hj;rwa [Nat.zero_add]at this
  cases hj
 exact pT hl c2 v (List.mem_of_mem_drop (List.mem_of_mem_take hv))
end
end Go.Al
namespace Go.Al
def fF (E:fR) (fr:Fr):Op→Option ((Nat→AV)×iG)
 | .alloc t=>(bP E.P t).bind fun ti=>(cellsOf ti.zero).map fun cs=>(fun b=> .ptr cs.length b 0 0, .rows cs.length [cs])
 | .box _ x=>(cellsOf (ev E.G fr x)).map fun cs=>(fun b=> .ptr cs.length b 0 0, .rows cs.length [cs])
 | .makeMap t r=>match bP E.P t,r.map (ev E.G fr)with
   |some ⟨.map _ _,_,_,_⟩,none=>some (fun b=> .mp b, .amap [])
   |some ⟨.map _ _,_,_,_⟩,some (.int _ _)=>some (fun b=> .mp b, .amap [])
   |_,_=>none
 | .makeSlice t l c=>match bP E.P t,ev E.G fr l,ev E.G fr c with
   |some ⟨.slice e,_,_,_⟩, .int _ n, .int _ n'=>(bP E.P e).bind fun te=>(cellsOf te.zero).bind fun zc=>
    if n=n'∧zc.length=te.size∧0<te.size∧1≤te.bytes∧0≤n∧te.bytes *n≤281474976710656 then some (fun b=> .osl te.size b n.toNat, .rows te.size (List.replicate n.toNat zc))else none
   |_,_,_=>none
 |_=>none
def zT (E:fR) (fr:Fr) (t:TypeId) (len:Nat) (parts:Array (Nat×Operand)):Option (Nat×List (List AV)):=
 match bP E.P t with
 |some ⟨.slice e,_,_,_⟩=>(bP E.P e).bind fun te=>(iQ E fr te.size 0 parts.toList).bind fun rows=>if rows.length=len∧len *te.size≤16777216∧len≤16777216 then some (te.size,rows)else none
 |_=>none
def pK (E:fR) (H:Hp) (fr:Fr) (t:TypeId) (p x:Operand):Option (Nat×Hp):=
 match ev E.G fr p with
 | .ptr sz b i j=>match H b with
   |some (.rows sz' l)=>(l[i]?).bind fun row=>(bP E.P t).bind fun ti=>(cellsOf (ev E.G fr x)).bind fun cs=>
    if sz=sz'∧cs.length=ti.size∧j+cs.length≤row.length∧cs.all one=true then some (b,upd H b (some (.rows sz (l.set i (row.take j++cs++row.drop (j+cs.length))))))else none
   |_=>none
 |_=>none
def jW (E:fR) (H:Hp) (fr:Fr) (t:TypeId) (m k x:Operand):Option (Nat×Hp):=
 match bP E.P t,ev E.G fr m,ev E.G fr k with
 |some ⟨.map tk _,_,_,_⟩, .mp b, .str s=>match bP E.P tk,H b with
  |some ⟨.str,_,_,_⟩,some (.amap es)=>(Ew es (.str s) (ev E.G fr x)).map fun es'=>(b,upd H b (some (.amap es')))
  |_,_=>none
 |_,_,_=>none
def Fb (E:fR) (H:Hp) (fr:Fr) (args:Array Operand) (ts:Array TypeId):Option (Nat×Nat×AV×List (List AV)):=
 match args.toList,ts.toList with
 |[s,x],[t,u]=>match bP E.P t with
  |some ⟨.slice e,_,_,_⟩=>(bP E.P e).bind fun te=>(tU H te.size (ev E.G fr x)).bind fun ys=>
   if t=u∧(cellsOf te.zero).map List.length=some te.size∧1≤te.bytes∧ys.all (fun r=>r.all one)=true then some (te.size,te.bytes,ev E.G fr s,ys)else none
  |_=>none
 |_,_=>none
def lU (E:fR) (H:Hp) (fr:Fr) (args:Array Operand) (ts:Array TypeId):Option (Nat×Hp):=
 match args.toList,ts.toList with
 |[s],[t]=>match bP E.P t,ev E.G fr s with
  |some ⟨.slice e,_,_,_⟩, .sub sz b off len=>(bP E.P e).bind fun te=>match H b with
   |some (.rows sz' l)=>if sz=1∧sz'=1∧te.size=1∧one te.zero=true∧off+len≤l.length then some (b,upd H b (some (.rows 1 (l.take off++List.replicate len [te.zero]++l.drop (off+len)))))else none
   |_=>none
  |_,_=>none
 |_,_=>none
def qR (E:fR) (H:Hp) (fr:Fr) (args:Array Operand) (ts:Array TypeId):Option (Nat×Hp×Nat):=
 match args.toList,ts.toList with
 |[d,s],[t,_]=>match bP E.P t,ev E.G fr d,ev E.G fr s with
  |some ⟨.slice e,_,_,_⟩, .sub sz b off len, .sub sz2 b2 off2 len2=>(bP E.P e).bind fun te=>match H b,H b2 with
   |some (.rows sz' l),some (.rows sz3 [row])=>if sz=1∧sz'=1∧sz2=1∧te.size=1∧sz3=row.length∧row.all one=true∧off+len≤l.length∧off2+len2≤row.length then
    some (b,upd H b (some (.rows 1 (l.take off++(((row.drop off2).take (min len2 len)).map fun x=>[x])++l.drop (off+min len2 len)))),min len2 len)else none
   |_,_=>none
  |_,_,_=>none
 |_,_=>none
def gC (E:fR) (okf:Nat→Prop) (o:Op) (fr:Fr) (H:Hp) (K Kp:AV→Hp→Prop):Prop:=
 match o with
 | .alloc _| .box _ _| .makeMap _ _| .makeSlice _ _ _=>match fF E fr o with
   |some p=> ∀b,H b=none→K (p.1 b) (upd H b (some p.2))
   |none=>False
 | .buildSlice t len parts=>match zT E fr t len parts with
   |some p=>K (.isl p.1 p.2) H∨ ∀b,H b=none→K (.osl p.1 b len) (upd H b (some (.rows p.1 p.2)))
   |none=>False
 | .store t p x=>match pK E H fr t p x with
   |some q=>okf q.1∧K (.tup []) q.2
   |none=>False
 | .mapUpdate t m k x| .insert t m k x=>match jW E H fr t m k x with
   |some q=>okf q.1∧K (.tup []) q.2
   |none=>False
 | .panic x=>match ev E.G fr x with
   | .ifc t v=>Kp (.ifc t v) H
   |_=>False
 | .call ⟨.builtin .append,args,ts⟩=>match Fb E H fr args ts with
   |some (sz,by', .nsl,ys)=>ys.length *by'≤140737488355328∧(ys=[]→K .nsl H)∧(ys≠[]→ ∀b,H b=none→K (.osl sz b ys.length) (upd H b (some (.rows sz ys))))
   |some (sz,by', .osl sz' b len,ys)=>match H b with
    |some (.rows sz'' l)=>sz'=sz∧sz''=sz∧len=l.length∧(l.length+ys.length) *by'≤140737488355328∧okf b∧
     ∀b',(b'=b∨H b'=none)→K (.osl sz b' (l.length+ys.length)) (upd (upd H b none) b' (some (.rows sz (l++ys))))
    |_=>False
   |_=>False
 | .call ⟨.builtin .clear,args,ts⟩=>match lU E H fr args ts with
   |some q=>okf q.1∧K (.tup []) q.2
   |none=>False
 | .call ⟨.builtin .copy,args,ts⟩=>match qR E H fr args ts with
   |some q=>okf q.1∧K (.int .i64 q.2.2) q.2.1
   |none=>False
 | .call ⟨.value f,args,_⟩=>match ev E.G fr f with
   | .fn (.func g) first cap=> ∃args' H0 R,cY (first++args.toList.map (ev E.G fr)++cap) args'∧rK E g args' H0 R∧mQ H0 H∧(∀b,H0 b≠none→okf b)∧
     ∀ae H',R ae H'→(∀b,H' b≠none→H0 b≠none∨H b=none)→(match ae with | .ret v=>K v (gA H' H0 H)| .pan v=>Kp v (gA H' H0 H))
   |_=>False
 |o=>match aq E H fr o with
  |some v=>K v H
  |none=>False
section
variable {E : fR} {γ : gD} {S : dL} {H : Hp} {w : World} {fr : Fr} {a : Act}
theorem Of (hst:St E γ S H w) {g:FuncId} {args':List AV} {H0:Hp} {R:vK→Hp→Prop} {vs:List Value} (hc:rK E g args' H0 R) (hsb:mQ H0 H) (hargs:bW S w args' vs):
  Calls E.P g vs.toArray w fun e w'=> ∃ae H' S',eC S S' w w'∧St E γ S' (gA H' H0 H) w'∧nW S' w' ae e∧R ae H'∧ ∀b,H' b≠none→H0 b≠none∨H b=none:=by
 have hst0:St E ⟨w,G5 H0,S,[],fun _=>Go.undef⟩ S H0 w:=by
  refine⟨hst.lt,fun _ h=>h,fun _ h=> .inl h,fun b o hb=>?_,iY.refl _ _,hst.glb⟩;obtain⟨h1,h2,_⟩:=hst.obj b o (hsb b o hb);exact⟨h1,h2, .inl (by simp [G5,hb])⟩
 refine(hc.2 w S vs hst0 hargs).mono fun e w' ⟨ae,H',S',h1,h2,h3⟩=>?_
 have hown: ∀k,G5 H0 k→H k≠none:=fun k hk=>by
  cases ho:H0 k with
  |none=>exact absurd ho hk
  |some o=>simp [hsb k o ho]
 have hnew: ∀b,H' b≠none→H0 b≠none∨w.heap.size≤b:=fun b hb=>by
  cases ho:H' b with
  |none=>exact absurd ho hb
  |some o=>exact(h1.obj b o ho).2.2
 have hnone: ∀b,w.heap.size≤b→H b=none:=fun b hb=>by
  cases ho:H b with
  |none=>rfl
  |some o=>have:=(hst.obj b o ho).1.lt;omega
 have hk:eC S S' w w':=hst.keeps h1.ext (fun k hk _=>by
  cases ho:H k with
  |none=>exact absurd ho (hown k hk)
  |some o=>exact(hst.obj k o ho).2.1) h1.base
 refine⟨ae,H',S',hk, ?_,h2,h3,fun b hb=>?_⟩
 ·refine hst.step h1.ext (fun k hk _=>hown k hk) h1.base h1.lt (fun k hk=>?_) fun b o hb=>?_
  ·rcases h1.src k hk with h|h|h
   ·exact .inl h
   ·exact .inr (.inl (hown k h))
   exact .inr (.inr h)
  unfold gA at hb;split at hb
  ·rename_i o' ho
   cases hb;obtain⟨g1,g2,g3⟩:=h1.obj b o ho;refine⟨g2, .inr ⟨g1, ?_⟩⟩;rcases g3 with g3|g3
   ·exact .inl (hown b g3)
   exact .inr g3
  split at hb
  ·cases hb
  rename_i hn0
  have hd: ¬G5 H0 b:=by
   intro hd;apply hn0
   cases ho:H0 b with
   |none=>exact absurd ho hd
   |some o=>rfl
  obtain⟨g1,g2,g3⟩:=hst.obj b o hb;refine⟨fun hs=>?_, .inl ⟨hb,hd⟩⟩;rcases h1.src b hs with h|h|h
  ·exact g2 h
  ·exact hd h
  have h5:=g1.lt;simp only at h;omega
 rcases hnew b hb with h|h
 ·exact .inl h
 exact .inr (hnone b h)
theorem Jo (hst:St E γ S H w) (hf:gO S w fr a) {okf:Nat→Prop} {o:Op} {K Kp:AV→Hp→Prop} (h:gC E okf o fr H K Kp) {next:Act→World→Prop} {Q:Exit→Act→World→Prop} {dst:Option Tmp} {ty:TypeId} {pos:String} {af:Array Edge} {g:Option (Nat×Bool)}
  (hn: ∀v v' H' S' w',eC S S' w w'→St E γ S' H' w'→bO S' w' v v'→K v H'→next (a.put dst v') w')
  (hq: ∀v v' H' S' w',eC S S' w w'→St E γ S' H' w'→bO S' w' v v'→Kp v H'→Q (.panic [{v:=v',recovered:=false}]) a w'):
  Oper.wp E.P ⟨dst,o,ty,pos,af,g⟩ a w next Q:=by
 have skip: ∀{w':World} {H':Hp},(execOp a.eval ⟨dst,o,ty,pos,af,g⟩).run E.P w= .ok .skip w'→eC S S w w'→St E γ S H' w'→K (.tup []) H'→Oper.wp E.P ⟨dst,o,ty,pos,af,g⟩ a w next Q:=fun hr hk hs Y=>by
  simp only[Oper.wp,hr,Oper.upon_skip];exact hn (.tup []) _ _ _ _ hk hs (by simp only[bO];exact⟨[],rfl,by simp only[bW]⟩) Y
 have quiet:(match aq E H fr o with |some v=>K v H|none=>False)→Oper.wp E.P ⟨dst,o,ty,pos,af,g⟩ a w next Q:=fun h=>by
  split at h
  ·rename_i v hv
   obtain⟨v',h1,h2⟩:=I4 hst hf hv dst ty pos af g;simp only[Oper.wp,h1,Oper.upon_value];exact hn v v' H S w (hst.keeps (iY.refl (fun _=>False) w) (fun _ h=>h.elim) (fun _ h=>h)) hst h2 h
  exact h.elim
 have box: ∀{cs:List AV} {vs:List Value} {e:TypeId},bW S w cs vs→(∀b,H b=none→K (.ptr cs.length b 0 0) (upd H b (some (.rows cs.length [cs]))))→
   (execOp a.eval ⟨dst,o,ty,pos,af,g⟩).run E.P w= .ok (.value (.pointer (some ⟨w.heap.size,0,none⟩))) (w.alloc (.cells vs.toArray e))→Oper.wp E.P ⟨dst,o,ty,pos,af,g⟩ a w next Q:=fun {cs vs e} hl Y hr=>by
  have hlen:=hl.length;obtain⟨f1,f2,f3⟩:=hst.newRows (e:=e) (cs:=vs.toArray) (sz:=cs.length) (rows:=[cs]) (vs:=vs) (by simpa using hl) (by simp) (by simp [←hlen]) (by simp [hlen]);simp only[Oper.wp,hr,Oper.upon_value];exact hn _ _ _ S _ f2 f3 (by simp only[bO];simp) (Y _ f1)
 unfold gC at h;split at h
 ·-- alloc
  rename_i t;split at h<;>try (exact h.elim)
  rename_i p hp;simp only[fF,bU,bH]at hp;obtain⟨ti,hti,cs,hcs,rfl⟩:=hp;obtain⟨z,hz,ez⟩:=gJ hti w;have hl:=hO (iD S w z) (by rw[←ez];exact hcs);refine box (e:=t) hl h ?_;simp only[execOp,Instr.alloc,Sem.run_bind,hz,Result.andThen_ok,newVar,newRow,run_newObj,Sem.run_pure,Array.toArray_toList];rfl
 ·-- box
  rename_i t x;split at h<;>try (exact h.elim)
  rename_i p hp;simp only[fF,bH]at hp;obtain⟨cs,hcs,rfl⟩:=hp;refine box (e:=t) (hO (cP hst hf x) hcs) h ?_;simp only[execOp,Instr.box,Sem.run_bind,Result.andThen_ok,newVar,newRow,run_newObj,Sem.run_pure,Array.toArray_toList];rfl
 ·-- makeMap
  rename_i t r;split at h<;>try (exact h.elim)
  rename_i p hp
  have hrun:(execOp a.eval ⟨dst, .makeMap t r,ty,pos,af,g⟩).run E.P w= .ok (.value (.map (some w.heap.size))) (w.alloc (.map #[] 0))∧p=(fun b=> .mp b, .amap []):=by
   simp only[fF]at hp;split at hp<;>first|(cases hp;done)|skip
   ·rename_i ht hr
    cases hp
    cases r with
    |some x=>simp at hr
    |none=>refine⟨?_,rfl⟩;simp only[execOp,Instr.makeMap,Option.map_none,Sem.run_bind,run_newObj,Result.andThen_ok,Sem.run_pure];rfl
   rename_i ht hr;cases hp
   cases r with
   |none=>simp at hr
   |some x=>
    simp only[Option.map_some,Option.some.injEq]at hr;have hx:=cP hst hf x;rw[hr]at hx;simp only[bO]at hx;refine⟨?_,rfl⟩;simp only[execOp,Instr.makeMap,Option.map_some,Sem.run_bind,run_underlying (Vm ht),hx,asInt,asIntOf,run_newObj,Result.andThen_ok,Sem.run_pure];rfl
  obtain⟨hr,rfl⟩:=hrun;obtain⟨f1,f2,f3⟩:=hst.alloc (ob:= .map #[] 0) (o:= .amap []) (by simp only[eR];exact⟨#[],0,heap_alloc_new w _,by simp only[dB]⟩);simp only[Oper.wp,hr,Oper.upon_value];exact hn _ _ _ S _ f2 f3 (by simp only[bO]) (h _ f1)
 ·-- makeSlice
  rename_i t l c;split at h<;>try (exact h.elim)
  rename_i p hp;simp only[fF]at hp;split at hp<;>first|(cases hp;done)|skip
  rename_i _ _ _ _ k1 n1 k2 n2 ht e1 e2;simp only[bU,Option.ite_none_right_eq_some]at hp;obtain⟨te,hte,zc,hzc,⟨hnn,c1,c2,c3,c4,c5⟩,hp⟩:=hp;cases hp;subst hnn;have hl:=cP hst hf l;have hc:=cP hst hf c;rw[e1]at hl;rw[e2]at hc;simp only[bO]at hl hc;obtain⟨w',r1,r2,r3,r4,r5⟩:=Zi hst ht hte hzc c1 c2 c3 c4 c5 (k:=k1) (k':=k2)
  have hr:(execOp a.eval ⟨dst, .makeSlice t l c,ty,pos,af,g⟩).run E.P w= .ok (.value (.slice (some ⟨w.heap.size,0,none⟩) n1.toNat n1.toNat)) w':=by
   simp only[execOp,hl,hc,Sem.run_bind,r1,Result.andThen_ok,Sem.run_pure]
  simp only[Oper.wp,hr,Oper.upon_value];exact hn _ _ _ S _ r3 r4 r5 (h _ r2)
 ·-- buildSlice
  rename_i t len parts;split at h<;>try (exact h.elim)
  rename_i p hp;simp only[zT]at hp;split at hp<;>first|(cases hp;done)|skip
  rename_i el _ _ _ ht;simp only[bU,Option.ite_none_right_eq_some]at hp;obtain⟨te,hte,rows,hrows,⟨hl,h24,hl24⟩,hp⟩:=hp;cases hp;obtain⟨cs,r1,r2,r3⟩:=N3 hst hf ht hte h24 hrows hl
  have hr:(execOp a.eval ⟨dst, .buildSlice t len parts,ty,pos,af,g⟩).run E.P w= .ok (.value (.slice (some ⟨w.heap.size,0,none⟩) len len)) (w.alloc (.cells cs el)):=by
   simp only[execOp,Sem.run_bind,r1,Result.andThen_ok,Sem.run_pure]
  simp only[Oper.wp,hr,Oper.upon_value];have hmax:len≤maxLen:=by simp only[maxLen];omega
  rcases h with h|h
  ·obtain⟨f1,f2⟩:=hst.allocSealed (ob:= .cells cs _)
   refine hn _ _ _ _ _ f1 f2 ?_ h;simp only[bO];refine⟨_,len,by rw[hl],by rw[hl];exact bF _,hmax, .inr ⟨w.heap.size,0,rfl, .inr rfl,r3 _ f1⟩⟩
  have hk:eC S S w (w.alloc (.cells cs el)):=hst.keeps (iY.alloc (fun _=>False) w (.cells cs el)) (fun _ h=>h.elim) (fun _ h=>h);obtain⟨f1,f2,f3⟩:=hst.alloc (ob:= .cells cs _) (o:= .rows te.size rows) (by simp only[eR];exact⟨cs,el,heap_alloc_new w _,by rw[r2,hl];exact bF _,r3 S hk⟩);refine hn _ _ _ S _ f2 f3 ?_ (h _ f1);simp only[bO];have:=heap_alloc_new w (.cells cs el);exact⟨len,el,rfl,by simp only[World.shape?,this,r2],bF _,hmax⟩
 ·-- store
  rename_i t p x;split at h<;>try (exact h.elim)
  rename_i q hq2;simp only[pK]at hq2;split at hq2<;>first|(cases hq2;done)|skip
  rename_i e;split at hq2<;>first|(cases hq2;done)|skip
  rename_i hb;simp only[bU,Option.ite_none_right_eq_some]at hq2;obtain⟨row,hrow,ti,hti,cs,hcs,⟨rfl,c1,c2,c3⟩,hq2⟩:=hq2;cases hq2;have hp:=cP hst hf p;rw[e]at hp;simp only[bO]at hp;obtain⟨w',r1,r2,r3⟩:=wK hst hti hb hrow (cP hst hf x) hcs c1 c2 c3;refine skip ?_ r2 r3 h.2;simp only[execOp,Instr.storeAt,hp,Instr.sureAddr,Sem.run_bind,Sem.run_pure,Result.andThen_ok,r1]
 ·-- mapUpdate
  rename_i t m k x;split at h<;>try (exact h.elim)
  rename_i q hq2;simp only[jW]at hq2;split at hq2<;>first|(cases hq2;done)|skip
  rename_i ht e1 e2;split at hq2<;>first|(cases hq2;done)|skip
  rename_i htk hb;rw[bH]at hq2;obtain⟨es',hes,rfl⟩:=hq2;have hm:=cP hst hf m;have hk:=cP hst hf k;rw[e1]at hm;rw[e2]at hk;simp only[bO]at hm hk;obtain⟨w',r1,r2,r3⟩:=qH hst ht htk hb (cP hst hf x) hes;refine skip ?_ r2 r3 h.2;simp only[execOp,hm,hk,Sem.run_bind,r1,Result.andThen_ok,Sem.run_pure]
 ·-- insert
  rename_i t m k x;split at h<;>try (exact h.elim)
  rename_i q hq2;simp only[jW]at hq2;split at hq2<;>first|(cases hq2;done)|skip
  rename_i ht e1 e2;split at hq2<;>first|(cases hq2;done)|skip
  rename_i htk hb;rw[bH]at hq2;obtain⟨es',hes,rfl⟩:=hq2;have hm:=cP hst hf m;have hk:=cP hst hf k;rw[e1]at hm;rw[e2]at hk;simp only[bO]at hm hk;obtain⟨w',r1,r2,r3⟩:=qH hst ht htk hb (cP hst hf x) hes;refine skip ?_ r2 r3 h.2;simp only[execOp,hm,hk,Sem.run_bind,r1,Result.andThen_ok,Sem.run_pure]
 ·-- panic
  rename_i x;split at h<;>try (exact h.elim)
  rename_i t v e;have hx:=cP hst hf x;have hx0:=hx;rw[e]at hx;have hx2:=hx;simp only[bO]at hx;obtain⟨u,hu,_⟩:=hx
  have hr:(execOp a.eval ⟨dst, .panic x,ty,pos,af,g⟩).run E.P w= .halt (.panic (a.eval x)) w:=by
   rw[hu];simp [execOp,hu,Instr.panic]
  simp only[Oper.wp,hr,Oper.upon_panic];exact hq _ _ H S w (hst.keeps (iY.refl (fun _=>False) w) (fun _ h=>h.elim) (fun _ h=>h)) hst (by rw[hu]at hx2⊢;exact hx2) h
 ·-- append
  rename_i args ts
  have common: ∀{sz by':Nat} {sv:AV} {ys:List (List AV)},Fb E H fr args ts=some (sz,by',sv,ys)→ ∃t e te s x,args= #[s,x]∧ts= #[t,t]∧W8 E t e te∧te.size=sz∧te.bytes=by'∧ev E.G fr s=sv∧tU H te.size (ev E.G fr x)=some ys∧ys.all (fun r=>r.all one)=true:=by
   intro sz by' sv ys hp;simp only[Fb]at hp;split at hp<;>first|(cases hp;done)|skip
   rename_i s x t u ea et;split at hp<;>first|(cases hp;done)|skip
   rename_i ht;simp only[bU,Option.ite_none_right_eq_some]at hp;obtain⟨te,hte,ys',hys,⟨rfl,c1,c2,c3⟩,hp⟩:=hp;cases hp;exact⟨t,_,te,s,x,by rw[←Array.toArray_toList (xs:=args),ea],by rw[←Array.toArray_toList (xs:=ts),et],⟨⟨_,_,_,ht⟩,hte,c1,c2⟩,rfl,rfl,rfl,hys,c3⟩
  split at h<;>try (exact h.elim)
  ·rename_i sz by' ys hp
   obtain⟨t,e,te,s,x,rfl,rfl,hok,rfl,rfl,es,hsrc,h1⟩:=common hp;have hs:=cP hst hf s;rw[es]at hs;obtain⟨v',w',H',v,r1,r2,r3,r4,r5⟩:=(wN hst hok (ty:=ty) hs (cP hst hf x) hsrc h1).1 rfl h.1
   have hr:(execOp a.eval ⟨dst, .call ⟨.builtin .append, #[s,x], #[t,t]⟩,ty,pos,af,g⟩).run E.P w= .ok (.value v') w':=by
    simp [execOp,resolve,invoke,builtin,r1]
   simp only[Oper.wp,hr,Oper.upon_value];refine hn v v' H' S w' r2 r3 r4 ?_;rcases r5 with⟨e1,rfl,rfl⟩|⟨e1,b,hb,rfl,rfl⟩
   ·exact h.2.1 e1
   exact h.2.2 e1 b hb
  rename_i sz by' sz' b len ys hp;obtain⟨t,e,te,s,x,rfl,rfl,hok,rfl,rfl,es,hsrc,h1⟩:=common hp;split at h<;>try (exact h.elim)
  rename_i sz'' l hb;obtain⟨rfl,rfl,rfl,hbnd,_,Y⟩:=h;have hs:=cP hst hf s;rw[es]at hs;obtain⟨v',w',b',r1,r2,r3,r4,r5⟩:=(wN hst hok (ty:=ty) hs (cP hst hf x) hsrc h1).2 b l rfl hb hbnd
  have hr:(execOp a.eval ⟨dst, .call ⟨.builtin .append, #[s,x], #[t,t]⟩,ty,pos,af,g⟩).run E.P w= .ok (.value v') w':=by
   simp [execOp,resolve,invoke,builtin,r1]
  simp only[Oper.wp,hr,Oper.upon_value];exact hn _ v' _ S w' r2 r4 r5 (Y b' r3)
 ·-- clear
  rename_i args ts;split at h<;>try (exact h.elim)
  rename_i q hq2;simp only[lU]at hq2;split at hq2<;>first|(cases hq2;done)|skip
  rename_i s t ea et;split at hq2<;>first|(cases hq2;done)|skip
  rename_i el _ _ _ sz b off len ht es;simp only[bU]at hq2;obtain⟨te,hte,hq2⟩:=hq2;split at hq2<;>first|(cases hq2;done)|skip
  rename_i sz' l hb;simp only[Option.ite_none_right_eq_some]at hq2;obtain⟨⟨rfl,rfl,c1,c3,c4⟩,hq2⟩:=hq2;cases hq2;obtain rfl:args= #[s]:=by rw[←Array.toArray_toList (xs:=args),ea]
  obtain rfl:ts= #[t]:=by rw[←Array.toArray_toList (xs:=ts),et]
  have hs:=cP hst hf s;rw[es]at hs;obtain⟨w',r1,r2,r3⟩:=zL hst ht hte c1 c3 hb c4 hs (ty:=ty)
  have hr:(execOp a.eval ⟨dst, .call ⟨.builtin .clear, #[s], #[t]⟩,ty,pos,af,g⟩).run E.P w= .ok (.value (.tuple #[])) w':=by
   simp [execOp,resolve,invoke,builtin,r1]
  simp only[Oper.wp,hr,Oper.upon_value];exact hn (.tup []) _ _ _ _ r2 r3 (by simp only[bO];exact⟨[],rfl,by simp only[bW]⟩) h.2
 ·-- copy
  rename_i args ts;split at h<;>try (exact h.elim)
  rename_i q hq2;simp only[qR]at hq2;split at hq2<;>first|(cases hq2;done)|skip
  rename_i d s t u ea et;split at hq2<;>first|(cases hq2;done)|skip
  rename_i el _ _ _ sz b off len sz2 b2 off2 len2 ht ed es;simp only[bU]at hq2;obtain⟨te,hte,hq2⟩:=hq2;split at hq2<;>first|(cases hq2;done)|skip
  rename_i sz' l sz3 row hb hb2;simp only[Option.ite_none_right_eq_some]at hq2;obtain⟨⟨rfl,rfl,rfl,c1,rfl,c2,c3,c4⟩,hq2⟩:=hq2;cases hq2;obtain rfl:args= #[d,s]:=by rw[←Array.toArray_toList (xs:=args),ea]
  obtain rfl:ts= #[t,u]:=by rw[←Array.toArray_toList (xs:=ts),et]
  have hd:=cP hst hf d;have hs:=cP hst hf s;rw[ed]at hd;rw[es]at hs;obtain⟨w',r1,r2,r3⟩:=Dt hst ht hte c1 hb hb2 c2 c3 c4 hd hs (ty:=ty) (u:=u)
  have hr:(execOp a.eval ⟨dst, .call ⟨.builtin .copy, #[d,s], #[t,u]⟩,ty,pos,af,g⟩).run E.P w= .ok (.value (goInt (min len2 len:Nat))) w':=by
   simp [execOp,resolve,invoke,builtin,r1]
  simp only[Oper.wp,hr,Oper.upon_value];exact hn (.int .i64 (min len2 len:Nat)) _ _ _ _ r2 r3 (by simp only[bO];rfl) h.2
 ·-- a call
  rename_i f args ts;split at h<;>try (exact h.elim)
  rename_i fn first cap e
  obtain⟨args',H0,R,mQ,hcon,hhs,_,Y⟩:=h;have hfn:=cP hst hf f;rw[e]at hfn;simp only[bO]at hfn;obtain⟨vs,us,hfv,hvs,hus⟩:=hfn;have hargs:=mQ S w (vs++args.toList.map a.eval++us) ((hvs.append (bW.map hst hf args.toList)).append hus);obtain⟨fnc,hent,hname,hbody⟩:=hcon.1
  have hr:(execOp a.eval ⟨dst, .call ⟨.value f,args,ts⟩,ty,pos,af,g⟩).run E.P w= .ok (.enter fn (vs++args.toList.map a.eval++us).toArray) w:=by
   have ea:vs.toArray++args.map a.eval++us.toArray=(vs++args.toList.map a.eval++us).toArray:=by
    apply Array.ext';simp
   simp only[execOp,resolve,hfv,Deferred.ofValue,Sem.run_bind,Sem.run_pure,Result.andThen_ok,invoke,callFunc,run_program,hent,hname,hbody,Bool.false_eq_true,if_false,ea]
  simp only[Oper.wp,hr,Oper.upon_enter];refine(Of hst hcon hhs hargs).mono fun en w' ⟨ae,H',S',k1,k2,k3,k4,k5⟩=>?_;have hK2:=Y ae H' k4 k5
  cases ae with
  |ret v=>
   simp only[nW]at k3;obtain⟨v',rfl,hv⟩:=k3;exact hn v v' _ S' w' k1 k2 hv hK2
  |pan v=>
   simp only[nW]at k3;obtain⟨v',rfl,hv⟩:=k3;exact hq v v' _ S' w' k1 k2 hv hK2
 exact quiet h
end
end Go.Al
namespace Go.Al
def Z4 (γ:gD) (N:Nat) (a:Act):Prop:=a.defers=γ.D∧ ∀t,t<N/1048576→a.tmps.getD t Go.undef=γ.pin t
def Ff (E:fR) (γ:gD) (N:Nat) (fr:Fr) (H:Hp) (a:Act) (w:World):Prop:=
 Z4 γ N a∧a.tmps.size=N % 1048576∧ ∃S,St E γ S H w∧gO S w fr a
inductive BK where
 |normal
 |exit (id:Nat)
 |ret
 |pan (v:AV)
abbrev dN:=BK→Fr→Hp→Prop
def Ud:Fr:=fun _=> .undef
def oY (E:fR) (γ:gD) (N:Nat) (Q:dN):Exit→Act→World→Prop
 | .normal,a,w=> ∃fr H,Ff E γ N fr H a w∧Q .normal fr H
 | .exit id,a,w=> ∃fr H,Ff E γ N fr H a w∧Q (.exit id) fr H
 | .ret,a,w=> ∃fr H,Ff E γ N fr H a w∧Q .ret fr H
 | .panic chain,a,w=>Z4 γ N a∧ ∃v v' S H,chain=[{v:=v',recovered:=false}]∧St E γ S H w∧bO S w v v'∧Q (.pan v) Ud H
 |_,_,_=>False
def gI (ds:List (Option Nat)) (fr:Fr) (g:Option (Nat×Bool)):Option Bool:=
 match g with
 |none=>some true
 |some (j,want)=>match ds[j]? with
  |some (some d)=>match fr d with
   | .bool b=>some (b==want)
   | .tup _=>some false
   |_=>none
  |_=>none
theorem vB {S:dL} {w:World} {fr:Fr} {a:Act} (hf:gO S w fr a) {ops:Array Oper} {o:Oper} {b:Bool} (h:gI (ops.toList.map (·.dst)) fr o.guard=some b):Region.wanted o (yielded ops a.tmps)=b:=by
 unfold gI at h;unfold Region.wanted;split at h
 ·rename_i hg;rw[hg];simpa using h
 rename_i j want hg;rw[hg];split at h<;>first|(cases h;done)|skip
 rename_i d hd
 have hd2:(ops[j]?).bind (·.dst)=some d:=by
  rw[cE,bH]at hd;obtain⟨o',ho,e⟩:=hd;have :ops[j]?=some o':=by simpa using ho
  rw[this];exact e
 have ht:=hf d;simp only[yielded,hd2];split at h<;>first|(cases h;done)|skip
 ·rename_i b' e
  cases h;rw[e]at ht;simp only[bO]at ht
  have hsome:a.tmps[d]?=some (.bool b'):=by
   simp only[Array.getD_eq_getD_getElem?]at ht
   cases hh:a.tmps[d]? with
   |none=>rw[hh]at ht;simp [Go.undef]at ht
   |some x=>rw[hh]at ht;simp at ht;rw[ht]
  simp only[Option.bind_some,hsome];cases b'<;>cases want<;>rfl
 rename_i vs e;cases h;rw[e]at ht;simp only[bO]at ht;obtain⟨us,ht,_⟩:=ht
 have :(a.tmps[d]?)=none∨ ∃us',a.tmps[d]?=some (.tuple us'):=by
  simp only[Array.getD_eq_getD_getElem?]at ht
  cases hh:a.tmps[d]? with
  |none=>exact .inl rfl
  |some x=>rw[hh]at ht;simp at ht;exact .inr ⟨_,by rw[ht]⟩
 rcases this with hh|⟨us',hh⟩<;>simp [hh]
def aop (E:fR) (okf:Nat→Prop) (ds:List (Option Nat)) (o:Oper) (fr:Fr) (H:Hp) (K:Fr→Hp→Prop) (Kp:AV→Hp→Prop):Prop:=
 match gI ds fr o.guard with
 |some true=>gC E okf o.op fr H (fun v H'=>K (dF fr o.dst v) H') Kp
 |some false=>K (dF fr o.dst (.tup [])) H
 |none=>False
def jR:AV→Option Nat
 | .ptr _ b _ _=>some b
 | .mp b=>some b
 |_=>none
def qM:Nat→List Operand→List (Nat×Operand)
 |_,[]=>[]
 |i,x::r=>(i,x)::qM (i+1) r
def BJ (E:fR) (fr:Fr) (c:Call):Option AV:=match c.argTypes.toList with
 |[t]=>(zT E fr t c.args.size (qM 0 c.args.toList).toArray).map fun p=> .isl p.1 p.2
 |_=>none
def cI (E:fR) (F:Nat→Prop) (ds:List (Option Nat)) (Q:dN):List Oper→Fr→Hp→Prop
 |[],fr,H=>Q .normal fr H
 |o::rest,fr,H=>match o.op with
  | .entry x=>match gI ds fr o.guard with
    |some true=>(∀b,jR (ev E.G fr x)=some b→ ¬F b)∧cI E F ds Q rest (dF fr o.dst (.tup [])) H
    |some false=>cI E F ds Q rest (dF fr o.dst (.tup [])) H
    |none=>False
  | .go c=>match gI ds fr o.guard with
    |some true=>match BJ E fr c with
     |some v=>cI E F ds Q rest (dF fr o.dst v) H
     |none=>False
    |some false=>cI E F ds Q rest (dF fr o.dst (.tup [])) H
    |none=>False
  |_=>aop E F ds o fr H (cI E F ds Q rest) (fun v H'=>Q (.pan v) Ud H')
def iI (N:Nat) (o:Oper):Bool:=(match o.op with | .entry _| .go _=>false|_=>true)&&match o.dst with |some d=>decide (N/1048576≤d∧d<N % 1048576)|none=>true
theorem pY {E:fR} {F:Nat→Prop} {ds:List (Option Nat)} {Q:dN} {N:Nat} {o:Oper} (h:iI N o=true) (rest:List Oper) (fr:Fr) (H:Hp):
  cI E F ds Q (o::rest) fr H=aop E F ds o fr H (cI E F ds Q rest) (fun v H'=>Q (.pan v) Ud H'):=by
 obtain⟨d,op,ty,pos,af,g⟩:=o;cases op<;>first|rfl|(simp [iI]at h;done)
section
variable {E : fR} {γ : gD} {N : Nat} {fr : Fr} {H : Hp} {a : Act} {w : World}
theorem Iy {o:Oper} (h:iI N o=true) {i:Nat} (hi:o.dst=some i):N/1048576≤i∧i<N % 1048576:=by
 simp only[iI,hi,bA,bC]at h;exact h.2
theorem Ff.put {S:dL} (hst:St E γ S H w) (hf:gO S w fr a) (h1:Z4 γ N a) (h2:a.tmps.size=N % 1048576) {o:Oper} (hd:iI N o=true) {v:AV} {v':Value} (hv:bO S w v v'):Ff E γ N (dF fr o.dst v) H (a.put o.dst v') w:=by
 refine⟨?_, ?_,S,hst,hf.put (fun i hi=>?_) hv⟩
 ·cases ho:o.dst with
  |none=>exact h1
  |some i=>
   have:=(Iy hd ho).1;refine⟨h1.1,fun t ht=>?_⟩;have hne:i≠t:=fun e=>absurd ht (by rw[←e];exact Nat.not_lt.2 this);rw[←h1.2 t ht];simp only[Act.put,Array.getD_eq_getD_getElem?];rw[Array.getElem?_setIfInBounds_ne hne]
 ·cases o.dst<;>simp [Act.put,h2]
 rw[h2];exact(Iy hd hi).2
theorem tX (hs:Ff E γ N fr H a w) {okf:Nat→Prop} {ops:Array Oper} {o:Oper} (hd:iI N o=true) {K:Fr→Hp→Prop} {Kp:AV→Hp→Prop} (h:aop E okf (ops.toList.map (·.dst)) o fr H K Kp)
  {next:Act→World→Prop} {Q:Exit→Act→World→Prop} (hn: ∀fr' H' a' w',Ff E γ N fr' H' a' w'→K fr' H'→next a' w')
  (hq: ∀v v' S' H' w',St E γ S' H' w'→bO S' w' v v'→Kp v H'→Q (.panic [{v:=v',recovered:=false}]) a w'):
  if Region.wanted o (yielded ops a.tmps)then o.wp E.P a w next Q∨(o.asks E.P a w∧LetsOut Q)else next (a.put o.dst Go.undef) w:=by
 obtain⟨h1,h2,S,hst,hf⟩:=hs;unfold aop at h;split at h
 ·rename_i hw
  rw[if_pos (vB hf hw)];left;obtain⟨dst,op,ty,pos,af,g⟩:=o;refine Jo hst hf h (fun v v' H' S' w' hk hs' hv Y=>?_) (fun v v' H' S' w' _ hs' hv Y=>hq v v' S' H' w' hs' hv Y);exact hn _ _ _ _ (Ff.put (o:=⟨dst,op,ty,pos,af,g⟩) hs' (hf.keeps hk) h1 h2 hd hv) Y
 ·rename_i hw
  rw[if_neg (by rw[vB hf hw];simp)];exact hn _ _ _ _ (Ff.put hst hf h1 h2 hd (by simp only[bO];exact⟨[],rfl,by simp only[bW]⟩)) h
 exact h.elim
theorem yA {F:Nat→Prop} {ops:Array Oper} {Q:dN}: ∀(l:List Oper) (fr:Fr) (H:Hp) (a:Act) (w:World),l.all (iI N)=true→Ff E γ N fr H a w→cI E F (ops.toList.map (·.dst)) Q l fr H→
  wpList E.P ops (oY E γ N Q) l a w
 |[],fr,H,a,w,_,hs,h=>⟨fr,H,hs,h⟩
 |o::rest,fr,H,a,w,hd,hs,h=>by
  simp only[List.all_cons,bA]at hd;have h1:=hs.1;rw[pY hd.1]at h;refine tX hs hd.1 h (fun fr' H' a' w' hs' Y=>yA rest fr' H' a' w' hd.2 hs' Y) (fun v v' S' H' w' hst hv Y=>?_);exact⟨h1,v,v',S',H',rfl,hst,hv,Y⟩
end
def jV (E:fR) (N:Nat) (c:Code) (Q:dN) (fr:Fr) (H:Hp):Prop:=
 ∀γ a w,Ff E γ N fr H a w→c.wp E.P (oY E γ N Q) a w
section
variable {E : fR} {N : Nat} {Q Q' : dN} {fr : Fr} {H : Hp}
theorem Ti {γ:gD} (h: ∀e fr H,Q e fr H→Q' e fr H) (e:Exit) (a:Act) (w:World) (hl:oY E γ N Q e a w):oY E γ N Q' e a w:=by
 cases e<;>simp only[oY]at *
 ·obtain⟨fr,H,h1,h2⟩:=hl;exact⟨fr,H,h1,h _ _ _ h2⟩
 ·obtain⟨fr,H,h1,h2⟩:=hl;exact⟨fr,H,h1,h _ _ _ h2⟩
 ·obtain⟨fr,H,h1,h2⟩:=hl;exact⟨fr,H,h1,h _ _ _ h2⟩
 obtain⟨hd,v,v',S,H,h1,h2,h3,h4⟩:=hl;exact⟨hd,v,v',S,H,h1,h2,h3,h _ _ _ h4⟩
theorem Jf {c:Code} (h:jV E N c Q fr H) (hq: ∀e fr H,Q e fr H→Q' e fr H):jV E N c Q' fr H:=
 fun γ a w hs=>wp_mono (h γ a w hs) (Ti hq)
theorem aK (h:Q .normal fr H):jV E N .skip Q fr H:=fun _ _ _ hs=>wp_skip ⟨fr,H,hs,h⟩
theorem bI {id:Nat} (h:Q (.exit id) fr H):jV E N (.exit id) Q fr H:=fun _ _ _ hs=>wp_exit ⟨fr,H,hs,h⟩
theorem aM (h:Q .ret fr H):jV E N .ret Q fr H:=fun _ _ _ hs=>wp_ret ⟨fr,H,hs,h⟩
def aU (next:Fr→Hp→Prop) (Q:dN):dN
 | .normal,fr,H=>next fr H
 |e,fr,H=>Q e fr H
theorem aJ {x y:Code} (h:jV E N x (aU (jV E N y Q) Q) fr H):jV E N (.seq x y) Q fr H:=fun γ a w hs=>by
 refine wp_seq (wp_mono (h γ a w hs) fun e a w hl=>?_);cases e<;>simp only[oY,Exit.then,aU]at *
 ·obtain⟨fr',H',h1,h2⟩:=hl;exact h2 γ a w h1
 ·exact hl
 ·exact hl
 exact hl
def aW (id:Nat) (Q:dN):dN
 | .exit id',fr,H=>if id'=id then Q .normal fr H else Q (.exit id') fr H
 |e,fr,H=>Q e fr H
theorem aN {id:Nat} {c:Code} (h:jV E N c (aW id Q) fr H):jV E N (.block id c) Q fr H:=fun γ a w hs=>by
 refine wp_block (wp_mono (h γ a w hs) fun e a w hl=>?_);cases e<;>simp only[oY,Exit.inBlock,aW]at *
 ·exact hl
 ·split
  ·rename_i e;simp only[e,if_true]at hl;exact hl
  rename_i e;simp only[e,if_false]at hl;exact hl
 ·exact hl
 exact hl
theorem H8 {c:Operand} {x y:Code} {t:Bool} (hc:ev E.G fr c= .bool t) (h1:t=true→jV E N x Q fr H) (h2:t=false→jV E N y Q fr H):jV E N (.cond c x y) Q fr H:=fun γ a w hs=>by
 obtain⟨g1,g2,S,hst,hf⟩:=hs;have hv:=cP hst hf c;rw[hc]at hv;simp only[bO]at hv;exact wp_cond_split hv (fun ht=>h1 ht γ a w ⟨g1,g2,S,hst,hf⟩) (fun ht=>h2 ht γ a w ⟨g1,g2,S,hst,hf⟩)
theorem aA {id:Nat} {l:List Oper} (hd:l.all (iI N)=true) (h:cI E (fun _=>True) (l.map (·.dst)) Q l fr H):jV E N (.region id l.toArray false) Q fr H:=fun γ a w hs=>
 wp_region_list (by simpa using yA (ops:=l.toArray) l fr H a w hd hs (by simpa using h))
theorem sO {c:Code} (I:Nat→Fr→Hp→Prop) (n:Nat) (h0:I n fr H) (round: ∀n fr H,I n fr H→jV E N c (aU (fun fr' H'=> ∃m,m<n∧I m fr' H') Q) fr H):jV E N (.loop c) Q fr H:=by
 intro γ a w hs b k cs
 have key: ∀n a w,(∃fr H,Ff E γ N fr H a w∧I n fr H)→ ∃e a' w',oY E γ N Q e a' w'∧Arrives E.P (lone (b.at a (.code c:: .inLoop c::k)) cs w) b k cs e a' w':=by
  intro n
  induction n using Nat.strongRecOn with
  |_ n ih=>
   rintro a w ⟨fr,H,hs,hI⟩;obtain⟨e,a₁,w₁,hq,harr⟩:=round n fr H hI γ a w hs b (.inLoop c::k) cs
   cases e with
   |normal=>
    obtain⟨fr',H',hs',m,hm,hI'⟩:=hq;obtain⟨e₂,a₂,w₂,hq₂,harr₂⟩:=ih m hm a₁ w₁ ⟨fr',H',hs',hI'⟩;exact⟨e₂,a₂,w₂,hq₂, .of_steps (Steps.trans harr (.one step_inLoop)) harr₂⟩
   |exit id=>exact⟨_,a₁,w₁,(by simpa only[oY,aU]using hq:oY E γ N Q (.exit id) a₁ w₁), .pass (x:= .inLoop c) rfl (fun _ _=> .inl (by simp)) harr⟩
   |goto l=>exact hq.elim
   |ret=>exact⟨_,a₁,w₁,(by simpa only[oY,aU]using hq:oY E γ N Q .ret a₁ w₁), .pass (x:= .inLoop c) rfl (fun _ _=> .inl (by simp)) harr⟩
   |panic ch=>exact⟨_,a₁,w₁,(by simpa only[oY,aU]using hq:oY E γ N Q (.panic ch) a₁ w₁), .pass (x:= .inLoop c) rfl (fun _ _=> .inl (by simp)) harr⟩
   |outgrown=>exact hq.elim
 obtain⟨e,a',w',hq,harr⟩:=key n a w ⟨fr,H,hs,h0⟩;exact⟨e,a',w',hq, .of_steps (.one step_loop) harr⟩
end
def bJ (P:Program) (fr:Fr) (H:Hp):List ResultVar→Option (List AV)
 |[]=>some []
 | .tmp t::r=>(bJ P fr H r).map (fr t:: ·)
 | .cell p t::r=>(bP P t).bind fun ti=>(oG H ti (fr p)).bind fun v=>(bJ P fr H r).map (v:: ·)
def aL (P:Program) (fr:Fr) (H:Hp) (rs:List ResultVar):Option AV:=
 match bJ P fr H rs with
 |some [v]=>some v
 |some vs=>some (.tup vs)
 |none=>none
theorem rG {E:fR} {γ:gD} {S:dL} {H:Hp} {w:World} {fr:Fr} {a:Act} (hst:St E γ S H w) (hf:gO S w fr a): ∀(rs:List ResultVar) (vs:List AV),bJ E.P fr H rs=some vs→
  ∃us,(rs.mapM (m:=Sem) fun | .tmp t=>pure (a.tmps.getD t Go.undef)| .cell p t=>do loadVar t (←asAddr (a.tmps.getD p Go.undef))).run E.P w= .ok us w∧bW S w vs us
 |[],vs,h=>by
  simp only[bJ,Option.some.injEq]at h;subst h;exact⟨[],by simp,by simp only[bW]⟩
 | .tmp t::r,vs,h=>by
   simp only[bJ,bH]at h;obtain⟨vs',h,rfl⟩:=h;obtain⟨us,h1,h2⟩:=rG hst hf r vs' h;refine⟨a.tmps.getD t Go.undef::us, ?_,by simp only[bW];exact⟨_,_,rfl,hf t,h2⟩⟩;simp only[List.mapM_cons,Sem.run_bind,Sem.run_pure,Result.andThen_ok,h1]
 | .cell p t::r,vs,h=>by
   simp only[bJ,bU,bH]at h;obtain⟨ti,hti,v,hv,vs',h,rfl⟩:=h;obtain⟨us,h1,h2⟩:=rG hst hf r vs' h;obtain⟨v',h3,h4⟩:=vA hst hti (hf p) hv;refine⟨v'::us, ?_,by simp only[bW];exact⟨_,_,rfl,h4,h2⟩⟩
   have h5:(do loadVar t (←asAddr (a.tmps.getD p Go.undef)):Sem Value).run E.P w= .ok v' w:=by
    have hp:=hf p;cases e:fr p<;>rw[e]at hp hv<;>simp only[oG]at hv<;>try (cases hv;done)
    ·simp only[bO]at hp
     rw[hp]at h3⊢;simpa [Instr.loadAt,Instr.sureAddr,asAddr]using h3
    simp only[bO]at hp;obtain⟨b,off,e2,_⟩:=hp;rw[e2]at h3⊢;simpa [Instr.loadAt,Instr.sureAddr,asAddr]using h3
   simp only[List.mapM_cons,Sem.run_bind]at h5⊢;simp only[h5,Result.andThen_ok,h1,Sem.run_pure]
theorem qQ {E:fR} {γ:gD} {S:dL} {H:Hp} {w:World} {fr:Fr} {a:Act} (hst:St E γ S H w) (hf:gO S w fr a) {fn:Func} {v:AV} (h:aL E.P fr H fn.results.toList=some v):
  ∃u,(results fn a.tmps).run E.P w= .ok u w∧bO S w v u:=by
 unfold aL at h
 have key: ∀vs,bJ E.P fr H fn.results.toList=some vs→ ∃us:List Value,(results fn a.tmps).run E.P w= .ok (if h:us.toArray.size=1 then us.toArray[0]else .tuple us.toArray) w∧bW S w vs us:=fun vs hv=>by
  obtain⟨us,h1,h2⟩:=rG hst hf _ vs hv;refine⟨us, ?_,h2⟩;unfold results;rw[Array.mapM_eq_mapM_toList];simp only[Sem.run_bind,Sem.run_map,Sem.run_pure];exact congrArg (fun r:Result (List Value)=>(r.andThen fun a w'=>Result.ok a.toArray w').andThen fun a w'=>Result.ok (if h:a.size=1 then a[0]else Value.tuple a) w') h1
 split at h
 ·rename_i v' hv
  cases h;obtain⟨us,h1,h2⟩:=key _ hv;simp only[bW]at h2;obtain⟨u,us',rfl,h3,rfl⟩:=h2;exact⟨u,by simpa using h1,h3⟩
 ·rename_i vs hne hv
  cases h;obtain⟨us,h1,h2⟩:=key _ hv
  have hl: ¬us.toArray.size=1:=by
   intro e;have:=h2.length;simp at e;rw[e]at this
   match vs,this with
   |[v'],_=>exact hne v' rfl
  rw[dif_neg hl]at h1;exact⟨_,h1,by simp only[bO];exact⟨us,rfl,h2⟩⟩
 cases h
def fZ (v:AV) (H:Hp) (v':AV) (H':Hp):Prop:= ∀(E:fR) (γ:gD) (S:dL) (w:World) (x:Value),St E γ S H w→bO S w v x→ ∃S',eC S S' w w∧St E γ S' H' w∧bO S' w v' x
theorem fZ.refl (v:AV) (H:Hp):fZ v H v H:=fun _ _ S _ _ h1 h2=>⟨S,⟨fun _ _=>rfl,fun _ _ h=>h,fun _ h=>h⟩,h1,h2⟩
theorem fZ.trans {v v' v'':AV} {H H' H'':Hp} (h:fZ v H v' H') (h':fZ v' H' v'' H''):fZ v H v'' H'':=fun E γ S w x h1 h2=>by
 obtain⟨S1,k1,s1,r1⟩:=h E γ S w x h1 h2;obtain⟨S2,k2,s2,r2⟩:=h' E γ S1 w x s1 r1;exact⟨S2,⟨fun _ _=>rfl,fun _ _ h=>h,fun _ h=>k2.sub _ (k1.sub _ h)⟩,s2,r2⟩
theorem fZ.sub {v v':AV} {H:Hp} (h:dQ v v'):fZ v H v' H:=fun _ _ S _ _ h1 h2=>⟨S,⟨fun _ _=>rfl,fun _ _ h=>h,fun _ h=>h⟩,h1,h _ _ _ h2⟩
theorem fZ.drop {v:AV} {H H':Hp} (h:mQ H' H):fZ v H v H':=fun _ _ S w _ h1 h2=>
 ⟨S,⟨fun _ _=>rfl,fun _ _ h=>h,fun _ h=>h⟩,h1.step (iY.refl (fun _=>False) w) (fun _ h=>h.elim) (fun _ h=>h) h1.lt (fun k hk=> .inl hk) fun b o hb=>⟨(h1.obj b o (h b o hb)).2.1, .inl ⟨h b o hb,fun h=>h⟩⟩,h2⟩
def lC (b sz:Nat) (l:List (List AV)) (v v':AV):Prop:= ∀(S:dL) (w:World) (x:Value),S b→bZ S w b 0 sz l→bO S w v x→bO S w v' x
theorem lC.refl (b sz:Nat) (l:List (List AV)) (v:AV):lC b sz l v v:=fun _ _ _ _ _ h=>h
theorem lC.osl (b sz:Nat) (l:List (List AV)):lC b sz l (.osl sz b l.length) (.isl sz l):=fun S w x hb hr h=>by
 simp only[bO]at *;obtain⟨cap,e,h1,_,h3,h4⟩:=h;exact⟨_,cap,h1,h3,h4, .inr ⟨b,0,rfl,hb,hr⟩⟩
theorem lC.list {b sz:Nat} {l:List (List AV)} {S:dL} {w:World} (hb:S b) (hr:bZ S w b 0 sz l): ∀{vs vs':List AV} {us:List Value},vs.length=vs'.length→(∀(i:Nat) v v',vs[i]?=some v→vs'[i]?=some v'→lC b sz l v v')→bW S w vs us→bW S w vs' us
 |[],[],_,_,_,h=>h
 |[],_::_,_,hl,_,_=>by simp at hl
 |_::_,[],_,hl,_,_=>by simp at hl
 |v::vs,v'::vs',us,hl,hf,h=>by
  simp only[bW]at *;obtain⟨u,us',rfl,h1,h2⟩:=h;exact⟨u,us',rfl,hf 0 v v' rfl rfl S w u hb hr h1,lC.list hb hr (by simpa using hl) (fun i a c ha hc=>hf (i+1) a c (by simpa using ha) (by simpa using hc)) h2⟩
theorem lC.cons {b sz:Nat} {l:List (List AV)} {v v':AV} {vs vs':List AV} (h:lC b sz l v v') (h':lC b sz l (.tup vs) (.tup vs')):lC b sz l (.tup (v::vs)) (.tup (v'::vs')):=fun S w x hb hr hx=>by
 simp only[bO,bW]at hx⊢;obtain⟨us,rfl,u,us',rfl,h1,h2⟩:=hx;have h3:=h' S w (.tuple us'.toArray) hb hr (by simp only[bO];exact⟨us',rfl,h2⟩);simp only[bO]at h3;obtain⟨ws,e,h3⟩:=h3;have e2:us'=ws:=by simpa using e
 subst e2;exact⟨u::us',rfl,u,us',rfl,h S w u hb hr h1,h3⟩
theorem fZ.freeze {b sz:Nat} {l:List (List AV)} {v v':AV} {H:Hp} (hb:H b=some (.rows sz l)) (h:lC b sz l v v'):fZ v H v' (upd H b none):=fun E γ S w x h1 h2=>by
 have hk:eC S (fun k=>S k∨k=b) w w:=⟨fun _ _=>rfl,fun _ _ h=>h,fun _ h=> .inl h⟩;have ho:=(h1.obj b _ hb).1;have hlt:=ho.lt;simp only[eR]at ho;obtain⟨cs,e,_,_,hr⟩:=ho;refine⟨fun k=>S k∨k=b,hk, ?_,h _ w x (.inr rfl) (bZ.mono hk l b 0 sz rfl hr) (bO.mono hk _ _ h2)⟩;refine h1.step (iY.refl (fun _=>False) w) (fun _ h=>h.elim) (fun _ h=> .inl h) (fun k hk=>?_) (fun k hk=>?_) fun b' o hb'=>?_
 ·rcases hk with hk|hk
  ·exact h1.lt k hk
  exact hk▸hlt
 ·rcases hk with hk|hk
  ·exact .inl hk
  exact .inr (.inl (by rw[hk,hb];simp))
 simp only[upd]at hb';split at hb'
 ·cases hb'
 rename_i hne;refine⟨fun hs=>?_, .inl ⟨hb',fun h=>h⟩⟩;rcases hs with hs|hs
 ·exact(h1.obj b' o hb').2.1 hs
 exact hne hs
def tV (args:List AV):Fr:=fun t=>args.getD t (.tup [])
def bB (R:vK→Hp→Prop) (v:AV) (H:Hp):Prop:= ∃v' H',fZ v H v' H'∧R (.ret v') H'
theorem bB.self {R:vK→Hp→Prop} {v:AV} {H:Hp} (h:R (.ret v) H):bB R v H:=⟨v,H,fZ.refl _ _,h⟩
def aZ (P:Program) (rs:List ResultVar) (R:vK→Hp→Prop):dN
 | .normal,fr,H| .ret,fr,H=>match aL P fr H rs with |some v=>bB R v H|none=>False
 | .pan v,_,H=>R (.pan v) H
 | .exit _,_,_=>False
theorem bM {E:fR} {f:FuncId} {fn:Func} {c:Code} {args:List AV} {H0:Hp} {R:vK→Hp→Prop} (N:Nat) (rs:List ResultVar) (hf:E.P.funcs[f]?=some fn) (hb:fn.body=some c) (hname:(fn.name== "runtime.NumGoroutine")=false) (hN:args.length+(fn.ntmps-args.length)=N) (hrs:fn.results.toList=rs)
  (h:jV E N c (aZ E.P rs R) (tV args) H0) (hN2:N/1048576=0:=by rfl):rK E f args H0 R:=by
 subst hrs;have hN3:N % 1048576=N:=by omega
 refine⟨⟨fn,hf,hname,by rw[hb];rfl⟩,fun w0 S0 vs hst hargs=>?_⟩;have hl:=hargs.length;refine calls_of_wp hf hb ?_
 have hsim:Ff E ⟨w0,G5 H0,S0,[],fun _=>Go.undef⟩ N (tV args) H0 {tmps:=vs.toArray++Array.replicate (fn.ntmps-vs.toArray.size) Go.undef,defers:=[]} w0:=by
  refine⟨⟨rfl,fun t ht=>by omega⟩,by simp [hl,hN,hN3],S0,hst,fun t=>?_⟩;simp only[tV];by_cases ht:t<args.length
  ·obtain⟨v,hv,hr⟩:=hargs.get t (aG ht)
   have e1:args.getD t (.tup [])=args[t]:=by simp [List.getD,ht]
   have e2:(vs.toArray++Array.replicate (fn.ntmps-vs.toArray.size) Go.undef).getD t Go.undef=v:=by
    have hlt:t<vs.length:=by omega
    simp only[Array.getD_eq_getD_getElem?];rw[Array.getElem?_append_left (by simpa using hlt)];simp [hv]
   rw[e1,e2];exact hr
  have e1:args.getD t (.tup [])= .tup []:=by simp [List.getD,List.getElem?_eq_none (Nat.le_of_not_lt ht)]
  have e2:(vs.toArray++Array.replicate (fn.ntmps-vs.toArray.size) Go.undef).getD t Go.undef=Go.undef:=by
   simp only[Array.getD_eq_getD_getElem?];rw[Array.getElem?_append_right (by simp;omega)];simp only[Array.getElem?_replicate];split<;>rfl
  rw[e1,e2];simp only[bO];exact⟨[],rfl,by simp only[bW]⟩
 refine wp_mono (h _ _ _ hsim) fun e a w hl=>?_;cases e<;>simp only[oY,aZ,bodyPost]at hl⊢
 ·obtain⟨fr,H,⟨h1,h2,S,hst',hf'⟩,hq⟩:=hl
  refine⟨h1.1, ?_⟩;split at hq<;>try (exact hq.elim)
  rename_i v hv;obtain⟨u,r1,r2⟩:=qQ hst' hf' hv;obtain⟨v',H',ht,hR⟩:=hq;obtain⟨S',_,s1,s2⟩:=ht _ _ _ _ _ hst' r2;exact⟨u,r1,_,H',S',s1,by simp only[nW];exact⟨u,rfl,s2⟩,hR⟩
 ·obtain⟨fr,H,_,hq⟩:=hl;exact hq.elim
 ·obtain⟨fr,H,⟨h1,h2,S,hst',hf'⟩,hq⟩:=hl
  refine⟨h1.1, ?_⟩;split at hq<;>try (exact hq.elim)
  rename_i v hv;obtain⟨u,r1,r2⟩:=qQ hst' hf' hv;obtain⟨v',H',ht,hR⟩:=hq;obtain⟨S',_,s1,s2⟩:=ht _ _ _ _ _ hst' r2;exact⟨u,r1,_,H',S',s1,by simp only[nW];exact⟨u,rfl,s2⟩,hR⟩
 obtain⟨h1,v,v',S,H,rfl,hst',hv,hR⟩:=hl;exact⟨h1.1,_,H,S,hst',by simp only[nW];exact⟨v',rfl,hv⟩,hR⟩
end Go.Al
