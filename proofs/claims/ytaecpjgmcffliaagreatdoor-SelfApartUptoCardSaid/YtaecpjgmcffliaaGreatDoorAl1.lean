/- A little logic over the model, of this repository's own: abstract values, how a value of the model stands for one, and what of it a step of the world leaves alone. It speaks of no program. The little logic, second part: plain facts on rows and lists of cells; constants; what is known of a type. The little logic, third part: frames, the part of memory that is owned, and the operations that only read. The little logic, fourth part: the operations that only read, one function for all of them, and that it tells what the model does. The little logic, fifth part: the operations that only read, one function for all of them, and that it tells what the model does. The little logic, sixth part: what the function of the operations that only read tells is what the model does. The little logic, seventh part: the rest of the operations that only read; all of them. -/
import Derived.WalkKit
import Derived.ProofKit
import Derived.Laws.BytesArg
set_option linter.unusedSimpArgs false
set_option linter.unusedVariables false
set_option maxRecDepth 10000
namespace Go.Al
theorem aC:type_of% @List.length_map:= @List.length_map
theorem aD:type_of% @of_decide_eq_true:= @of_decide_eq_true
theorem aE:type_of% @of_decide_eq_false:= @of_decide_eq_false
theorem bQ:type_of% @decide_eq_true:= @decide_eq_true
theorem aX:type_of% @decide_eq_false:= @decide_eq_false
theorem aG:type_of% @List.getElem?_eq_getElem:= @List.getElem?_eq_getElem
theorem aV:type_of% @IntWalk.i64_in:= @IntWalk.i64_in
theorem bH:type_of% @Option.map_eq_some_iff:= @Option.map_eq_some_iff
theorem bE:type_of% @List.getElem_mem:= @List.getElem_mem
theorem bV:type_of% @List.getElem?_eq_some_iff:= @List.getElem?_eq_some_iff
theorem fG:type_of% @List.mem_of_getElem?:= @List.mem_of_getElem?
theorem bD:type_of% @List.drop_eq_getElem_cons:= @List.drop_eq_getElem_cons
theorem bL:type_of% @List.take_succ_eq_append_getElem:= @List.take_succ_eq_append_getElem
theorem dD:type_of% @Option.some_ne_none:= @Option.some_ne_none
theorem bA:type_of% @Bool.and_eq_true:= @Bool.and_eq_true
theorem bC:type_of% @decide_eq_true_eq:= @decide_eq_true_eq
theorem aI:type_of% @List.length_append:= @List.length_append
theorem dR:type_of% @List.length_take:= @List.length_take
theorem bU:type_of% @Option.bind_eq_some_iff:= @Option.bind_eq_some_iff
theorem cE:type_of% @List.getElem?_map:= @List.getElem?_map
theorem bF:type_of% @Nat.le_refl:= @Nat.le_refl
theorem aQ:type_of% @List.length_cons:= @List.length_cons
theorem CN:type_of% @List.length_replicate:= @List.length_replicate
inductive AV where
 |undef
 |bool (b:Bool)
 |int (k:IntKind) (n:Int)
 |str (s:List UInt8)
 |agg (cs:List AV)
 |isl (sz:Nat) (l:List (List AV))
 |nsl
 |osl (sz b len:Nat)
 |sub (sz b off len:Nat)
 |ptr (sz b i j:Nat)
 |ipt (row:List AV) (j:Nat)
 |npt
 |mp (b:Nat)
 |imp (ks vs:List AV)
 |nmp
 |fn (f:Fn) (first captured:List AV)
 |nfn
 |ifc (t:TypeId) (v:AV)
 |nif
 |tup (vs:List AV)
abbrev dL:=Nat→Prop
mutual
def bO (S:dL) (w:World):AV→Value→Prop
 | .undef,_=>True
 | .bool b,v=>v= .bool b
 | .int k n,v=>v= .int k n
 | .str s,v=>v= .string ⟨s.toArray⟩
 | .agg cs,v=> ∃vs:List Value,v= .agg vs.toArray∧bW S w cs vs
 | .isl sz l,v=> ∃oa cap,v= .slice oa l.length cap∧l.length≤cap∧cap≤maxLen∧
   (l=[]∨ ∃b off,oa=some ⟨b,off,none⟩∧S b∧bZ S w b off sz l)
 | .nsl,v=>v= .slice none 0 0
 | .osl sz b len,v=> ∃cap e,v= .slice (some ⟨b,0,none⟩) len cap∧w.shape? b=some (e,cap *sz)∧len≤cap∧cap≤maxLen
 | .sub sz b off len,v=> ∃cap a,v= .slice a len cap∧(len=0∨a=some ⟨b,off *sz,none⟩)∧len≤cap∧cap≤maxLen
 | .ptr sz b i j,v=>v= .pointer (some ⟨b,i *sz+j,none⟩)
 | .ipt row j,v=> ∃b off,v= .pointer (some ⟨b,off+j,none⟩)∧S b∧cL S w b off row
 | .npt,v=>v= .pointer none
 | .mp b,v=>v= .map (some b)
 | .imp ks xs,v=> ∃b,v= .map (some b)∧S b∧ ∃mes clock,w.heap[b]?=some (.map mes clock)∧bW S w ks (mes.toList.map fun e=>e.key)∧bW S w xs (mes.toList.map fun e=>e.val)
 | .nmp,v=>v= .map none
 | .fn f first captured,v=> ∃vs us:List Value,v= .func f vs.toArray us.toArray∧bW S w first vs∧bW S w captured us
 | .nfn,v=>v= .nilFunc
 | .ifc t x,v=> ∃u,v= .iface t u∧bO S w x u
 | .nif,v=>v= .nilIface
 | .tup xs,v=> ∃vs:List Value,v= .tuple vs.toArray∧bW S w xs vs
def bW (S:dL) (w:World):List AV→List Value→Prop
 |[],vs=>vs=[]
 |x::xs,vs=> ∃u us,vs=u::us∧bO S w x u∧bW S w xs us
def cL (S:dL) (w:World) (b:Nat):Nat→List AV→Prop
 |_,[]=>True
 |off,x::xs=>(∃u,w.cell? ⟨b,off,none⟩=some u∧bO S w x u)∧cL S w b (off+1) xs
def bZ (S:dL) (w:World) (b:Nat):Nat→Nat→List (List AV)→Prop
 |_,_,[]=>True
 |off,sz,r::rs=>r.length=sz∧cL S w b off r∧bZ S w b (off+sz) sz rs
end
structure iY (M:Nat→Prop) (w w':World):Prop where
 os:w'.os=w.os
 tape:w'.tape=w.tape
 output:w'.output=w.output
 size:w.heap.size≤w'.heap.size
 keep: ∀k,k<w.heap.size→ ¬M k→w'.heap[k]?=w.heap[k]?
 shp: ∀k sh,w.shape? k=some sh→w'.shape? k=some sh
theorem iY.refl (M:Nat→Prop) (w:World):iY M w w:=⟨rfl,rfl,rfl,bF _,fun _ _ _=>rfl,fun _ _ h=>h⟩
theorem iY.mono {M M':Nat→Prop} {w w':World} (h:iY M w w') (hm: ∀k,k<w.heap.size→M k→M' k):iY M' w w':=
 ⟨h.os,h.tape,h.output,h.size,fun k hk hn=>h.keep k hk (fun c=>hn (hm k hk c)),h.shp⟩
theorem iY.trans {M:Nat→Prop} {w w1 w2:World} (h:iY M w w1) (h':iY M w1 w2):iY M w w2:=
 ⟨h'.os.trans h.os,h'.tape.trans h.tape,h'.output.trans h.output,Nat.le_trans h.size h'.size,
  fun k hk hn=>(h'.keep k (Nat.lt_of_lt_of_le hk h.size) hn).trans (h.keep k hk hn),fun k sh hs=>h'.shp k sh (h.shp k sh hs)⟩
theorem iY.drew (M:Nat→Prop) (w:World):iY M w {w with drawn:=w.drawn+1}:=
 ⟨rfl,rfl,rfl,bF _,fun _ _ _=>rfl,fun _ _ h=>h⟩
theorem heap_alloc (w:World) (o:Obj) (k:Nat) (h:k<w.heap.size):(w.alloc o).heap[k]?=w.heap[k]?:=RowKit.Below.heap_alloc w o k h
theorem heap_setCell (w:World) (a:Addr) (u:Value) (k:Nat) (h:k≠a.block):(w.setCell a u).heap[k]?=w.heap[k]?:=RowKit.Below.heap_setCell w a u k h
theorem Hh {w:World} {k:Nat} {sh:TypeId×Nat} (hs:w.shape? k=some sh):k<w.heap.size:=by
 unfold World.shape? at hs;split at hs
 ·rename_i h;exact(Array.getElem?_eq_some_iff.1 h).1
 cases hs
theorem mH {w w':World} {k:Nat} (h:w'.heap[k]?=w.heap[k]?):w'.shape? k=w.shape? k:=by
 simp only[World.shape?,h]
theorem iY.alloc (M:Nat→Prop) (w:World) (o:Obj):iY M w (w.alloc o):=
 ⟨rfl,rfl,rfl,by simp,fun k hk _=>heap_alloc _ _ _ hk,fun k sh hs=>(mH (heap_alloc _ _ _ (Hh hs))).trans hs⟩
theorem iY.setCell {M:Nat→Prop} (w:World) (a:Addr) (v:Value) (h:M a.block):iY M w (w.setCell a v):=by
 refine⟨rfl,rfl,rfl,by simp,fun k hk hn=>heap_setCell _ _ _ _ (fun e=>hn (e▸h)),fun k sh hs=>?_⟩;by_cases hb:k=a.block
 ·subst hb
  have e:(w.setCell a v).heap[a.block]?=(w.heap[a.block]?).map fun
    | .cells c elem frozen=> .cells (if a.spot.isSome then c else c.setIfInBounds a.off v) elem frozen
    |o=>o:=by
   simp only[World.setCell,Array.getElem?_modify,if_true];rfl
  unfold World.shape? at *;rw[e]
  cases hh:w.heap[a.block]? with
  |none=>rw[hh]at hs;cases hs
  |some x=>
   rw[hh]at hs;cases x<;>simp only[Option.map_some]at * <;>first|cases hs|skip
   split<;>simp_all
 exact(mH (heap_setCell _ _ _ _ hb)).trans hs
theorem Oe {w w':World} {b:Nat} (h:w'.heap[b]?=w.heap[b]?) (o:Nat) (s:Option Nat):w'.cell? ⟨b,o,s⟩=w.cell? ⟨b,o,s⟩:=by
 simp only[World.cell?,h]
structure eC (S S':dL) (w w':World):Prop where
 heap: ∀k,S k→w'.heap[k]?=w.heap[k]?
 shp: ∀k sh,w.shape? k=some sh→w'.shape? k=some sh
 sub: ∀k,S k→S' k
mutual
theorem bO.mono {S S':dL} {w w':World} (Y:eC S S' w w'): ∀(x:AV) (v:Value),bO S w x v→bO S' w' x v
 | .undef,_,_=>by simp only[bO]
 | .bool _,_,h=>by simpa only[bO]using h
 | .int _ _,_,h=>by simpa only[bO]using h
 | .str _,_,h=>by simpa only[bO]using h
 | .agg cs,v,h=>by
   simp only[bO]at *;obtain⟨vs,e,h⟩:=h;exact⟨vs,e,bW.mono Y cs vs h⟩
 | .isl sz l,v,h=>by
   simp only[bO]at *;obtain⟨oa,cap,e,h1,h2,h3⟩:=h;refine⟨oa,cap,e,h1,h2, ?_⟩;rcases h3 with h3|⟨b,off,e2,hb,hr⟩
   ·exact .inl h3
   exact .inr ⟨b,off,e2,Y.sub _ hb,bZ.mono Y l b off sz (Y.heap b hb) hr⟩
 | .nsl,_,h=>by simpa only[bO]using h
 | .osl _ _ _,_,h=>by
   simp only[bO]at *;obtain⟨cap,e,h1,h2,h3⟩:=h;exact⟨cap,e,h1,Y.shp _ _ h2,h3⟩
 | .sub _ _ _ _,_,h=>by simpa only[bO]using h
 | .ptr _ _ _ _,_,h=>by simpa only[bO]using h
 | .ipt row _,_,h=>by
   simp only[bO]at *;obtain⟨b,off,e,hb,hr⟩:=h;exact⟨b,off,e,Y.sub _ hb,cL.mono Y row b off (Y.heap b hb) hr⟩
 | .npt,_,h=>by simpa only[bO]using h
 | .mp _,_,h=>by simpa only[bO]using h
 | .imp ks xs,_,h=>by
   simp only[bO]at *;obtain⟨b,e,hb,mes,clock,h1,h2,h3⟩:=h;exact⟨b,e,Y.sub _ hb,mes,clock,(Y.heap b hb).trans h1,bW.mono Y ks _ h2,bW.mono Y xs _ h3⟩
 | .nmp,_,h=>by simpa only[bO]using h
 | .fn _ first captured,_,h=>by
   simp only[bO]at *;obtain⟨vs,us,e,h1,h2⟩:=h;exact⟨vs,us,e,bW.mono Y first vs h1,bW.mono Y captured us h2⟩
 | .nfn,_,h=>by simpa only[bO]using h
 | .ifc _ x,_,h=>by
   simp only[bO]at *;obtain⟨u,e,h1⟩:=h;exact⟨u,e,bO.mono Y x u h1⟩
 | .nif,_,h=>by simpa only[bO]using h
 | .tup xs,_,h=>by
   simp only[bO]at *;obtain⟨vs,e,h1⟩:=h;exact⟨vs,e,bW.mono Y xs vs h1⟩
theorem bW.mono {S S':dL} {w w':World} (Y:eC S S' w w'): ∀(xs:List AV) (vs:List Value),bW S w xs vs→bW S' w' xs vs
 |[],_,h=>by simpa only[bW]using h
 |x::xs,vs,h=>by
  simp only[bW]at *;obtain⟨u,us,e,h1,h2⟩:=h;exact⟨u,us,e,bO.mono Y x u h1,bW.mono Y xs us h2⟩
theorem cL.mono {S S':dL} {w w':World} (Y:eC S S' w w'): ∀(row:List AV) (b off:Nat),w'.heap[b]?=w.heap[b]?→cL S w b off row→cL S' w' b off row
 |[],_,_,_,_=>by simp only[cL]
 |x::xs,b,off,hb,h=>by
  simp only[cL]at *;obtain⟨⟨u,e,h1⟩,h2⟩:=h;exact⟨⟨u,(Oe hb off none).trans e,bO.mono Y x u h1⟩,cL.mono Y xs b (off+1) hb h2⟩
theorem bZ.mono {S S':dL} {w w':World} (Y:eC S S' w w'): ∀(l:List (List AV)) (b off sz:Nat),w'.heap[b]?=w.heap[b]?→bZ S w b off sz l→bZ S' w' b off sz l
 |[],_,_,_,_,_=>by simp only[bZ]
 |r::rs,b,off,sz,hb,h=>by
  simp only[bZ]at *;exact⟨h.1,cL.mono Y r b off hb h.2.1,bZ.mono Y rs b (off+sz) sz hb h.2.2⟩
end
end Go.Al
namespace Go.Al
section
variable {S : dL} {w : World}
theorem bW.length: ∀{xs:List AV} {vs:List Value},bW S w xs vs→vs.length=xs.length
 |[],vs,h=>by simp only[bW]at h;subst h;rfl
 |x::xs,vs,h=>by
  simp only[bW]at h;obtain⟨u,us,rfl,_,h2⟩:=h;simp [bW.length h2]
theorem bW.get: ∀{xs:List AV} {vs:List Value} (i:Nat) {x:AV},bW S w xs vs→xs[i]?=some x→ ∃v,vs[i]?=some v∧bO S w x v
 |[],_,i,x,_,hx=>by simp at hx
 |y::xs,vs,i,x,h,hx=>by
  simp only[bW]at h;obtain⟨u,us,rfl,h1,h2⟩:=h
  cases i with
  |zero=>simp at hx;subst hx;exact⟨u,rfl,h1⟩
  |succ i=>simp at hx;obtain⟨v,e,hv⟩:=bW.get i h2 hx;exact⟨v,by simpa using e,hv⟩
theorem bW.drop: ∀{xs:List AV} {vs:List Value} (n:Nat),bW S w xs vs→bW S w (xs.drop n) (vs.drop n)
 |_,_,0,h=>by simpa using h
 |[],vs,n+1,h=>by simp only[bW]at h;subst h;simp [bW]
 |y::xs,vs,n+1,h=>by
  simp only[bW]at h;obtain⟨u,us,rfl,_,h2⟩:=h;simpa using bW.drop n h2
theorem bW.take: ∀{xs:List AV} {vs:List Value} (n:Nat),bW S w xs vs→bW S w (xs.take n) (vs.take n)
 |_,_,0,_=>by simp [bW]
 |[],vs,n+1,h=>by simp only[bW]at h;subst h;simp [bW]
 |y::xs,vs,n+1,h=>by
  simp only[bW]at h;obtain⟨u,us,rfl,h1,h2⟩:=h;simp only[List.take_succ_cons,bW];exact⟨u,us.take n,rfl,h1,bW.take n h2⟩
theorem bW.append: ∀{xs ys:List AV} {vs us:List Value},bW S w xs vs→bW S w ys us→bW S w (xs++ys) (vs++us)
 |[],_,vs,_,h,h'=>by simp only[bW]at h;subst h;simpa using h'
 |x::xs,_,vs,_,h,h'=>by
  simp only[bW]at h;obtain⟨u,us,rfl,h1,h2⟩:=h;simp only[List.cons_append,bW];exact⟨u,_,rfl,h1,bW.append h2 h'⟩
theorem bW.set: ∀{xs:List AV} {vs:List Value} (n:Nat) {x:AV} {v:Value},bW S w xs vs→bO S w x v→bW S w (xs.set n x) (vs.set n v)
 |[],vs,n,_,_,h,_=>by simp only[bW]at h;subst h;simp [bW]
 |y::xs,vs,0,x,v,h,hv=>by
  simp only[bW]at h;obtain⟨u,us,rfl,_,h2⟩:=h;simp only[List.set_cons_zero,bW];exact⟨v,us,rfl,hv,h2⟩
 |y::xs,vs,n+1,x,v,h,hv=>by
  simp only[bW]at h;obtain⟨u,us,rfl,h1,h2⟩:=h;simp only[List.set_cons_succ,bW];exact⟨u,_,rfl,h1,bW.set n h2 hv⟩
theorem bW.of_get: ∀{xs:List AV} {vs:List Value},vs.length=xs.length→(∀(i:Nat) (x:AV) (v:Value),xs[i]?=some x→vs[i]?=some v→bO S w x v)→bW S w xs vs
 |[],vs,hl,_=>by cases vs with |nil=>simp [bW]|cons=>simp at hl
 |x::xs,vs,hl,h=>by
  cases vs with
  |nil=>simp at hl
  |cons v vs=>
   simp only[bW];exact⟨v,vs,rfl,h 0 x v rfl rfl,bW.of_get (by simpa using hl) fun i x v hx hv=>h (i+1) x v (by simpa using hx) (by simpa using hv)⟩
theorem cL.vals: ∀{row:List AV} {b off:Nat},cL S w b off row→ ∃vs,bW S w row vs∧ ∀j v,vs[j]?=some v→w.cell? ⟨b,off+j,none⟩=some v
 |[],b,off,_=>⟨[],by simp [bW],by simp⟩
 |x::xs,b,off,h=>by
  simp only[cL]at h;obtain⟨⟨u,e,h1⟩,h2⟩:=h;obtain⟨vs,hl,hc⟩:=cL.vals h2;refine⟨u::vs,by simp only[bW];exact⟨u,vs,rfl,h1,hl⟩,fun j v hj=>?_⟩
  cases j with
  |zero=>simp at hj;subst hj;simpa using e
  |succ j=>simp at hj;have:=hc j v hj;rwa [show off+1+j=off+(j+1)by omega]at this
theorem cL.of_vals: ∀{row:List AV} {vs:List Value} {b off:Nat},bW S w row vs→(∀j v,vs[j]?=some v→w.cell? ⟨b,off+j,none⟩=some v)→cL S w b off row
 |[],_,b,off,_,_=>by simp only[cL]
 |x::xs,vs,b,off,h,hc=>by
  simp only[bW]at h;obtain⟨u,us,rfl,h1,h2⟩:=h;simp only[cL]
  exact⟨⟨u,by simpa using hc 0 u rfl,h1⟩,cL.of_vals h2 fun j v hj=>by
   have:=hc (j+1) v (by simpa using hj);rwa [show off+(j+1)=off+1+j by omega]at this⟩
theorem cL.get {row:List AV} {b off:Nat} (h:cL S w b off row) (j:Nat) {x:AV} (hx:row[j]?=some x):
  ∃v,w.cell? ⟨b,off+j,none⟩=some v∧bO S w x v:=by
 obtain⟨vs,hl,hc⟩:=h.vals;obtain⟨v,hv,hr⟩:=hl.get j hx;exact⟨v,hc j v hv,hr⟩
theorem bZ.get: ∀{l:List (List AV)} {b off sz:Nat} (i:Nat) {row:List AV},bZ S w b off sz l→l[i]?=some row→row.length=sz∧cL S w b (off+i *sz) row
 |[],_,_,_,i,_,_,hr=>by simp at hr
 |r::rs,b,off,sz,i,row,h,hr=>by
  simp only[bZ]at h
  cases i with
  |zero=>simp at hr;subst hr;exact⟨h.1,by simpa using h.2.1⟩
  |succ i=>
   simp at hr;obtain⟨h1,h2⟩:=bZ.get i h.2.2 hr;exact⟨h1,by rwa [show off+sz+i *sz=off+(i+1) *sz by rw[Nat.add_mul];omega]at h2⟩
theorem bZ.of_get: ∀{l:List (List AV)} {b off sz:Nat},(∀i row,l[i]?=some row→row.length=sz∧cL S w b (off+i *sz) row)→bZ S w b off sz l
 |[],_,_,_,_=>by simp only[bZ]
 |r::rs,b,off,sz,h=>by
  simp only[bZ];refine⟨(h 0 r rfl).1,by simpa using(h 0 r rfl).2,bZ.of_get fun i row hr=>?_⟩;have:=h (i+1) row (by simpa using hr);rwa [show off+(i+1) *sz=off+sz+i *sz by rw[Nat.add_mul];omega]at this
theorem bZ.drop {l:List (List AV)} {b off sz:Nat} (h:bZ S w b off sz l) (n:Nat):bZ S w b (off+n *sz) sz (l.drop n):=
 bZ.of_get fun i row hr=>by
  have:=bZ.get (n+i) h (by simpa [List.getElem?_drop]using hr);rwa [show off+(n+i) *sz=off+n *sz+i *sz by rw[Nat.add_mul];omega]at this
theorem bZ.take {l:List (List AV)} {b off sz:Nat} (h:bZ S w b off sz l) (n:Nat):bZ S w b off sz (l.take n):=
 bZ.of_get fun i row hr=>bZ.get i h (by rw[List.getElem?_take]at hr;split at hr<;>simp_all)
end
def yN:Value→AV
 | .bool b=> .bool b
 | .int k n=> .int k n
 | .string s=> .str s.data.toList
 | .slice none 0 0=> .nsl
 | .pointer none=> .npt
 | .map none=> .nmp
 | .nilFunc=> .nfn
 | .nilIface=> .nif
 |_=> .undef
def vJ:Value→AV
 | .agg cs=> .agg (cs.toList.map yN)
 |v=>yN v
theorem Jv (S:dL) (w:World) (v:Value):bO S w (yN v) v:=by
 unfold yN;split<;>simp only[bO]
theorem Jy (S:dL) (w:World): ∀vs:List Value,bW S w (vs.map yN) vs
 |[]=>by simp only[List.map_nil,bW]
 |v::vs=>by
  simp only[List.map_cons,bW];exact⟨v,vs,rfl,Jv S w v,Jy S w vs⟩
theorem iD (S:dL) (w:World) (v:Value):bO S w (vJ v) v:=by
 unfold vJ;split
 ·simp only[bO]
  exact⟨_,rfl,Jy S w _⟩
 exact Jv S w _
inductive TK where
 |int (k:IntKind)
 |bool
 |str
 |slice (e:TypeId)
 |ptr (e:TypeId)
 |array (n:Nat) (e:TypeId)
 |map (k e:TypeId)
 |strct (fs:List (TypeId×Nat))
 |iface
 |func
 |other
def TK.agg:TK→Bool
 | .array _ _| .strct _=>true
 |_=>false
def qU:TypeDesc→TK
 | .int k=> .int k
 | .bool=> .bool
 | .string=> .str
 | .slice e=> .slice e
 | .pointer e=> .ptr e
 | .array n e=> .array n e
 | .map k e=> .map k e
 | .struct fs=> .strct (fs.toList.map fun f=>(f.type,f.offset))
 | .interface _=> .iface
 | .func _ _ _=> .func
 |_=> .other
structure TI where
 k:TK
 size:Nat
 bytes:Nat
 zero:AV
def bP (P:Program) (t:TypeId):Option TI:=
 match P.underlying t,P.info? t with
 |some d,some i=>i.zero.map fun z=>⟨qU d,i.size,i.bytes,vJ z⟩
 |_,_=>none
theorem eW {P:Program} {t:TypeId} {ti:TI} (h:bP P t=some ti):
  ∃d i z,P.underlying t=some d∧P.info? t=some i∧i.zero=some z∧ti=⟨qU d,i.size,i.bytes,vJ z⟩:=by
 unfold bP at h;split at h
 ·rename_i d i h1 h2
  rw[bH]at h;obtain⟨z,hz,rfl⟩:=h;exact⟨d,i,z,h1,h2,hz,rfl⟩
 cases h
section
variable {P : Program} {t : TypeId} {ti : TI}
theorem Am (h:bP P t=some ti) (w:World):(isAgg t).run P w= .ok ti.k.agg w:=by
 obtain⟨d,i,z,h1,h2,hz,rfl⟩:=eW h;simp only[isAgg,Sem.run_bind,run_underlying h1,Result.andThen_ok];cases d<;>simp [qU,TK.agg]
theorem dV (h:bP P t=some ti) (w:World):(sizeOf t).run P w= .ok ti.size w:=by
 obtain⟨d,i,z,h1,h2,hz,rfl⟩:=eW h;simp [sizeOf,typeInfo,h2]
theorem gJ (h:bP P t=some ti) (w:World): ∃z,(zeroValue t).run P w= .ok z w∧ti.zero=vJ z:=by
 obtain⟨d,i,z,h1,h2,hz,rfl⟩:=eW h;exact⟨z,by simp [zeroValue,typeInfo,h2,hz],rfl⟩
end
end Go.Al
namespace Go.Al
abbrev Fr:=Nat→AV
def upd {α:Type} (f:Nat→α) (i:Nat) (v:α):Nat→α:=fun j=>if j=i then v else f j
theorem aS {α:Type} (f:Nat→α) (i:Nat) (v:α):upd f i v i=v:=by simp [upd]
theorem dK {α:Type} (f:Nat→α) {i j:Nat} (v:α) (h:j≠i):upd f i v j=f j:=by simp [upd,h]
theorem Vl {α:Type} (f:Nat→α) {i j:Nat} (v u:α) (h:i≠j):upd (upd f i v) j u=upd (upd f j u) i v:=by
 funext k;unfold upd;by_cases h1:k=j<;>by_cases h2:k=i<;>simp_all
def dF (fr:Fr) (d:Option Nat) (v:AV):Fr:=match d with |some i=>upd fr i v|none=>fr
inductive iG where
 |rows (sz:Nat) (l:List (List AV))
 |amap (es:List (AV×AV))
 |bld (ty:TypeId) (g:Option (Nat×Nat)) (n:Nat)
 |buf (ty:TypeId) (bs:List UInt8) (cap:Nat)
abbrev Hp:=Nat→Option iG
def lG:Hp:=fun _=>none
def dB (S:dL) (w:World):List (AV×AV)→List MapEntry→Prop
 |[],es=>es=[]
 |(k,v)::r,es=> ∃e es',es=e::es'∧bO S w k e.key∧bO S w v e.val∧dB S w r es'
def eR (S:dL) (w:World) (b:Nat):iG→Prop
 | .rows sz l=> ∃cs e,w.heap[b]?=some (.cells cs e (0,0))∧l.length *sz≤cs.size∧bZ S w b 0 sz l
 | .amap es=> ∃mes clock,w.heap[b]?=some (.map mes clock)∧dB S w es mes.toList
 | .bld ty g n=> ∃p,w.heap[b]?=some (.cells #[p,(match g with |none=> .slice none 0 0|some (g,cap)=> .slice (some ⟨g,0,none⟩) n cap)] ty (0,0))∧(p= .pointer none∨p= .pointer (some ⟨b,0,none⟩))
 | .buf ty bs cap=> ∃cur,w.heap[b]?=some (.cells cur ty (0,0))∧cur.size=cap∧bs.length≤cap∧cap≤maxLen∧ ∀(i:Nat) c,bs[i]?=some c→cur[i]?=some (.int .u8 c.toNat)
theorem dB.mono {S S':dL} {w w':World} (Y:eC S S' w w'): ∀(es:List (AV×AV)) (ms:List MapEntry),dB S w es ms→dB S' w' es ms
 |[],_,h=>by simpa only[dB]using h
 |(k,v)::r,ms,h=>by
  simp only[dB]at *;obtain⟨e,es',h0,h1,h2,h3⟩:=h;exact⟨e,es',h0,bO.mono Y k _ h1,bO.mono Y v _ h2,dB.mono Y r es' h3⟩
theorem eR.mono {S S':dL} {w w':World} (Y:eC S S' w w') {b:Nat} (hb:w'.heap[b]?=w.heap[b]?): ∀(o:iG),eR S w b o→eR S' w' b o
 | .rows sz l,h=>by
   simp only[eR]at *;obtain⟨cs,e,h1,h2,h3⟩:=h;exact⟨cs,e,hb.trans h1,h2,bZ.mono Y l b 0 sz hb h3⟩
 | .amap es,h=>by
   simp only[eR]at *;obtain⟨mes,clock,h1,h2⟩:=h;exact⟨mes,clock,hb.trans h1,dB.mono Y es _ h2⟩
 | .bld ty g n,h=>by
   simp only[eR]at *;obtain⟨p,h1,h2⟩:=h;exact⟨p,hb.trans h1,h2⟩
 | .buf ty bs cap,h=>by
   simp only[eR]at *;obtain⟨cur,h1,h2⟩:=h;exact⟨cur,hb.trans h1,h2⟩
theorem eR.lt {S:dL} {w:World} {b:Nat} {o:iG} (h:eR S w b o):b<w.heap.size:=by
 cases o<;>simp only[eR]at h
 ·obtain⟨_,_,h,_⟩:=h;exact(Array.getElem?_eq_some_iff.1 h).1
 ·obtain⟨_,_,h,_⟩:=h;exact(Array.getElem?_eq_some_iff.1 h).1
 ·obtain⟨_,h,_⟩:=h;exact(Array.getElem?_eq_some_iff.1 h).1
 obtain⟨_,h,_⟩:=h;exact(Array.getElem?_eq_some_iff.1 h).1
structure fR where
 P:Program
 G:Nat→Option (List AV)
structure gD where
 w0:World
 O:Nat→Prop
 S0:dL
 D:List Deferred
 pin:Nat→Value
structure St (E:fR) (γ:gD) (S:dL) (H:Hp) (w:World):Prop where
 lt: ∀k,S k→k<w.heap.size
 base: ∀k,γ.S0 k→S k
 src: ∀k,S k→γ.S0 k∨γ.O k∨γ.w0.heap.size≤k
 obj: ∀b o,H b=some o→eR S w b o∧ ¬S b∧(γ.O b∨γ.w0.heap.size≤b)
 ext:iY γ.O γ.w0 w
 glb: ∀g row,E.G g=some row→S g∧cL S w g 0 row
def gO (S:dL) (w:World) (fr:Fr) (a:Act):Prop:= ∀t,bO S w (fr t) (a.tmps.getD t Go.undef)
def ev (G:Nat→Option (List AV)) (fr:Fr):Operand→AV
 | .tmp t=>fr t
 | .const v=>vJ v
 | .global g=>match G g with |some row=> .ipt row 0|none=> .undef
 | .func f=> .fn (.func f) [] []
theorem cP {E:fR} {γ:gD} {S:dL} {H:Hp} {w:World} (hst:St E γ S H w) {fr:Fr} {a:Act} (hf:gO S w fr a) (x:Operand):
  bO S w (ev E.G fr x) (a.eval x):=by
 cases x with
 |tmp t=>exact hf t
 |const v=>exact iD S w v
 |global g=>
  simp only[ev,Act.eval];split
  ·rename_i row h
   obtain⟨h1,h2⟩:=hst.glb g row h;simp only[bO];exact⟨g,0,rfl,h1,h2⟩
  simp only[bO]
 |func f=>simp only[ev,Act.eval,bO,bW];exact⟨[],[],rfl,rfl,rfl⟩
def rd (ti:TI) (row:List AV) (j:Nat):Option AV:=
 if ti.k.agg then(if j+ti.size≤row.length then some (.agg ((row.drop j).take ti.size))else none)else row[j]?
theorem Ho {P:Program} {t:TypeId} {ti:TI} (ht:bP P t=some ti) {S:dL} {w:World} {b off:Nat} {row:List AV} (hr:cL S w b off row) {j:Nat} {v:AV} (h:rd ti row j=some v):
  ∃v',(loadVar t ⟨b,off+j,none⟩).run P w= .ok v' w∧bO S w v v':=by
 unfold rd at h;simp only[loadVar,Sem.run_bind,Am ht,Result.andThen_ok];split at h
 ·rename_i ha
  split at h
  ·rename_i hle
   obtain rfl:=(Option.some.inj h).symm;obtain⟨vs,hl,hc⟩:=hr.vals;have hl2:=(hl.drop j).take ti.size
   have hlen:((vs.drop j).take ti.size).length=ti.size:=by
    rw[dR,List.length_drop,hl.length];omega
   have hrun:=run_loadCells_list (P:=P) w ⟨b,off+j,none⟩ ((vs.drop j).take ti.size) (fun i x hx=>by
    rw[List.getElem?_take]at hx;split at hx
    ·rw[List.getElem?_drop]at hx
     have:=hc _ _ hx;rw[Addr.add_lit,show off+j+i=off+(j+i)by omega];exact this
    cases hx)
   rw[hlen]at hrun;simp only[ha,if_true,Sem.run_bind,dV ht,Result.andThen_ok,hrun,Sem.run_pure];exact⟨_,rfl,by simp only[bO];exact⟨_,rfl,hl2⟩⟩
  cases h
 rename_i ha;obtain⟨u,hu,hv⟩:=hr.get j h;simp only[ha,Bool.false_eq_true,if_false,run_load,hu];exact⟨u,rfl,hv⟩
def oG (H:Hp) (ti:TI):AV→Option AV
 | .ptr sz b i j=>match H b with
   |some (.rows sz' l)=>if sz=sz' then(l[i]?).bind fun row=>rd ti row j else none
   |_=>none
 | .ipt row j=>rd ti row j
 |_=>none
theorem vA {E:fR} {γ:gD} {S:dL} {H:Hp} {w:World} (hst:St E γ S H w) {t:TypeId} {ti:TI} (ht:bP E.P t=some ti) {x v:AV} {x':Value}
  (hx:bO S w x x') (h:oG H ti x=some v): ∃v',(Instr.loadAt t x').run E.P w= .ok v' w∧bO S w v v':=by
 cases x<;>simp only[oG]at h<;>try (cases h;done)
 case ptr sz b i j=>
  split at h
  ·rename_i sz' l hb
   split at h
   ·rename_i e
    subst e;rw[bU]at h;obtain⟨row,hrow,h⟩:=h;have ho:=(hst.obj b _ hb).1;simp only[eR]at ho;obtain⟨cs,e,_,_,hr⟩:=ho;obtain⟨_,hr⟩:=bZ.get i hr hrow;simp only[bO]at hx;subst hx;obtain⟨v',h1,h2⟩:=Ho ht hr h;refine⟨v', ?_,h2⟩;simp only[Instr.loadAt,Instr.sureAddr,pure_bind];rw[show i *sz+j=0+i *sz+j by omega];exact h1
   cases h
  cases h
 case ipt row j=>
  simp only[bO]at hx;obtain⟨b,off,rfl,_,hr⟩:=hx;obtain⟨v',h1,h2⟩:=Ho ht hr h;exact⟨v',by simpa only[Instr.loadAt,Instr.sureAddr,pure_bind]using h1,h2⟩
end Go.Al
namespace Go.Al
def gN (op:BinOp) (k:IntKind) (a:Int) (k':IntKind) (b:Int):Option AV:=
 match op with
 | .shl=>if 0≤b then some (.int k (k.wrap (a *2^(min b.toNat k.bits))))else none
 | .shr=>if 0≤b then some (.int k (a.fdiv (2^(min b.toNat k.bits))))else none
 | .add=>if k=k' then some (.int k (k.wrap (a+b)))else none
 | .sub=>if k=k' then some (.int k (k.wrap (a-b)))else none
 | .mul=>if k=k' then some (.int k (k.wrap (a *b)))else none
 | .quo=>if k=k'∧b≠0 then some (.int k (k.wrap (a.tdiv b)))else none
 | .rem=>if k=k'∧b≠0 then some (.int k (a.tmod b))else none
 | .and=>if k=k' then some (.int k (k.wrap (BitVec.ofInt k.bits a&&&BitVec.ofInt k.bits b).toNat))else none
 | .or=>if k=k' then some (.int k (k.wrap (BitVec.ofInt k.bits a|||BitVec.ofInt k.bits b).toNat))else none
 | .xor=>if k=k' then some (.int k (k.wrap (BitVec.ofInt k.bits a^^^BitVec.ofInt k.bits b).toNat))else none
 | .andNot=>if k=k' then some (.int k (k.wrap (BitVec.ofInt k.bits a&&& ~~~BitVec.ofInt k.bits b).toNat))else none
 | .eql=>if k=k' then some (.bool (decide (a=b)))else none
 | .neq=>if k=k' then some (.bool (!decide (a=b)))else none
 | .lss=>if k=k' then some (.bool (decide (a<b)))else none
 | .leq=>if k=k' then some (.bool (decide (a≤b)))else none
 | .gtr=>if k=k' then some (.bool (decide (b<a)))else none
 | .geq=>if k=k' then some (.bool (decide (b≤a)))else none
theorem Jd (a b:Bool):(a==b)=decide (a=b):=by cases a<;>cases b<;>rfl
theorem Qg (a b:Int):(a==b)=decide (a=b):=by rw[Bool.eq_iff_iff];simp
theorem O9 (a b:Int):(a !=b)= !decide (a=b):=by rw[Bool.eq_iff_iff];simp
theorem Ol {op:BinOp} {k k':IntKind} {a b:Int} {v:AV} (h:gN op k a k' b=some v) (P:Program) (S:dL) (w:World) (t:TypeId):
  ∃v',(binOp op t (.int k a) (.int k' b)).run P w= .ok v' w∧bO S w v v':=by
 unfold gN at h
 cases op<;>simp only[Option.ite_none_right_eq_some]at h<;>obtain⟨h1,h2⟩:=h<;>cases h2<;>first
  |(obtain⟨rfl,h0⟩:=h1
    simp [binOp,Op.intDiv,h0,bO])
  |(subst h1
    simp [binOp,Op.intArith,Op.intBits,Op.intCmp,Qg,O9,bO])
  |(have h0: ¬b<0:=by omega
    simp [binOp,Op.shift,h0,bO])
def nQ (op:BinOp) (a b:List UInt8):Option AV:=
 match op with
 | .add=>if a.length+b.length≤maxLen then some (.str (a++b))else none
 | .eql=>some (.bool (decide (a=b)))
 | .neq=>some (.bool (!decide (a=b)))
 | .lss=>some (.bool (Op.bytesLess a b))
 | .leq=>some (.bool (Op.bytesLess a b||decide (a=b)))
 | .gtr=>some (.bool (!(Op.bytesLess a b||decide (a=b))))
 | .geq=>some (.bool (!Op.bytesLess a b))
 |_=>none
theorem pX (a b:List UInt8):(a==b)=decide (a=b):=by rw[Bool.eq_iff_iff];simp
theorem pR (a:List UInt8):ByteArray.toList ⟨a.toArray⟩=a:=by rw[ByteArray.toList_eq]
theorem Oi {op:BinOp} {a b:List UInt8} {v:AV} (h:nQ op a b=some v) (P:Program) (S:dL) (w:World) (t:TypeId):
  ∃v',(binOp op t (.string ⟨a.toArray⟩) (.string ⟨b.toArray⟩)).run P w= .ok v' w∧bO S w v v':=by
 unfold nQ at h;cases op<;>first|(cases h;done)|skip
 case add=>
  simp only[Option.ite_none_right_eq_some]at h;obtain⟨h1,h2⟩:=h;cases h2
  have hm: ¬((a.length:Int)+(b.length:Int)>IntKind.i64.max):=by
   simp only[maxLen]at h1;simp [IntKind.max,IntKind.signed,IntKind.bits]at *;omega
  refine⟨.string ⟨(a++b).toArray⟩, ?_,by simp only[bO]⟩;simp only[binOp,Op.stringOp]
  have hs:((ByteArray.size ⟨a.toArray⟩+ByteArray.size ⟨b.toArray⟩:Nat):Int)=(a.length:Int)+(b.length:Int):=by
   simp [ByteArray.size]
  rw[hs,if_neg hm];simp only[Sem.run_pure];congr 2
 all_goals
  cases h;simp [binOp,Op.stringOp,pX,bO]
def gG:List TK→List AV→List AV→Option Bool
 |[],[],[]=>some true
 | .int _::ks, .int k a::xs, .int k' b::ys=>if k=k' then(gG ks xs ys).map (decide (a=b)&& ·)else none
 | .bool::ks, .bool a::xs, .bool b::ys=>(gG ks xs ys).map (decide (a=b)&& ·)
 | .str::ks, .str a::xs, .str b::ys=>(gG ks xs ys).map (decide (a=b)&& ·)
 |_,_,_=>none
def pV (P:Program) (t:TypeId):Option TK:=
 match P.underlying t with
 |some (.int k)=>some (.int k)
 |some .bool=>some .bool
 |some .string=>some .str
 |_=>none
def rX (P:Program):Nat→List Field→Option (List TK)
 |_,[]=>some []
 |i,f::fs=>if f.name≠ "_" ∧f.offset=i then(pV P f.type).bind fun k=>(rX P (i+1) fs).map (k:: ·)else none
def vN (P:Program) (t:TypeId):Option (List TK):=
 match P.underlying t with
 |some (.struct fs)=>if P.stoodInHeld t=false∧P.eqGuardType P.depth t=false then rX P 0 fs.toList else none
 |_=>none
theorem pD {P:Program} {t:TypeId} {k:TK} (h:pV P t=some k) (w:World) (cs:Array Value) (i:Nat) (v:Value) (hv:cs[i]?=some v):
  (part t cs i).run P w= .ok v w:=by
 unfold pV at h;split at h<;>first|(cases h;done)|(rename_i hu;simp [part,isAgg,run_underlying hu,hv])
theorem sV {P:Program} {S:dL} {w w1:World} (d:Nat) (xs ys:Array Value): ∀(fs:List Field) (i:Nat) (ks:List TK) (cs ds:List AV) (r:Bool),
  rX P i fs=some ks→bW S w cs (xs.toList.drop i)→bW S w ds (ys.toList.drop i)→gG ks cs ds=some r→
  (Op.eqFields (d+1) xs ys fs).run P w1= .ok r w1
 |[],i,ks,cs,ds,r,hk,h1,h2,hr=>by
  simp only[rX,Option.some.injEq]at hk;subst hk;cases cs<;>cases ds<;>simp [gG]at hr;subst hr;simp [Op.eqFields]
 |f::fs,i,ks,cs,ds,r,hk,h1,h2,hr=>by
  simp only[rX,Option.ite_none_right_eq_some,bU,bH]at hk;obtain⟨⟨hn,ho⟩,k,hk,ks',hks,rfl⟩:=hk
  cases cs with
  |nil=>cases k<;>simp [gG]at hr
  |cons c cs=>
   cases ds with
   |nil=>cases k<;>cases c<;>simp [gG]at hr
   |cons e ds=>
    simp only[bW]at h1 h2;obtain⟨u,us,hu,hcu,h1⟩:=h1;obtain⟨x,ts,hx,hex,h2⟩:=h2
    have gu:xs[i]?=some u:=by
     have :(xs.toList.drop i)[0]?=some u:=by rw[hu];rfl
     simpa [List.getElem?_drop]using this
    have gx:ys[i]?=some x:=by
     have :(ys.toList.drop i)[0]?=some x:=by rw[hx];rfl
     simpa [List.getElem?_drop]using this
    have du:us=xs.toList.drop (i+1):=by
     have:=congrArg List.tail hu;simpa [List.tail_drop]using this.symm
    have dx:ts=ys.toList.drop (i+1):=by
     have:=congrArg List.tail hx;simpa [List.tail_drop]using this.symm
    subst du;subst dx
    have step: ∀(b:Bool) (r':Bool),gG ks' cs ds=some r'→r=(b&&r')→(Op.equalIn (d+1) f.type u x).run P w1= .ok b w1→
      (Op.eqFields (d+1) xs ys (f::fs)).run P w1= .ok r w1:=by
     intro b r' hr' hb he;have ih:=sV (w1:=w1) d xs ys fs (i+1) ks' cs ds r' hks h1 h2 hr';simp only[Op.eqFields,ne_eq,hn,not_false_eq_true,if_true,Sem.run_bind,ho,pD hk w1 xs i u gu,pD hk w1 ys i x gx,Result.andThen_ok,he];cases b
     ·simp [hb]
     simp [hb,ih]
    unfold pV at hk;split at hk<;>first|(cases hk;done)|skip
    ·rename_i j hu2
     cases hk;cases c<;>cases e<;>first|(simp [gG]at hr;done)|skip
     simp only[gG]at hr;split at hr<;>try (cases hr;done)
     rename_i hkk;subst hkk;rw[bH]at hr;obtain⟨r',hr',rfl⟩:=hr;simp only[bO]at hcu hex;subst hcu;subst hex;exact step _ r' hr' rfl (by simp [Op.equalIn,run_underlying hu2,Qg])
    ·rename_i hu2
     cases hk;cases c<;>cases e<;>first|(simp [gG]at hr;done)|skip
     simp only[gG]at hr;rw[bH]at hr;obtain⟨r',hr',rfl⟩:=hr;simp only[bO]at hcu hex;subst hcu;subst hex;exact step _ r' hr' rfl (by simp only[Op.equalIn,Sem.run_bind,run_underlying hu2,Result.andThen_ok,Sem.run_pure,Jd])
    rename_i hu2;cases hk;cases c<;>cases e<;>first|(simp [gG]at hr;done)|skip
    simp only[gG]at hr;rw[bH]at hr;obtain⟨r',hr',rfl⟩:=hr;simp only[bO]at hcu hex;subst hcu;subst hex;exact step _ r' hr' rfl (by rw[run_equalIn_string _ _ _ _ _ hu2,pR,pR,pX])
theorem Om {P:Program} {t:TypeId} {ks:List TK} (hk:vN P t=some ks) {S:dL} {w:World} {cs ds:List AV} {xs ys:List Value} {r:Bool}
  (h1:bW S w cs xs) (h2:bW S w ds ys) (hr:gG ks cs ds=some r) (x y:Operand):
  (eqGuard .eql t x y (.agg xs.toArray) (.agg ys.toArray)).run P w= .ok () w∧(eqGuard .neq t x y (.agg xs.toArray) (.agg ys.toArray)).run P w= .ok () w∧
  (binOp .eql t (.agg xs.toArray) (.agg ys.toArray)).run P w= .ok (.bool r) w∧(binOp .neq t (.agg xs.toArray) (.agg ys.toArray)).run P w= .ok (.bool (!r)) w:=by
 unfold vN at hk;split at hk
 ·rename_i fs hu
  simp only[Option.ite_none_right_eq_some]at hk;obtain⟨⟨hs,hg⟩,hk⟩:=hk;have hf:P.fieldsOf t=fs:=by simp [Program.fieldsOf,hu]
  have he:(Op.equal t (.agg xs.toArray) (.agg ys.toArray)).run P w= .ok r w:=by
   unfold Op.equal Op.maxDepth;rw[run_equalIn_struct w 9999 t xs.toArray ys.toArray (by rw[hf];exact hu) hs,hf];exact sV 9998 _ _ fs.toList 0 ks cs ds r hk (by simpa using h1) (by simpa using h2) hr
  refine⟨?_, ?_, ?_, ?_⟩
  ·simp [eqGuard,hg]
  ·simp [eqGuard,hg]
  ·simp [binOp,he]
  simp [binOp,he]
 cases hk
end Go.Al
namespace Go.Al
def R2 (n:Nat):Option AV→Option Nat
 |none=>some n
 |some (.int _ h)=>if 0≤h∧h≤n then some h.toNat else none
 |some _=>none
def R1 (h:Nat):Option AV→Option Nat
 |none=>some 0
 |some (.int _ l)=>if 0≤l∧l≤h then some l.toNat else none
 |some _=>none
def Ju (n:Nat) (lo hi:Option AV):Option (Nat×Nat):=(R2 n hi).bind fun h=>(R1 h lo).map fun l=>(l,h)
def uK:AV→Bool
 | .ptr _ _ _ _| .ipt _ _=>true
 |_=>false
def I7:AV→AV→Option Bool
 | .str a, .str b=>some (decide (a=b))
 | .int k a, .int k' b=>if k=k' then some (decide (a=b))else none
 |_,_=>none
def pM (k:AV):List (AV×AV)→Nat→Option (Option (Nat×AV))
 |[],_=>some none
 |(k',v)::es,i=>match I7 k k' with
  |some true=>some (some (i,v))
  |some false=>pM k es (i+1)
  |none=>none
def Ep:List AV→Option UInt8
 |[.int .u8 n]=>some (UInt8.ofNat n.toNat)
 |_=>none
def kV:List (List AV)→Option (List UInt8)
 |[]=>some []
 |r::rs=>(Ep r).bind fun c=>(kV rs).map (c:: ·)
def tZ:AV→Option (List UInt8)
 | .nsl=>some []
 | .isl sz l=>if sz=1 then kV l else none
 |_=>none
def cellsOf:AV→Option (List AV)
 | .agg cs=>some cs
 | .undef=>none
 |v=>some [v]
def aq.abuild (E:fR) (fs:List (TypeId×Nat)):List AV→List (Nat×AV)→Option (List AV)
 |z,[]=>some z
 |z,(i,v)::r=>match fs[i]? with
  |some (t,off)=>match bP E.P t with
   |some ti=>match cellsOf v with
    |some cs=>if cs.length=ti.size∧off+cs.length≤z.length then aq.abuild E fs (z.take off++cs++z.drop (off+cs.length)) r else none
    |none=>none
   |none=>none
  |none=>none
def Q9 (op:BinOp) (ti:Option TI) (b:Bool):Option AV:=match op,ti with
 | .eql,some ⟨.iface,_,_,_⟩=>some (.bool b)
 | .neq,some ⟨.iface,_,_,_⟩=>some (.bool (!b))
 |_,_=>none
def Kv:Operand→Bool| .const _=>true|_=>false
def aq (E:fR) (H:Hp) (fr:Fr):Op→Option AV
 | .move x| .assign x=>some (ev E.G fr x)
 | .pick c x y=>match ev E.G fr c with | .bool b=>some (if b then ev E.G fr x else ev E.G fr y)|_=>none
 | .load t x=>(bP E.P t).bind fun ti=>oG H ti (ev E.G fr x)
 | .nilCheck x=>if uK (ev E.G fr x)then some (ev E.G fr x)else none
 | .binOp op t x y _=>match ev E.G fr x,ev E.G fr y with
   | .int k a, .int k' b=>gN op k a k' b
   | .str a, .str b=>nQ op a b
   | .agg cs, .agg ds=>match op,(vN E.P t).bind fun ks=>gG ks cs ds with
     | .eql,some r=>some (.bool r)
     | .neq,some r=>some (.bool (!r))
     |_,_=>none
   | .bool a, .bool b=>match op,bP E.P t with
     | .eql,some ⟨.bool,_,_,_⟩=>some (.bool (decide (a=b)))
     | .neq,some ⟨.bool,_,_,_⟩=>some (.bool (!decide (a=b)))
     |_,_=>none
   | .ifc _ _, .nif=>Q9 op (bP E.P t) false
   | .nif, .nif=>if Kv y then Q9 op (bP E.P t) true else none
   |_,_=>none
 | .unOp op _ x=>match op,ev E.G fr x with
   | .not, .bool b=>some (.bool (!b))
   | .neg, .int k n=>some (.int k (k.wrap (0 -n)))
   |_,_=>none
 | .convert s d x=>match bP E.P s,bP E.P d,ev E.G fr x with
   |some _,some ⟨.int k,_,_,_⟩, .int _ n=>some (.int k (k.wrap n))
   |some _,some ⟨.str,_,_,_⟩, .str a=>some (.str a)
   |some ⟨.slice e,_,_,_⟩,some ⟨.str,_,_,_⟩,v=>match bP E.P e with
    |some ⟨.int .u8,_,_,_⟩=>(tZ v).map .str
    |_=>none
   |_,_,_=>none
 | .slice t x lo hi none=>match bP E.P t,ev E.G fr x with
   |some ⟨.str,_,_,_⟩, .str s=>(Ju s.length (lo.map (ev E.G fr)) (hi.map (ev E.G fr))).map fun p=> .str ((s.drop p.1).take (p.2-p.1))
   |some ⟨.slice e,_,_,_⟩, .isl sz l=>match bP E.P e with
    |some te=>if te.size=sz then(Ju l.length (lo.map (ev E.G fr)) (hi.map (ev E.G fr))).map fun p=> .isl sz ((l.drop p.1).take (p.2-p.1))else none
    |none=>none
   |some ⟨.slice e,_,_,_⟩, .osl sz b len=>match bP E.P e with
    |some te=>if te.size=sz then(Ju len (lo.map (ev E.G fr)) (hi.map (ev E.G fr))).map fun p=> .sub sz b p.1 (p.2-p.1)else none
    |none=>none
   |some ⟨.array n e,_,_,_⟩, .ptr _ b 0 0=>match bP E.P e with
    |some te=>if te.size=1∧n≤4096 then(Ju n (lo.map (ev E.G fr)) (hi.map (ev E.G fr))).map fun p=> .sub 1 b p.1 (p.2-p.1)else none
    |none=>none
   |_,_=>none
 | .fieldAddr s x f=>match bP E.P s with
   |some ⟨.strct fs,_,_,_⟩=>match fs[f]? with
    |some (t,off)=>match bP E.P t with
     |some ti=>if ti.size=0 then none else match ev E.G fr x with
      | .ptr sz b i j=>some (.ptr sz b i (j+off))
      | .ipt row j=>some (.ipt row (j+off))
      |_=>none
     |none=>none
    |none=>none
   |_=>none
 | .field s x f=>match bP E.P s,ev E.G fr x with
   |some ⟨.strct fs,_,_,_⟩, .agg cs=>match fs[f]? with
    |some (t,off)=>(bP E.P t).bind fun ti=>rd ti cs off
    |none=>none
   |_,_=>none
 | .indexAddr t x ix=>match bP E.P t,ev E.G fr ix with
   |some ⟨.slice e,_,_,_⟩, .int _ i=>match bP E.P e,ev E.G fr x with
    |some te, .isl sz l=>if te.size=sz∧0≤i then(l[i.toNat]?).map fun row=> .ipt row 0 else none
    |some te, .osl sz b len=>if te.size=sz∧0≤i∧i<len then some (.ptr sz b i.toNat 0)else none
    |_,_=>none
   |some ⟨.array n e,_,_,_⟩, .int _ i=>match bP E.P e,ev E.G fr x with
    |some te, .ptr sz b r j=>if 0≤i∧i<n then some (.ptr sz b r (j+i.toNat *te.size))else none
    |some te, .ipt row j=>if 0≤i∧i<n then some (.ipt row (j+i.toNat *te.size))else none
    |_,_=>none
   |_,_=>none
 | .index t x ix=>match bP E.P t,ev E.G fr x,ev E.G fr ix with
   |some ⟨.str,_,_,_⟩, .str s, .int _ i=>if 0≤i then(s[i.toNat]?).map fun c=> .int .u8 c.toNat else none
   |some ⟨.array n e,_,_,_⟩, .agg cs, .int _ i=>(bP E.P e).bind fun te=>if 0≤i∧i<n then rd te cs (i.toNat *te.size)else none
   |_,_,_=>none
 | .extract x i=>match ev E.G fr x with | .tup vs=>vs[i]?|_=>none
 | .makeInterface t x=>match bP E.P t with
   |some ⟨.iface,_,_,_⟩=>none
   |some _=>some (.ifc t (ev E.G fr x))
   |none=>none
 | .makeFunc f first captured=>some (.fn f (first.toList.map (ev E.G fr)) (captured.toList.map (ev E.G fr)))
 | .lookup t x k ok=>match bP E.P t,ev E.G fr k with
   |some ⟨.map tk te,_,_,_⟩, .str s=>match bP E.P tk,bP E.P te with
    |some ⟨.str,_,_,_⟩,some ie=>match(match ev E.G fr x with | .mp b=>(match H b with |some (.amap es)=>some es|_=>none)| .nmp=>some []| .imp ks xs=>some (ks.zip xs)|_=>none)with
     |some es=>match pM (.str s) es 0 with
      |some r=>some (if ok then .tup [(r.map (·.2)).getD ie.zero, .bool r.isSome]else(r.map (·.2)).getD ie.zero)
      |none=>none
     |none=>none
    |_,_=>none
   |_,_=>none
 | .call ⟨.builtin .len,args,ts⟩=>match args.toList,ts.toList with
   |[x],[t]=>match bP E.P t,ev E.G fr x with
    |some ⟨.str,_,_,_⟩, .str s=>some (.int .i64 s.length)
    |some ⟨.slice _,_,_,_⟩, .isl _ l=>some (.int .i64 l.length)
    |some ⟨.slice _,_,_,_⟩, .osl _ _ len=>some (.int .i64 len)
    |some ⟨.slice _,_,_,_⟩, .nsl=>some (.int .i64 0)
    |some ⟨.array n _,_,_,_⟩,_=>some (.int .i64 n)
    |_,_=>none
   |_,_=>none
 | .call ⟨.builtin .min,args,_⟩=>match args.toList with
   |[x,y]=>match ev E.G fr x,ev E.G fr y with
    | .int k a, .int _ b=>some (.int k (if b<a then b else a))
    |_,_=>none
   |_=>none
 | .call ⟨.builtin .max,args,_⟩=>match args.toList with
   |[x,y]=>match ev E.G fr x,ev E.G fr y with
    | .int k a, .int _ b=>some (.int k (if a<b then b else a))
    |_,_=>none
   |_=>none
 | .build t parts=>(bP E.P t).bind fun ti=>match ti.k with
   | .strct fs=>if fs.all (fun p=>(bP E.P p.1).isSome)=false then none else match ti.zero with
     | .agg z=>(aq.abuild E fs z (parts.toList.map fun p=>(p.1,ev E.G fr p.2))).map .agg
     |_=>none
   |_=>none
 | .typeAssert x _ t true=>match bP E.P t,ev E.G fr x with
   |some ⟨.iface,_,_,_⟩,_=>none
   |some ti, .ifc t' v=>if t'=t then some (.tup [v, .bool true])else some (.tup [ti.zero, .bool false])
   |_,_=>none
 |_=>none
end Go.Al
namespace Go.Al
section
variable {E : fR} {γ : gD} {S : dL} {H : Hp} {w : World} {fr : Fr} {a : Act}
theorem Pq {P:Program} {t:TypeId} {ti:TI} (ht:bP P t=some ti) {cs:List AV} {vs:List Value} (hl:bW S w cs vs) {j:Nat} {v:AV} (h:rd ti cs j=some v) (w1:World):
  ∃v',(part t vs.toArray j).run P w1= .ok v' w1∧bO S w v v':=by
 unfold rd at h;simp only[part,Sem.run_bind,Am ht,Result.andThen_ok];split at h
 ·rename_i ha
  split at h
  ·obtain rfl:=(Option.some.inj h).symm
   simp only[ha,if_true,Sem.run_bind,dV ht,Result.andThen_ok,Sem.run_pure];refine⟨_,rfl, ?_⟩;simp only[bO];refine⟨(vs.drop j).take ti.size, ?_,(hl.drop j).take ti.size⟩;simp
  cases h
 rename_i ha;obtain⟨u,hu,hv⟩:=hl.get j h;simp [ha,hu,hv]
theorem nV {isS:Bool} {n cap:Nat} {lo hi:Option AV} {lo' hi':Option Value} {p:Nat×Nat} (h:Ju n lo hi=some p) (hc:n≤cap)
  (hlo: ∀x,lo=some x→ ∃y,lo'=some y∧bO S w x y) (hlo0:lo=none→lo'=none) (hhi: ∀x,hi=some x→ ∃y,hi'=some y∧bO S w x y) (hhi0:hi=none→hi'=none) (P:Program):
  (Instr.sliceBounds isS n cap lo' hi' none).run P w= .ok (p.1,p.2,cap) w∧p.1≤p.2∧p.2≤n:=by
 have bound: ∀(k:IntKind) (i:Int) (y:Nat) (code:BoundsCode),0≤i→i≤y→(Instr.sliceBound (.int k i) y code).run P w= .ok i.toNat w:=fun k i y code h0 h1=>by
  simp [Instr.sliceBound,asIntOf,h0,h1]
 simp only[Ju,bU,bH]at h;obtain⟨hh,heq,ll,heq2,rfl⟩:=h
 have eh:hh≤n∧((hi'=none∧hh=n)∨ ∃v,hi'=some v∧ ∀code,(Instr.sliceBound v cap code).run P w= .ok hh w):=by
  cases hi with
  |none=>simp only[R2,Option.some.injEq]at heq;subst heq;exact⟨bF _, .inl ⟨hhi0 rfl,rfl⟩⟩
  |some x=>
   obtain⟨y,e1,e2⟩:=hhi x rfl;cases x<;>simp only[R2]at heq<;>try (cases heq;done)
   simp only[bO]at e2;subst e2;split at heq<;>cases heq;rename_i hb;exact⟨by omega, .inr ⟨_,e1,fun code=>bound _ _ _ _ hb.1 (by omega)⟩⟩
 have el:ll≤hh∧((lo'=none∧ll=0)∨ ∃v,lo'=some v∧ ∀code,(Instr.sliceBound v hh code).run P w= .ok ll w):=by
  cases lo with
  |none=>simp only[R1,Option.some.injEq]at heq2;subst heq2;exact⟨Nat.zero_le _, .inl ⟨hlo0 rfl,rfl⟩⟩
  |some x=>
   obtain⟨y,e1,e2⟩:=hlo x rfl;cases x<;>simp only[R1]at heq2<;>try (cases heq2;done)
   simp only[bO]at e2;subst e2;split at heq2<;>cases heq2;rename_i hb;exact⟨by omega, .inr ⟨_,e1,fun code=>bound _ _ _ _ hb.1 (by omega)⟩⟩
 refine⟨?_,el.1,eh.1⟩;unfold Instr.sliceBounds;obtain⟨_,eh⟩:=eh;obtain⟨_,el⟩:=el;rcases eh with⟨rfl,rfl⟩|⟨v,rfl,eh⟩<;>rcases el with⟨rfl,rfl⟩|⟨u,rfl,el⟩<;>simp [*]
theorem Ix (P:Program) (w:World) (op:BinOp) (t:TypeId) (x y:Operand) (k k':IntKind) (a b:Int):(eqGuard op t x y (.int k a) (.int k' b)).run P w= .ok () w:=by
 unfold eqGuard;split<;>simp
theorem Iw (P:Program) (w:World) (op:BinOp) (t:TypeId) (x y:Operand) (a b:ByteArray):(eqGuard op t x y (.string a) (.string b)).run P w= .ok () w:=by
 unfold eqGuard;split<;>simp
theorem Em (P:Program) (w:World) (op:BinOp) (t:TypeId) (x y:Operand) (a b:Bool):(eqGuard op t x y (.bool a) (.bool b)).run P w= .ok () w:=by
 unfold eqGuard;split<;>simp
theorem Nz {P:Program} (w:World) {t:TypeId} (h:P.underlying t=some .bool) (a b:Bool):(Op.equal t (.bool a) (.bool b)).run P w= .ok (decide (a=b)) w:=by
 unfold Op.equal Op.maxDepth;rw[run_equalIn_bool' w 9999 t a b h,Jd]
theorem L0 {d:TypeDesc} (h:qU d= .bool):d= .bool:=by
 cases d<;>first|rfl|(simp [qU]at h)
theorem Gf {d:TypeDesc} (h:qU d= .iface): ∃ms,d= .interface ms:=by
 cases d<;>first|exact⟨_,rfl⟩|(simp [qU]at h)
theorem Ei {P:Program} (w:World) (n:Nat) {t:TypeId} {ms} (h:P.underlying t=some (.interface ms)) (t':TypeId) (u:Value):(Op.equalIn (n+1) t (.iface t' u) .nilIface).run P w= .ok false w:=by
 simp [Op.equalIn,run_underlying h]
theorem Eh {P:Program} (w:World) (n:Nat) {t:TypeId} {ms} (h:P.underlying t=some (.interface ms)):(Op.equalIn (n+1) t .nilIface .nilIface).run P w= .ok true w:=by
 simp [Op.equalIn,run_underlying h]
theorem Ny {P:Program} (w:World) {t:TypeId} {ms} (h:P.underlying t=some (.interface ms)) (t':TypeId) (u:Value):(Op.equal t (.iface t' u) .nilIface).run P w= .ok false w:=Ei w 9999 h t' u
theorem Nx {P:Program} (w:World) {t:TypeId} {ms} (h:P.underlying t=some (.interface ms)):(Op.equal t .nilIface .nilIface).run P w= .ok true w:=Eh w 9999 h
theorem Ek (P:Program) (w:World) (op:BinOp) (t:TypeId) (x y:Operand) (t':TypeId) (u:Value):(eqGuard op t x y (.iface t' u) .nilIface).run P w= .ok () w:=by
 unfold eqGuard;split<;>simp
theorem Ej (P:Program) (w:World) (op:BinOp) (t:TypeId) (x:Operand) (k:Value):(eqGuard op t x (.const k) .nilIface .nilIface).run P w= .ok () w:=by
 unfold eqGuard;split<;>simp
def iW (E:fR) (S:dL) (w:World) (a:Act) (o:Op) (v:AV):Prop:=
 ∀dst ty pos af g, ∃v',(execOp a.eval ⟨dst,o,ty,pos,af,g⟩).run E.P w= .ok (.value v') w∧bO S w v v'
theorem Lh (hst:St E γ S H w) (hf:gO S w fr a) {t:TypeId} {x:Operand} {v:AV} (h:aq E H fr (.load t x)=some v):iW E S w a (.load t x) v:=by
 intro dst ty pos af g;simp only[aq,bU]at h;obtain⟨ti,ht,h⟩:=h;obtain⟨v',h1,h2⟩:=vA hst ht (cP hst hf x) h;exact⟨v',by simp [execOp,h1],h2⟩
theorem Gk (hst:St E γ S H w) (hf:gO S w fr a) {op:BinOp} {t u:TypeId} {x y:Operand} {v:AV} (h:aq E H fr (.binOp op t x y u)=some v):iW E S w a (.binOp op t x y u) v:=by
 intro dst ty pos af g;have hx:=cP hst hf x;have hy:=cP hst hf y;simp only[aq]at h;split at h
 ·rename_i e1 e2
  rw[e1]at hx;rw[e2]at hy;simp only[bO]at hx hy;obtain⟨v',h1,h2⟩:=Ol h E.P S w t;refine⟨v', ?_,h2⟩;simp only[execOp,hx,hy,Sem.run_bind,Sem.run_pure];simp [Ix,h1]
 ·rename_i e1 e2
  rw[e1]at hx;rw[e2]at hy;simp only[bO]at hx hy;obtain⟨v',h1,h2⟩:=Oi h E.P S w t;refine⟨v', ?_,h2⟩;simp only[execOp,hx,hy,Sem.run_bind,Sem.run_pure];simp [Iw,h1]
 ·rename_i cs ds e1 e2
  rw[e1]at hx;rw[e2]at hy;simp only[bO]at hx hy;obtain⟨xs,e3,hx⟩:=hx;obtain⟨ys,e4,hy⟩:=hy;split at h<;>first|(cases h;done)|skip
  all_goals
   rename_i r hr;cases h;rw[bU]at hr;obtain⟨ks,hk,hr⟩:=hr;obtain⟨g1,g2,g3,g4⟩:=Om hk hx hy hr x y;refine⟨.bool _, ?_,by simp only[bO];rfl⟩;simp only[execOp,e3,e4,Sem.run_bind,g1,g2,g3,g4,Result.andThen_ok,Sem.run_pure]
 ·rename_i p q e1 e2
  rw[e1]at hx;rw[e2]at hy;simp only[bO]at hx hy;split at h<;>first|(cases h;done)|skip
  all_goals
   rename_i ti;cases h;obtain⟨d,i,z,hu,_,_,e⟩:=eW ti;have hd:d= .bool:=L0 (congrArg TI.k e).symm;subst hd;refine⟨.bool _, ?_,by simp only[bO];rfl⟩;simp [execOp,hx,hy,Em,binOp,Nz w hu]
 ·rename_i t1 z1 e1 e2
  rw[e1]at hx;rw[e2]at hy;simp only[bO]at hx hy;obtain⟨u,hx,_⟩:=hx;unfold Q9 at h;split at h<;>first|(cases h;done)|skip
  all_goals
   rename_i ti;cases h;obtain⟨d,i,z,hu,_,_,e⟩:=eW ti;obtain⟨ms,rfl⟩:=Gf (congrArg TI.k e).symm;refine⟨.bool _, ?_,by simp only[bO];rfl⟩;simp [execOp,hx,hy,Ek,binOp,Ny w hu]
 ·rename_i e1 e2
  rw[e1]at hx;rw[e2]at hy;simp only[bO]at hx hy;cases y<;>simp only[Kv,if_true,Bool.false_eq_true,if_false,reduceCtorEq]at h;unfold Q9 at h;split at h<;>first|(cases h;done)|skip
  all_goals
   rename_i ti;cases h;obtain⟨d,i,z,hu,_,_,e⟩:=eW ti;obtain⟨ms,rfl⟩:=Gf (congrArg TI.k e).symm;refine⟨.bool _, ?_,by simp only[bO];rfl⟩;simp [execOp,hx,hy,Ej,binOp,Nx w hu]
 cases h
theorem kG {P:Program} {t:TypeId} {ti:TI} (h:bP P t=some ti): ∃d,P.underlying t=some d∧qU d=ti.k:=by
 obtain⟨d,i,z,hu,_,_,e⟩:=eW h;exact⟨d,hu,(congrArg TI.k e).symm⟩
theorem R9 {P:Program} {t:TypeId} {k:IntKind} {a b:Nat} {z:AV} (h:bP P t=some ⟨.int k,a,b,z⟩):P.underlying t=some (.int k):=by
 obtain⟨d,hu,e⟩:=kG h;cases d<;>simp [qU]at e;subst e;exact hu
theorem vV {P:Program} {t:TypeId} {a b:Nat} {z:AV} (h:bP P t=some ⟨.str,a,b,z⟩):P.underlying t=some .string:=by
 obtain⟨d,hu,e⟩:=kG h;cases d<;>simp [qU]at e;exact hu
theorem gQ {P:Program} {t e:TypeId} {a b:Nat} {z:AV} (h:bP P t=some ⟨.slice e,a,b,z⟩):P.underlying t=some (.slice e):=by
 obtain⟨d,hu,e⟩:=kG h;cases d<;>simp [qU]at e;subst e;exact hu
theorem vL {P:Program} {t e:TypeId} {n a b:Nat} {z:AV} (h:bP P t=some ⟨.array n e,a,b,z⟩):P.underlying t=some (.array n e):=by
 obtain⟨d,hu,e⟩:=kG h;cases d<;>simp [qU]at e;obtain⟨rfl,rfl⟩:=e;exact hu
theorem Vm {P:Program} {t k e:TypeId} {a b:Nat} {z:AV} (h:bP P t=some ⟨.map k e,a,b,z⟩):P.underlying t=some (.map k e):=by
 obtain⟨d,hu,e⟩:=kG h;cases d<;>simp [qU]at e;obtain⟨rfl,rfl⟩:=e;exact hu
theorem Fv {P:Program} {t:TypeId} {fs:List (TypeId×Nat)} {a b:Nat} {z:AV} (h:bP P t=some ⟨.strct fs,a,b,z⟩):
  ∃gs:Array Field,P.underlying t=some (.struct gs)∧fs=gs.toList.map fun f=>(f.type,f.offset):=by
 obtain⟨d,hu,e⟩:=kG h;cases d<;>simp [qU]at e;exact⟨_,hu,by simpa using e.symm⟩
theorem Ox {P:Program} {t:TypeId} {fs:List (TypeId×Nat)} {a b:Nat} {z:AV} (h:bP P t=some ⟨.strct fs,a,b,z⟩) {f:Nat} {p:TypeId×Nat} (hf:fs[f]?=some p):
  ∃(gs:Array Field) (g:Field),P.underlying t=some (.struct gs)∧gs[f]?=some g∧g.type=p.1∧g.offset=p.2:=by
 obtain⟨gs,hu,rfl⟩:=Fv h;rw[cE,bH]at hf;obtain⟨g,hg,rfl⟩:=hf;exact⟨gs,g,hu,by simpa using hg,rfl,rfl⟩
theorem Le (hst:St E γ S H w) (hf:gO S w fr a) {op:UnOp} {t:TypeId} {x:Operand} {v:AV} (h:aq E H fr (.unOp op t x)=some v):iW E S w a (.unOp op t x) v:=by
 intro dst ty pos af g;have hx:=cP hst hf x;simp only[aq]at h;split at h<;>first|(cases h;done)|skip
 all_goals
  rename_i e;cases h;rw[e]at hx;simp only[bO]at hx;simp [execOp,hx,Op.unary,Op.intArith,bO]
theorem xT {b:Nat}: ∀{l:List (List AV)} {off:Nat} {s:List UInt8},bZ S w b off 1 l→kV l=some s→
  ∃xs:List Int,xs.length=l.length∧s=xs.map (fun n=>UInt8.ofNat n.toNat)∧ ∀i,i<xs.length→w.cell? ⟨b,off+i,none⟩=some (.int .u8 (xs.getD i 0))
 |[],off,s,_,h=>by
  simp only[kV,Option.some.injEq]at h;exact⟨[],rfl,h.symm,fun i hi=>by simp at hi⟩
 |r::rs,off,s,hr,h=>by
  simp only[kV,bU,bH]at h;obtain⟨c,hc,s',hs,rfl⟩:=h;simp only[bZ]at hr;obtain⟨h0,h1,h2⟩:=hr;obtain⟨xs,q1,q2,q3⟩:=xT h2 hs;unfold Ep at hc;split at hc
  ·rename_i n
   cases hc;simp only[cL]at h1;obtain⟨⟨u,e,hu⟩,_⟩:=h1;simp only[bO]at hu;subst hu;refine⟨n::xs,by simp [q1],by rw[q2];rfl,fun i hi=>?_⟩
   cases i with
   |zero=>simpa using e
   |succ i=>
    have:=q3 i (by simpa using hi);rw[show off+1+i=off+(i+1)by omega]at this;rw[this];simp
  cases hc
theorem Rw {P:Program} {src dst e:TypeId} (hs:P.underlying src=some (.slice e)) (he:P.underlying e=some (.int .u8)) (hd:P.underlying dst=some .string) {b off cap:Nat} {l:List (List AV)} {s:List UInt8} (hr:bZ S w b off 1 l) (h:kV l=some s):
  (convert src dst (.slice (some ⟨b,off,none⟩) l.length cap)).run P w= .ok (.string ⟨s.toArray⟩) w:=by
 obtain⟨xs,q1,q2,q3⟩:=xT hr h;rw[←q1,run_convert_bytes_arg w src e hs he b off xs.length cap xs rfl q3 dst hd,q2];rfl
theorem uF {P:Program} {src dst e:TypeId} (hs:P.underlying src=some (.slice e)) (he:P.underlying e=some (.int .u8)) (hd:P.underlying dst=some .string) (oa:Option Addr) (cap:Nat):
  (convert src dst (.slice oa 0 cap)).run P w= .ok (.string ⟨#[]⟩) w:=by
 cases oa with
 |none=>exact run_convert_bytes_nil w src e hs he 0 cap dst hd
 |some a=>
  rw[run_convert_bytes_string w src dst e _ 0 cap hs he hd,run_bytesToString w a 0 cap [] (by simpa using run_loadCells_list (P:=P) w a [] (fun j v hj=>by simp at hj))];rfl
theorem zG (hst:St E γ S H w) (hf:gO S w fr a) {s d:TypeId} {x:Operand} {v:AV} (h:aq E H fr (.convert s d x)=some v):iW E S w a (.convert s d x) v:=by
 intro dst ty pos af g;have hx:=cP hst hf x;simp only[aq]at h;split at h<;>first|(cases h;done)|skip
 ·rename_i hs hd e
  cases h;rw[e]at hx;simp only[bO]at hx;obtain⟨d1,hu1,_⟩:=kG hs;refine⟨.int _ _, ?_,by simp only[bO];rfl⟩;simp [execOp,convert,run_underlying hu1,run_underlying (R9 hd),hx,Conv.intToInt]
 ·rename_i hs hd e
  cases h;rw[e]at hx;simp only[bO]at hx;obtain⟨d1,hu1,_⟩:=kG hs;refine⟨.string _, ?_,by simp only[bO];rfl⟩;simp [execOp,convert,run_underlying hu1,run_underlying (vV hd),hx]
 rename_i hs hd _;split at h<;>first|(cases h;done)|skip
 rename_i he;rw[bH]at h;obtain⟨s,hb,rfl⟩:=h;have us:=gQ hs;have ue:=R9 he;have ud:=vV hd;unfold tZ at hb;split at hb<;>first|(cases hb;done)|skip
 ·rename_i e
  cases hb;rw[e]at hx;simp only[bO]at hx;refine⟨.string ⟨#[]⟩, ?_,by simp only[bO]⟩;simp only[execOp,hx];simp [uF us ue ud none 0]
 rename_i sz l e;split at hb
 ·rename_i e1
  subst e1;rw[e]at hx;simp only[bO]at hx;obtain⟨oa,cap,hx,_,_,hr⟩:=hx;refine⟨.string ⟨s.toArray⟩, ?_,by simp only[bO]⟩;rcases hr with rfl|⟨b,off,rfl,_,hr⟩
  ·simp only[kV,Option.some.injEq]at hb
   subst hb;simp only[execOp,hx];simp [uF us ue ud oa cap]
  simp only[execOp,hx];simp [Rw us ue ud (cap:=cap) hr hb]
 cases hb
theorem zF (hst:St E γ S H w) (hf:gO S w fr a) {x:Operand} {i:Nat} {v:AV} (h:aq E H fr (.extract x i)=some v):iW E S w a (.extract x i) v:=by
 intro dst ty pos af g;have hx:=cP hst hf x;simp only[aq]at h;split at h<;>first|(cases h;done)|skip
 rename_i vs e;rw[e]at hx;simp only[bO]at hx;obtain⟨us,e2,hl⟩:=hx;obtain⟨u,hu,hv⟩:=hl.get i h;exact⟨u,by simp [execOp,e2,Instr.extract,hu],hv⟩
theorem vY (hst:St E γ S H w) (hf:gO S w fr a) {x:Operand} {v:AV} (h:aq E H fr (.nilCheck x)=some v):iW E S w a (.nilCheck x) v:=by
 intro dst ty pos af g;have hx:=cP hst hf x;simp only[aq,Option.ite_none_right_eq_some]at h;obtain⟨h1,h2⟩:=h;cases h2;refine⟨a.eval x, ?_,hx⟩;cases e:ev E.G fr x<;>rw[e]at h1 hx<;>simp only[uK]at h1<;>try (cases h1;done)
 ·simp only[bO]at hx;simp [execOp,hx]
 simp only[bO]at hx;obtain⟨b,off,e2,_⟩:=hx;simp [execOp,e2]
theorem qB (hst:St E γ S H w) (hf:gO S w fr a) {t:TypeId} {x:Operand} {v:AV} (h:aq E H fr (.makeInterface t x)=some v):iW E S w a (.makeInterface t x) v:=by
 intro dst ty pos af g;have hx:=cP hst hf x;simp only[aq]at h;split at h<;>first|(cases h;done)|skip
 rename_i ti hne hti;cases h;obtain⟨d,hu,e⟩:=kG hti;refine⟨.iface t (a.eval x), ?_,by simp only[bO];exact⟨_,rfl,hx⟩⟩;cases d<;>simp [execOp,Instr.makeInterface,run_underlying hu];obtain⟨k,s1,b1,z1⟩:=ti;simp only[qU]at e;subst e;exact hne _ _ _ rfl
theorem bW.map (hst:St E γ S H w) (hf:gO S w fr a): ∀xs:List Operand,bW S w (xs.map (ev E.G fr)) (xs.map a.eval)
 |[]=>by simp only[List.map_nil,bW]
 |x::xs=>by simp only[List.map_cons,bW];exact⟨_,_,rfl,cP hst hf x,bW.map hst hf xs⟩
theorem vZ (hst:St E γ S H w) (hf:gO S w fr a) {f:Fn} {xs ys:Array Operand} {v:AV} (h:aq E H fr (.makeFunc f xs ys)=some v):iW E S w a (.makeFunc f xs ys) v:=by
 intro dst ty pos af g;simp only[aq,Option.some.injEq]at h;subst h;refine⟨.func f (xs.toList.map a.eval).toArray (ys.toList.map a.eval).toArray, ?_, ?_⟩
 ·simp only[execOp,Instr.makeFunc,Sem.run_bind,Sem.run_pure,Result.andThen_ok,←Array.toList_map,Array.toArray_toList]
 simp only[bO];exact⟨_,_,rfl,bW.map hst hf _,bW.map hst hf _⟩
theorem Gi (hst:St E γ S H w) (hf:gO S w fr a) {s:TypeId} {x:Operand} {f:Nat} {v:AV} (h:aq E H fr (.field s x f)=some v):iW E S w a (.field s x f) v:=by
 intro dst ty pos af g;have hx:=cP hst hf x;simp only[aq]at h;split at h<;>first|(cases h;done)|skip
 rename_i hs e;rw[e]at hx;simp only[bO]at hx;obtain⟨us,e2,hl⟩:=hx;split at h<;>first|(cases h;done)|skip
 rename_i t off hfs;rw[bU]at h;obtain⟨ti,ht,h⟩:=h;obtain⟨gs,gf,hu,hg,e3,e4⟩:=Ox hs hfs;simp only at e3 e4;obtain⟨v',h1,h2⟩:=Pq ht hl h w;exact⟨v',by simp [execOp,Instr.field,run_underlying hu,hg,e2,asAgg,e3,e4,h1],h2⟩
theorem vG (hst:St E γ S H w) (hf:gO S w fr a) {s:TypeId} {x:Operand} {f:Nat} {v:AV} (h:aq E H fr (.fieldAddr s x f)=some v):iW E S w a (.fieldAddr s x f) v:=by
 intro dst ty pos af g;have hx:=cP hst hf x;simp only[aq]at h;split at h<;>first|(cases h;done)|skip
 rename_i hs;split at h<;>first|(cases h;done)|skip
 rename_i t off hfs;split at h<;>first|(cases h;done)|skip
 rename_i ti ht;split at h<;>first|(cases h;done)|skip
 rename_i hsz;obtain⟨gs,gf,hu,hg,e3,e4⟩:=Ox hs hfs;simp only at e3 e4;split at h<;>first|(cases h;done)|skip
 ·rename_i e
  cases h;rw[e]at hx;simp only[bO]at hx;refine⟨_, ?_,by simp only[bO];rfl⟩;simp [execOp,Instr.fieldAt,run_underlying hu,hg,hx,Instr.sureAddr,fieldPlace,e3,dV ht,hsz,e4,Addr.add_lit,Nat.add_assoc]
 rename_i e;cases h;rw[e]at hx;simp only[bO]at hx;obtain⟨b,o,e5,h1,h2⟩:=hx;refine⟨_, ?_,by simp only[bO];exact⟨b,o,rfl,h1,h2⟩⟩;simp [execOp,Instr.fieldAt,run_underlying hu,hg,e5,Instr.sureAddr,fieldPlace,e3,dV ht,hsz,e4,Addr.add_lit,Nat.add_assoc]
end
end Go.Al
namespace Go.Al
section
variable {E : fR} {γ : gD} {S : dL} {H : Hp} {w : World} {fr : Fr} {a : Act}
theorem N2 (s:List UInt8):ByteArray.size ⟨s.toArray⟩=s.length:=by simp [ByteArray.size]
theorem Pz (hst:St E γ S H w) (hf:gO S w fr a) (o:Option Operand):(∀x,o.map (ev E.G fr)=some x→ ∃y,o.map a.eval=some y∧bO S w x y)∧(o.map (ev E.G fr)=none→o.map a.eval=none):=by
 cases o with
 |none=>simp
 |some x=>exact⟨fun y h=>by simp at h;subst h;exact⟨_,rfl,cP hst hf x⟩,fun h=>by simp at h⟩
theorem Gg (hst:St E γ S H w) (hf:gO S w fr a) {t:TypeId} {x:Operand} {lo hi:Option Operand} {v:AV} (h:aq E H fr (.slice t x lo hi none)=some v):iW E S w a (.slice t x lo hi none) v:=by
 intro dst ty pos af g;have hx:=cP hst hf x;have hlo:=Pz hst hf lo;have hhi:=Pz hst hf hi;simp only[aq]at h;split at h<;>first|(cases h;done)|skip
 ·rename_i s ht e
  rw[e]at hx;simp only[bO]at hx;rw[bH]at h;obtain⟨p,hp,rfl⟩:=h;obtain⟨h1,h2,h3⟩:=nV (isS:=false) (w:=w) (S:=S) (cap:=s.length) hp (bF _) hlo.1 hlo.2 hhi.1 hhi.2 E.P;refine⟨.string _, ?_,by simp only[bO];rfl⟩;have hsz:ByteArray.size ⟨s.toArray⟩=s.length:=by simp [ByteArray.size]
  have hu:=vV ht;simp only[execOp,Instr.sliceAt,Sem.run_bind,run_underlying hu,Result.andThen_ok,Instr.slice,hx,Option.map_none,Option.isSome_none,Bool.false_eq_true,if_false,hsz,h1,Sem.run_pure];congr 3;apply ByteArray.ext;simp [ByteArray.data_extract]
 ·rename_i sz l ht e
  split at h<;>first|(cases h;done)|skip
  rename_i te hte;split at h<;>first|(cases h;done)|skip
  rename_i hsz;rw[e]at hx;simp only[bO]at hx;obtain⟨oa,cap,e2,hc1,hc2,hr⟩:=hx;rw[bH]at h;obtain⟨p,hp,rfl⟩:=h;obtain⟨h1,h2,h3⟩:=nV (isS:=true) (w:=w) (S:=S) hp hc1 hlo.1 hlo.2 hhi.1 hhi.2 E.P;have hu:=gQ ht;refine⟨.slice (if cap=p.1 then oa else oa.map (·.add (p.1 *sz))) (p.2-p.1) (cap-p.1), ?_, ?_⟩
  ·simp only[execOp,Instr.sliceAt,Sem.run_bind,run_underlying hu,Result.andThen_ok,Instr.slice,e2,Option.map_none,h1,dV hte,hsz,Sem.run_pure]
  simp only[bO];have hlen:((l.drop p.1).take (p.2-p.1)).length=p.2-p.1:=by rw[dR,List.length_drop];omega
  refine⟨_,_,by rw[hlen],by omega,by omega, ?_⟩;rcases hr with rfl|⟨b,off,rfl,hb,hr⟩
  ·simp
  by_cases hp0:p.2-p.1=0
  ·left;rw[hp0];simp
  right;refine⟨b,off+p.1 *sz, ?_,hb,(hr.drop p.1).take _⟩;rw[if_neg (by omega)];simp [Addr.add_lit]
 ·rename_i sz b len ht e
  split at h<;>first|(cases h;done)|skip
  rename_i te hte;split at h<;>first|(cases h;done)|skip
  rename_i hsz;rw[e]at hx;simp only[bO]at hx;obtain⟨cap,e0,e2,_,hc1,hc2⟩:=hx;rw[bH]at h;obtain⟨p,hp,rfl⟩:=h;obtain⟨h1,h2,h3⟩:=nV (isS:=true) (w:=w) (S:=S) hp hc1 hlo.1 hlo.2 hhi.1 hhi.2 E.P;have hu:=gQ ht;refine⟨.slice (if cap=p.1 then some ⟨b,0,none⟩else(some (⟨b,0,none⟩:Addr)).map (·.add (p.1 *sz))) (p.2-p.1) (cap-p.1), ?_, ?_⟩
  ·simp only[execOp,Instr.sliceAt,Sem.run_bind,run_underlying hu,Result.andThen_ok,Instr.slice,e2,Option.map_none,h1,dV hte,hsz,Sem.run_pure]
  simp only[bO];refine⟨_,_,rfl, ?_,by omega,by omega⟩;by_cases hp0:p.2-p.1=0
  ·exact .inl hp0
  right;rw[if_neg (by omega)];simp [Addr.add_lit]
 rename_i n e q1 q2 q3 q4 b ht he;split at h<;>first|(cases h;done)|skip
 rename_i te hte;split at h<;>first|(cases h;done)|skip
 rename_i hsz;rw[he]at hx;simp only[bO,Nat.zero_mul,Nat.zero_add]at hx;rw[bH]at h;obtain⟨p,hp,rfl⟩:=h;obtain⟨h1,h2,h3⟩:=nV (isS:=false) (w:=w) (S:=S) hp (bF _) hlo.1 hlo.2 hhi.1 hhi.2 E.P;have hu:=vL ht;have hml:n≤maxLen:=by have:=hsz.2;simp only[maxLen];omega
 refine⟨.slice (some (if n=p.1 then⟨b,0,none⟩else(⟨b,0,none⟩:Addr).add (p.1 *1))) (p.2-p.1) (n-p.1), ?_, ?_⟩
 ·simp only[execOp,Instr.sliceAt,Sem.run_bind,run_underlying hu,Result.andThen_ok,hx,Instr.sureAddr,Option.map_none,h1,dV hte,hsz.1,Sem.run_pure]
 simp only[bO];refine⟨_,_,rfl, ?_,by omega,by omega⟩;by_cases hp0:p.2-p.1=0
 ·exact .inl hp0
 right;rw[if_neg (by omega)];simp [Addr.add_lit]
theorem vF (hst:St E γ S H w) (hf:gO S w fr a) {t:TypeId} {x ix:Operand} {v:AV} (h:aq E H fr (.indexAddr t x ix)=some v):iW E S w a (.indexAddr t x ix) v:=by
 intro dst ty pos af g;have hx:=cP hst hf x;have hi:=cP hst hf ix;simp only[aq]at h;split at h<;>first|(cases h;done)|skip
 ·rename_i ht ei
  rw[ei]at hi;simp only[bO]at hi;have hu:=gQ ht;split at h<;>first|(cases h;done)|skip
  ·rename_i te sz l hte e
   rw[e]at hx;simp only[bO]at hx;obtain⟨oa,cap,e2,hc1,hc2,hr⟩:=hx;split at h<;>first|(cases h;done)|skip
   rename_i hc;rw[bH]at h;obtain⟨row,hrow,rfl⟩:=h;have hlt:=(bV.1 hrow).1;rcases hr with rfl|⟨b,off,rfl,hb,hr⟩
   ·simp at hrow
   obtain⟨_,hr2⟩:=bZ.get _ hr hrow;refine⟨_, ?_,by simp only[bO];exact⟨b,_,rfl,hb,hr2⟩⟩;simp only[execOp,Instr.indexAt,hi,asIntOf,Sem.run_bind,Sem.run_pure,Result.andThen_ok,run_underlying hu,e2,Instr.sureAddr,pure_bind];rw[if_pos (by omega)];simp [dV hte,hc.1,Addr.add_lit]
  rename_i te sz b len hte e;rw[e]at hx;simp only[bO]at hx;obtain⟨cap,e3,e2,_⟩:=hx;split at h<;>first|(cases h;done)|skip
  rename_i hc;cases h;refine⟨_, ?_,by simp only[bO];rfl⟩;simp only[execOp,Instr.indexAt,hi,asIntOf,Sem.run_bind,Sem.run_pure,Result.andThen_ok,run_underlying hu,e2,Instr.sureAddr,pure_bind];rw[if_pos hc.2];simp [dV hte,hc.1,Addr.add_lit]
 rename_i ht ei;rw[ei]at hi;simp only[bO]at hi;have hu:=vL ht;split at h<;>first|(cases h;done)|skip
 ·rename_i te sz b r j hte e
  rw[e]at hx;simp only[bO]at hx;split at h<;>first|(cases h;done)|skip
  rename_i hc;cases h;refine⟨_, ?_,by simp only[bO];rfl⟩;simp only[execOp,Instr.indexAt,hi,asIntOf,Sem.run_bind,Sem.run_pure,Result.andThen_ok,run_underlying hu,hx,Instr.sureAddr,pure_bind];rw[if_pos hc];simp [dV hte,Addr.add_lit,Nat.add_assoc]
 rename_i te row j hte e;rw[e]at hx;simp only[bO]at hx;obtain⟨b,o,e5,h1,h2⟩:=hx;split at h<;>first|(cases h;done)|skip
 rename_i hc;cases h;refine⟨_, ?_,by simp only[bO];exact⟨b,o,rfl,h1,h2⟩⟩;simp only[execOp,Instr.indexAt,hi,asIntOf,Sem.run_bind,Sem.run_pure,Result.andThen_ok,run_underlying hu,e5,Instr.sureAddr,pure_bind];rw[if_pos hc];simp [dV hte,Addr.add_lit,Nat.add_assoc]
theorem Gh (hst:St E γ S H w) (hf:gO S w fr a) {t:TypeId} {x ix:Operand} {v:AV} (h:aq E H fr (.index t x ix)=some v):iW E S w a (.index t x ix) v:=by
 intro dst ty pos af g;have hx:=cP hst hf x;have hi:=cP hst hf ix;simp only[aq]at h;split at h<;>first|(cases h;done)|skip
 ·rename_i s _ i ht e ei
  rw[ei]at hi;rw[e]at hx;simp only[bO]at hi hx;have hu:=vV ht;split at h<;>first|(cases h;done)|skip
  rename_i hc;rw[bH]at h;obtain⟨c,hcc,rfl⟩:=h;refine⟨.int .u8 _, ?_,by simp only[bO];rfl⟩
  have hb:(⟨s.toArray⟩:ByteArray)[i.toNat]?=some c:=by
   have hlt:=(bV.1 hcc).1;rw[getElem?_pos (⟨s.toArray⟩:ByteArray) i.toNat (by simpa [ByteArray.size]using hlt)];congr 1;have:=(bV.1 hcc).2;show s.toArray[i.toNat]=c;simpa using this
  simp only[execOp,Instr.index,hi,hx,asIntOf,Sem.run_bind,Sem.run_pure,Result.andThen_ok,run_underlying hu,if_pos hc,hb]
 rename_i n e cs _ i ht e ei;rw[ei]at hi;rw[e]at hx;simp only[bO]at hi hx;obtain⟨us,e2,hl⟩:=hx;have hu:=vL ht;rw[bU]at h;obtain⟨te,hte,h⟩:=h;split at h<;>first|(cases h;done)|skip
 rename_i hc;obtain⟨v',h1,h2⟩:=Pq hte hl h w;refine⟨v', ?_,h2⟩;simp only[execOp,Instr.index,hi,e2,asIntOf,Sem.run_bind,Sem.run_pure,Result.andThen_ok,run_underlying hu,if_pos hc,dV hte,h1]
theorem Rn (hst:St E γ S H w) (hf:gO S w fr a) {args:Array Operand} {ts:Array TypeId} {v:AV} (h:aq E H fr (.call ⟨.builtin .len,args,ts⟩)=some v):iW E S w a (.call ⟨.builtin .len,args,ts⟩) v:=by
 intro dst ty pos af g;simp only[aq]at h;split at h<;>first|(cases h;done)|skip
 rename_i x t ex et;have hx:=cP hst hf x;have ea:args= #[x]:=by rw[←Array.toArray_toList (xs:=args),ex]
 have eb:ts= #[t]:=by rw[←Array.toArray_toList (xs:=ts),et]
 subst ea;subst eb;split at h<;>first|(cases h;done)|skip
 ·rename_i s ht e
  cases h;rw[e]at hx;simp only[bO]at hx;refine⟨.int .i64 _, ?_,by simp only[bO];rfl⟩;simp [execOp,resolve,invoke,builtin,Builtin.len_,run_underlying (vV ht),hx,goInt,N2]
 ·rename_i sz l ht e
  cases h;rw[e]at hx;simp only[bO]at hx;obtain⟨oa,cap,e2,_⟩:=hx;refine⟨.int .i64 _, ?_,by simp only[bO];rfl⟩;simp [execOp,resolve,invoke,builtin,Builtin.len_,run_underlying (gQ ht),e2,goInt]
 ·rename_i sz b len ht e
  cases h;rw[e]at hx;simp only[bO]at hx;obtain⟨cap,e3,e2,_⟩:=hx;refine⟨.int .i64 _, ?_,by simp only[bO];rfl⟩;simp [execOp,resolve,invoke,builtin,Builtin.len_,run_underlying (gQ ht),e2,goInt]
 ·rename_i ht e
  cases h;rw[e]at hx;simp only[bO]at hx;refine⟨.int .i64 _, ?_,by simp only[bO];rfl⟩;simp [execOp,resolve,invoke,builtin,Builtin.len_,run_underlying (gQ ht),hx,goInt]
 rename_i ht;cases h;refine⟨.int .i64 _, ?_,by simp only[bO];rfl⟩;simp [execOp,resolve,invoke,builtin,Builtin.len_,run_underlying (vL ht),goInt]
theorem Rl (hst:St E γ S H w) (hf:gO S w fr a) {args:Array Operand} {ts:Array TypeId} {v:AV} (h:aq E H fr (.call ⟨.builtin .min,args,ts⟩)=some v):iW E S w a (.call ⟨.builtin .min,args,ts⟩) v:=by
 intro dst ty pos af g;simp only[aq]at h;split at h<;>first|(cases h;done)|skip
 rename_i x y ex;have hx:=cP hst hf x;have hy:=cP hst hf y;have ea:args= #[x,y]:=by rw[←Array.toArray_toList (xs:=args),ex]
 subst ea;split at h<;>first|(cases h;done)|skip
 rename_i e1 e2;cases h;rw[e1]at hx;rw[e2]at hy;simp only[bO]at hx hy;refine⟨.int _ _, ?_,by simp only[bO];rfl⟩;simp [execOp,resolve,invoke,builtin,Builtin.min_,Builtin.min2,hx,hy]
theorem Rm (hst:St E γ S H w) (hf:gO S w fr a) {args:Array Operand} {ts:Array TypeId} {v:AV} (h:aq E H fr (.call ⟨.builtin .max,args,ts⟩)=some v):iW E S w a (.call ⟨.builtin .max,args,ts⟩) v:=by
 intro dst ty pos af g;simp only[aq]at h;split at h<;>first|(cases h;done)|skip
 rename_i x y ex;have hx:=cP hst hf x;have hy:=cP hst hf y;have ea:args= #[x,y]:=by rw[←Array.toArray_toList (xs:=args),ex]
 subst ea;split at h<;>first|(cases h;done)|skip
 rename_i e1 e2;cases h;rw[e1]at hx;rw[e2]at hy;simp only[bO]at hx hy;refine⟨.int _ _, ?_,by simp only[bO];rfl⟩;simp [execOp,resolve,invoke,builtin,Builtin.max_,Builtin.max2,hx,hy]
theorem Js {S:dL} {w:World} {k k':AV} {b:Bool} {x y:Value} (hk:bO S w k x) (hk':bO S w k' y) {s:List UInt8} (hs:k= .str s) (h:I7 k k'=some b):
  Instr.sameNow .string x y=some b:=by
 subst hs;cases k'<;>simp only[I7]at h<;>try (cases h;done)
 simp only[bO]at hk hk';subst hk;subst hk';cases h;simp only[Instr.sameNow];congr 1;rw[beq_toListBytes,pR,pR,pX]
theorem pZ {S:dL} {w:World} {s:List UInt8} {x:Value} (hk:bO S w (.str s) x): ∀(es:List (AV×AV)) (ms:List MapEntry) (i:Nat) (r:Option (Nat×AV)),
  dB S w es ms→pM (.str s) es i=some r→ ∃r',Instr.findNow .string x ms i=some r'∧
   (match r,r' with |none,none=>True|some (j,v),some (j',v')=>j=j'∧i≤j∧(es[j-i]?).map (·.2)=some v∧bO S w v v'|_,_=>False)
 |[],ms,i,r,h,hr=>by
  simp only[dB]at h;subst h;simp only[pM,Option.some.injEq]at hr;subst hr;exact⟨none,by simp [Instr.findNow],trivial⟩
 |(k',v)::es,ms,i,r,h,hr=>by
  simp only[dB]at h;obtain⟨e,es',rfl,h1,h2,h3⟩:=h;simp only[pM]at hr;split at hr<;>first|(cases hr;done)|skip
  ·rename_i hb
   cases hr;refine⟨some (i,e.val), ?_, ?_⟩
   ·simp only[Instr.findNow,Js hk h1 rfl hb]
   simp only;exact⟨by trivial,bF _,by simp,h2⟩
  rename_i hb;obtain⟨r',e1,e2⟩:=pZ hk es es' (i+1) r h3 hr;refine⟨r', ?_, ?_⟩
  ·simp only[Instr.findNow,Js hk h1 rfl hb,e1]
  cases r<;>cases r'<;>simp only at e2⊢;obtain⟨e3,e4,e5,e6⟩:=e2;refine⟨e3,by omega, ?_,e6⟩;rename_i p _;rw[show p.1-i=(p.1-(i+1))+1 by omega];simpa using e5
theorem iJ {P:Program} {tk:TypeId} (hu:P.underlying tk=some .string) {x:Value} {ms:List MapEntry} {r:Option (Nat×Value)} (h:Instr.findNow .string x ms 0=some r) (w1:World):
  (Instr.findKey tk x ms).run P w1= .ok r w1:=by
 simp only[Instr.findKey,Sem.run_bind,run_underlying hu,Result.andThen_ok,h,Sem.run_pure]
theorem hJ {P:Program} {tk:TypeId} (hu:P.underlying tk=some .string) (b:Bool) (s:ByteArray) (w1:World):(Instr.checkKey b 10000 tk (.string s)).run P w1= .ok () w1:=by
 have key: ∀n:Nat,(Instr.checkKey b (n+1) tk (.string s)).run P w1= .ok () w1:=fun n=>by
  simp only[Instr.checkKey,Sem.run_bind,run_underlying hu,Result.andThen_ok,Sem.run_pure]
 exact key 9999
theorem qX {P:Program} {w1:World} {b clock:Nat} {ms:Array MapEntry} (h:w1.heap[b]?=some (.map ms clock)):(getObj b).run P w1= .ok (.map ms clock) w1:=by
 simp only[getObj,Sem.run,h]
theorem dB.of_lists: ∀{ks xs:List AV} {ms:List MapEntry},bW S w ks (ms.map fun e=>e.key)→bW S w xs (ms.map fun e=>e.val)→dB S w (ks.zip xs) ms
 |[],_,ms,h,_=>by
  simp only[bW,List.map_eq_nil_iff]at h;subst h;simp only[List.zip_nil_left,dB]
 |k::ks,[],ms,h,h'=>by
  simp only[bW,List.map_eq_nil_iff]at h';subst h';simp only[List.zip_nil_right,dB]
 |k::ks,x::xs,ms,h,h'=>by
  cases ms with
  |nil=>
   simp only[bW,List.map_nil]at h;obtain⟨_,_,e,_⟩:=h;cases e
  |cons m ms=>
   simp only[bW,List.map_cons]at h h';obtain⟨u,us,e,h1,h2⟩:=h;obtain⟨u',us',e',h1',h2'⟩:=h';simp only[List.cons.injEq]at e e';obtain⟨rfl,rfl⟩:=e;obtain⟨rfl,rfl⟩:=e';simp only[List.zip_cons_cons,dB];exact⟨m,ms,rfl,h1,h1',dB.of_lists h2 h2'⟩
theorem Dm (hst:St E γ S H w) (hf:gO S w fr a) {t:TypeId} {x k:Operand} {ok:Bool} {v:AV} (h:aq E H fr (.lookup t x k ok)=some v):iW E S w a (.lookup t x k ok) v:=by
 intro dst ty pos af g;have hx:=cP hst hf x;have hk:=cP hst hf k;simp only[aq]at h;split at h<;>first|(cases h;done)|skip
 rename_i ht ek;split at h<;>first|(cases h;done)|skip
 rename_i hti hte;split at h<;>first|(cases h;done)|skip
 rename_i es hes;split at h<;>first|(cases h;done)|skip
 rename_i r hr;cases h;rw[ek]at hk;obtain⟨z,hz,ez⟩:=gJ hte w;have hu:=Vm ht;have huk:=vV hti;have hk2:=hk;simp only[bO]at hk
 have hm: ∃ms:List MapEntry,dB S w es ms∧((a.eval x= .map none∧ms=[])∨ ∃b clock,a.eval x= .map (some b)∧w.heap[b]?=some (.map ms.toArray clock)):=by
  split at hes
  ·rename_i b e
   rw[e]at hx;simp only[bO]at hx;split at hes<;>first|(cases hes;done)|skip
   rename_i hb;cases hes;have ho:=(hst.obj _ _ hb).1;simp only[eR]at ho;obtain⟨ms,clock,h1,h2⟩:=ho;exact⟨ms.toList,h2, .inr ⟨b,clock,hx,h1⟩⟩
  ·rename_i e
   rw[e]at hx;simp only[bO]at hx;cases hes;exact⟨[],by simp only[dB], .inl ⟨hx,rfl⟩⟩
  ·rename_i e
   rw[e]at hx;simp only[bO]at hx;cases hes;obtain⟨b,hv,_,mes,clock,h1,h2,h3⟩:=hx;exact⟨mes.toList,dB.of_lists h2 h3, .inr ⟨b,clock,hv,h1⟩⟩
  cases hes
 obtain⟨ms,hm1,hm2⟩:=hm;obtain⟨r',hr1,hr2⟩:=pZ hk2 es ms 0 r hm1 hr;rw[hk]at hr1
 have hrun:(execOp a.eval ⟨dst, .lookup t x k ok,ty,pos,af,g⟩).run E.P w= .ok (.value (if ok then .tuple #[(r'.map (·.2)).getD z, .bool r'.isSome]else(r'.map (·.2)).getD z)) w:=by
  rcases hm2 with⟨e,rfl⟩|⟨b,clock,e,hb⟩
  ·simp only[execOp,Instr.lookup,Sem.run_bind,run_underlying hu,Result.andThen_ok,e,Sem.run_pure,hk,hJ huk,iJ huk hr1]
   cases r'<;>simp [hz]
  simp only[execOp,Instr.lookup,Sem.run_bind,run_underlying hu,Result.andThen_ok,e,Sem.run_pure,qX hb,hk,hJ huk,iJ huk hr1];cases r'<;>simp [hz]
 refine⟨_,hrun, ?_⟩;have hz2:bO S w (vJ z) z:=iD S w z;rw[←ez]at hz2
 cases r with
 |none=>
  cases r' with
  |some p=>simp only at hr2
  |none=>
   cases ok
   ·simpa using hz2
   simp only[if_true,Option.map_none,Option.getD_none,Option.isSome_none,bO,bW];exact⟨[z, .bool false],rfl,z,[.bool false],rfl,hz2, .bool false,[],rfl,rfl,rfl⟩
 |some p=>
  cases r' with
  |none=>simp only at hr2
  |some p'=>
   obtain⟨_,_,_,h6⟩:=hr2;cases ok
   ·simpa using h6
   simp only[if_true,Option.map_some,Option.getD_some,Option.isSome_some,bO,bW];exact⟨[p'.2, .bool true],rfl,p'.2,[.bool true],rfl,h6, .bool true,[],rfl,rfl,rfl⟩
theorem hO {S:dL} {w:World} {v:AV} {v':Value} {cs:List AV} (h:bO S w v v') (hc:cellsOf v=some cs):bW S w cs v'.cells.toList:=by
 cases v<;>simp only[cellsOf]at hc<;>cases hc
 case agg=>
  simp only[bO]at h;obtain⟨vs,rfl,h⟩:=h;simpa [Value.cells]using h
 all_goals
  have h0:=h;simp only[bO]at h
  have e:v'.cells= #[v']:=by
   first
    |(subst h;rfl)
    |(obtain⟨_,_,rfl,_⟩:=h;rfl)
    |(obtain⟨_,rfl,_⟩:=h;rfl)
  rw[e];simp only[bW];exact⟨v',[],rfl,h0,rfl⟩
theorem tQ (off:Nat): ∀(vs:List Value) (j:Nat) (cur:Array Value),off+j+vs.length≤cur.size→
  ((vs.zipIdx j).foldl (fun cs (c,i)=>cs.setIfInBounds (off+i) c) cur).toList=cur.toList.take (off+j)++vs++cur.toList.drop (off+j+vs.length)
 |[],j,cur,_=>by simp
 |v::vs,j,cur,h=>by
  simp only[aQ]at h;simp only[List.zipIdx_cons,List.foldl_cons];rw[tQ off vs (j+1) _ (by simp;omega)];simp only[Array.toList_setIfInBounds];rw[show off+(j+1)=off+j+1 by omega]
  have h1:(cur.toList.set (off+j) v).take (off+j+1)=cur.toList.take (off+j)++[v]:=by
   rw[bL (by simp;omega)];simp only[List.getElem_set_self,List.append_cancel_right_eq];apply List.ext_getElem?;intro i;simp only[List.getElem?_take,List.getElem?_set];split
   ·rw[if_neg (by omega)]
   rfl
  rw[h1,List.drop_set_of_lt (by omega)];simp [Nat.add_assoc,Nat.add_comm 1]
theorem Is {P:Program} {S:dL} {w:World} {gs:Array Field} {places:Nat→Option (Nat×Nat)} (hpl: ∀(f:Nat) (g:Field) (ti:TI),gs[f]?=some g→bP P g.type=some ti→places f=some (g.offset,ti.size)) {G:Nat→Option (List AV)}:
  ∀(ps:List (Nat×AV)) (qs:List (Nat×Value)) (z:List AV) (cur:Array Value) (r:List AV),
   ps.length=qs.length→(∀(i:Nat) p q,ps[i]?=some p→qs[i]?=some q→p.1=q.1∧bO S w p.2 q.2)→bW S w z cur.toList→
   aq.abuild ⟨P,G⟩ (gs.toList.map fun f=>(f.type,f.offset)) z ps=some r→ ∃out,Instr.fill places cur qs=some out∧bW S w r out.toList
 |[],qs,z,cur,r,hl,_,hz,h=>by
  cases qs with
  |nil=>
   simp only[aq.abuild,Option.some.injEq]at h;subst h;exact⟨cur,by simp [Instr.fill],hz⟩
  |cons=>simp at hl
 |(i,v)::ps,qs,z,cur,r,hl,hp,hz,h=>by
  cases qs with
  |nil=>simp at hl
  |cons q qs=>
   obtain⟨i',v'⟩:=q;obtain⟨e1,e2⟩:=hp 0 _ _ rfl rfl;simp only at e1 e2;subst e1;simp only[aq.abuild]at h;split at h<;>first|(cases h;done)|skip
   rename_i t off hf;split at h<;>first|(cases h;done)|skip
   rename_i ti hti;split at h<;>first|(cases h;done)|skip
   rename_i cs hcs;split at h<;>first|(cases h;done)|skip
   rename_i hc;rw[cE,bH]at hf;obtain⟨g,hg,hg2⟩:=hf;cases hg2;have hv:=hO e2 hcs;have hlen:v'.cells.size=cs.length:=by simpa using hv.length
   have hzl:cur.size=z.length:=by simpa using hz.length
   have hpi:=hpl i g ti (by simpa using hg) hti;have hfold:=tQ g.offset v'.cells.toList 0 cur (by simp [hlen];omega)
   have hstep:bW S w (z.take g.offset++cs++z.drop (g.offset+cs.length)) ((v'.cells.zipIdx.foldl (fun cs (c,j)=>cs.setIfInBounds (g.offset+j) c) cur).toList):=by
    have e3:(v'.cells.zipIdx.foldl (fun cs (c,j)=>cs.setIfInBounds (g.offset+j) c) cur)=(v'.cells.toList.zipIdx.foldl (fun cs (c,j)=>cs.setIfInBounds (g.offset+j) c) cur):=by
     rw[←Array.foldl_toList];simp
    rw[e3,hfold];simp only[Nat.add_zero,Array.length_toList,hlen];exact(bW.append (hz.take _) hv).append (hz.drop _)
   obtain⟨out,ho,hr⟩:=Is hpl ps qs _ _ r (by simpa using hl) (fun j p q h1 h2=>hp (j+1) p q (by simpa using h1) (by simpa using h2)) hstep h;refine⟨out, ?_,hr⟩;simp only[Instr.fill,hpi];rw[if_neg (by simp;omega)];exact ho
theorem wM {P:Program} {w1:World}: ∀(gs:List Field),(gs.map fun f=>(f.type,f.offset)).all (fun p=>(bP P p.1).isSome)=true→
  ∃ps:List (Nat×Nat),(gs.mapM (m:=Sem) fun f=>do pure (f.offset,←sizeOf f.type)).run P w1= .ok ps w1∧ ∀(f:Nat) (g:Field) (ti:TI),gs[f]?=some g→bP P g.type=some ti→ps[f]?=some (g.offset,ti.size)
 |[],_=>⟨[],by simp,by simp⟩
 |g::gs,h=>by
  simp only[List.map_cons,List.all_cons,bA,Option.isSome_iff_exists]at h;obtain⟨⟨ti,hti⟩,h⟩:=h;obtain⟨ps,h1,h2⟩:=wM (w1:=w1) gs h;refine⟨(g.offset,ti.size)::ps, ?_,fun f g' ti' hf ht=>?_⟩
  ·simp only[List.mapM_cons,Sem.run_bind,dV hti,Result.andThen_ok,Sem.run_pure]at h1⊢
   simp only[h1,Result.andThen_ok]
  cases f with
  |zero=>simp at hf;subst hf;rw[hti]at ht;cases ht;rfl
  |succ f=>simp at hf;simpa using h2 f g' ti' hf ht
theorem Gj (hst:St E γ S H w) (hf:gO S w fr a) {t:TypeId} {parts:Array (Nat×Operand)} {v:AV} (h:aq E H fr (.build t parts)=some v):iW E S w a (.build t parts) v:=by
 intro dst ty pos af g;simp only[aq,bU]at h;obtain⟨ti,hti,h⟩:=h;split at h<;>first|(cases h;done)|skip
 rename_i fs hk;split at h<;>first|(cases h;done)|skip
 rename_i hall;split at h<;>first|(cases h;done)|skip
 rename_i z hz;rw[bH]at h;obtain⟨r,hr,rfl⟩:=h;obtain⟨k,s1,b1,z1⟩:=ti;simp only at hk hz;subst hk;subst hz;obtain⟨gs,hu,rfl⟩:=Fv hti;obtain⟨zv,hzr,ez⟩:=gJ hti w;have hzrel:bO S w (vJ zv) zv:=iD S w zv;rw[←ez]at hzrel;have hzc:bW S w z zv.cells.toList:=hO hzrel rfl;obtain⟨ps,hp1,hp2⟩:=wM (P:=E.P) (w1:=w) gs.toList (by simpa only[Bool.not_eq_false]using hall)
 have hpm:(gs.mapM (m:=Sem) fun f=>do pure (f.offset,←sizeOf f.type)).run E.P w= .ok ps.toArray w:=by
  rw[Array.mapM_eq_mapM_toList];simp only[Sem.run_map,hp1,Result.andThen_ok]
 obtain⟨out,ho,hrel⟩:=Is (P:=E.P) (G:=E.G) (places:=fun i=>ps.toArray[i]?) (gs:=gs)
  (fun f g ti h1 h2=>by simpa using hp2 f g ti (by simpa using h1) h2)
  (parts.toList.map fun p=>(p.1,ev E.G fr p.2)) (parts.toList.map fun p=>(p.1,a.eval p.2)) z zv.cells r (by simp)
  (fun i p q h1 h2=>by
   rw[cE,bH]at h1 h2;obtain⟨x,hx,rfl⟩:=h1;obtain⟨y,hy,rfl⟩:=h2;rw[hx]at hy;cases hy
   exact⟨rfl,cP hst hf x.2⟩) hzc hr
 refine⟨.agg out, ?_,by simp only[bO];exact⟨out.toList,by simp,hrel⟩⟩;have ho':Instr.fill (fun i=>ps.toArray[i]?) zv.cells (parts.map fun x=>(x.1,a.eval x.2)).toList=some out:=by simpa using ho
 simp only[execOp,Instr.build,Sem.run_bind,hzr,Result.andThen_ok,run_underlying hu,hpm,ho',Sem.run_pure]
theorem sZ (hst:St E γ S H w) (hf:gO S w fr a) {x:Operand} {xt t:TypeId} {v:AV} (h:aq E H fr (.typeAssert x xt t true)=some v):iW E S w a (.typeAssert x xt t true) v:=by
 intro dst ty pos af g;have hx:=cP hst hf x;simp only[aq]at h;split at h<;>first|(cases h;done)|skip
 rename_i ti t' v' hne hti e;rw[e]at hx;simp only[bO]at hx;obtain⟨u,hx,hv⟩:=hx;obtain⟨d,i,z,hu,hi,hz,e2⟩:=eW hti
 have hd: ∀ms,d≠ .interface ms:=fun ms c=>by
  subst c;exact hne _ _ _ (by rw[e2];rfl)
 have key:(Instr.typeAssert (.iface t' u) xt t true).run E.P w=if t'=t then .ok (.tuple #[u, .bool true]) w else .ok (.tuple #[z, .bool false]) w:=by
  unfold Instr.typeAssert;simp only[Sem.run_bind,run_underlying hu,Result.andThen_ok];cases d<;>first|(exact absurd rfl (hd _))|skip
  all_goals
   split
   ·simp
   simp [zeroValue,typeInfo,hi,hz]
 by_cases ht:t'=t
 ·simp only[if_pos ht]at h key
  cases h;refine⟨.tuple #[u, .bool true], ?_, ?_⟩
  ·simp only[execOp,hx,Sem.run_bind,Sem.run_pure,key,Result.andThen_ok]
  simp only[bO,bW];exact⟨[u, .bool true],rfl,_,_,rfl,hv,_,_,rfl,rfl,rfl⟩
 simp only[if_neg ht]at h key;cases h;refine⟨.tuple #[z, .bool false], ?_, ?_⟩
 ·simp only[execOp,hx,Sem.run_bind,Sem.run_pure,key,Result.andThen_ok]
 simp only[bO,bW];exact⟨[z, .bool false],rfl,_,_,rfl,by rw[e2];exact iD S w z,_,_,rfl,rfl,rfl⟩
theorem I4 (hst:St E γ S H w) (hf:gO S w fr a) {o:Op} {v:AV} (h:aq E H fr o=some v):iW E S w a o v:=by
 cases o
 case move x=>
  intro dst ty pos af g;simp only[aq,Option.some.injEq]at h;subst h;exact⟨_,by simp [execOp],cP hst hf x⟩
 case assign x=>
  intro dst ty pos af g;simp only[aq,Option.some.injEq]at h;subst h;exact⟨_,by simp [execOp],cP hst hf x⟩
 case pick c x y=>
  intro dst ty pos af g;have hc:=cP hst hf c;simp only[aq]at h;split at h<;>first|(cases h;done)|skip
  rename_i b e;cases h;rw[e]at hc;simp only[bO]at hc;cases b
  ·exact⟨_,by simp [execOp,hc,asBool],cP hst hf y⟩
  exact⟨_,by simp [execOp,hc,asBool],cP hst hf x⟩
 case build=>exact Gj hst hf h
 case load=>exact Lh hst hf h
 case nilCheck=>exact vY hst hf h
 case binOp=>exact Gk hst hf h
 case unOp=>exact Le hst hf h
 case convert=>exact zG hst hf h
 case makeInterface=>exact qB hst hf h
 case makeFunc=>exact vZ hst hf h
 case slice t x lo hi mx=>
  cases mx with
  |none=>exact Gg hst hf h
  |some m=>simp [aq]at h
 case fieldAddr=>exact vG hst hf h
 case field=>exact Gi hst hf h
 case indexAddr=>exact vF hst hf h
 case index=>exact Gh hst hf h
 case lookup=>exact Dm hst hf h
 case extract=>exact zF hst hf h
 case typeAssert x xt t ok=>
  cases ok with
  |false=>simp [aq]at h
  |true=>exact sZ hst hf h
 case call c=>
  obtain⟨callee,args,ts⟩:=c
  cases callee with
  |value=>simp [aq]at h
  |invoke=>simp [aq]at h
  |builtin b=>
   cases b<;>first
    |exact Rn hst hf h
    |exact Rl hst hf h
    |exact Rm hst hf h
    |(simp [aq]at h;done)
 all_goals (simp [aq]at h)
end
end Go.Al
