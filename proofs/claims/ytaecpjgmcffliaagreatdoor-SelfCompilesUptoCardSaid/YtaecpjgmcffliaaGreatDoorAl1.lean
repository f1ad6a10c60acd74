/- Al1 -/
import Derived.WalkKit
import Derived.ProofKit
import Derived.Laws.BytesArg
set_option linter.unusedSimpArgs false
set_option linter.unusedVariables false
set_option maxRecDepth 10000
namespace Go.Al
theorem iT:type_of% @Array.getD_eq_getD_getElem?:= @Array.getD_eq_getD_getElem?
theorem eM:type_of% @Array.getElem?_eq_some_iff:= @Array.getElem?_eq_some_iff
theorem uD:type_of% @Array.getElem?_modify:= @Array.getElem?_modify
theorem lK:type_of% @Array.length_toList:= @Array.length_toList
theorem uC:type_of% @Array.mem_of_getElem?:= @Array.mem_of_getElem?
theorem Vh:type_of% @Array.mem_toList_iff:= @Array.mem_toList_iff
theorem Vg:type_of% @Array.size_replicate:= @Array.size_replicate
theorem eS:type_of% @Array.toArray_toList:= @Array.toArray_toList
theorem uB:type_of% @Bool.and_eq_false_iff:= @Bool.and_eq_false_iff
theorem aV:type_of% @Bool.and_eq_true:= @Bool.and_eq_true
theorem zS:type_of% @Bool.and_true:= @Bool.and_true
theorem dL:type_of% @Bool.eq_false_iff:= @Bool.eq_false_iff
theorem eW:type_of% @Bool.eq_iff_iff:= @Bool.eq_iff_iff
theorem pH:type_of% @Bool.false_and:= @Bool.false_and
theorem cK:type_of% @Bool.false_eq_true:= @Bool.false_eq_true
theorem PE:type_of% @Bool.false_or:= @Bool.false_or
theorem pG:type_of% @Bool.not_eq_false':= @Bool.not_eq_false'
theorem eI:type_of% @Bool.not_eq_true':= @Bool.not_eq_true'
theorem Rq:type_of% @Bool.not_true:= @Bool.not_true
theorem vS:type_of% @Bool.or_eq_false_iff:= @Bool.or_eq_false_iff
theorem kK:type_of% @Bool.or_eq_true:= @Bool.or_eq_true
theorem cO:type_of% @Bool.true_and:= @Bool.true_and
theorem iY:type_of% @Int.eq_ofNat_of_zero_le:= @Int.eq_ofNat_of_zero_le
theorem pF:type_of% @Int.fdiv_eq_ediv_of_nonneg:= @Int.fdiv_eq_ediv_of_nonneg
theorem vR:type_of% @Int.tmod_eq_emod_of_nonneg:= @Int.tmod_eq_emod_of_nonneg
theorem cA:type_of% @Int.toNat_natCast:= @Int.toNat_natCast
theorem aU:type_of% @IntWalk.i64_in:= @IntWalk.i64_in
theorem dX:type_of% @IntWalk.u32_in:= @IntWalk.u32_in
theorem BU:type_of% @IntWalk.u64_in:= @IntWalk.u64_in
theorem eD:type_of% @List.all_cons:= @List.all_cons
theorem cI:type_of% @List.all_eq_true:= @List.all_eq_true
theorem gW:type_of% @List.all_nil:= @List.all_nil
theorem bV:type_of% @List.append_assoc:= @List.append_assoc
theorem eF:type_of% @List.append_nil:= @List.append_nil
theorem cU:type_of% @List.cons_append:= @List.cons_append
theorem bM:type_of% @List.drop_eq_getElem_cons:= @List.drop_eq_getElem_cons
theorem dF:type_of% @List.drop_length:= @List.drop_length
theorem jV:type_of% @List.drop_succ_cons:= @List.drop_succ_cons
theorem dP:type_of% @List.drop_zero:= @List.drop_zero
theorem nF:type_of% @List.eq_nil_of_length_eq_zero:= @List.eq_nil_of_length_eq_zero
theorem PC:type_of% @List.eq_of_mem_replicate:= @List.eq_of_mem_replicate
theorem lJ:type_of% @List.ext_getElem?:= @List.ext_getElem?
theorem nL:type_of% @List.flatten_cons:= @List.flatten_cons
theorem ZN:type_of% @List.getElem?_append:= @List.getElem?_append
theorem fC:type_of% @List.getElem?_append_left:= @List.getElem?_append_left
theorem gC:type_of% @List.getElem?_append_right:= @List.getElem?_append_right
theorem fB:type_of% @List.getElem?_cons_succ:= @List.getElem?_cons_succ
theorem dJ:type_of% @List.getElem?_cons_zero:= @List.getElem?_cons_zero
theorem dW:type_of% @List.getElem?_drop:= @List.getElem?_drop
theorem aC:type_of% @List.getElem?_eq_getElem:= @List.getElem?_eq_getElem
theorem dO:type_of% @List.getElem?_eq_none:= @List.getElem?_eq_none
theorem bD:type_of% @List.getElem?_eq_some_iff:= @List.getElem?_eq_some_iff
theorem cT:type_of% @List.getElem?_map:= @List.getElem?_map
theorem Vf:type_of% @List.getElem?_modify:= @List.getElem?_modify
theorem gO:type_of% @List.getElem?_of_mem:= @List.getElem?_of_mem
theorem rC:type_of% @List.getElem?_replicate:= @List.getElem?_replicate
theorem hJ:type_of% @List.getElem?_set:= @List.getElem?_set
theorem eH:type_of% @List.getElem?_take:= @List.getElem?_take
theorem bZ:type_of% @List.getElem_mem:= @List.getElem_mem
theorem aB:type_of% @List.length_append:= @List.length_append
theorem aJ:type_of% @List.length_cons:= @List.length_cons
theorem fK:type_of% @List.length_drop:= @List.length_drop
theorem aF:type_of% @List.length_map:= @List.length_map
theorem aT:type_of% @List.length_nil:= @List.length_nil
theorem fG:type_of% @List.length_replicate:= @List.length_replicate
theorem dK:type_of% @List.length_set:= @List.length_set
theorem bW:type_of% @List.length_singleton:= @List.length_singleton
theorem dS:type_of% @List.length_take:= @List.length_take
theorem cP:type_of% @List.map_append:= @List.map_append
theorem cX:type_of% @List.map_cons:= @List.map_cons
theorem dH:type_of% @List.map_nil:= @List.map_nil
theorem eV:type_of% @List.mem_append:= @List.mem_append
theorem Ve:type_of% @List.mem_append_left:= @List.mem_append_left
theorem Nh:type_of% @List.mem_append_right:= @List.mem_append_right
theorem bJ:type_of% @List.mem_cons:= @List.mem_cons
theorem eR:type_of% @List.mem_cons_of_mem:= @List.mem_cons_of_mem
theorem dN:type_of% @List.mem_cons_self:= @List.mem_cons_self
theorem lI:type_of% @List.mem_map:= @List.mem_map
theorem aW:type_of% @List.mem_of_getElem?:= @List.mem_of_getElem?
theorem pR:type_of% @List.mem_or_eq_of_mem_set:= @List.mem_or_eq_of_mem_set
theorem Bl:type_of% @List.mem_replicate:= @List.mem_replicate
theorem bE:type_of% @List.mem_singleton:= @List.mem_singleton
theorem wZ:type_of% @List.mem_toArray:= @List.mem_toArray
theorem cC:type_of% @List.nil_append:= @List.nil_append
theorem bL:type_of% @List.not_mem_nil:= @List.not_mem_nil
theorem rB:type_of% @List.prefix_refl:= @List.prefix_refl
theorem sI:type_of% @List.set_cons_zero:= @List.set_cons_zero
theorem Gn:type_of% @List.size_toArray:= @List.size_toArray
theorem lZ:type_of% @List.take_append_drop:= @List.take_append_drop
theorem ZM:type_of% @List.take_left:= @List.take_left
theorem dV:type_of% @List.take_length:= @List.take_length
theorem sH:type_of% @List.take_of_length_le:= @List.take_of_length_le
theorem gV:type_of% @List.take_succ_cons:= @List.take_succ_cons
theorem bQ:type_of% @List.take_succ_eq_append_getElem:= @List.take_succ_eq_append_getElem
theorem gN:type_of% @List.take_zero:= @List.take_zero
theorem XH:type_of% @List.zipWith_cons_cons:= @List.zipWith_cons_cons
theorem gJ:type_of% @Nat.add_assoc:= @Nat.add_assoc
theorem kQ:type_of% @Nat.add_mul:= @Nat.add_mul
theorem gY:type_of% @Nat.add_sub_cancel_left:= @Nat.add_sub_cancel_left
theorem mV:type_of% @Nat.add_zero:= @Nat.add_zero
theorem XG:type_of% @Nat.div_div_eq_div_mul:= @Nat.div_div_eq_div_mul
theorem XS:type_of% @Nat.div_le_self:= @Nat.div_le_self
theorem qE:type_of% @Nat.le_of_eq:= @Nat.le_of_eq
theorem aZ:type_of% @Nat.le_refl:= @Nat.le_refl
theorem oH:type_of% @Nat.le_trans:= @Nat.le_trans
theorem OZ:type_of% @Nat.lt_irrefl:= @Nat.lt_irrefl
theorem sG:type_of% @Nat.lt_of_lt_of_le:= @Nat.lt_of_lt_of_le
theorem qD:type_of% @Nat.lt_or_ge:= @Nat.lt_or_ge
theorem sF:type_of% @Nat.mod_lt:= @Nat.mod_lt
theorem pE:type_of% @Nat.mod_two_eq_zero_or_one:= @Nat.mod_two_eq_zero_or_one
theorem gA:type_of% @Nat.mul_le_mul_right:= @Nat.mul_le_mul_right
theorem nE:type_of% @Nat.mul_one:= @Nat.mul_one
theorem sA:type_of% @Nat.one_mul:= @Nat.one_mul
theorem mU:type_of% @Nat.pow_succ:= @Nat.pow_succ
theorem Gm:type_of% @Nat.sub_self:= @Nat.sub_self
theorem cD:type_of% @Nat.zero_add:= @Nat.zero_add
theorem cN:type_of% @Nat.zero_le:= @Nat.zero_le
theorem cJ:type_of% @Option.bind_eq_some_iff:= @Option.bind_eq_some_iff
theorem bX:type_of% @Option.bind_some:= @Option.bind_some
theorem LN:type_of% @Option.eq_none_or_eq_some:= @Option.eq_none_or_eq_some
theorem mM:type_of% @Option.getD_none:= @Option.getD_none
theorem mK:type_of% @Option.getD_some:= @Option.getD_some
theorem fS:type_of% @Option.isSome_none:= @Option.isSome_none
theorem mJ:type_of% @Option.isSome_some:= @Option.isSome_some
theorem eK:type_of% @Option.ite_none_right_eq_some:= @Option.ite_none_right_eq_some
theorem bG:type_of% @Option.map_eq_some_iff:= @Option.map_eq_some_iff
theorem jF:type_of% @Option.map_none:= @Option.map_none
theorem eE:type_of% @Option.map_some:= @Option.map_some
theorem bY:type_of% @Option.some_ne_none:= @Option.some_ne_none
theorem sW:type_of% @and_true:= @and_true
theorem Aw:type_of% @beq_iff_eq:= @beq_iff_eq
theorem bI:type_of% @decide_eq_false:= @decide_eq_false
theorem eQ:type_of% @decide_eq_false_iff_not:= @decide_eq_false_iff_not
theorem cV:type_of% @decide_eq_true:= @decide_eq_true
theorem bH:type_of% @decide_eq_true_eq:= @decide_eq_true_eq
theorem rZ:type_of% @decide_true:= @decide_true
theorem TO:type_of% @forall_eq:= @forall_eq
theorem dT:type_of% @if_false:= @if_false
theorem aO:type_of% @if_neg:= @if_neg
theorem bF:type_of% @if_pos:= @if_pos
theorem cQ:type_of% @if_true:= @if_true
theorem LR:type_of% @ne_eq:= @ne_eq
theorem Gf:type_of% @not_false_eq_true:= @not_false_eq_true
theorem aE:type_of% @of_decide_eq_false:= @of_decide_eq_false
theorem aD:type_of% @of_decide_eq_true:= @of_decide_eq_true
theorem dD:type_of% @or_false:= @or_false
inductive AV where
 |undef
 |bool (b:Bool)
 |int (k:IntKind) (n:Int)
 |str (s:List UInt8)
 |agg (cs:List AV)
 |isl (sz:Nat) (l:List (List AV))
 |nsl
 |osl (sz b len:Nat)
 |sub (sz b off len:Nat)
 |ptr (sz b i j:Nat)
 |ipt (row:List AV) (j:Nat)
 |npt
 |mp (b:Nat)
 |imp (ks vs:List AV)
 |nmp
 |fn (f:Fn) (first captured:List AV)
 |nfn
 |ifc (t:TypeId) (v:AV)
 |nif
 |tup (vs:List AV)
abbrev gG:=Nat→Prop
mutual
def cB (S:gG) (w:World):AV→Value→Prop
 | .undef,_=>True
 | .bool b,v=>v= .bool b
 | .int k n,v=>v= .int k n
 | .str s,v=>v= .string ⟨s.toArray⟩
 | .agg cs,v=> ∃vs:List Value,v= .agg vs.toArray∧cY S w cs vs
 | .isl sz l,v=> ∃oa cap,v= .slice oa l.length cap∧l.length≤cap∧cap≤maxLen∧
   (l=[]∨ ∃b off,oa=some ⟨b,off,none⟩∧S b∧cZ S w b off sz l)
 | .nsl,v=>v= .slice none 0 0
 | .osl sz b len,v=> ∃cap e,v= .slice (some ⟨b,0,none⟩) len cap∧w.shape? b=some (e,cap *sz)∧len≤cap∧cap≤maxLen
 | .sub sz b off len,v=> ∃cap a,v= .slice a len cap∧(len=0∨a=some ⟨b,off *sz,none⟩)∧len≤cap∧cap≤maxLen
 | .ptr sz b i j,v=>v= .pointer (some ⟨b,i *sz+j,none⟩)
 | .ipt row j,v=> ∃b off,v= .pointer (some ⟨b,off+j,none⟩)∧S b∧eU S w b off row
 | .npt,v=>v= .pointer none
 | .mp b,v=>v= .map (some b)
 | .imp ks xs,v=> ∃b,v= .map (some b)∧S b∧ ∃mes clock,w.heap[b]?=some (.map mes clock)∧cY S w ks (mes.toList.map fun e=>e.key)∧cY S w xs (mes.toList.map fun e=>e.val)
 | .nmp,v=>v= .map none
 | .fn f first captured,v=> ∃vs us:List Value,v= .func f vs.toArray us.toArray∧cY S w first vs∧cY S w captured us
 | .nfn,v=>v= .nilFunc
 | .ifc t x,v=> ∃u,v= .iface t u∧cB S w x u
 | .nif,v=>v= .nilIface
 | .tup xs,v=> ∃vs:List Value,v= .tuple vs.toArray∧cY S w xs vs
def cY (S:gG) (w:World):List AV→List Value→Prop
 |[],vs=>vs=[]
 |x::xs,vs=> ∃u us,vs=u::us∧cB S w x u∧cY S w xs us
def eU (S:gG) (w:World) (b:Nat):Nat→List AV→Prop
 |_,[]=>True
 |off,x::xs=>(∃u,w.cell? ⟨b,off,none⟩=some u∧cB S w x u)∧eU S w b (off+1) xs
def cZ (S:gG) (w:World) (b:Nat):Nat→Nat→List (List AV)→Prop
 |_,_,[]=>True
 |off,sz,r::rs=>r.length=sz∧eU S w b off r∧cZ S w b (off+sz) sz rs
end
structure oI (M:Nat→Prop) (w w':World):Prop where
 os:w'.os=w.os
 tape:w'.tape=w.tape
 output:w'.output=w.output
 size:w.heap.size≤w'.heap.size
 keep: ∀k,k<w.heap.size→ ¬M k→w'.heap[k]?=w.heap[k]?
 shp: ∀k sh,w.shape? k=some sh→w'.shape? k=some sh
theorem oI.refl (M:Nat→Prop) (w:World):oI M w w:=⟨rfl,rfl,rfl,aZ _,fun _ _ _=>rfl,fun _ _ h=>h⟩
theorem oI.mono {M b:Nat→Prop} {w e:World} (h:oI M w e) (f: ∀k,k<w.heap.size→M k→b k):oI b w e:=
 ⟨h.os,h.tape,h.output,h.size,fun k d g=>h.keep k d (fun c=>g (f k d c)),h.shp⟩
theorem oI.trans {M:Nat→Prop} {w w1 f:World} (h:oI M w w1) (b:oI M w1 f):oI M w f:=
 ⟨b.os.trans h.os,b.tape.trans h.tape,b.output.trans h.output,oH h.size b.size,
  fun k c d=>(b.keep k (sG c h.size) d).trans (h.keep k c d),fun k e g=>b.shp k e (h.shp k e g)⟩
theorem oI.drew (M:Nat→Prop) (w:World):oI M w {w with drawn:=w.drawn+1}:=
 ⟨rfl,rfl,rfl,aZ _,fun _ _ _=>rfl,fun _ _ h=>h⟩
theorem heap_alloc (w:World) (o:Obj) (k:Nat) (h:k<w.heap.size):(w.alloc o).heap[k]?=w.heap[k]?:=RowKit.Below.heap_alloc w o k h
theorem heap_setCell (w:World) (a:Addr) (u:Value) (k:Nat) (h:k≠a.block):(w.setCell a u).heap[k]?=w.heap[k]?:=RowKit.Below.heap_setCell w a u k h
theorem Ib {w:World} {k:Nat} {c:TypeId×Nat} (b:w.shape? k=some c):k<w.heap.size:=by
 unfold World.shape? at b;split at b
 ·rename_i h;exact(eM.1 h).1
 cases b
theorem rI {w b:World} {k:Nat} (h:b.heap[k]?=w.heap[k]?):b.shape? k=w.shape? k:=by
 simp only[World.shape?,h]
theorem oI.alloc (M:Nat→Prop) (w:World) (o:Obj):oI M w (w.alloc o):=
 ⟨rfl,rfl,rfl,by simp,fun k c _=>heap_alloc _ _ _ c,fun k d b=>(rI (heap_alloc _ _ _ (Ib b))).trans b⟩
theorem oI.setCell {M:Nat→Prop} (w:World) (a:Addr) (v:Value) (h:M a.block):oI M w (w.setCell a v):=by
 refine⟨rfl,rfl,rfl,by simp,fun k g f=>heap_setCell _ _ _ _ (fun e=>f (e▸h)),fun k i b=>?_⟩;by_cases d:k=a.block
 ·subst d
  have e:(w.setCell a v).heap[a.block]?=(w.heap[a.block]?).map fun
    | .cells c elem frozen=> .cells (if a.spot.isSome then c else c.setIfInBounds a.off v) elem frozen
    |o=>o:=by
   simp only[World.setCell,uD,cQ];rfl
  unfold World.shape? at *;rw[e]
  cases hh:w.heap[a.block]? with
  |none=>rw[hh]at b;cases b
  |some x=>
   rw[hh]at b;cases x<;>simp only[eE]at * <;>cases b;split<;>simp_all
 exact(rI (heap_setCell _ _ _ _ d)).trans b
theorem I6 {w c:World} {b:Nat} (h:c.heap[b]?=w.heap[b]?) (o:Nat) (s:Option Nat):c.cell? ⟨b,o,s⟩=w.cell? ⟨b,o,s⟩:=by
 simp only[World.cell?,h]
structure iC (S S':gG) (w w':World):Prop where
 heap: ∀k,S k→w'.heap[k]?=w.heap[k]?
 shp: ∀k sh,w.shape? k=some sh→w'.shape? k=some sh
 sub: ∀k,S k→S' k
mutual
theorem cB.mono {S n:gG} {w p:World} (c:iC S n w p): ∀(x:AV) (v:Value),cB S w x v→cB n p x v
 | .undef,_,_=>by simp only[cB]
 | .bool _,_,h=>by simpa only[cB]using h
 | .int _ _,_,h=>by simpa only[cB]using h
 | .str _,_,h=>by simpa only[cB]using h
 | .agg cs,v,h=>by
   simp only[cB]at *;obtain⟨vs,e,h⟩:=h;exact⟨vs,e,cY.mono c cs vs h⟩
 | .isl sz l,v,h=>by
   simp only[cB]at *;obtain⟨B,j,e,d,g,i⟩:=h;refine⟨B,j,e,d,g, ?_⟩;rcases i with i|⟨b,off,z,f,k⟩
   ·exact .inl i
   exact .inr ⟨b,off,z,c.sub _ f,cZ.mono c l b off sz (c.heap b f) k⟩
 | .nsl,_,h=>by simpa only[cB]using h
 | .osl _ _ _,_,h=>by
   simp only[cB]at *;obtain⟨j,e,d,g,i⟩:=h;exact⟨j,e,d,c.shp _ _ g,i⟩
 | .sub _ _ _ _,_,h=>by simpa only[cB]using h
 | .ptr _ _ _ _,_,h=>by simpa only[cB]using h
 | .ipt row _,_,h=>by
   simp only[cB]at *;obtain⟨b,off,e,f,k⟩:=h;exact⟨b,off,e,c.sub _ f,eU.mono c row b off (c.heap b f) k⟩
 | .npt,_,h=>by simpa only[cB]using h
 | .mp _,_,h=>by simpa only[cB]using h
 | .imp ks xs,_,h=>by
   simp only[cB]at *;obtain⟨b,e,f,A,y,d,g,i⟩:=h;exact⟨b,e,c.sub _ f,A,y,(c.heap b f).trans d,cY.mono c ks _ g,cY.mono c xs _ i⟩
 | .nmp,_,h=>by simpa only[cB]using h
 | .fn _ first captured,_,h=>by
   simp only[cB]at *;obtain⟨vs,o,e,d,g⟩:=h;exact⟨vs,o,e,cY.mono c first vs d,cY.mono c captured o g⟩
 | .nfn,_,h=>by simpa only[cB]using h
 | .ifc _ x,_,h=>by
   simp only[cB]at *;obtain⟨u,e,d⟩:=h;exact⟨u,e,cB.mono c x u d⟩
 | .nif,_,h=>by simpa only[cB]using h
 | .tup xs,_,h=>by
   simp only[cB]at *;obtain⟨vs,e,d⟩:=h;exact⟨vs,e,cY.mono c xs vs d⟩
theorem cY.mono {S c:gG} {w g:World} (d:iC S c w g): ∀(b:List AV) (vs:List Value),cY S w b vs→cY c g b vs
 |[],_,h=>by simpa only[cY]using h
 |x::b,vs,h=>by
  simp only[cY]at *;obtain⟨u,f,e,i,j⟩:=h;exact⟨u,f,e,cB.mono d x u i,cY.mono d b f j⟩
theorem eU.mono {S d:gG} {w c:World} (f:iC S d w c): ∀(row:List AV) (b off:Nat),c.heap[b]?=w.heap[b]?→eU S w b off row→eU d c b off row
 |[],_,_,_,_=>by simp only[eU]
 |x::xs,b,off,hb,h=>by
  simp only[eU]at *;obtain⟨⟨u,e,g⟩,i⟩:=h;exact⟨⟨u,(I6 hb off none).trans e,cB.mono f x u g⟩,eU.mono f xs b (off+1) hb i⟩
theorem cZ.mono {S d:gG} {w c:World} (e:iC S d w c): ∀(l:List (List AV)) (b off sz:Nat),c.heap[b]?=w.heap[b]?→cZ S w b off sz l→cZ d c b off sz l
 |[],_,_,_,_,_=>by simp only[cZ]
 |r::rs,b,off,sz,hb,h=>by
  simp only[cZ]at *;exact⟨h.1,eU.mono e r b off hb h.2.1,cZ.mono e rs b (off+sz) sz hb h.2.2⟩
end
section
variable {S : gG} {w : World}
theorem cY.length: ∀{b:List AV} {vs:List Value},cY S w b vs→vs.length=b.length
 |[],vs,h=>by simp only[cY]at h;subst h;rfl
 |x::b,vs,h=>by
  simp only[cY]at h;obtain⟨u,d,rfl,_,c⟩:=h;simp [cY.length c]
theorem cY.get: ∀{b:List AV} {vs:List Value} (i:Nat) {x:AV},cY S w b vs→b[i]?=some x→ ∃v,vs[i]?=some v∧cB S w x v
 |[],_,i,x,_,hx=>by simp at hx
 |y::b,vs,i,x,h,hx=>by
  simp only[cY]at h;obtain⟨u,g,rfl,c,d⟩:=h
  cases i with
  |zero=>simp at hx;subst hx;exact⟨u,rfl,c⟩
  |succ i=>simp at hx;obtain⟨v,e,f⟩:=cY.get i d hx;exact⟨v,by simpa using e,f⟩
theorem cY.drop: ∀{b:List AV} {vs:List Value} (n:Nat),cY S w b vs→cY S w (b.drop n) (vs.drop n)
 |_,_,0,h=>by simpa using h
 |[],vs,n+1,h=>by simp only[cY]at h;subst h;simp [cY]
 |y::b,vs,n+1,h=>by
  simp only[cY]at h;obtain⟨u,d,rfl,_,c⟩:=h;simpa using cY.drop n c
theorem cY.take: ∀{b:List AV} {vs:List Value} (n:Nat),cY S w b vs→cY S w (b.take n) (vs.take n)
 |_,_,0,_=>by simp [cY]
 |[],vs,n+1,h=>by simp only[cY]at h;subst h;simp [cY]
 |y::b,vs,n+1,h=>by
  simp only[cY]at h;obtain⟨u,e,rfl,c,d⟩:=h;simp only[gV,cY];exact⟨u,e.take n,rfl,c,cY.take n d⟩
theorem cY.append: ∀{c d:List AV} {vs b:List Value},cY S w c vs→cY S w d b→cY S w (c++d) (vs++b)
 |[],_,vs,_,h,h'=>by simp only[cY]at h;subst h;simpa using h'
 |x::c,_,vs,_,h,h'=>by
  simp only[cY]at h;obtain⟨u,b,rfl,e,f⟩:=h;simp only[cU,cY];exact⟨u,_,rfl,e,cY.append f h'⟩
theorem cY.set: ∀{b:List AV} {vs:List Value} (n:Nat) {x:AV} {v:Value},cY S w b vs→cB S w x v→cY S w (b.set n x) (vs.set n v)
 |[],vs,n,_,_,h,_=>by simp only[cY]at h;subst h;simp [cY]
 |y::b,vs,0,x,v,h,hv=>by
  simp only[cY]at h;obtain⟨u,d,rfl,_,c⟩:=h;simp only[sI,cY];exact⟨v,d,rfl,hv,c⟩
 |y::b,vs,n+1,x,v,h,hv=>by
  simp only[cY]at h;obtain⟨u,d,rfl,e,c⟩:=h;simp only[List.set_cons_succ,cY];exact⟨u,_,rfl,e,cY.set n c hv⟩
theorem cY.of_get: ∀{b:List AV} {vs:List Value},vs.length=b.length→(∀(i:Nat) (x:AV) (v:Value),b[i]?=some x→vs[i]?=some v→cB S w x v)→cY S w b vs
 |[],vs,hl,_=>by cases vs with |nil=>simp [cY]|cons=>simp at hl
 |x::b,vs,hl,h=>by
  cases vs with
  |nil=>simp at hl
  |cons v vs=>
   simp only[cY];exact⟨v,vs,rfl,h 0 x v rfl rfl,cY.of_get (by simpa using hl) fun i x v d c=>h (i+1) x v (by simpa using d) (by simpa using c)⟩
theorem eU.vals: ∀{row:List AV} {b off:Nat},eU S w b off row→ ∃vs,cY S w row vs∧ ∀j v,vs[j]?=some v→w.cell? ⟨b,off+j,none⟩=some v
 |[],b,off,_=>⟨[],by simp [cY],by simp⟩
 |x::xs,b,off,h=>by
  simp only[eU]at h;obtain⟨⟨u,e,d⟩,f⟩:=h;obtain⟨vs,i,g⟩:=eU.vals f;refine⟨u::vs,by simp only[cY];exact⟨u,vs,rfl,d,i⟩,fun j v c=>?_⟩
  cases j with
  |zero=>simp at c;subst c;simpa using e
  |succ j=>simp at c;have:=g j v c;rwa [show off+1+j=off+(j+1)by omega]at this
theorem eU.of_vals: ∀{row:List AV} {vs:List Value} {b off:Nat},cY S w row vs→(∀j v,vs[j]?=some v→w.cell? ⟨b,off+j,none⟩=some v)→eU S w b off row
 |[],_,b,off,_,_=>by simp only[eU]
 |x::xs,vs,b,off,h,hc=>by
  simp only[cY]at h;obtain⟨u,f,rfl,c,d⟩:=h;simp only[eU]
  exact⟨⟨u,by simpa using hc 0 u rfl,c⟩,eU.of_vals d fun j v e=>by
   have:=hc (j+1) v (by simpa using e);rwa [show off+(j+1)=off+1+j by omega]at this⟩
theorem eU.get {row:List AV} {b off:Nat} (h:eU S w b off row) (j:Nat) {x:AV} (g:row[j]?=some x):
  ∃v,w.cell? ⟨b,off+j,none⟩=some v∧cB S w x v:=by
 obtain⟨vs,d,c⟩:=h.vals;obtain⟨v,f,e⟩:=d.get j g;exact⟨v,c j v f,e⟩
theorem cZ.get: ∀{l:List (List AV)} {b off sz:Nat} (i:Nat) {row:List AV},cZ S w b off sz l→l[i]?=some row→row.length=sz∧eU S w b (off+i *sz) row
 |[],_,_,_,i,_,_,hr=>by simp at hr
 |r::rs,b,off,sz,i,row,h,hr=>by
  simp only[cZ]at h
  cases i with
  |zero=>simp at hr;subst hr;exact⟨h.1,by simpa using h.2.1⟩
  |succ i=>
   simp at hr;obtain⟨c,d⟩:=cZ.get i h.2.2 hr;exact⟨c,by rwa [show off+sz+i *sz=off+(i+1) *sz by rw[kQ];omega]at d⟩
theorem cZ.of_get: ∀{l:List (List AV)} {b off sz:Nat},(∀i row,l[i]?=some row→row.length=sz∧eU S w b (off+i *sz) row)→cZ S w b off sz l
 |[],_,_,_,_=>by simp only[cZ]
 |r::rs,b,off,sz,h=>by
  simp only[cZ];refine⟨(h 0 r rfl).1,by simpa using(h 0 r rfl).2,cZ.of_get fun i row c=>?_⟩;have:=h (i+1) row (by simpa using c);rwa [show off+(i+1) *sz=off+sz+i *sz by rw[kQ];omega]at this
theorem cZ.drop {l:List (List AV)} {b off sz:Nat} (h:cZ S w b off sz l) (n:Nat):cZ S w b (off+n *sz) sz (l.drop n):=
 cZ.of_get fun i row c=>by
  have:=cZ.get (n+i) h (by simpa [dW]using c);rwa [show off+(n+i) *sz=off+n *sz+i *sz by rw[kQ];omega]at this
theorem cZ.take {l:List (List AV)} {b off sz:Nat} (h:cZ S w b off sz l) (n:Nat):cZ S w b off sz (l.take n):=
 cZ.of_get fun i row c=>cZ.get i h (by rw[eH]at c;split at c<;>simp_all)
end
def Ld:Value→AV
 | .bool b=> .bool b
 | .int k n=> .int k n
 | .string s=> .str s.data.toList
 | .slice none 0 0=> .nsl
 | .pointer none=> .npt
 | .map none=> .nmp
 | .nilFunc=> .nfn
 | .nilIface=> .nif
 |_=> .undef
def Gk:Value→AV
 | .agg cs=> .agg (cs.toList.map Ld)
 |v=>Ld v
theorem Zq (S:gG) (w:World) (v:Value):cB S w (Ld v) v:=by
 unfold Ld;split<;>simp only[cB]
theorem Zv (S:gG) (w:World): ∀vs:List Value,cY S w (vs.map Ld) vs
 |[]=>by simp only[dH,cY]
 |v::vs=>by
  simp only[cX,cY];exact⟨v,vs,rfl,Zq S w v,Zv S w vs⟩
theorem nQ (S:gG) (w:World) (v:Value):cB S w (Gk v) v:=by
 unfold Gk;split
 ·simp only[cB]
  exact⟨_,rfl,Zv S w _⟩
 exact Zq S w _
inductive TK where
 |int (k:IntKind)
 |bool
 |str
 |slice (e:TypeId)
 |ptr (e:TypeId)
 |array (n:Nat) (e:TypeId)
 |map (k e:TypeId)
 |strct (fs:List (TypeId×Nat))
 |iface
 |func
 |other
def TK.agg:TK→Bool
 | .array _ _| .strct _=>true
 |_=>false
def yZ:TypeDesc→TK
 | .int k=> .int k
 | .bool=> .bool
 | .string=> .str
 | .slice e=> .slice e
 | .pointer e=> .ptr e
 | .array n e=> .array n e
 | .map k e=> .map k e
 | .struct fs=> .strct (fs.toList.map fun f=>(f.type,f.offset))
 | .interface _=> .iface
 | .func _ _ _=> .func
 |_=> .other
structure TI where
 k:TK
 size:Nat
 bytes:Nat
 zero:AV
def cF (P:Program) (t:TypeId):Option TI:=
 match P.underlying t,P.info? t with
 |some d,some i=>i.zero.map fun z=>⟨yZ d,i.size,i.bytes,Gk z⟩
 |_,_=>none
theorem kF {P:Program} {t:TypeId} {ti:TI} (h:cF P t=some ti):
  ∃d i z,P.underlying t=some d∧P.info? t=some i∧i.zero=some z∧ti=⟨yZ d,i.size,i.bytes,Gk z⟩:=by
 unfold cF at h;split at h
 ·rename_i d i b c
  rw[bG]at h;obtain⟨z,e,rfl⟩:=h;exact⟨d,i,z,b,c,e,rfl⟩
 cases h
section
variable {P : Program} {t : TypeId} {ti : TI}
theorem Ph (h:cF P t=some ti) (w:World):(isAgg t).run P w= .ok ti.k.agg w:=by
 obtain⟨d,i,z,b,c,e,rfl⟩:=kF h;simp only[isAgg,Sem.run_bind,run_underlying b,Result.andThen_ok];cases d<;>simp [yZ,TK.agg]
theorem gS (h:cF P t=some ti) (w:World):(sizeOf t).run P w= .ok ti.size w:=by
 obtain⟨d,i,z,c,b,e,rfl⟩:=kF h;simp [sizeOf,typeInfo,b]
theorem mN (h:cF P t=some ti) (w:World): ∃z,(zeroValue t).run P w= .ok z w∧ti.zero=Gk z:=by
 obtain⟨d,i,z,e,b,c,rfl⟩:=kF h;exact⟨z,by simp [zeroValue,typeInfo,b,c],rfl⟩
end
abbrev Fr:=Nat→AV
def upd {α:Type} (f:Nat→α) (i:Nat) (v:α):Nat→α:=fun j=>if j=i then v else f j
theorem bO {b:Type} (f:Nat→b) (i:Nat) (v:b):upd f i v i=v:=by simp [upd]
theorem cG {b:Type} (f:Nat→b) {i j:Nat} (v:b) (h:j≠i):upd f i v j=f j:=by simp [upd,h]
theorem CL {b:Type} (f:Nat→b) {i j:Nat} (v u:b) (h:i≠j):upd (upd f i v) j u=upd (upd f j u) i v:=by
 funext k;unfold upd;by_cases c:k=j<;>by_cases d:k=i<;>simp_all
def fH (fr:Fr) (d:Option Nat) (v:AV):Fr:=match d with |some i=>upd fr i v|none=>fr
inductive iG where
 |rows (sz:Nat) (l:List (List AV))
 |amap (es:List (AV×AV))
 |bld (ty:TypeId) (g:Option (Nat×Nat)) (n:Nat)
 |buf (ty:TypeId) (bs:List UInt8) (cap:Nat)
abbrev Hp:=Nat→Option iG
def oN:Hp:=fun _=>none
def fU (S:gG) (w:World):List (AV×AV)→List MapEntry→Prop
 |[],es=>es=[]
 |(k,v)::r,es=> ∃e es',es=e::es'∧cB S w k e.key∧cB S w v e.val∧fU S w r es'
def J8 (fz:Nat×Nat) (n:Nat):Prop:=fz.2≤fz.1∨n≤fz.1
def jQ (S:gG) (w:World) (b:Nat):iG→Prop
 | .rows sz l=> ∃cs e,(∃fz,w.heap[b]?=some (.cells cs e fz)∧J8 fz cs.size)∧l.length *sz≤cs.size∧cZ S w b 0 sz l
 | .amap es=> ∃mes clock,w.heap[b]?=some (.map mes clock)∧fU S w es mes.toList
 | .bld ty g n=> ∃p,w.heap[b]?=some (.cells #[p,(match g with |none=> .slice none 0 0|some (g,cap)=> .slice (some ⟨g,0,none⟩) n cap)] ty (0,0))∧(p= .pointer none∨p= .pointer (some ⟨b,0,none⟩))
 | .buf ty bs cap=> ∃cur,w.heap[b]?=some (.cells cur ty (0,0))∧cur.size=cap∧bs.length≤cap∧cap≤maxLen∧ ∀(i:Nat) c,bs[i]?=some c→cur[i]?=some (.int .u8 c.toNat)
theorem fU.mono {S d:gG} {w g:World} (b:iC S d w g): ∀(es:List (AV×AV)) (c:List MapEntry),fU S w es c→fU d g es c
 |[],_,h=>by simpa only[fU]using h
 |(k,v)::r,c,h=>by
  simp only[fU]at *;obtain⟨e,f,i,j,l,n⟩:=h;exact⟨e,f,i,cB.mono b k _ j,cB.mono b v _ l,fU.mono b r f n⟩
theorem jQ.mono {S j:gG} {w i:World} (k:iC S j w i) {b:Nat} (f:i.heap[b]?=w.heap[b]?): ∀(o:iG),jQ S w b o→jQ j i b o
 | .rows sz l,h=>by
   simp only[jQ]at *;obtain⟨v,e,⟨y,c,A⟩,d,z⟩:=h;exact⟨v,e,⟨y,f.trans c,A⟩,d,cZ.mono k l b 0 sz f z⟩
 | .amap es,h=>by
   simp only[jQ]at *;obtain⟨B,u,c,d⟩:=h;exact⟨B,u,f.trans c,fU.mono k es _ d⟩
 | .bld ty g n,h=>by
   simp only[jQ]at *;obtain⟨p,c,d⟩:=h;exact⟨p,f.trans c,d⟩
 | .buf ty bs cap,h=>by
   simp only[jQ]at *;obtain⟨x,c,d⟩:=h;exact⟨x,f.trans c,d⟩
theorem jQ.lt {S:gG} {w:World} {b:Nat} {o:iG} (h:jQ S w b o):b<w.heap.size:=by
 cases o<;>simp only[jQ]at h
 ·obtain⟨_,_,⟨_,h,_⟩,_⟩:=h;exact(eM.1 h).1
 ·obtain⟨_,_,h,_⟩:=h;exact(eM.1 h).1
 ·obtain⟨_,h,_⟩:=h;exact(eM.1 h).1
 obtain⟨_,h,_⟩:=h;exact(eM.1 h).1
structure kB where
 P:Program
 G:Nat→Option (List AV)
structure lR where
 w0:World
 O:Nat→Prop
 S0:gG
 D:List Deferred
 pin:Nat→Value
structure St (E:kB) (γ:lR) (S:gG) (H:Hp) (w:World):Prop where
 lt: ∀k,S k→k<w.heap.size
 base: ∀k,γ.S0 k→S k
 src: ∀k,S k→γ.S0 k∨γ.O k∨γ.w0.heap.size≤k
 obj: ∀b o,H b=some o→jQ S w b o∧ ¬S b∧(γ.O b∨γ.w0.heap.size≤b)
 ext:oI γ.O γ.w0 w
 glb: ∀g row,E.G g=some row→S g∧eU S w g 0 row
def mY (S:gG) (w:World) (fr:Fr) (a:Act):Prop:= ∀t,cB S w (fr t) (a.tmps.getD t Go.undef)
def ev (G:Nat→Option (List AV)) (fr:Fr):Operand→AV
 | .tmp t=>fr t
 | .const v=>Gk v
 | .global g=>match G g with |some row=> .ipt row 0|none=> .undef
 | .func f=> .fn (.func f) [] []
theorem eX {E:kB} {γ:lR} {S:gG} {H:Hp} {w:World} (hst:St E γ S H w) {fr:Fr} {a:Act} (d:mY S w fr a) (x:Operand):
  cB S w (ev E.G fr x) (a.eval x):=by
 cases x with
 |tmp t=>exact d t
 |const v=>exact nQ S w v
 |global g=>
  simp only[ev,Act.eval];split
  ·rename_i row h
   obtain⟨b,c⟩:=hst.glb g row h;simp only[cB];exact⟨g,0,rfl,b,c⟩
  simp only[cB]
 |func f=>simp only[ev,Act.eval,cB,cY];exact⟨[],[],rfl,rfl,rfl⟩
def rd (ti:TI) (row:List AV) (j:Nat):Option AV:=
 if ti.k.agg then(if j+ti.size≤row.length then some (.agg ((row.drop j).take ti.size))else none)else row[j]?
theorem Xi {P:Program} {t:TypeId} {ti:TI} (k:cF P t=some ti) {S:gG} {w:World} {b off:Nat} {row:List AV} (f:eU S w b off row) {j:Nat} {v:AV} (h:rd ti row j=some v):
  ∃l,(loadVar t ⟨b,off+j,none⟩).run P w= .ok l w∧cB S w v l:=by
 unfold rd at h;simp only[loadVar,Sem.run_bind,Ph k,Result.andThen_ok];split at h
 ·rename_i d
  split at h
  ·rename_i A
   obtain rfl:=(Option.some.inj h).symm;obtain⟨vs,e,n⟩:=f.vals;have o:=(e.drop j).take ti.size
   have p:((vs.drop j).take ti.size).length=ti.size:=by
    rw[dS,fK,e.length];omega
   have g:=run_loadCells_list (P:=P) w ⟨b,off+j,none⟩ ((vs.drop j).take ti.size) (fun i x c=>by
    rw[eH]at c;split at c
    ·rw[dW]at c
     have:=n _ _ c;rw[Addr.add_lit,show off+j+i=off+(j+i)by omega];exact this
    cases c)
   rw[p]at g;simp only[d,cQ,Sem.run_bind,gS k,Result.andThen_ok,g,Sem.run_pure];exact⟨_,rfl,by simp only[cB];exact⟨_,rfl,o⟩⟩
  cases h
 rename_i d;obtain⟨u,y,z⟩:=f.get j h;simp only[d,cK,dT,run_load,y];exact⟨u,rfl,z⟩
def vN (H:Hp) (ti:TI):AV→Option AV
 | .ptr sz b i j=>match H b with
   |some (.rows sz' l)=>if sz=sz' then(l[i]?).bind fun row=>rd ti row j else none
   |_=>none
 | .ipt row j=>rd ti row j
 |_=>none
theorem Fo {E:kB} {γ:lR} {S:gG} {H:Hp} {w:World} (hst:St E γ S H w) {t:TypeId} {ti:TI} (o:cF E.P t=some ti) {x v:AV} {p:Value}
  (f:cB S w x p) (h:vN H ti x=some v): ∃c,(Instr.loadAt t p).run E.P w= .ok c w∧cB S w v c:=by
 cases x<;>simp only[vN]at h<;>try (cases h;done)
 case ptr sz b i j=>
  split at h
  ·rename_i A l u
   split at h
   ·rename_i e
    subst e;rw[cJ]at h;obtain⟨row,y,h⟩:=h;have n:=(hst.obj b _ u).1;simp only[jQ]at n;obtain⟨z,e,_,_,d⟩:=n;obtain⟨_,d⟩:=cZ.get i d y;simp only[cB]at f;subst f;obtain⟨c,g,k⟩:=Xi o d h;refine⟨c, ?_,k⟩;simp only[Instr.loadAt,Instr.sureAddr,pure_bind];rw[show i *sz+j=0+i *sz+j by omega];exact g
   cases h
  cases h
 case ipt row j=>
  simp only[cB]at f;obtain⟨b,off,rfl,_,d⟩:=f;obtain⟨c,g,k⟩:=Xi o d h;exact⟨c,by simpa only[Instr.loadAt,Instr.sureAddr,pure_bind]using g,k⟩
def mT (op:BinOp) (k:IntKind) (a:Int) (k':IntKind) (b:Int):Option AV:=
 match op with
 | .shl=>if 0≤b then some (.int k (k.wrap (a *2^(min b.toNat k.bits))))else none
 | .shr=>if 0≤b then some (.int k (a.fdiv (2^(min b.toNat k.bits))))else none
 | .add=>if k=k' then some (.int k (k.wrap (a+b)))else none
 | .sub=>if k=k' then some (.int k (k.wrap (a-b)))else none
 | .mul=>if k=k' then some (.int k (k.wrap (a *b)))else none
 | .quo=>if k=k'∧b≠0 then some (.int k (k.wrap (a.tdiv b)))else none
 | .rem=>if k=k'∧b≠0 then some (.int k (a.tmod b))else none
 | .and=>if k=k' then some (.int k (k.wrap (BitVec.ofInt k.bits a&&&BitVec.ofInt k.bits b).toNat))else none
 | .or=>if k=k' then some (.int k (k.wrap (BitVec.ofInt k.bits a|||BitVec.ofInt k.bits b).toNat))else none
 | .xor=>if k=k' then some (.int k (k.wrap (BitVec.ofInt k.bits a^^^BitVec.ofInt k.bits b).toNat))else none
 | .andNot=>if k=k' then some (.int k (k.wrap (BitVec.ofInt k.bits a&&& ~~~BitVec.ofInt k.bits b).toNat))else none
 | .eql=>if k=k' then some (.bool (decide (a=b)))else none
 | .neq=>if k=k' then some (.bool (!decide (a=b)))else none
 | .lss=>if k=k' then some (.bool (decide (a<b)))else none
 | .leq=>if k=k' then some (.bool (decide (a≤b)))else none
 | .gtr=>if k=k' then some (.bool (decide (b<a)))else none
 | .geq=>if k=k' then some (.bool (decide (b≤a)))else none
theorem Yw (a b:Bool):(a==b)=decide (a=b):=by cases a<;>cases b<;>rfl
theorem Q7 (a b:Int):(a==b)=decide (a=b):=by rw[eW];simp
theorem NL (a b:Int):(a !=b)= !decide (a=b):=by rw[eW];simp
theorem J3 {op:BinOp} {k k':IntKind} {a b:Int} {v:AV} (h:mT op k a k' b=some v) (P:Program) (S:gG) (w:World) (t:TypeId):
  ∃e,(binOp op t (.int k a) (.int k' b)).run P w= .ok e w∧cB S w v e:=by
 unfold mT at h
 cases op<;>simp only[eK]at h<;>obtain⟨d,f⟩:=h<;>cases f<;>first
  |(obtain⟨rfl,c⟩:=d
    simp [binOp,Op.intDiv,c,cB])
  |(subst d
    simp [binOp,Op.intArith,Op.intBits,Op.intCmp,Q7,NL,cB])
  |(have c: ¬b<0:=by omega
    simp [binOp,Op.shift,c,cB])
def vB (op:BinOp) (a b:List UInt8):Option AV:=
 match op with
 | .add=>if a.length+b.length≤maxLen then some (.str (a++b))else none
 | .eql=>some (.bool (decide (a=b)))
 | .neq=>some (.bool (!decide (a=b)))
 | .lss=>some (.bool (Op.bytesLess a b))
 | .leq=>some (.bool (Op.bytesLess a b||decide (a=b)))
 | .gtr=>some (.bool (!(Op.bytesLess a b||decide (a=b))))
 | .geq=>some (.bool (!Op.bytesLess a b))
 |_=>none
theorem xU (a b:List UInt8):(a==b)=decide (a=b):=by rw[eW];simp
theorem xH (a:List UInt8):ByteArray.toList ⟨a.toArray⟩=a:=by rw[ByteArray.toList_eq]
theorem I9 {op:BinOp} {a b:List UInt8} {v:AV} (h:vB op a b=some v) (P:Program) (S:gG) (w:World) (t:TypeId):
  ∃c,(binOp op t (.string ⟨a.toArray⟩) (.string ⟨b.toArray⟩)).run P w= .ok c w∧cB S w v c:=by
 unfold vB at h;cases op<;>first|(cases h;done)|skip
 case add=>
  simp only[eK]at h;obtain⟨d,e⟩:=h;cases e
  have f: ¬((a.length:Int)+(b.length:Int)>IntKind.i64.max):=by
   simp only[maxLen]at d;simp [IntKind.max,IntKind.signed,IntKind.bits]at *;omega
  refine⟨.string ⟨(a++b).toArray⟩, ?_,by simp only[cB]⟩;simp only[binOp,Op.stringOp]
  have g:((ByteArray.size ⟨a.toArray⟩+ByteArray.size ⟨b.toArray⟩:Nat):Int)=(a.length:Int)+(b.length:Int):=by
   simp [ByteArray.size]
  rw[g,aO f];simp only[Sem.run_pure];congr 2
 all_goals
  cases h;simp [binOp,Op.stringOp,xU,cB]
def nW:List TK→List AV→List AV→Option Bool
 |[],[],[]=>some true
 | .int _::ks, .int k a::xs, .int k' b::ys=>if k=k' then(nW ks xs ys).map (decide (a=b)&& ·)else none
 | .bool::ks, .bool a::xs, .bool b::ys=>(nW ks xs ys).map (decide (a=b)&& ·)
 | .str::ks, .str a::xs, .str b::ys=>(nW ks xs ys).map (decide (a=b)&& ·)
 |_,_,_=>none
def xR (P:Program) (t:TypeId):Option TK:=
 match P.underlying t with
 |some (.int k)=>some (.int k)
 |some .bool=>some .bool
 |some .string=>some .str
 |_=>none
def Ai (P:Program):Nat→List Field→Option (List TK)
 |_,[]=>some []
 |i,f::fs=>if f.name≠ "_" ∧f.offset=i then(xR P f.type).bind fun k=>(Ai P (i+1) fs).map (k:: ·)else none
def Gy (P:Program) (t:TypeId):Option (List TK):=
 match P.underlying t with
 |some (.struct fs)=>if P.stoodInHeld t=false∧P.eqGuardType P.depth t=false then Ai P 0 fs.toList else none
 |_=>none
theorem wM {P:Program} {t:TypeId} {k:TK} (h:xR P t=some k) (w:World) (cs:Array Value) (i:Nat) (v:Value) (c:cs[i]?=some v):
  (part t cs i).run P w= .ok v w:=by
 unfold xR at h;split at h<;>first|(cases h;done)|(rename_i b;simp [part,isAgg,run_underlying b,c])
theorem Bh {P:Program} {S:gG} {w w1:World} (d:Nat) (xs p:Array Value): ∀(A:List Field) (i:Nat) (F:List TK) (n o:List AV) (r:Bool),
  Ai P i A=some F→cY S w n (xs.toList.drop i)→cY S w o (p.toList.drop i)→nW F n o=some r→
  (Op.eqFields (d+1) xs p A).run P w1= .ok r w1
 |[],i,F,n,o,r,g,B,C,hr=>by
  simp only[Ai,Option.some.injEq]at g;subst g;cases n<;>cases o<;>simp [nW]at hr;subst hr;simp [Op.eqFields]
 |f::A,i,F,n,o,r,g,B,C,hr=>by
  simp only[Ai,eK,cJ,bG]at g;obtain⟨⟨U,V⟩,k,g,K,T,rfl⟩:=g
  cases n with
  |nil=>cases k<;>simp [nW]at hr
  |cons c n=>
   cases o with
   |nil=>cases k<;>cases c<;>simp [nW]at hr
   |cons e o=>
    simp only[cY]at B C;obtain⟨u,Y,I,y,B⟩:=B;obtain⟨x,X,J,z,C⟩:=C
    have N:xs[i]?=some u:=by
     have :(xs.toList.drop i)[0]?=some u:=by rw[I];rfl
     simpa [dW]using this
    have O:p[i]?=some x:=by
     have :(p.toList.drop i)[0]?=some x:=by rw[J];rfl
     simpa [dW]using this
    have L:Y=xs.toList.drop (i+1):=by
     have:=congrArg List.tail I;simpa [List.tail_drop]using this.symm
    have M:X=p.toList.drop (i+1):=by
     have:=congrArg List.tail J;simpa [List.tail_drop]using this.symm
    subst L;subst M
    have step: ∀(b:Bool) (l:Bool),nW K n o=some l→r=(b&&l)→(Op.equalIn (d+1) f.type u x).run P w1= .ok b w1→
      (Op.eqFields (d+1) xs p (f::A)).run P w1= .ok r w1:=by
     intro b l v G Q;have W:=Bh (w1:=w1) d xs p A (i+1) K n o l T B C v;simp only[Op.eqFields,LR,U,Gf,cQ,Sem.run_bind,V,wM g w1 xs i u N,wM g w1 p i x O,Result.andThen_ok,Q];cases b
     ·simp [G]
     simp [G,W]
    unfold xR at g;split at g<;>first|(cases g;done)|skip
    ·rename_i j D
     cases g;cases c<;>cases e<;>first|(simp [nW]at hr;done)|skip
     simp only[nW]at hr;split at hr<;>try (cases hr;done)
     rename_i R;subst R;rw[bG]at hr;obtain⟨l,v,rfl⟩:=hr;simp only[cB]at y z;subst y;subst z;exact step _ l v rfl (by simp [Op.equalIn,run_underlying D,Q7])
    ·rename_i D
     cases g;cases c<;>cases e<;>first|(simp [nW]at hr;done)|skip
     simp only[nW]at hr;rw[bG]at hr;obtain⟨l,v,rfl⟩:=hr;simp only[cB]at y z;subst y;subst z;exact step _ l v rfl (by simp only[Op.equalIn,Sem.run_bind,run_underlying D,Result.andThen_ok,Sem.run_pure,Yw])
    rename_i D;cases g;cases c<;>cases e<;>first|(simp [nW]at hr;done)|skip
    simp only[nW]at hr;rw[bG]at hr;obtain⟨l,v,rfl⟩:=hr;simp only[cB]at y z;subst y;subst z;exact step _ l v rfl (by rw[run_equalIn_string _ _ _ _ _ D,xH,xH,xU])
theorem J4 {P:Program} {t:TypeId} {e:List TK} (b:Gy P t=some e) {S:gG} {w:World} {cs d:List AV} {xs c:List Value} {r:Bool}
  (l:cY S w cs xs) (n:cY S w d c) (o:nW e cs d=some r) (x y:Operand):
  (eqGuard .eql t x y (.agg xs.toArray) (.agg c.toArray)).run P w= .ok () w∧(eqGuard .neq t x y (.agg xs.toArray) (.agg c.toArray)).run P w= .ok () w∧
  (binOp .eql t (.agg xs.toArray) (.agg c.toArray)).run P w= .ok (.bool r) w∧(binOp .neq t (.agg xs.toArray) (.agg c.toArray)).run P w= .ok (.bool (!r)) w:=by
 unfold Gy at b;split at b
 ·rename_i f k
  simp only[eK]at b;obtain⟨⟨p,j⟩,b⟩:=b;have i:P.fieldsOf t=f:=by simp [Program.fieldsOf,k]
  have g:(Op.equal t (.agg xs.toArray) (.agg c.toArray)).run P w= .ok r w:=by
   unfold Op.equal Op.maxDepth;rw[run_equalIn_struct w 9999 t xs.toArray c.toArray (by rw[i];exact k) p,i];exact Bh 9998 _ _ f.toList 0 e cs d r b (by simpa using l) (by simpa using n) o
  refine⟨?_, ?_, ?_, ?_⟩
  ·simp [eqGuard,j]
  ·simp [eqGuard,j]
  ·simp [binOp,g]
  simp [binOp,g]
 cases b
def OY (n:Nat):Option AV→Option Nat
 |none=>some n
 |some (.int _ h)=>if 0≤h∧h≤n then some h.toNat else none
 |some _=>none
def OX (h:Nat):Option AV→Option Nat
 |none=>some 0
 |some (.int _ l)=>if 0≤l∧l≤h then some l.toNat else none
 |some _=>none
def Zp (n:Nat) (lo hi:Option AV):Option (Nat×Nat):=(OY n hi).bind fun h=>(OX h lo).map fun l=>(l,h)
def Em:AV→Bool
 | .ptr _ _ _ _| .ipt _ _=>true
 |_=>false
def nV:AV→AV→Option Bool
 | .str a, .str b=>some (decide (a=b))
 | .int k a, .int k' b=>if k=k' then some (decide (a=b))else none
 |_,_=>none
def iR (k:AV):List (AV×AV)→Nat→Option (Option (Nat×AV))
 |[],_=>some none
 |(k',v)::es,i=>match nV k k' with
  |some true=>some (some (i,v))
  |some false=>iR k es (i+1)
  |none=>none
def Jr:List AV→Option UInt8
 |[.int .u8 n]=>some (UInt8.ofNat n.toNat)
 |_=>none
def qA:List (List AV)→Option (List UInt8)
 |[]=>some []
 |r::rs=>(Jr r).bind fun c=>(qA rs).map (c:: ·)
def Dv:AV→Option (List UInt8)
 | .nsl=>some []
 | .isl sz l=>if sz=1 then qA l else none
 |_=>none
def cellsOf:AV→Option (List AV)
 | .agg cs=>some cs
 | .undef=>none
 |v=>some [v]
def aq.abuild (E:kB) (fs:List (TypeId×Nat)):List AV→List (Nat×AV)→Option (List AV)
 |z,[]=>some z
 |z,(i,v)::r=>match fs[i]? with
  |some (t,off)=>match cF E.P t with
   |some ti=>match cellsOf v with
    |some cs=>if cs.length=ti.size∧off+cs.length≤z.length then aq.abuild E fs (z.take off++cs++z.drop (off+cs.length)) r else none
    |none=>none
   |none=>none
  |none=>none
def OW (op:BinOp) (ti:Option TI) (b:Bool):Option AV:=match op,ti with
 | .eql,some ⟨.iface,_,_,_⟩=>some (.bool b)
 | .neq,some ⟨.iface,_,_,_⟩=>some (.bool (!b))
 |_,_=>none
def A8:Operand→Bool| .const _=>true|_=>false
def aq (E:kB) (H:Hp) (fr:Fr):Op→Option AV
 | .move x| .assign x=>some (ev E.G fr x)
 | .pick c x y=>match ev E.G fr c with | .bool b=>some (if b then ev E.G fr x else ev E.G fr y)|_=>none
 | .load t x=>(cF E.P t).bind fun ti=>vN H ti (ev E.G fr x)
 | .nilCheck x=>if Em (ev E.G fr x)then some (ev E.G fr x)else none
 | .binOp op t x y _=>match ev E.G fr x,ev E.G fr y with
   | .int k a, .int k' b=>mT op k a k' b
   | .str a, .str b=>vB op a b
   | .agg cs, .agg ds=>match op,(Gy E.P t).bind fun ks=>nW ks cs ds with
     | .eql,some r=>some (.bool r)
     | .neq,some r=>some (.bool (!r))
     |_,_=>none
   | .bool a, .bool b=>match op,cF E.P t with
     | .eql,some ⟨.bool,_,_,_⟩=>some (.bool (decide (a=b)))
     | .neq,some ⟨.bool,_,_,_⟩=>some (.bool (!decide (a=b)))
     |_,_=>none
   | .ifc _ _, .nif=>OW op (cF E.P t) false
   | .nif, .nif=>if A8 y then OW op (cF E.P t) true else none
   |_,_=>none
 | .unOp op _ x=>match op,ev E.G fr x with
   | .not, .bool b=>some (.bool (!b))
   | .neg, .int k n=>some (.int k (k.wrap (0 -n)))
   |_,_=>none
 | .convert s d x=>match cF E.P s,cF E.P d,ev E.G fr x with
   |some _,some ⟨.int k,_,_,_⟩, .int _ n=>some (.int k (k.wrap n))
   |some _,some ⟨.str,_,_,_⟩, .str a=>some (.str a)
   |some ⟨.slice e,_,_,_⟩,some ⟨.str,_,_,_⟩,v=>match cF E.P e with
    |some ⟨.int .u8,_,_,_⟩=>(Dv v).map .str
    |_=>none
   |_,_,_=>none
 | .slice t x lo hi none=>match cF E.P t,ev E.G fr x with
   |some ⟨.str,_,_,_⟩, .str s=>(Zp s.length (lo.map (ev E.G fr)) (hi.map (ev E.G fr))).map fun p=> .str ((s.drop p.1).take (p.2-p.1))
   |some ⟨.slice e,_,_,_⟩, .isl sz l=>match cF E.P e with
    |some te=>if te.size=sz then(Zp l.length (lo.map (ev E.G fr)) (hi.map (ev E.G fr))).map fun p=> .isl sz ((l.drop p.1).take (p.2-p.1))else none
    |none=>none
   |some ⟨.slice e,_,_,_⟩, .osl sz b len=>match cF E.P e with
    |some te=>if te.size=sz then(Zp len (lo.map (ev E.G fr)) (hi.map (ev E.G fr))).map fun p=> .sub sz b p.1 (p.2-p.1)else none
    |none=>none
   |some ⟨.array n e,_,_,_⟩, .ptr _ b 0 0=>match cF E.P e with
    |some te=>if te.size=1∧n≤4096 then(Zp n (lo.map (ev E.G fr)) (hi.map (ev E.G fr))).map fun p=> .sub 1 b p.1 (p.2-p.1)else none
    |none=>none
   |_,_=>none
 | .fieldAddr s x f=>match cF E.P s with
   |some ⟨.strct fs,_,_,_⟩=>match fs[f]? with
    |some (t,off)=>match cF E.P t with
     |some ti=>if ti.size=0 then none else match ev E.G fr x with
      | .ptr sz b i j=>some (.ptr sz b i (j+off))
      | .ipt row j=>some (.ipt row (j+off))
      |_=>none
     |none=>none
    |none=>none
   |_=>none
 | .field s x f=>match cF E.P s,ev E.G fr x with
   |some ⟨.strct fs,_,_,_⟩, .agg cs=>match fs[f]? with
    |some (t,off)=>(cF E.P t).bind fun ti=>rd ti cs off
    |none=>none
   |_,_=>none
 | .indexAddr t x ix=>match cF E.P t,ev E.G fr ix with
   |some ⟨.slice e,_,_,_⟩, .int _ i=>match cF E.P e,ev E.G fr x with
    |some te, .isl sz l=>if te.size=sz∧0≤i then(l[i.toNat]?).map fun row=> .ipt row 0 else none
    |some te, .osl sz b len=>if te.size=sz∧0≤i∧i<len then some (.ptr sz b i.toNat 0)else none
    |_,_=>none
   |some ⟨.array n e,_,_,_⟩, .int _ i=>match cF E.P e,ev E.G fr x with
    |some te, .ptr sz b r j=>if 0≤i∧i<n then some (.ptr sz b r (j+i.toNat *te.size))else none
    |some te, .ipt row j=>if 0≤i∧i<n then some (.ipt row (j+i.toNat *te.size))else none
    |_,_=>none
   |_,_=>none
 | .index t x ix=>match cF E.P t,ev E.G fr x,ev E.G fr ix with
   |some ⟨.str,_,_,_⟩, .str s, .int _ i=>if 0≤i then(s[i.toNat]?).map fun c=> .int .u8 c.toNat else none
   |some ⟨.array n e,_,_,_⟩, .agg cs, .int _ i=>(cF E.P e).bind fun te=>if 0≤i∧i<n then rd te cs (i.toNat *te.size)else none
   |_,_,_=>none
 | .extract x i=>match ev E.G fr x with | .tup vs=>vs[i]?|_=>none
 | .makeInterface t x=>match cF E.P t with
   |some ⟨.iface,_,_,_⟩=>none
   |some _=>some (.ifc t (ev E.G fr x))
   |none=>none
 | .makeFunc f first captured=>some (.fn f (first.toList.map (ev E.G fr)) (captured.toList.map (ev E.G fr)))
 | .lookup t x k ok=>match cF E.P t,ev E.G fr k with
   |some ⟨.map tk te,_,_,_⟩, .str s=>match cF E.P tk,cF E.P te with
    |some ⟨.str,_,_,_⟩,some ie=>match(match ev E.G fr x with | .mp b=>(match H b with |some (.amap es)=>some es|_=>none)| .nmp=>some []| .imp ks xs=>some (ks.zip xs)|_=>none)with
     |some es=>match iR (.str s) es 0 with
      |some r=>some (if ok then .tup [(r.map (·.2)).getD ie.zero, .bool r.isSome]else(r.map (·.2)).getD ie.zero)
      |none=>none
     |none=>none
    |_,_=>none
   |_,_=>none
 | .call ⟨.builtin .len,args,ts⟩=>match args.toList,ts.toList with
   |[x],[t]=>match cF E.P t,ev E.G fr x with
    |some ⟨.str,_,_,_⟩, .str s=>some (.int .i64 s.length)
    |some ⟨.slice _,_,_,_⟩, .isl _ l=>some (.int .i64 l.length)
    |some ⟨.slice _,_,_,_⟩, .osl _ _ len=>some (.int .i64 len)
    |some ⟨.slice _,_,_,_⟩, .nsl=>some (.int .i64 0)
    |some ⟨.array n _,_,_,_⟩,_=>some (.int .i64 n)
    |_,_=>none
   |_,_=>none
 | .call ⟨.builtin .min,args,_⟩=>match args.toList with
   |[x,y]=>match ev E.G fr x,ev E.G fr y with
    | .int k a, .int _ b=>some (.int k (if b<a then b else a))
    |_,_=>none
   |_=>none
 | .call ⟨.builtin .max,args,_⟩=>match args.toList with
   |[x,y]=>match ev E.G fr x,ev E.G fr y with
    | .int k a, .int _ b=>some (.int k (if a<b then b else a))
    |_,_=>none
   |_=>none
 | .build t parts=>(cF E.P t).bind fun ti=>match ti.k with
   | .strct fs=>if fs.all (fun p=>(cF E.P p.1).isSome)=false then none else match ti.zero with
     | .agg z=>(aq.abuild E fs z (parts.toList.map fun p=>(p.1,ev E.G fr p.2))).map .agg
     |_=>none
   |_=>none
 | .typeAssert x _ t true=>match cF E.P t,ev E.G fr x with
   |some ⟨.iface,_,_,_⟩,_=>none
   |some ti, .ifc t' v=>if t'=t then some (.tup [v, .bool true])else some (.tup [ti.zero, .bool false])
   |_,_=>none
 |_=>none
section
variable {E : kB} {γ : lR} {S : gG} {H : Hp} {w : World} {fr : Fr} {a : Act}
theorem O9 {P:Program} {t:TypeId} {ti:TI} (d:cF P t=some ti) {cs:List AV} {vs:List Value} (c:cY S w cs vs) {j:Nat} {v:AV} (h:rd ti cs j=some v) (w1:World):
  ∃e,(part t vs.toArray j).run P w1= .ok e w1∧cB S w v e:=by
 unfold rd at h;simp only[part,Sem.run_bind,Ph d,Result.andThen_ok];split at h
 ·rename_i b
  split at h
  ·obtain rfl:=(Option.some.inj h).symm
   simp only[b,cQ,Sem.run_bind,gS d,Result.andThen_ok,Sem.run_pure];refine⟨_,rfl, ?_⟩;simp only[cB];refine⟨(vs.drop j).take ti.size, ?_,(c.drop j).take ti.size⟩;simp
  cases h
 rename_i b;obtain⟨u,f,g⟩:=c.get j h;simp [b,f,g]
theorem vG {isS:Bool} {n cap:Nat} {lo z:Option AV} {o l:Option Value} {p:Nat×Nat} (h:Zp n lo z=some p) (M:n≤cap)
  (K: ∀x,lo=some x→ ∃y,o=some y∧cB S w x y) (L:lo=none→o=none) (I: ∀x,z=some x→ ∃y,l=some y∧cB S w x y) (J:z=none→l=none) (P:Program):
  (Instr.sliceBounds isS n cap o l none).run P w= .ok (p.1,p.2,cap) w∧p.1≤p.2∧p.2≤n:=by
 have D: ∀(k:IntKind) (i:Int) (y:Nat) (b:BoundsCode),0≤i→i≤y→(Instr.sliceBound (.int k i) y b).run P w= .ok i.toNat w:=fun k i y b F G=>by
  simp [Instr.sliceBound,asIntOf,F,G]
 simp only[Zp,cJ,bG]at h;obtain⟨j,c,C,d,rfl⟩:=h
 have f:j≤n∧((l=none∧j=n)∨ ∃v,l=some v∧ ∀b,(Instr.sliceBound v cap b).run P w= .ok j w):=by
  cases z with
  |none=>simp only[OY,Option.some.injEq]at c;subst c;exact⟨aZ _, .inl ⟨J rfl,rfl⟩⟩
  |some x=>
   obtain⟨y,A,e⟩:=I x rfl;cases x<;>simp only[OY]at c<;>try (cases c;done)
   simp only[cB]at e;subst e;split at c<;>cases c;rename_i B;exact⟨by omega, .inr ⟨_,A,fun b=>D _ _ _ _ B.1 (by omega)⟩⟩
 have g:C≤j∧((o=none∧C=0)∨ ∃v,o=some v∧ ∀b,(Instr.sliceBound v j b).run P w= .ok C w):=by
  cases lo with
  |none=>simp only[OX,Option.some.injEq]at d;subst d;exact⟨cN _, .inl ⟨L rfl,rfl⟩⟩
  |some x=>
   obtain⟨y,A,e⟩:=K x rfl;cases x<;>simp only[OX]at d<;>try (cases d;done)
   simp only[cB]at e;subst e;split at d<;>cases d;rename_i B;exact⟨by omega, .inr ⟨_,A,fun b=>D _ _ _ _ B.1 (by omega)⟩⟩
 refine⟨?_,g.1,f.1⟩;unfold Instr.sliceBounds;obtain⟨_,f⟩:=f;obtain⟨_,g⟩:=g;rcases f with⟨rfl,rfl⟩|⟨v,rfl,f⟩<;>rcases g with⟨rfl,rfl⟩|⟨u,rfl,g⟩<;>simp [*]
theorem Yp (P:Program) (w:World) (op:BinOp) (t:TypeId) (x y:Operand) (k k':IntKind) (a b:Int):(eqGuard op t x y (.int k a) (.int k' b)).run P w= .ok () w:=by
 unfold eqGuard;split<;>simp
theorem Yo (P:Program) (w:World) (op:BinOp) (t:TypeId) (x y:Operand) (a b:ByteArray):(eqGuard op t x y (.string a) (.string b)).run P w= .ok () w:=by
 unfold eqGuard;split<;>simp
theorem Uk (P:Program) (w:World) (op:BinOp) (t:TypeId) (x y:Operand) (a b:Bool):(eqGuard op t x y (.bool a) (.bool b)).run P w= .ok () w:=by
 unfold eqGuard;split<;>simp
theorem I1 {P:Program} (w:World) {t:TypeId} (h:P.underlying t=some .bool) (a b:Bool):(Op.equal t (.bool a) (.bool b)).run P w= .ok (decide (a=b)) w:=by
 unfold Op.equal Op.maxDepth;rw[run_equalIn_bool' w 9999 t a b h,Yw]
theorem MA {d:TypeDesc} (h:yZ d= .bool):d= .bool:=by
 cases d<;>first|rfl|(simp [yZ]at h)
theorem Vz {d:TypeDesc} (h:yZ d= .iface): ∃b,d= .interface b:=by
 cases d<;>first|exact⟨_,rfl⟩|(simp [yZ]at h)
theorem Uh {P:Program} (w:World) (n:Nat) {t:TypeId} {ms} (h:P.underlying t=some (.interface ms)) (b:TypeId) (u:Value):(Op.equalIn (n+1) t (.iface b u) .nilIface).run P w= .ok false w:=by
 simp [Op.equalIn,run_underlying h]
theorem Ug {P:Program} (w:World) (n:Nat) {t:TypeId} {ms} (h:P.underlying t=some (.interface ms)):(Op.equalIn (n+1) t .nilIface .nilIface).run P w= .ok true w:=by
 simp [Op.equalIn,run_underlying h]
theorem I0 {P:Program} (w:World) {t:TypeId} {ms} (h:P.underlying t=some (.interface ms)) (b:TypeId) (u:Value):(Op.equal t (.iface b u) .nilIface).run P w= .ok false w:=Uh w 9999 h b u
theorem H9 {P:Program} (w:World) {t:TypeId} {ms} (h:P.underlying t=some (.interface ms)):(Op.equal t .nilIface .nilIface).run P w= .ok true w:=Ug w 9999 h
theorem Uj (P:Program) (w:World) (op:BinOp) (t:TypeId) (x y:Operand) (b:TypeId) (u:Value):(eqGuard op t x y (.iface b u) .nilIface).run P w= .ok () w:=by
 unfold eqGuard;split<;>simp
theorem Ui (P:Program) (w:World) (op:BinOp) (t:TypeId) (x:Operand) (k:Value):(eqGuard op t x (.const k) .nilIface .nilIface).run P w= .ok () w:=by
 unfold eqGuard;split<;>simp
def pA (E:kB) (S:gG) (w:World) (a:Act) (o:Op) (v:AV):Prop:=
 ∀dst ty pos af g, ∃v',(execOp a.eval ⟨dst,o,ty,pos,af,g⟩).run E.P w= .ok (.value v') w∧cB S w v v'
theorem C5 (hst:St E γ S H w) (d:mY S w fr a) {t:TypeId} {x:Operand} {v:AV} (h:aq E H fr (.load t x)=some v):pA E S w a (.load t x) v:=by
 intro j l k i g;simp only[aq,cJ]at h;obtain⟨ti,e,h⟩:=h;obtain⟨f,b,c⟩:=Fo hst e (eX hst d x) h;exact⟨f,by simp [execOp,b],c⟩
theorem Wi (hst:St E γ S H w) (C:mY S w fr a) {op:BinOp} {t u:TypeId} {x y:Operand} {v:AV} (h:aq E H fr (.binOp op t x y u)=some v):pA E S w a (.binOp op t x y u) v:=by
 intro K W U G g;have b:=eX hst C x;have c:=eX hst C y;simp only[aq]at h;split at h
 ·rename_i f j
  rw[f]at b;rw[j]at c;simp only[cB]at b c;obtain⟨B,o,A⟩:=J3 h E.P S w t;refine⟨B, ?_,A⟩;simp only[execOp,b,c,Sem.run_bind,Sem.run_pure];simp [Yp,o]
 ·rename_i f j
  rw[f]at b;rw[j]at c;simp only[cB]at b c;obtain⟨B,o,A⟩:=I9 h E.P S w t;refine⟨B, ?_,A⟩;simp only[execOp,b,c,Sem.run_bind,Sem.run_pure];simp [Yo,o]
 ·rename_i I J f j
  rw[f]at b;rw[j]at c;simp only[cB]at b c;obtain⟨X,L,b⟩:=b;obtain⟨Y,M,c⟩:=c;split at h<;>first|(cases h;done)|skip
  all_goals
   rename_i r n;cases h;rw[cJ]at n;obtain⟨T,D,n⟩:=n;obtain⟨N,O,Q,R⟩:=J4 D b c n x y;refine⟨.bool _, ?_,by simp only[cB];rfl⟩;simp only[*,execOp,Sem.run_bind,Result.andThen_ok,Sem.run_pure]
 ·rename_i p q f j
  rw[f]at b;rw[j]at c;simp only[cB]at b c;split at h<;>first|(cases h;done)|skip
  all_goals
   rename_i ti;cases h;obtain⟨d,i,z,l,_,_,e⟩:=kF ti;have hd:d= .bool:=MA (congrArg TI.k e).symm;subst hd;refine⟨.bool _, ?_,by simp only[cB];rfl⟩;simp [execOp,b,c,Uk,binOp,I1 w l]
 ·rename_i V Z f j
  rw[f]at b;rw[j]at c;simp only[cB]at b c;obtain⟨u,b,_⟩:=b;unfold OW at h;split at h<;>first|(cases h;done)|skip
  all_goals
   rename_i ti;cases h;obtain⟨d,i,z,l,_,_,e⟩:=kF ti;obtain⟨F,rfl⟩:=Vz (congrArg TI.k e).symm;refine⟨.bool _, ?_,by simp only[cB];rfl⟩;simp [execOp,b,c,Uj,binOp,I0 w l]
 ·rename_i f j
  rw[f]at b;rw[j]at c;simp only[cB]at b c;cases y<;>simp only[A8,cQ,cK,dT,reduceCtorEq]at h;unfold OW at h;split at h<;>first|(cases h;done)|skip
  all_goals
   rename_i ti;cases h;obtain⟨d,i,z,l,_,_,e⟩:=kF ti;obtain⟨F,rfl⟩:=Vz (congrArg TI.k e).symm;refine⟨.bool _, ?_,by simp only[cB];rfl⟩;simp [execOp,b,c,Ui,binOp,H9 w l]
 cases h
theorem qU {P:Program} {t:TypeId} {ti:TI} (h:cF P t=some ti): ∃d,P.underlying t=some d∧yZ d=ti.k:=by
 obtain⟨d,i,z,b,_,_,e⟩:=kF h;exact⟨d,b,(congrArg TI.k e).symm⟩
theorem CN {P:Program} {t:TypeId} {k:IntKind} {a b:Nat} {z:AV} (h:cF P t=some ⟨.int k,a,b,z⟩):P.underlying t=some (.int k):=by
 obtain⟨d,c,e⟩:=qU h;cases d<;>simp [yZ]at e;subst e;exact c
theorem Dz {P:Program} {t:TypeId} {a b:Nat} {z:AV} (h:cF P t=some ⟨.str,a,b,z⟩):P.underlying t=some .string:=by
 obtain⟨d,c,e⟩:=qU h;cases d<;>simp [yZ]at e;exact c
theorem lS {P:Program} {t e:TypeId} {a b:Nat} {z:AV} (h:cF P t=some ⟨.slice e,a,b,z⟩):P.underlying t=some (.slice e):=by
 obtain⟨d,c,e⟩:=qU h;cases d<;>simp [yZ]at e;subst e;exact c
theorem Gp {P:Program} {t e:TypeId} {n a b:Nat} {z:AV} (h:cF P t=some ⟨.array n e,a,b,z⟩):P.underlying t=some (.array n e):=by
 obtain⟨d,c,e⟩:=qU h;cases d<;>simp [yZ]at e;obtain⟨rfl,rfl⟩:=e;exact c
theorem CM {P:Program} {t k e:TypeId} {a b:Nat} {z:AV} (h:cF P t=some ⟨.map k e,a,b,z⟩):P.underlying t=some (.map k e):=by
 obtain⟨d,c,e⟩:=qU h;cases d<;>simp [yZ]at e;obtain⟨rfl,rfl⟩:=e;exact c
theorem Vu {P:Program} {t:TypeId} {c:List (TypeId×Nat)} {a b:Nat} {z:AV} (h:cF P t=some ⟨.strct c,a,b,z⟩):
  ∃g:Array Field,P.underlying t=some (.struct g)∧c=g.toList.map fun f=>(f.type,f.offset):=by
 obtain⟨d,i,e⟩:=qU h;cases d<;>simp [yZ]at e;exact⟨_,i,by simpa using e.symm⟩
theorem N2 {P:Program} {t:TypeId} {d:List (TypeId×Nat)} {a b:Nat} {z:AV} (h:cF P t=some ⟨.strct d,a,b,z⟩) {f:Nat} {p:TypeId×Nat} (e:d[f]?=some p):
  ∃(c:Array Field) (g:Field),P.underlying t=some (.struct c)∧c[f]?=some g∧g.type=p.1∧g.offset=p.2:=by
 obtain⟨c,j,rfl⟩:=Vu h;rw[cT,bG]at e;obtain⟨g,i,rfl⟩:=e;exact⟨c,g,j,by simpa using i,rfl,rfl⟩
theorem C4 (hst:St E γ S H w) (c:mY S w fr a) {op:UnOp} {t:TypeId} {x:Operand} {v:AV} (h:aq E H fr (.unOp op t x)=some v):pA E S w a (.unOp op t x) v:=by
 intro f j i d g;have b:=eX hst c x;simp only[aq]at h;split at h<;>first|(cases h;done)|skip
 all_goals
  rename_i e;cases h;rw[e]at b;simp only[cB]at b;simp [execOp,b,Op.unary,Op.intArith,cB]
theorem Jp {b:Nat}: ∀{l:List (List AV)} {off:Nat} {s:List UInt8},cZ S w b off 1 l→qA l=some s→
  ∃d:List Int,d.length=l.length∧s=d.map (fun n=>UInt8.ofNat n.toNat)∧ ∀i,i<d.length→w.cell? ⟨b,off+i,none⟩=some (.int .u8 (d.getD i 0))
 |[],off,s,_,h=>by
  simp only[qA,Option.some.injEq]at h;exact⟨[],rfl,h.symm,fun i g=>by simp at g⟩
 |r::rs,off,s,hr,h=>by
  simp only[qA,cJ,bG]at h;obtain⟨c,f,A,p,rfl⟩:=h;simp only[cZ]at hr;obtain⟨z,j,o⟩:=hr;obtain⟨d,v,x,y⟩:=Jp o p;unfold Jr at f;split at f
  ·rename_i n
   cases f;simp only[eU]at j;obtain⟨⟨u,e,k⟩,_⟩:=j;simp only[cB]at k;subst k;refine⟨n::d,by simp [v],by rw[x];rfl,fun i g=>?_⟩
   cases i with
   |zero=>simpa using e
   |succ i=>
    have:=y i (by simpa using g);rw[show off+1+i=off+(i+1)by omega]at this;rw[this];simp
  cases f
theorem W8 {P:Program} {d c e:TypeId} (j:P.underlying d=some (.slice e)) (g:P.underlying e=some (.int .u8)) (hd:P.underlying c=some .string) {b off cap:Nat} {l:List (List AV)} {s:List UInt8} (i:cZ S w b off 1 l) (h:qA l=some s):
  (convert d c (.slice (some ⟨b,off,none⟩) l.length cap)).run P w= .ok (.string ⟨s.toArray⟩) w:=by
 obtain⟨f,k,n,o⟩:=Jp i h;rw[←k,run_convert_bytes_arg w d e j g b off f.length cap f rfl o c hd,n];rfl
theorem Ed {P:Program} {c b e:TypeId} (f:P.underlying c=some (.slice e)) (d:P.underlying e=some (.int .u8)) (hd:P.underlying b=some .string) (g:Option Addr) (cap:Nat):
  (convert c b (.slice g 0 cap)).run P w= .ok (.string ⟨#[]⟩) w:=by
 cases g with
 |none=>exact run_convert_bytes_nil w c e f d 0 cap b hd
 |some a=>
  rw[run_convert_bytes_string w c b e _ 0 cap f d hd,run_bytesToString w a 0 cap [] (by simpa using run_loadCells_list (P:=P) w a [] (fun j v i=>by simp at i))];rfl
theorem Np (hst:St E γ S H w) (A:mY S w fr a) {s d:TypeId} {x:Operand} {v:AV} (h:aq E H fr (.convert s d x)=some v):pA E S w a (.convert s d x) v:=by
 intro D G F C g;have c:=eX hst A x;simp only[aq]at h;split at h<;>first|(cases h;done)|skip
 ·rename_i i hd e
  cases h;rw[e]at c;simp only[cB]at c;obtain⟨u,k,_⟩:=qU i;refine⟨.int _ _, ?_,by simp only[cB];rfl⟩;simp [execOp,convert,run_underlying k,run_underlying (CN hd),c,Conv.intToInt]
 ·rename_i i hd e
  cases h;rw[e]at c;simp only[cB]at c;obtain⟨u,k,_⟩:=qU i;refine⟨.string _, ?_,by simp only[cB];rfl⟩;simp [execOp,convert,run_underlying k,run_underlying (Dz hd),c]
 rename_i i hd _;split at h<;>first|(cases h;done)|skip
 rename_i z;rw[bG]at h;obtain⟨s,f,rfl⟩:=h;have p:=lS i;have o:=CN z;have n:=Dz hd;unfold Dv at f;split at f<;>first|(cases f;done)|skip
 ·rename_i e
  cases f;rw[e]at c;simp only[cB]at c;refine⟨.string ⟨#[]⟩, ?_,by simp only[cB]⟩;simp only[execOp,c];simp [Ed p o n none 0]
 rename_i sz l e;split at f
 ·rename_i y
  subst y;rw[e]at c;simp only[cB]at c;obtain⟨B,cap,c,_,_,j⟩:=c;refine⟨.string ⟨s.toArray⟩, ?_,by simp only[cB]⟩;rcases j with rfl|⟨b,off,rfl,_,j⟩
  ·simp only[qA,Option.some.injEq]at f
   subst f;simp only[execOp,c];simp [Ed p o n B cap]
  simp only[execOp,c];simp [W8 p o n (cap:=cap) j f]
 cases f
theorem Nn (hst:St E γ S H w) (d:mY S w fr a) {x:Operand} {i:Nat} {v:AV} (h:aq E H fr (.extract x i)=some v):pA E S w a (.extract x i) v:=by
 intro n p o l g;have b:=eX hst d x;simp only[aq]at h;split at h<;>first|(cases h;done)|skip
 rename_i vs e;rw[e]at b;simp only[cB]at b;obtain⟨y,c,f⟩:=b;obtain⟨u,j,k⟩:=f.get i h;exact⟨u,by simp [execOp,c,Instr.extract,j],k⟩
theorem Hl (hst:St E γ S H w) (j:mY S w fr a) {x:Operand} {v:AV} (h:aq E H fr (.nilCheck x)=some v):pA E S w a (.nilCheck x) v:=by
 intro l o n k g;have c:=eX hst j x;simp only[aq,eK]at h;obtain⟨d,i⟩:=h;cases i;refine⟨a.eval x, ?_,c⟩;cases e:ev E.G fr x<;>rw[e]at d c<;>simp only[Em]at d<;>try (cases d;done)
 ·simp only[cB]at c;simp [execOp,c]
 simp only[cB]at c;obtain⟨b,off,f,_⟩:=c;simp [execOp,f]
theorem xZ (hst:St E γ S H w) (b:mY S w fr a) {t:TypeId} {x:Operand} {v:AV} (h:aq E H fr (.makeInterface t x)=some v):pA E S w a (.makeInterface t x) v:=by
 intro o y p l g;have j:=eX hst b x;simp only[aq]at h;split at h<;>first|(cases h;done)|skip
 rename_i ti c f;cases h;obtain⟨d,i,e⟩:=qU f;refine⟨.iface t (a.eval x), ?_,by simp only[cB];exact⟨_,rfl,j⟩⟩;cases d<;>simp [execOp,Instr.makeInterface,run_underlying i];obtain⟨k,u,n,z⟩:=ti;simp only[yZ]at e;subst e;exact c _ _ _ rfl
theorem cY.map (hst:St E γ S H w) (c:mY S w fr a): ∀b:List Operand,cY S w (b.map (ev E.G fr)) (b.map a.eval)
 |[]=>by simp only[dH,cY]
 |x::b=>by simp only[cX,cY];exact⟨_,_,rfl,eX hst c x,cY.map hst c b⟩
theorem Hm (hst:St E γ S H w) (c:mY S w fr a) {f:Fn} {xs b:Array Operand} {v:AV} (h:aq E H fr (.makeFunc f xs b)=some v):pA E S w a (.makeFunc f xs b) v:=by
 intro e j i d g;simp only[aq,Option.some.injEq]at h;subst h;refine⟨.func f (xs.toList.map a.eval).toArray (b.toList.map a.eval).toArray, ?_, ?_⟩
 ·simp only[execOp,Instr.makeFunc,Sem.run_bind,Sem.run_pure,Result.andThen_ok,←Array.toList_map,eS]
 simp only[cB];exact⟨_,_,rfl,cY.map hst c _,cY.map hst c _⟩
theorem We (hst:St E γ S H w) (l:mY S w fr a) {s:TypeId} {x:Operand} {f:Nat} {v:AV} (h:aq E H fr (.field s x f)=some v):pA E S w a (.field s x f) v:=by
 intro C I G B g;have b:=eX hst l x;simp only[aq]at h;split at h<;>first|(cases h;done)|skip
 rename_i u e;rw[e]at b;simp only[cB]at b;obtain⟨J,i,p⟩:=b;split at h<;>first|(cases h;done)|skip
 rename_i t off n;rw[cJ]at h;obtain⟨ti,y,h⟩:=h;obtain⟨F,D,z,o,c,d⟩:=N2 u n;simp only at c d;obtain⟨A,j,k⟩:=O9 y p h w;exact⟨A,by simp [execOp,Instr.field,run_underlying z,o,i,asAgg,c,d,j],k⟩
theorem Fz (hst:St E γ S H w) (z:mY S w fr a) {s:TypeId} {x:Operand} {f:Nat} {v:AV} (h:aq E H fr (.fieldAddr s x f)=some v):pA E S w a (.fieldAddr s x f) v:=by
 intro D J I C g;have c:=eX hst z x;simp only[aq]at h;split at h<;>first|(cases h;done)|skip
 rename_i B;split at h<;>first|(cases h;done)|skip
 rename_i t off A;split at h<;>first|(cases h;done)|skip
 rename_i ti l;split at h<;>first|(cases h;done)|skip
 rename_i k;obtain⟨G,F,n,j,d,i⟩:=N2 B A;simp only at d i;split at h<;>first|(cases h;done)|skip
 ·rename_i e
  cases h;rw[e]at c;simp only[cB]at c;refine⟨_, ?_,by simp only[cB];rfl⟩;simp [execOp,Instr.fieldAt,run_underlying n,j,c,Instr.sureAddr,fieldPlace,d,gS l,k,i,Addr.add_lit,gJ]
 rename_i e;cases h;rw[e]at c;simp only[cB]at c;obtain⟨b,o,p,u,y⟩:=c;refine⟨_, ?_,by simp only[cB];exact⟨b,o,rfl,u,y⟩⟩;simp [execOp,Instr.fieldAt,run_underlying n,j,p,Instr.sureAddr,fieldPlace,d,gS l,k,i,Addr.add_lit,gJ]
end
section
variable {E : kB} {γ : lR} {S : gG} {H : Hp} {w : World} {fr : Fr} {a : Act}
theorem MF (s:List UInt8):ByteArray.size ⟨s.toArray⟩=s.length:=by simp [ByteArray.size]
theorem P3 (hst:St E γ S H w) (b:mY S w fr a) (o:Option Operand):(∀x,o.map (ev E.G fr)=some x→ ∃y,o.map a.eval=some y∧cB S w x y)∧(o.map (ev E.G fr)=none→o.map a.eval=none):=by
 cases o with
 |none=>simp
 |some x=>exact⟨fun y h=>by simp at h;subst h;exact⟨_,rfl,eX hst b x⟩,fun h=>by simp at h⟩
theorem Wa (hst:St E γ S H w) (F:mY S w fr a) {t:TypeId} {x:Operand} {lo G:Option Operand} {v:AV} (h:aq E H fr (.slice t x lo G none)=some v):pA E S w a (.slice t x lo G none) v:=by
 intro R ty V Q g;have c:=eX hst F x;have f:=P3 hst F lo;have d:=P3 hst F G;simp only[aq]at h;split at h<;>first|(cases h;done)|skip
 ·rename_i s o e
  rw[e]at c;simp only[cB]at c;rw[bG]at h;obtain⟨p,k,rfl⟩:=h;obtain⟨j,B,C⟩:=vG (isS:=false) (w:=w) (S:=S) (cap:=s.length) k (aZ _) f.1 f.2 d.1 d.2 E.P;refine⟨.string _, ?_,by simp only[cB];rfl⟩;have i:ByteArray.size ⟨s.toArray⟩=s.length:=by simp [ByteArray.size]
  have u:=Dz o;simp only[execOp,Instr.sliceAt,Sem.run_bind,run_underlying u,Result.andThen_ok,Instr.slice,c,jF,fS,cK,dT,i,j,Sem.run_pure];congr 3;apply ByteArray.ext;simp [ByteArray.data_extract]
 ·rename_i sz l o e
  split at h<;>first|(cases h;done)|skip
  rename_i K z;split at h<;>first|(cases h;done)|skip
  rename_i i;rw[e]at c;simp only[cB]at c;obtain⟨J,cap,A,D,M,I⟩:=c;rw[bG]at h;obtain⟨p,k,rfl⟩:=h;obtain⟨j,B,C⟩:=vG (isS:=true) (w:=w) (S:=S) k D f.1 f.2 d.1 d.2 E.P;have u:=lS o;refine⟨.slice (if cap=p.1 then J else J.map (·.add (p.1 *sz))) (p.2-p.1) (cap-p.1), ?_, ?_⟩
  ·simp only[execOp,Instr.sliceAt,Sem.run_bind,run_underlying u,Result.andThen_ok,Instr.slice,A,jF,j,gS z,i,Sem.run_pure]
  simp only[cB];have O:((l.drop p.1).take (p.2-p.1)).length=p.2-p.1:=by rw[dS,fK];omega
  refine⟨_,_,by rw[O],by omega,by omega, ?_⟩;rcases I with rfl|⟨b,off,rfl,L,I⟩
  ·simp
  by_cases y:p.2-p.1=0
  ·left;rw[y];simp
  right;refine⟨b,off+p.1 *sz, ?_,L,(I.drop p.1).take _⟩;rw[aO (by omega)];simp [Addr.add_lit]
 ·rename_i sz b len o e
  split at h<;>first|(cases h;done)|skip
  rename_i K z;split at h<;>first|(cases h;done)|skip
  rename_i i;rw[e]at c;simp only[cB]at c;obtain⟨cap,T,A,_,D,M⟩:=c;rw[bG]at h;obtain⟨p,k,rfl⟩:=h;obtain⟨j,B,C⟩:=vG (isS:=true) (w:=w) (S:=S) k D f.1 f.2 d.1 d.2 E.P;have u:=lS o;refine⟨.slice (if cap=p.1 then some ⟨b,0,none⟩else(some (⟨b,0,none⟩:Addr)).map (·.add (p.1 *sz))) (p.2-p.1) (cap-p.1), ?_, ?_⟩
  ·simp only[execOp,Instr.sliceAt,Sem.run_bind,run_underlying u,Result.andThen_ok,Instr.slice,A,jF,j,gS z,i,Sem.run_pure]
  simp only[cB];refine⟨_,_,rfl, ?_,by omega,by omega⟩;by_cases y:p.2-p.1=0
  ·exact .inl y
  right;rw[aO (by omega)];simp [Addr.add_lit]
 rename_i n e W X Y Z b o N;split at h<;>first|(cases h;done)|skip
 rename_i K z;split at h<;>first|(cases h;done)|skip
 rename_i i;rw[N]at c;simp only[cB,Nat.zero_mul,cD]at c;rw[bG]at h;obtain⟨p,k,rfl⟩:=h;obtain⟨j,B,C⟩:=vG (isS:=false) (w:=w) (S:=S) k (aZ _) f.1 f.2 d.1 d.2 E.P;have u:=Gp o;have U:n≤maxLen:=by have:=i.2;simp only[maxLen];omega
 refine⟨.slice (some (if n=p.1 then⟨b,0,none⟩else(⟨b,0,none⟩:Addr).add (p.1 *1))) (p.2-p.1) (n-p.1), ?_, ?_⟩
 ·simp only[execOp,Instr.sliceAt,Sem.run_bind,run_underlying u,Result.andThen_ok,c,Instr.sureAddr,jF,j,gS z,i.1,Sem.run_pure]
 simp only[cB];refine⟨_,_,rfl, ?_,by omega,by omega⟩;by_cases y:p.2-p.1=0
 ·exact .inl y
 right;rw[aO (by omega)];simp [Addr.add_lit]
theorem Fv (hst:St E γ S H w) (C:mY S w fr a) {t:TypeId} {x A:Operand} {v:AV} (h:aq E H fr (.indexAddr t x A)=some v):pA E S w a (.indexAddr t x A) v:=by
 intro M V U L g;have c:=eX hst C x;have f:=eX hst C A;simp only[aq]at h;split at h<;>first|(cases h;done)|skip
 ·rename_i z p
  rw[p]at f;simp only[cB]at f;have k:=lS z;split at h<;>first|(cases h;done)|skip
  ·rename_i B sz l i e
   rw[e]at c;simp only[cB]at c;obtain⟨T,D,n,O,Q,u⟩:=c;split at h<;>first|(cases h;done)|skip
   rename_i d;rw[bG]at h;obtain⟨row,y,rfl⟩:=h;have R:=(bD.1 y).1;rcases u with rfl|⟨b,off,rfl,J,u⟩
   ·simp at y
   obtain⟨_,K⟩:=cZ.get _ u y;refine⟨_, ?_,by simp only[cB];exact⟨b,_,rfl,J,K⟩⟩;simp only[execOp,Instr.indexAt,f,asIntOf,Sem.run_bind,Sem.run_pure,Result.andThen_ok,run_underlying k,n,Instr.sureAddr,pure_bind];rw[bF (by omega)];simp [gS i,d.1,Addr.add_lit]
  rename_i B sz b len i e;rw[e]at c;simp only[cB]at c;obtain⟨D,N,n,_⟩:=c;split at h<;>first|(cases h;done)|skip
  rename_i d;cases h;refine⟨_, ?_,by simp only[cB];rfl⟩;simp only[execOp,Instr.indexAt,f,asIntOf,Sem.run_bind,Sem.run_pure,Result.andThen_ok,run_underlying k,n,Instr.sureAddr,pure_bind];rw[bF d.2];simp [gS i,d.1,Addr.add_lit]
 rename_i z p;rw[p]at f;simp only[cB]at f;have k:=Gp z;split at h<;>first|(cases h;done)|skip
 ·rename_i B sz b r j i e
  rw[e]at c;simp only[cB]at c;split at h<;>first|(cases h;done)|skip
  rename_i d;cases h;refine⟨_, ?_,by simp only[cB];rfl⟩;simp only[execOp,Instr.indexAt,f,asIntOf,Sem.run_bind,Sem.run_pure,Result.andThen_ok,run_underlying k,c,Instr.sureAddr,pure_bind];rw[bF d];simp [gS i,Addr.add_lit,gJ]
 rename_i B row j i e;rw[e]at c;simp only[cB]at c;obtain⟨b,o,F,G,I⟩:=c;split at h<;>first|(cases h;done)|skip
 rename_i d;cases h;refine⟨_, ?_,by simp only[cB];exact⟨b,o,rfl,G,I⟩⟩;simp only[execOp,Instr.indexAt,f,asIntOf,Sem.run_bind,Sem.run_pure,Result.andThen_ok,run_underlying k,F,Instr.sureAddr,pure_bind];rw[bF d];simp [gS i,Addr.add_lit,gJ]
theorem Wc (hst:St E γ S H w) (u:mY S w fr a) {t:TypeId} {x o:Operand} {v:AV} (h:aq E H fr (.index t x o)=some v):pA E S w a (.index t x o) v:=by
 intro K N L I g;have d:=eX hst u x;have b:=eX hst u o;simp only[aq]at h;split at h<;>first|(cases h;done)|skip
 ·rename_i s _ i k e f
  rw[f]at b;rw[e]at d;simp only[cB]at b d;have l:=Dz k;split at h<;>first|(cases h;done)|skip
  rename_i j;rw[bG]at h;obtain⟨c,p,rfl⟩:=h;refine⟨.int .u8 _, ?_,by simp only[cB];rfl⟩
  have C:(⟨s.toArray⟩:ByteArray)[i.toNat]?=some c:=by
   have F:=(bD.1 p).1;rw[getElem?_pos (⟨s.toArray⟩:ByteArray) i.toNat (by simpa [ByteArray.size]using F)];congr 1;have:=(bD.1 p).2;show s.toArray[i.toNat]=c;simpa using this
  simp only[execOp,Instr.index,b,d,asIntOf,Sem.run_bind,Sem.run_pure,Result.andThen_ok,run_underlying l,bF j,C]
 rename_i n e J _ i k e f;rw[f]at b;rw[e]at d;simp only[cB]at b d;obtain⟨O,z,D⟩:=d;have l:=Gp k;rw[cJ]at h;obtain⟨M,y,h⟩:=h;split at h<;>first|(cases h;done)|skip
 rename_i j;obtain⟨G,A,B⟩:=O9 y D h w;refine⟨G, ?_,B⟩;simp only[execOp,Instr.index,b,z,asIntOf,Sem.run_bind,Sem.run_pure,Result.andThen_ok,run_underlying l,bF j,gS y,A]
theorem V9 (hst:St E γ S H w) (y:mY S w fr a) {f:Array Operand} {i:Array TypeId} {v:AV} (h:aq E H fr (.call ⟨.builtin .len,f,i⟩)=some v):pA E S w a (.call ⟨.builtin .len,f,i⟩) v:=by
 intro A F D z g;simp only[aq]at h;split at h<;>first|(cases h;done)|skip
 rename_i x t u p;have c:=eX hst y x;have n:f= #[x]:=by rw[←eS (xs:=f),u]
 have o:i= #[t]:=by rw[←eS (xs:=i),p]
 subst n;subst o;split at h<;>first|(cases h;done)|skip
 ·rename_i s d e
  cases h;rw[e]at c;simp only[cB]at c;refine⟨.int .i64 _, ?_,by simp only[cB];rfl⟩;simp [execOp,resolve,invoke,builtin,Builtin.len_,run_underlying (Dz d),c,goInt,MF]
 ·rename_i sz l d e
  cases h;rw[e]at c;simp only[cB]at c;obtain⟨C,k,j,_⟩:=c;refine⟨.int .i64 _, ?_,by simp only[cB];rfl⟩;simp [execOp,resolve,invoke,builtin,Builtin.len_,run_underlying (lS d),j,goInt]
 ·rename_i sz b len d e
  cases h;rw[e]at c;simp only[cB]at c;obtain⟨k,B,j,_⟩:=c;refine⟨.int .i64 _, ?_,by simp only[cB];rfl⟩;simp [execOp,resolve,invoke,builtin,Builtin.len_,run_underlying (lS d),j,goInt]
 ·rename_i d e
  cases h;rw[e]at c;simp only[cB]at c;refine⟨.int .i64 _, ?_,by simp only[cB];rfl⟩;simp [execOp,resolve,invoke,builtin,Builtin.len_,run_underlying (lS d),c,goInt]
 rename_i d;cases h;refine⟨.int .i64 _, ?_,by simp only[cB];rfl⟩;simp [execOp,resolve,invoke,builtin,Builtin.len_,run_underlying (Gp d),goInt]
theorem V7 (hst:St E γ S H w) (e:mY S w fr a) {b:Array Operand} {f:Array TypeId} {v:AV} (h:aq E H fr (.call ⟨.builtin .min,b,f⟩)=some v):pA E S w a (.call ⟨.builtin .min,b,f⟩) v:=by
 intro o u p n g;simp only[aq]at h;split at h<;>first|(cases h;done)|skip
 rename_i x y l;have c:=eX hst e x;have d:=eX hst e y;have k:b= #[x,y]:=by rw[←eS (xs:=b),l]
 subst k;split at h<;>first|(cases h;done)|skip
 rename_i i j;cases h;rw[i]at c;rw[j]at d;simp only[cB]at c d;refine⟨.int _ _, ?_,by simp only[cB];rfl⟩;simp [execOp,resolve,invoke,builtin,Builtin.min_,Builtin.min2,c,d]
theorem V8 (hst:St E γ S H w) (e:mY S w fr a) {b:Array Operand} {f:Array TypeId} {v:AV} (h:aq E H fr (.call ⟨.builtin .max,b,f⟩)=some v):pA E S w a (.call ⟨.builtin .max,b,f⟩) v:=by
 intro o u p n g;simp only[aq]at h;split at h<;>first|(cases h;done)|skip
 rename_i x y l;have c:=eX hst e x;have d:=eX hst e y;have k:b= #[x,y]:=by rw[←eS (xs:=b),l]
 subst k;split at h<;>first|(cases h;done)|skip
 rename_i i j;cases h;rw[i]at c;rw[j]at d;simp only[cB]at c d;refine⟨.int _ _, ?_,by simp only[cB];rfl⟩;simp [execOp,resolve,invoke,builtin,Builtin.max_,Builtin.max2,c,d]
theorem Zo {S:gG} {w:World} {k k':AV} {b:Bool} {x y:Value} (c:cB S w k x) (d:cB S w k' y) {s:List UInt8} (e:k= .str s) (h:nV k k'=some b):
  Instr.sameNow .string x y=some b:=by
 subst e;cases k'<;>simp only[nV]at h<;>try (cases h;done)
 simp only[cB]at c d;subst c;subst d;cases h;simp only[Instr.sameNow];congr 1;rw[beq_toListBytes,xH,xH,xU]
theorem xX {S:gG} {w:World} {s:List UInt8} {x:Value} (f:cB S w (.str s) x): ∀(es:List (AV×AV)) (c:List MapEntry) (i:Nat) (r:Option (Nat×AV)),
  fU S w es c→iR (.str s) es i=some r→ ∃b,Instr.findNow .string x c i=some b∧
   (match r,b with |none,none=>True|some (j,v),some (j',v')=>j=j'∧i≤j∧(es[j-i]?).map (·.2)=some v∧cB S w v v'|_,_=>False)
 |[],c,i,r,h,hr=>by
  simp only[fU]at h;subst h;simp only[iR,Option.some.injEq]at hr;subst hr;exact⟨none,by simp [Instr.findNow],trivial⟩
 |(k',v)::es,c,i,r,h,hr=>by
  simp only[fU]at h;obtain⟨e,y,rfl,k,z,A⟩:=h;simp only[iR]at hr;split at hr<;>first|(cases hr;done)|skip
  ·rename_i d
   cases hr;refine⟨some (i,e.val), ?_, ?_⟩
   ·simp only[Instr.findNow,Zo f k rfl d]
   simp only;exact⟨by trivial,aZ _,by simp,z⟩
  rename_i d;obtain⟨b,l,g⟩:=xX f es y (i+1) r A hr;refine⟨b, ?_, ?_⟩
  ·simp only[Instr.findNow,Zo f k rfl d,l]
  cases r<;>cases b<;>simp only at g⊢;obtain⟨n,B,o,u⟩:=g;refine⟨n,by omega, ?_,u⟩;rename_i p _;rw[show p.1-i=(p.1-(i+1))+1 by omega];simpa using o
theorem oJ {P:Program} {c:TypeId} (d:P.underlying c=some .string) {x:Value} {b:List MapEntry} {r:Option (Nat×Value)} (h:Instr.findNow .string x b 0=some r) (w1:World):
  (Instr.findKey c x b).run P w1= .ok r w1:=by
 simp only[Instr.findKey,Sem.run_bind,run_underlying d,Result.andThen_ok,h,Sem.run_pure]
theorem nO {P:Program} {c:TypeId} (d:P.underlying c=some .string) (b:Bool) (s:ByteArray) (w1:World):(Instr.checkKey b 10000 c (.string s)).run P w1= .ok () w1:=by
 have e: ∀n:Nat,(Instr.checkKey b (n+1) c (.string s)).run P w1= .ok () w1:=fun n=>by
  simp only[Instr.checkKey,Sem.run_bind,run_underlying d,Result.andThen_ok,Sem.run_pure]
 exact e 9999
theorem zD {P:Program} {w1:World} {b c:Nat} {d:Array MapEntry} (h:w1.heap[b]?=some (.map d c)):(getObj b).run P w1= .ok (.map d c) w1:=by
 simp only[getObj,Sem.run,h]
theorem fU.of_lists: ∀{c d:List AV} {b:List MapEntry},cY S w c (b.map fun e=>e.key)→cY S w d (b.map fun e=>e.val)→fU S w (c.zip d) b
 |[],_,b,h,_=>by
  simp only[cY,List.map_eq_nil_iff]at h;subst h;simp only[List.zip_nil_left,fU]
 |k::c,[],b,h,h'=>by
  simp only[cY,List.map_eq_nil_iff]at h';subst h';simp only[List.zip_nil_right,fU]
 |k::c,x::d,b,h,h'=>by
  cases b with
  |nil=>
   simp only[cY,dH]at h;obtain⟨_,_,e,_⟩:=h;cases e
  |cons m b=>
   simp only[cY,cX]at h h';obtain⟨u,o,e,g,j⟩:=h;obtain⟨n,p,f,i,l⟩:=h';simp only[List.cons.injEq]at e f;obtain⟨rfl,rfl⟩:=e;obtain⟨rfl,rfl⟩:=f;simp only[List.zip_cons_cons,fU];exact⟨m,b,rfl,g,i,fU.of_lists j l⟩
theorem Rx (hst:St E γ S H w) (F:mY S w fr a) {t:TypeId} {x k:Operand} {ok:Bool} {v:AV} (h:aq E H fr (.lookup t x k ok)=some v):pA E S w a (.lookup t x k ok) v:=by
 intro L ty a1 K g;have c:=eX hst F x;have l:=eX hst F k;simp only[aq]at h;split at h<;>first|(cases h;done)|skip
 rename_i X M;split at h<;>first|(cases h;done)|skip
 rename_i Z Y;split at h<;>first|(cases h;done)|skip
 rename_i es d;split at h<;>first|(cases h;done)|skip
 rename_i r V;cases h;rw[M]at l;obtain⟨z,J,N⟩:=mN Y w;have I:=CM X;have n:=Dz Z;have Q:=l;simp only[cB]at l
 have R: ∃f:List MapEntry,fU S w es f∧((a.eval x= .map none∧f=[])∨ ∃b j,a.eval x= .map (some b)∧w.heap[b]?=some (.map f.toArray j)):=by
  split at d
  ·rename_i b e
   rw[e]at c;simp only[cB]at c;split at d<;>first|(cases d;done)|skip
   rename_i y;cases d;have G:=(hst.obj _ _ y).1;simp only[jQ]at G;obtain⟨f,j,o,u⟩:=G;exact⟨f.toList,u, .inr ⟨b,j,c,o⟩⟩
  ·rename_i e
   rw[e]at c;simp only[cB]at c;cases d;exact⟨[],by simp only[fU], .inl ⟨c,rfl⟩⟩
  ·rename_i e
   rw[e]at c;simp only[cB]at c;cases d;obtain⟨b,hv,_,a0,j,o,u,O⟩:=c;exact⟨a0.toList,fU.of_lists u O, .inr ⟨b,j,hv,o⟩⟩
  cases d
 obtain⟨f,T,U⟩:=R;obtain⟨i,A,B⟩:=xX Q es f 0 r T V;rw[l]at A
 have W:(execOp a.eval ⟨L, .lookup t x k ok,ty,a1,K,g⟩).run E.P w= .ok (.value (if ok then .tuple #[(i.map (·.2)).getD z, .bool i.isSome]else(i.map (·.2)).getD z)) w:=by
  rcases U with⟨e,rfl⟩|⟨b,j,e,y⟩
  ·simp only[execOp,Instr.lookup,Sem.run_bind,run_underlying I,Result.andThen_ok,e,Sem.run_pure,l,nO n,oJ n A]
   cases i<;>simp [J]
  simp only[execOp,Instr.lookup,Sem.run_bind,run_underlying I,Result.andThen_ok,e,Sem.run_pure,zD y,l,nO n,oJ n A];cases i<;>simp [J]
 refine⟨_,W, ?_⟩;have C:cB S w (Gk z) z:=nQ S w z;rw[←N]at C
 cases r with
 |none=>
  cases i with
  |some p=>simp only at B
  |none=>
   cases ok
   ·simpa using C
   simp only[cQ,jF,mM,fS,cB,cY];exact⟨[z, .bool false],rfl,z,[.bool false],rfl,C, .bool false,[],rfl,rfl,rfl⟩
 |some p=>
  cases i with
  |none=>simp only at B
  |some p'=>
   obtain⟨_,_,_,D⟩:=B;cases ok
   ·simpa using D
   simp only[cQ,eE,mK,mJ,cB,cY];exact⟨[p'.2, .bool true],rfl,p'.2,[.bool true],rfl,D, .bool true,[],rfl,rfl,rfl⟩
theorem nP {S:gG} {w:World} {v:AV} {v':Value} {cs:List AV} (h:cB S w v v') (b:cellsOf v=some cs):cY S w cs v'.cells.toList:=by
 cases v<;>simp only[cellsOf]at b<;>cases b
 case agg=>
  simp only[cB]at h;obtain⟨vs,rfl,h⟩:=h;simpa [Value.cells]using h
 all_goals
  have c:=h;simp only[cB]at h
  have e:v'.cells= #[v']:=by
   first
    |(subst h;rfl)
    |(obtain⟨_,_,rfl,_⟩:=h;rfl)
    |(obtain⟨_,rfl,_⟩:=h;rfl)
  rw[e];simp only[cY];exact⟨v',[],rfl,c,rfl⟩
theorem Dk (off:Nat): ∀(vs:List Value) (j:Nat) (b:Array Value),off+j+vs.length≤b.size→
  ((vs.zipIdx j).foldl (fun d (c,i)=>d.setIfInBounds (off+i) c) b).toList=b.toList.take (off+j)++vs++b.toList.drop (off+j+vs.length)
 |[],j,b,_=>by simp
 |v::vs,j,b,h=>by
  simp only[aJ]at h;simp only[List.zipIdx_cons,List.foldl_cons];rw[Dk off vs (j+1) _ (by simp;omega)];simp only[Array.toList_setIfInBounds];rw[show off+(j+1)=off+j+1 by omega]
  have e:(b.toList.set (off+j) v).take (off+j+1)=b.toList.take (off+j)++[v]:=by
   rw[bQ (by simp;omega)];simp only[List.getElem_set_self,List.append_cancel_right_eq];apply lJ;intro i;simp only[eH,hJ];split
   ·rw[aO (by omega)]
   rfl
  rw[e,List.drop_set_of_lt (by omega)];simp [gJ,Nat.add_comm 1]
theorem Yj {P:Program} {S:gG} {w:World} {gs:Array Field} {places:Nat→Option (Nat×Nat)} (A: ∀(f:Nat) (g:Field) (ti:TI),gs[f]?=some g→cF P g.type=some ti→places f=some (g.offset,ti.size)) {G:Nat→Option (List AV)}:
  ∀(k:List (Nat×AV)) (e:List (Nat×Value)) (z:List AV) (b:Array Value) (r:List AV),
   k.length=e.length→(∀(i:Nat) p q,k[i]?=some p→e[i]?=some q→p.1=q.1∧cB S w p.2 q.2)→cY S w z b.toList→
   aq.abuild ⟨P,G⟩ (gs.toList.map fun f=>(f.type,f.offset)) z k=some r→ ∃n,Instr.fill places b e=some n∧cY S w r n.toList
 |[],e,z,b,r,hl,_,hz,h=>by
  cases e with
  |nil=>
   simp only[aq.abuild,Option.some.injEq]at h;subst h;exact⟨b,by simp [Instr.fill],hz⟩
  |cons=>simp at hl
 |(i,v)::k,e,z,b,r,hl,hp,hz,h=>by
  cases e with
  |nil=>simp at hl
  |cons q e=>
   obtain⟨V,l⟩:=q;obtain⟨o,u⟩:=hp 0 _ _ rfl rfl;simp only at o u;subst o;simp only[aq.abuild]at h;split at h<;>first|(cases h;done)|skip
   rename_i t off x;split at h<;>first|(cases h;done)|skip
   rename_i ti R;split at h<;>first|(cases h;done)|skip
   rename_i d I;split at h<;>first|(cases h;done)|skip
   rename_i T;rw[cT,bG]at x;obtain⟨g,K,L⟩:=x;cases L;have B:=nP u I;have y:l.cells.size=d.length:=by simpa using B.length
   have U:b.size=z.length:=by simpa using hz.length
   have N:=A i g ti (by simpa using K) R;have J:=Dk g.offset l.cells.toList 0 b (by simp [y];omega)
   have Q:cY S w (z.take g.offset++d++z.drop (g.offset+d.length)) ((l.cells.zipIdx.foldl (fun d (c,j)=>d.setIfInBounds (g.offset+j) c) b).toList):=by
    have C:(l.cells.zipIdx.foldl (fun d (c,j)=>d.setIfInBounds (g.offset+j) c) b)=(l.cells.toList.zipIdx.foldl (fun d (c,j)=>d.setIfInBounds (g.offset+j) c) b):=by
     rw[←Array.foldl_toList];simp
    rw[C,J];simp only[mV,lK,y];exact(cY.append (hz.take _) B).append (hz.drop _)
   obtain⟨n,M,O⟩:=Yj A k e _ _ r (by simpa using hl) (fun j p q D F=>hp (j+1) p q (by simpa using D) (by simpa using F)) Q h;refine⟨n, ?_,O⟩;simp only[Instr.fill,N];rw[aO (by simp;omega)];exact M
theorem Ih {P:Program} {w1:World}: ∀(b:List Field),(b.map fun f=>(f.type,f.offset)).all (fun p=>(cF P p.1).isSome)=true→
  ∃d:List (Nat×Nat),(b.mapM (m:=Sem) fun f=>do pure (f.offset,←sizeOf f.type)).run P w1= .ok d w1∧ ∀(f:Nat) (g:Field) (ti:TI),b[f]?=some g→cF P g.type=some ti→d[f]?=some (g.offset,ti.size)
 |[],_=>⟨[],by simp,by simp⟩
 |g::b,h=>by
  simp only[cX,eD,aV,Option.isSome_iff_exists]at h;obtain⟨⟨ti,j⟩,h⟩:=h;obtain⟨d,i,l⟩:=Ih (w1:=w1) b h;refine⟨(g.offset,ti.size)::d, ?_,fun f k n c e=>?_⟩
  ·simp only[List.mapM_cons,Sem.run_bind,gS j,Result.andThen_ok,Sem.run_pure]at i⊢
   simp only[i,Result.andThen_ok]
  cases f with
  |zero=>simp at c;subst c;rw[j]at e;cases e;rfl
  |succ f=>simp at c;simpa using l f k n c e
theorem Wg (hst:St E γ S H w) (F:mY S w fr a) {t:TypeId} {c:Array (Nat×Operand)} {v:AV} (h:aq E H fr (.build t c)=some v):pA E S w a (.build t c) v:=by
 intro X ty Z V g;simp only[aq,cJ]at h;obtain⟨ti,o,h⟩:=h;split at h<;>first|(cases h;done)|skip
 rename_i Y n;split at h<;>first|(cases h;done)|skip
 rename_i D;split at h<;>first|(cases h;done)|skip
 rename_i z A;rw[bG]at h;obtain⟨r,N,rfl⟩:=h;obtain⟨k,s1,W,z1⟩:=ti;simp only at n A;subst n;subst A;obtain⟨gs,Q,rfl⟩:=Vu o;obtain⟨b,U,C⟩:=mN o w;have B:cB S w (Gk b) b:=nQ S w b;rw[←C]at B;have T:cY S w z b.cells.toList:=nP B rfl;obtain⟨l,K,L⟩:=Ih (P:=E.P) (w1:=w) gs.toList (by simpa only[Bool.not_eq_false]using D)
 have M:(gs.mapM (m:=Sem) fun f=>do pure (f.offset,←sizeOf f.type)).run E.P w= .ok l.toArray w:=by
  rw[Array.mapM_eq_mapM_toList];simp only[Sem.run_map,K,Result.andThen_ok]
 obtain⟨j,I,O⟩:=Yj (P:=E.P) (G:=E.G) (places:=fun i=>l.toArray[i]?) (gs:=gs)
  (fun f g ti d e=>by simpa using L f g ti (by simpa using d) e)
  (c.toList.map fun p=>(p.1,ev E.G fr p.2)) (c.toList.map fun p=>(p.1,a.eval p.2)) z b.cells r (by simp)
  (fun i p q d e=>by
   rw[cT,bG]at d e;obtain⟨x,R,rfl⟩:=d;obtain⟨y,u,rfl⟩:=e;rw[R]at u;cases u
   exact⟨rfl,eX hst F x.2⟩) T N
 refine⟨.agg j, ?_,by simp only[cB];exact⟨j.toList,by simp,O⟩⟩;have J:Instr.fill (fun i=>l.toArray[i]?) b.cells (c.map fun x=>(x.1,a.eval x.2)).toList=some j:=by simpa using I
 simp only[execOp,Instr.build,Sem.run_bind,U,Result.andThen_ok,run_underlying Q,M,J,Sem.run_pure]
theorem Bt (hst:St E γ S H w) (p:mY S w fr a) {x:Operand} {k t:TypeId} {v:AV} (h:aq E H fr (.typeAssert x k t true)=some v):pA E S w a (.typeAssert x k t true) v:=by
 intro I K J G g;have b:=eX hst p x;simp only[aq]at h;split at h<;>first|(cases h;done)|skip
 rename_i ti j L A B e;rw[e]at b;simp only[cB]at b;obtain⟨u,b,D⟩:=b;obtain⟨d,i,z,C,y,F,l⟩:=kF B
 have hd: ∀o,d≠ .interface o:=fun o c=>by
  subst c;exact A _ _ _ (by rw[l];rfl)
 have f:(Instr.typeAssert (.iface j u) k t true).run E.P w=if j=t then .ok (.tuple #[u, .bool true]) w else .ok (.tuple #[z, .bool false]) w:=by
  unfold Instr.typeAssert;simp only[Sem.run_bind,run_underlying C,Result.andThen_ok];cases d<;>first|(exact absurd rfl (hd _))|skip
  all_goals
   split
   ·simp
   simp [zeroValue,typeInfo,y,F]
 by_cases n:j=t
 ·simp only[bF n]at h f
  cases h;refine⟨.tuple #[u, .bool true], ?_, ?_⟩
  ·simp only[execOp,b,Sem.run_bind,Sem.run_pure,f,Result.andThen_ok]
  simp only[cB,cY];exact⟨[u, .bool true],rfl,_,_,rfl,D,_,_,rfl,rfl,rfl⟩
 simp only[aO n]at h f;cases h;refine⟨.tuple #[z, .bool false], ?_, ?_⟩
 ·simp only[execOp,b,Sem.run_bind,Sem.run_pure,f,Result.andThen_ok]
 simp only[cB,cY];exact⟨[z, .bool false],rfl,_,_,rfl,by rw[l];exact nQ S w z,_,_,rfl,rfl,rfl⟩
theorem LA (hst:St E γ S H w) (d:mY S w fr a) {o:Op} {v:AV} (h:aq E H fr o=some v):pA E S w a o v:=by
 cases o
 case move x=>
  intro j l k i g;simp only[aq,Option.some.injEq]at h;subst h;exact⟨_,by simp [execOp],eX hst d x⟩
 case assign x=>
  intro j l k i g;simp only[aq,Option.some.injEq]at h;subst h;exact⟨_,by simp [execOp],eX hst d x⟩
 case pick c x y=>
  intro j l k i g;have f:=eX hst d c;simp only[aq]at h;split at h<;>first|(cases h;done)|skip
  rename_i b e;cases h;rw[e]at f;simp only[cB]at f;cases b
  ·exact⟨_,by simp [execOp,f,asBool],eX hst d y⟩
  exact⟨_,by simp [execOp,f,asBool],eX hst d x⟩
 case build=>exact Wg hst d h
 case load=>exact C5 hst d h
 case nilCheck=>exact Hl hst d h
 case binOp=>exact Wi hst d h
 case unOp=>exact C4 hst d h
 case convert=>exact Np hst d h
 case makeInterface=>exact xZ hst d h
 case makeFunc=>exact Hm hst d h
 case slice t x lo hi mx=>
  cases mx with
  |none=>exact Wa hst d h
  |some m=>simp [aq]at h
 case fieldAddr=>exact Fz hst d h
 case field=>exact We hst d h
 case indexAddr=>exact Fv hst d h
 case index=>exact Wc hst d h
 case lookup=>exact Rx hst d h
 case extract=>exact Nn hst d h
 case typeAssert x xt t ok=>
  cases ok with
  |false=>simp [aq]at h
  |true=>exact Bt hst d h
 case call c=>
  obtain⟨n,p,u⟩:=c
  cases n with
  |value=>simp [aq]at h
  |invoke=>simp [aq]at h
  |builtin b=>
   cases b<;>first
    |exact V9 hst d h
    |exact V7 hst d h
    |exact V8 hst d h
    |(simp [aq]at h;done)
 all_goals (simp [aq]at h)
end
end Go.Al
