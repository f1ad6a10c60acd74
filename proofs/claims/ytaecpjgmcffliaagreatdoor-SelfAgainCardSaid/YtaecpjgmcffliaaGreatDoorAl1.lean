/- Al1 -/
import Derived.WalkKit
import Derived.ProofKit
import Derived.Laws.BytesArg
set_option linter.unusedSimpArgs false
set_option linter.unusedVariables false
set_option maxRecDepth 10000
namespace Go.Al
theorem iT:type_of% @Array.getD_eq_getD_getElem?:= @Array.getD_eq_getD_getElem?
theorem fA:type_of% @Array.getElem?_eq_some_iff:= @Array.getElem?_eq_some_iff
theorem uC:type_of% @Array.getElem?_modify:= @Array.getElem?_modify
theorem nW:type_of% @Array.length_toList:= @Array.length_toList
theorem uB:type_of% @Array.mem_of_getElem?:= @Array.mem_of_getElem?
theorem Vb:type_of% @Array.mem_toList_iff:= @Array.mem_toList_iff
theorem Va:type_of% @Array.size_replicate:= @Array.size_replicate
theorem eT:type_of% @Array.toArray_toList:= @Array.toArray_toList
theorem Ly:type_of% @Bool.and_eq_false_iff:= @Bool.and_eq_false_iff
theorem aX:type_of% @Bool.and_eq_true:= @Bool.and_eq_true
theorem YP:type_of% @Bool.and_false:= @Bool.and_false
theorem mZ:type_of% @Bool.and_true:= @Bool.and_true
theorem dK:type_of% @Bool.eq_false_iff:= @Bool.eq_false_iff
theorem eK:type_of% @Bool.eq_iff_iff:= @Bool.eq_iff_iff
theorem kC:type_of% @Bool.false_and:= @Bool.false_and
theorem cF:type_of% @Bool.false_eq_true:= @Bool.false_eq_true
theorem zJ:type_of% @Bool.false_or:= @Bool.false_or
theorem sI:type_of% @Bool.not_eq_false':= @Bool.not_eq_false'
theorem eJ:type_of% @Bool.not_eq_true':= @Bool.not_eq_true'
theorem BP:type_of% @Bool.not_false:= @Bool.not_false
theorem Rm:type_of% @Bool.not_true:= @Bool.not_true
theorem Uz:type_of% @Bool.or_eq_false_iff:= @Bool.or_eq_false_iff
theorem lU:type_of% @Bool.or_eq_true:= @Bool.or_eq_true
theorem cP:type_of% @Bool.true_and:= @Bool.true_and
theorem hI:type_of% @Int.eq_ofNat_of_zero_le:= @Int.eq_ofNat_of_zero_le
theorem pA:type_of% @Int.fdiv_eq_ediv_of_nonneg:= @Int.fdiv_eq_ediv_of_nonneg
theorem vV:type_of% @Int.tmod_eq_emod_of_nonneg:= @Int.tmod_eq_emod_of_nonneg
theorem cB:type_of% @Int.toNat_natCast:= @Int.toNat_natCast
theorem aS:type_of% @IntWalk.i64_in:= @IntWalk.i64_in
theorem dX:type_of% @IntWalk.u32_in:= @IntWalk.u32_in
theorem BN:type_of% @IntWalk.u64_in:= @IntWalk.u64_in
theorem dZ:type_of% @List.all_cons:= @List.all_cons
theorem cJ:type_of% @List.all_eq_true:= @List.all_eq_true
theorem gW:type_of% @List.all_nil:= @List.all_nil
theorem bT:type_of% @List.append_assoc:= @List.append_assoc
theorem dQ:type_of% @List.append_nil:= @List.append_nil
theorem cZ:type_of% @List.cons_append:= @List.cons_append
theorem bJ:type_of% @List.drop_eq_getElem_cons:= @List.drop_eq_getElem_cons
theorem dB:type_of% @List.drop_length:= @List.drop_length
theorem jW:type_of% @List.drop_succ_cons:= @List.drop_succ_cons
theorem dN:type_of% @List.drop_zero:= @List.drop_zero
theorem iE:type_of% @List.eq_nil_of_length_eq_zero:= @List.eq_nil_of_length_eq_zero
theorem ON:type_of% @List.eq_of_mem_replicate:= @List.eq_of_mem_replicate
theorem lL:type_of% @List.ext_getElem?:= @List.ext_getElem?
theorem nM:type_of% @List.flatten_cons:= @List.flatten_cons
theorem lK:type_of% @List.foldl_append:= @List.foldl_append
theorem YO:type_of% @List.getElem?_append:= @List.getElem?_append
theorem fU:type_of% @List.getElem?_append_left:= @List.getElem?_append_left
theorem gZ:type_of% @List.getElem?_append_right:= @List.getElem?_append_right
theorem kU:type_of% @List.getElem?_cons_succ:= @List.getElem?_cons_succ
theorem eS:type_of% @List.getElem?_cons_zero:= @List.getElem?_cons_zero
theorem dW:type_of% @List.getElem?_drop:= @List.getElem?_drop
theorem aF:type_of% @List.getElem?_eq_getElem:= @List.getElem?_eq_getElem
theorem dT:type_of% @List.getElem?_eq_none:= @List.getElem?_eq_none
theorem bF:type_of% @List.getElem?_eq_some_iff:= @List.getElem?_eq_some_iff
theorem dM:type_of% @List.getElem?_map:= @List.getElem?_map
theorem Uy:type_of% @List.getElem?_modify:= @List.getElem?_modify
theorem jB:type_of% @List.getElem?_of_mem:= @List.getElem?_of_mem
theorem qZ:type_of% @List.getElem?_replicate:= @List.getElem?_replicate
theorem hY:type_of% @List.getElem?_set:= @List.getElem?_set
theorem eI:type_of% @List.getElem?_take:= @List.getElem?_take
theorem bX:type_of% @List.getElem_mem:= @List.getElem_mem
theorem aB:type_of% @List.length_append:= @List.length_append
theorem aM:type_of% @List.length_cons:= @List.length_cons
theorem fL:type_of% @List.length_drop:= @List.length_drop
theorem aG:type_of% @List.length_map:= @List.length_map
theorem aU:type_of% @List.length_nil:= @List.length_nil
theorem fF:type_of% @List.length_replicate:= @List.length_replicate
theorem dJ:type_of% @List.length_set:= @List.length_set
theorem bS:type_of% @List.length_singleton:= @List.length_singleton
theorem dV:type_of% @List.length_take:= @List.length_take
theorem cO:type_of% @List.map_append:= @List.map_append
theorem cU:type_of% @List.map_cons:= @List.map_cons
theorem dI:type_of% @List.map_nil:= @List.map_nil
theorem eU:type_of% @List.mem_append:= @List.mem_append
theorem Ux:type_of% @List.mem_append_left:= @List.mem_append_left
theorem Lu:type_of% @List.mem_append_right:= @List.mem_append_right
theorem bL:type_of% @List.mem_cons:= @List.mem_cons
theorem fC:type_of% @List.mem_cons_of_mem:= @List.mem_cons_of_mem
theorem dU:type_of% @List.mem_cons_self:= @List.mem_cons_self
theorem lJ:type_of% @List.mem_map:= @List.mem_map
theorem aW:type_of% @List.mem_of_getElem?:= @List.mem_of_getElem?
theorem pI:type_of% @List.mem_or_eq_of_mem_set:= @List.mem_or_eq_of_mem_set
theorem Bf:type_of% @List.mem_replicate:= @List.mem_replicate
theorem bE:type_of% @List.mem_singleton:= @List.mem_singleton
theorem Ob:type_of% @List.mem_toArray:= @List.mem_toArray
theorem cC:type_of% @List.nil_append:= @List.nil_append
theorem bN:type_of% @List.not_mem_nil:= @List.not_mem_nil
theorem qY:type_of% @List.prefix_refl:= @List.prefix_refl
theorem BK:type_of% @List.set_cons_zero:= @List.set_cons_zero
theorem Gh:type_of% @List.size_toArray:= @List.size_toArray
theorem mJ:type_of% @List.take_append_drop:= @List.take_append_drop
theorem YN:type_of% @List.take_left:= @List.take_left
theorem dG:type_of% @List.take_length:= @List.take_length
theorem sH:type_of% @List.take_of_length_le:= @List.take_of_length_le
theorem gV:type_of% @List.take_succ_cons:= @List.take_succ_cons
theorem bW:type_of% @List.take_succ_eq_append_getElem:= @List.take_succ_eq_append_getElem
theorem gD:type_of% @List.take_zero:= @List.take_zero
theorem WL:type_of% @List.zipWith_cons_cons:= @List.zipWith_cons_cons
theorem gA:type_of% @Nat.add_assoc:= @Nat.add_assoc
theorem kT:type_of% @Nat.add_mul:= @Nat.add_mul
theorem gY:type_of% @Nat.add_sub_cancel_left:= @Nat.add_sub_cancel_left
theorem mV:type_of% @Nat.add_zero:= @Nat.add_zero
theorem WJ:type_of% @Nat.div_div_eq_div_mul:= @Nat.div_div_eq_div_mul
theorem WZ:type_of% @Nat.div_le_self:= @Nat.div_le_self
theorem pV:type_of% @Nat.le_of_eq:= @Nat.le_of_eq
theorem bH:type_of% @Nat.le_refl:= @Nat.le_refl
theorem oG:type_of% @Nat.le_trans:= @Nat.le_trans
theorem OM:type_of% @Nat.lt_irrefl:= @Nat.lt_irrefl
theorem sG:type_of% @Nat.lt_of_lt_of_le:= @Nat.lt_of_lt_of_le
theorem pU:type_of% @Nat.lt_or_ge:= @Nat.lt_or_ge
theorem sF:type_of% @Nat.mod_lt:= @Nat.mod_lt
theorem oZ:type_of% @Nat.mod_two_eq_zero_or_one:= @Nat.mod_two_eq_zero_or_one
theorem gN:type_of% @Nat.mul_le_mul_right:= @Nat.mul_le_mul_right
theorem nH:type_of% @Nat.mul_one:= @Nat.mul_one
theorem sC:type_of% @Nat.one_mul:= @Nat.one_mul
theorem oD:type_of% @Nat.pow_succ:= @Nat.pow_succ
theorem Gf:type_of% @Nat.sub_self:= @Nat.sub_self
theorem bV:type_of% @Nat.zero_add:= @Nat.zero_add
theorem cK:type_of% @Nat.zero_le:= @Nat.zero_le
theorem cV:type_of% @Option.bind_eq_some_iff:= @Option.bind_eq_some_iff
theorem cA:type_of% @Option.bind_some:= @Option.bind_some
theorem LA:type_of% @Option.eq_none_or_eq_some:= @Option.eq_none_or_eq_some
theorem jJ:type_of% @Option.getD_none:= @Option.getD_none
theorem jI:type_of% @Option.getD_some:= @Option.getD_some
theorem eO:type_of% @Option.isSome_none:= @Option.isSome_none
theorem gC:type_of% @Option.isSome_some:= @Option.isSome_some
theorem eM:type_of% @Option.ite_none_right_eq_some:= @Option.ite_none_right_eq_some
theorem bO:type_of% @Option.map_eq_some_iff:= @Option.map_eq_some_iff
theorem iI:type_of% @Option.map_none:= @Option.map_none
theorem eD:type_of% @Option.map_some:= @Option.map_some
theorem bZ:type_of% @Option.some_ne_none:= @Option.some_ne_none
theorem TN:type_of% @and_true:= @and_true
theorem Ao:type_of% @beq_iff_eq:= @beq_iff_eq
theorem bG:type_of% @decide_eq_false:= @decide_eq_false
theorem eX:type_of% @decide_eq_false_iff_not:= @decide_eq_false_iff_not
theorem cR:type_of% @decide_eq_true:= @decide_eq_true
theorem bP:type_of% @decide_eq_true_eq:= @decide_eq_true_eq
theorem I5:type_of% @decide_false:= @decide_false
theorem nG:type_of% @decide_true:= @decide_true
theorem SJ:type_of% @forall_eq:= @forall_eq
theorem dC:type_of% @if_false:= @if_false
theorem aJ:type_of% @if_neg:= @if_neg
theorem bD:type_of% @if_pos:= @if_pos
theorem cQ:type_of% @if_true:= @if_true
theorem Fq:type_of% @not_false_eq_true:= @not_false_eq_true
theorem aE:type_of% @of_decide_eq_false:= @of_decide_eq_false
theorem aD:type_of% @of_decide_eq_true:= @of_decide_eq_true
theorem dH:type_of% @or_false:= @or_false
inductive AV where
 |undef
 |bool (b:Bool)
 |int (k:IntKind) (n:Int)
 |str (s:List UInt8)
 |agg (cs:List AV)
 |isl (sz:Nat) (l:List (List AV))
 |nsl
 |osl (sz b len:Nat)
 |sub (sz b off len:Nat)
 |ptr (sz b i j:Nat)
 |ipt (row:List AV) (j:Nat)
 |npt
 |mp (b:Nat)
 |imp (ks vs:List AV)
 |nmp
 |fn (f:Fn) (first captured:List AV)
 |nfn
 |ifc (t:TypeId) (v:AV)
 |nif
 |tup (vs:List AV)
abbrev gH:=Nat→Prop
mutual
def cI (S:gH) (w:World):AV→Value→Prop
 | .undef,_=>True
 | .bool b,v=>v= .bool b
 | .int k n,v=>v= .int k n
 | .str s,v=>v= .string ⟨s.toArray⟩
 | .agg cs,v=> ∃vs:List Value,v= .agg vs.toArray∧dF S w cs vs
 | .isl sz l,v=> ∃oa cap,v= .slice oa l.length cap∧l.length≤cap∧cap≤maxLen∧
   (l=[]∨ ∃b off,oa=some ⟨b,off,none⟩∧S b∧dE S w b off sz l)
 | .nsl,v=>v= .slice none 0 0
 | .osl sz b len,v=> ∃cap e,v= .slice (some ⟨b,0,none⟩) len cap∧w.shape? b=some (e,cap *sz)∧len≤cap∧cap≤maxLen
 | .sub sz b off len,v=> ∃cap a,v= .slice a len cap∧(len=0∨a=some ⟨b,off *sz,none⟩)∧len≤cap∧cap≤maxLen
 | .ptr sz b i j,v=>v= .pointer (some ⟨b,i *sz+j,none⟩)
 | .ipt row j,v=> ∃b off,v= .pointer (some ⟨b,off+j,none⟩)∧S b∧eW S w b off row
 | .npt,v=>v= .pointer none
 | .mp b,v=>v= .map (some b)
 | .imp ks xs,v=> ∃b,v= .map (some b)∧S b∧ ∃mes clock,w.heap[b]?=some (.map mes clock)∧dF S w ks (mes.toList.map fun e=>e.key)∧dF S w xs (mes.toList.map fun e=>e.val)
 | .nmp,v=>v= .map none
 | .fn f first captured,v=> ∃vs us:List Value,v= .func f vs.toArray us.toArray∧dF S w first vs∧dF S w captured us
 | .nfn,v=>v= .nilFunc
 | .ifc t x,v=> ∃u,v= .iface t u∧cI S w x u
 | .nif,v=>v= .nilIface
 | .tup xs,v=> ∃vs:List Value,v= .tuple vs.toArray∧dF S w xs vs
def dF (S:gH) (w:World):List AV→List Value→Prop
 |[],vs=>vs=[]
 |x::xs,vs=> ∃u us,vs=u::us∧cI S w x u∧dF S w xs us
def eW (S:gH) (w:World) (b:Nat):Nat→List AV→Prop
 |_,[]=>True
 |off,x::xs=>(∃u,w.cell? ⟨b,off,none⟩=some u∧cI S w x u)∧eW S w b (off+1) xs
def dE (S:gH) (w:World) (b:Nat):Nat→Nat→List (List AV)→Prop
 |_,_,[]=>True
 |off,sz,r::rs=>r.length=sz∧eW S w b off r∧dE S w b (off+sz) sz rs
end
structure oH (M:Nat→Prop) (w w':World):Prop where
 os:w'.os=w.os
 tape:w'.tape=w.tape
 output:w'.output=w.output
 size:w.heap.size≤w'.heap.size
 keep: ∀k,k<w.heap.size→ ¬M k→w'.heap[k]?=w.heap[k]?
 shp: ∀k sh,w.shape? k=some sh→w'.shape? k=some sh
theorem oH.refl (M:Nat→Prop) (w:World):oH M w w:=⟨rfl,rfl,rfl,bH _,fun _ _ _=>rfl,fun _ _ h=>h⟩
theorem oH.mono {M b:Nat→Prop} {w e:World} (h:oH M w e) (f: ∀k,k<w.heap.size→M k→b k):oH b w e:=
 ⟨h.os,h.tape,h.output,h.size,fun k d g=>h.keep k d (fun c=>g (f k d c)),h.shp⟩
theorem oH.trans {M:Nat→Prop} {w w1 f:World} (h:oH M w w1) (b:oH M w1 f):oH M w f:=
 ⟨b.os.trans h.os,b.tape.trans h.tape,b.output.trans h.output,oG h.size b.size,
  fun k c d=>(b.keep k (sG c h.size) d).trans (h.keep k c d),fun k e g=>b.shp k e (h.shp k e g)⟩
theorem oH.drew (M:Nat→Prop) (w:World):oH M w {w with drawn:=w.drawn+1}:=
 ⟨rfl,rfl,rfl,bH _,fun _ _ _=>rfl,fun _ _ h=>h⟩
theorem heap_alloc (w:World) (o:Obj) (k:Nat) (h:k<w.heap.size):(w.alloc o).heap[k]?=w.heap[k]?:=RowKit.Below.heap_alloc w o k h
theorem heap_setCell (w:World) (a:Addr) (u:Value) (k:Nat) (h:k≠a.block):(w.setCell a u).heap[k]?=w.heap[k]?:=RowKit.Below.heap_setCell w a u k h
theorem Ho {w:World} {k:Nat} {c:TypeId×Nat} (b:w.shape? k=some c):k<w.heap.size:=by
 unfold World.shape? at b;split at b
 ·rename_i h;exact(fA.1 h).1
 cases b
theorem rF {w b:World} {k:Nat} (h:b.heap[k]?=w.heap[k]?):b.shape? k=w.shape? k:=by
 simp only[World.shape?,h]
theorem oH.alloc (M:Nat→Prop) (w:World) (o:Obj):oH M w (w.alloc o):=
 ⟨rfl,rfl,rfl,by simp,fun k c _=>heap_alloc _ _ _ c,fun k d b=>(rF (heap_alloc _ _ _ (Ho b))).trans b⟩
theorem oH.setCell {M:Nat→Prop} (w:World) (a:Addr) (v:Value) (h:M a.block):oH M w (w.setCell a v):=by
 refine⟨rfl,rfl,rfl,by simp,fun k g f=>heap_setCell _ _ _ _ (fun e=>f (e▸h)),fun k i b=>?_⟩;by_cases d:k=a.block
 ·subst d
  have e:(w.setCell a v).heap[a.block]?=(w.heap[a.block]?).map fun
    | .cells c elem frozen=> .cells (if a.spot.isSome then c else c.setIfInBounds a.off v) elem frozen
    |o=>o:=by
   simp only[World.setCell,uC,cQ];rfl
  unfold World.shape? at *;rw[e]
  cases hh:w.heap[a.block]? with
  |none=>rw[hh]at b;cases b
  |some x=>
   rw[hh]at b;cases x<;>simp only[eD]at * <;>cases b;split<;>simp_all
 exact(rF (heap_setCell _ _ _ _ d)).trans b
theorem I7 {w c:World} {b:Nat} (h:c.heap[b]?=w.heap[b]?) (o:Nat) (s:Option Nat):c.cell? ⟨b,o,s⟩=w.cell? ⟨b,o,s⟩:=by
 simp only[World.cell?,h]
structure iC (S S':gH) (w w':World):Prop where
 heap: ∀k,S k→w'.heap[k]?=w.heap[k]?
 shp: ∀k sh,w.shape? k=some sh→w'.shape? k=some sh
 sub: ∀k,S k→S' k
mutual
theorem cI.mono {S n:gH} {w p:World} (c:iC S n w p): ∀(x:AV) (v:Value),cI S w x v→cI n p x v
 | .undef,_,_=>by simp only[cI]
 | .bool _,_,h=>by simpa only[cI]using h
 | .int _ _,_,h=>by simpa only[cI]using h
 | .str _,_,h=>by simpa only[cI]using h
 | .agg cs,v,h=>by
   simp only[cI]at *;obtain⟨vs,e,h⟩:=h;exact⟨vs,e,dF.mono c cs vs h⟩
 | .isl sz l,v,h=>by
   simp only[cI]at *;obtain⟨B,j,e,d,g,i⟩:=h;refine⟨B,j,e,d,g, ?_⟩;rcases i with i|⟨b,off,z,f,k⟩
   ·exact .inl i
   exact .inr ⟨b,off,z,c.sub _ f,dE.mono c l b off sz (c.heap b f) k⟩
 | .nsl,_,h=>by simpa only[cI]using h
 | .osl _ _ _,_,h=>by
   simp only[cI]at *;obtain⟨j,e,d,g,i⟩:=h;exact⟨j,e,d,c.shp _ _ g,i⟩
 | .sub _ _ _ _,_,h=>by simpa only[cI]using h
 | .ptr _ _ _ _,_,h=>by simpa only[cI]using h
 | .ipt row _,_,h=>by
   simp only[cI]at *;obtain⟨b,off,e,f,k⟩:=h;exact⟨b,off,e,c.sub _ f,eW.mono c row b off (c.heap b f) k⟩
 | .npt,_,h=>by simpa only[cI]using h
 | .mp _,_,h=>by simpa only[cI]using h
 | .imp ks xs,_,h=>by
   simp only[cI]at *;obtain⟨b,e,f,A,y,d,g,i⟩:=h;exact⟨b,e,c.sub _ f,A,y,(c.heap b f).trans d,dF.mono c ks _ g,dF.mono c xs _ i⟩
 | .nmp,_,h=>by simpa only[cI]using h
 | .fn _ first captured,_,h=>by
   simp only[cI]at *;obtain⟨vs,o,e,d,g⟩:=h;exact⟨vs,o,e,dF.mono c first vs d,dF.mono c captured o g⟩
 | .nfn,_,h=>by simpa only[cI]using h
 | .ifc _ x,_,h=>by
   simp only[cI]at *;obtain⟨u,e,d⟩:=h;exact⟨u,e,cI.mono c x u d⟩
 | .nif,_,h=>by simpa only[cI]using h
 | .tup xs,_,h=>by
   simp only[cI]at *;obtain⟨vs,e,d⟩:=h;exact⟨vs,e,dF.mono c xs vs d⟩
theorem dF.mono {S c:gH} {w g:World} (d:iC S c w g): ∀(b:List AV) (vs:List Value),dF S w b vs→dF c g b vs
 |[],_,h=>by simpa only[dF]using h
 |x::b,vs,h=>by
  simp only[dF]at *;obtain⟨u,f,e,i,j⟩:=h;exact⟨u,f,e,cI.mono d x u i,dF.mono d b f j⟩
theorem eW.mono {S d:gH} {w c:World} (f:iC S d w c): ∀(row:List AV) (b off:Nat),c.heap[b]?=w.heap[b]?→eW S w b off row→eW d c b off row
 |[],_,_,_,_=>by simp only[eW]
 |x::xs,b,off,hb,h=>by
  simp only[eW]at *;obtain⟨⟨u,e,g⟩,i⟩:=h;exact⟨⟨u,(I7 hb off none).trans e,cI.mono f x u g⟩,eW.mono f xs b (off+1) hb i⟩
theorem dE.mono {S d:gH} {w c:World} (e:iC S d w c): ∀(l:List (List AV)) (b off sz:Nat),c.heap[b]?=w.heap[b]?→dE S w b off sz l→dE d c b off sz l
 |[],_,_,_,_,_=>by simp only[dE]
 |r::rs,b,off,sz,hb,h=>by
  simp only[dE]at *;exact⟨h.1,eW.mono e r b off hb h.2.1,dE.mono e rs b (off+sz) sz hb h.2.2⟩
end
section
variable {S : gH} {w : World}
theorem dF.length: ∀{b:List AV} {vs:List Value},dF S w b vs→vs.length=b.length
 |[],vs,h=>by simp only[dF]at h;subst h;rfl
 |x::b,vs,h=>by
  simp only[dF]at h;obtain⟨u,d,rfl,_,c⟩:=h;simp [dF.length c]
theorem dF.get: ∀{b:List AV} {vs:List Value} (i:Nat) {x:AV},dF S w b vs→b[i]?=some x→ ∃v,vs[i]?=some v∧cI S w x v
 |[],_,i,x,_,hx=>by simp at hx
 |y::b,vs,i,x,h,hx=>by
  simp only[dF]at h;obtain⟨u,g,rfl,c,d⟩:=h
  cases i with
  |zero=>simp at hx;subst hx;exact⟨u,rfl,c⟩
  |succ i=>simp at hx;obtain⟨v,e,f⟩:=dF.get i d hx;exact⟨v,by simpa using e,f⟩
theorem dF.drop: ∀{b:List AV} {vs:List Value} (n:Nat),dF S w b vs→dF S w (b.drop n) (vs.drop n)
 |_,_,0,h=>by simpa using h
 |[],vs,n+1,h=>by simp only[dF]at h;subst h;simp [dF]
 |y::b,vs,n+1,h=>by
  simp only[dF]at h;obtain⟨u,d,rfl,_,c⟩:=h;simpa using dF.drop n c
theorem dF.take: ∀{b:List AV} {vs:List Value} (n:Nat),dF S w b vs→dF S w (b.take n) (vs.take n)
 |_,_,0,_=>by simp [dF]
 |[],vs,n+1,h=>by simp only[dF]at h;subst h;simp [dF]
 |y::b,vs,n+1,h=>by
  simp only[dF]at h;obtain⟨u,e,rfl,c,d⟩:=h;simp only[gV,dF];exact⟨u,e.take n,rfl,c,dF.take n d⟩
theorem dF.append: ∀{c d:List AV} {vs b:List Value},dF S w c vs→dF S w d b→dF S w (c++d) (vs++b)
 |[],_,vs,_,h,h'=>by simp only[dF]at h;subst h;simpa using h'
 |x::c,_,vs,_,h,h'=>by
  simp only[dF]at h;obtain⟨u,b,rfl,e,f⟩:=h;simp only[cZ,dF];exact⟨u,_,rfl,e,dF.append f h'⟩
theorem dF.set: ∀{b:List AV} {vs:List Value} (n:Nat) {x:AV} {v:Value},dF S w b vs→cI S w x v→dF S w (b.set n x) (vs.set n v)
 |[],vs,n,_,_,h,_=>by simp only[dF]at h;subst h;simp [dF]
 |y::b,vs,0,x,v,h,hv=>by
  simp only[dF]at h;obtain⟨u,d,rfl,_,c⟩:=h;simp only[BK,dF];exact⟨v,d,rfl,hv,c⟩
 |y::b,vs,n+1,x,v,h,hv=>by
  simp only[dF]at h;obtain⟨u,d,rfl,e,c⟩:=h;simp only[List.set_cons_succ,dF];exact⟨u,_,rfl,e,dF.set n c hv⟩
theorem dF.of_get: ∀{b:List AV} {vs:List Value},vs.length=b.length→(∀(i:Nat) (x:AV) (v:Value),b[i]?=some x→vs[i]?=some v→cI S w x v)→dF S w b vs
 |[],vs,hl,_=>by cases vs with |nil=>simp [dF]|cons=>simp at hl
 |x::b,vs,hl,h=>by
  cases vs with
  |nil=>simp at hl
  |cons v vs=>
   simp only[dF];exact⟨v,vs,rfl,h 0 x v rfl rfl,dF.of_get (by simpa using hl) fun i x v d c=>h (i+1) x v (by simpa using d) (by simpa using c)⟩
theorem eW.vals: ∀{row:List AV} {b off:Nat},eW S w b off row→ ∃vs,dF S w row vs∧ ∀j v,vs[j]?=some v→w.cell? ⟨b,off+j,none⟩=some v
 |[],b,off,_=>⟨[],by simp [dF],by simp⟩
 |x::xs,b,off,h=>by
  simp only[eW]at h;obtain⟨⟨u,e,d⟩,f⟩:=h;obtain⟨vs,i,g⟩:=eW.vals f;refine⟨u::vs,by simp only[dF];exact⟨u,vs,rfl,d,i⟩,fun j v c=>?_⟩
  cases j with
  |zero=>simp at c;subst c;simpa using e
  |succ j=>simp at c;have:=g j v c;rwa [show off+1+j=off+(j+1)by omega]at this
theorem eW.of_vals: ∀{row:List AV} {vs:List Value} {b off:Nat},dF S w row vs→(∀j v,vs[j]?=some v→w.cell? ⟨b,off+j,none⟩=some v)→eW S w b off row
 |[],_,b,off,_,_=>by simp only[eW]
 |x::xs,vs,b,off,h,hc=>by
  simp only[dF]at h;obtain⟨u,f,rfl,c,d⟩:=h;simp only[eW]
  exact⟨⟨u,by simpa using hc 0 u rfl,c⟩,eW.of_vals d fun j v e=>by
   have:=hc (j+1) v (by simpa using e);rwa [show off+(j+1)=off+1+j by omega]at this⟩
theorem eW.get {row:List AV} {b off:Nat} (h:eW S w b off row) (j:Nat) {x:AV} (g:row[j]?=some x):
  ∃v,w.cell? ⟨b,off+j,none⟩=some v∧cI S w x v:=by
 obtain⟨vs,d,c⟩:=h.vals;obtain⟨v,f,e⟩:=d.get j g;exact⟨v,c j v f,e⟩
theorem dE.get: ∀{l:List (List AV)} {b off sz:Nat} (i:Nat) {row:List AV},dE S w b off sz l→l[i]?=some row→row.length=sz∧eW S w b (off+i *sz) row
 |[],_,_,_,i,_,_,hr=>by simp at hr
 |r::rs,b,off,sz,i,row,h,hr=>by
  simp only[dE]at h
  cases i with
  |zero=>simp at hr;subst hr;exact⟨h.1,by simpa using h.2.1⟩
  |succ i=>
   simp at hr;obtain⟨c,d⟩:=dE.get i h.2.2 hr;exact⟨c,by rwa [show off+sz+i *sz=off+(i+1) *sz by rw[kT];omega]at d⟩
theorem dE.of_get: ∀{l:List (List AV)} {b off sz:Nat},(∀i row,l[i]?=some row→row.length=sz∧eW S w b (off+i *sz) row)→dE S w b off sz l
 |[],_,_,_,_=>by simp only[dE]
 |r::rs,b,off,sz,h=>by
  simp only[dE];refine⟨(h 0 r rfl).1,by simpa using(h 0 r rfl).2,dE.of_get fun i row c=>?_⟩;have:=h (i+1) row (by simpa using c);rwa [show off+(i+1) *sz=off+sz+i *sz by rw[kT];omega]at this
theorem dE.drop {l:List (List AV)} {b off sz:Nat} (h:dE S w b off sz l) (n:Nat):dE S w b (off+n *sz) sz (l.drop n):=
 dE.of_get fun i row c=>by
  have:=dE.get (n+i) h (by simpa [dW]using c);rwa [show off+(n+i) *sz=off+n *sz+i *sz by rw[kT];omega]at this
theorem dE.take {l:List (List AV)} {b off sz:Nat} (h:dE S w b off sz l) (n:Nat):dE S w b off sz (l.take n):=
 dE.of_get fun i row c=>dE.get i h (by rw[eI]at c;split at c<;>simp_all)
end
def Ku:Value→AV
 | .bool b=> .bool b
 | .int k n=> .int k n
 | .string s=> .str s.data.toList
 | .slice none 0 0=> .nsl
 | .pointer none=> .npt
 | .map none=> .nmp
 | .nilFunc=> .nfn
 | .nilIface=> .nif
 |_=> .undef
def Fz:Value→AV
 | .agg cs=> .agg (cs.toList.map Ku)
 |v=>Ku v
theorem Zq (S:gH) (w:World) (v:Value):cI S w (Ku v) v:=by
 unfold Ku;split<;>simp only[cI]
theorem Zw (S:gH) (w:World): ∀vs:List Value,dF S w (vs.map Ku) vs
 |[]=>by simp only[dI,dF]
 |v::vs=>by
  simp only[cU,dF];exact⟨v,vs,rfl,Zq S w v,Zw S w vs⟩
theorem nQ (S:gH) (w:World) (v:Value):cI S w (Fz v) v:=by
 unfold Fz;split
 ·simp only[cI]
  exact⟨_,rfl,Zw S w _⟩
 exact Zq S w _
inductive TK where
 |int (k:IntKind)
 |bool
 |str
 |slice (e:TypeId)
 |ptr (e:TypeId)
 |array (n:Nat) (e:TypeId)
 |map (k e:TypeId)
 |strct (fs:List (TypeId×Nat))
 |iface
 |func
 |other
def TK.agg:TK→Bool
 | .array _ _| .strct _=>true
 |_=>false
def yV:TypeDesc→TK
 | .int k=> .int k
 | .bool=> .bool
 | .string=> .str
 | .slice e=> .slice e
 | .pointer e=> .ptr e
 | .array n e=> .array n e
 | .map k e=> .map k e
 | .struct fs=> .strct (fs.toList.map fun f=>(f.type,f.offset))
 | .interface _=> .iface
 | .func _ _ _=> .func
 |_=> .other
structure TI where
 k:TK
 size:Nat
 bytes:Nat
 zero:AV
def cD (P:Program) (t:TypeId):Option TI:=
 match P.underlying t,P.info? t with
 |some d,some i=>i.zero.map fun z=>⟨yV d,i.size,i.bytes,Fz z⟩
 |_,_=>none
theorem kG {P:Program} {t:TypeId} {ti:TI} (h:cD P t=some ti):
  ∃d i z,P.underlying t=some d∧P.info? t=some i∧i.zero=some z∧ti=⟨yV d,i.size,i.bytes,Fz z⟩:=by
 unfold cD at h;split at h
 ·rename_i d i b c
  rw[bO]at h;obtain⟨z,e,rfl⟩:=h;exact⟨d,i,z,b,c,e,rfl⟩
 cases h
section
variable {P : Program} {t : TypeId} {ti : TI}
theorem Ox (h:cD P t=some ti) (w:World):(isAgg t).run P w= .ok ti.k.agg w:=by
 obtain⟨d,i,z,b,c,e,rfl⟩:=kG h;simp only[isAgg,Sem.run_bind,run_underlying b,Result.andThen_ok];cases d<;>simp [yV,TK.agg]
theorem gU (h:cD P t=some ti) (w:World):(sizeOf t).run P w= .ok ti.size w:=by
 obtain⟨d,i,z,c,b,e,rfl⟩:=kG h;simp [sizeOf,typeInfo,b]
theorem mN (h:cD P t=some ti) (w:World): ∃z,(zeroValue t).run P w= .ok z w∧ti.zero=Fz z:=by
 obtain⟨d,i,z,e,b,c,rfl⟩:=kG h;exact⟨z,by simp [zeroValue,typeInfo,b,c],rfl⟩
end
abbrev Fr:=Nat→AV
def upd {α:Type} (f:Nat→α) (i:Nat) (v:α):Nat→α:=fun j=>if j=i then v else f j
theorem bC {b:Type} (f:Nat→b) (i:Nat) (v:b):upd f i v i=v:=by simp [upd]
theorem cH {b:Type} (f:Nat→b) {i j:Nat} (v:b) (h:j≠i):upd f i v j=f j:=by simp [upd,h]
theorem CC {b:Type} (f:Nat→b) {i j:Nat} (v u:b) (h:i≠j):upd (upd f i v) j u=upd (upd f j u) i v:=by
 funext k;unfold upd;by_cases c:k=j<;>by_cases d:k=i<;>simp_all
def fP (fr:Fr) (d:Option Nat) (v:AV):Fr:=match d with |some i=>upd fr i v|none=>fr
inductive iF where
 |rows (sz:Nat) (l:List (List AV))
 |amap (es:List (AV×AV))
 |bld (ty:TypeId) (g:Option (Nat×Nat)) (n:Nat)
 |buf (ty:TypeId) (bs:List UInt8) (cap:Nat)
abbrev Hp:=Nat→Option iF
def pZ:Hp:=fun _=>none
def fS (S:gH) (w:World):List (AV×AV)→List MapEntry→Prop
 |[],es=>es=[]
 |(k,v)::r,es=> ∃e es',es=e::es'∧cI S w k e.key∧cI S w v e.val∧fS S w r es'
def J9 (fz:Nat×Nat) (n:Nat):Prop:=fz.2≤fz.1∨n≤fz.1
def jQ (S:gH) (w:World) (b:Nat):iF→Prop
 | .rows sz l=> ∃cs e,(∃fz,w.heap[b]?=some (.cells cs e fz)∧J9 fz cs.size)∧l.length *sz≤cs.size∧dE S w b 0 sz l
 | .amap es=> ∃mes clock,w.heap[b]?=some (.map mes clock)∧fS S w es mes.toList
 | .bld ty g n=> ∃p,w.heap[b]?=some (.cells #[p,(match g with |none=> .slice none 0 0|some (g,cap)=> .slice (some ⟨g,0,none⟩) n cap)] ty (0,0))∧(p= .pointer none∨p= .pointer (some ⟨b,0,none⟩))
 | .buf ty bs cap=> ∃cur,w.heap[b]?=some (.cells cur ty (0,0))∧cur.size=cap∧bs.length≤cap∧cap≤maxLen∧ ∀(i:Nat) c,bs[i]?=some c→cur[i]?=some (.int .u8 c.toNat)
theorem fS.mono {S d:gH} {w g:World} (b:iC S d w g): ∀(es:List (AV×AV)) (c:List MapEntry),fS S w es c→fS d g es c
 |[],_,h=>by simpa only[fS]using h
 |(k,v)::r,c,h=>by
  simp only[fS]at *;obtain⟨e,f,i,j,l,n⟩:=h;exact⟨e,f,i,cI.mono b k _ j,cI.mono b v _ l,fS.mono b r f n⟩
theorem jQ.mono {S j:gH} {w i:World} (k:iC S j w i) {b:Nat} (f:i.heap[b]?=w.heap[b]?): ∀(o:iF),jQ S w b o→jQ j i b o
 | .rows sz l,h=>by
   simp only[jQ]at *;obtain⟨v,e,⟨y,c,A⟩,d,z⟩:=h;exact⟨v,e,⟨y,f.trans c,A⟩,d,dE.mono k l b 0 sz f z⟩
 | .amap es,h=>by
   simp only[jQ]at *;obtain⟨B,u,c,d⟩:=h;exact⟨B,u,f.trans c,fS.mono k es _ d⟩
 | .bld ty g n,h=>by
   simp only[jQ]at *;obtain⟨p,c,d⟩:=h;exact⟨p,f.trans c,d⟩
 | .buf ty bs cap,h=>by
   simp only[jQ]at *;obtain⟨x,c,d⟩:=h;exact⟨x,f.trans c,d⟩
theorem jQ.lt {S:gH} {w:World} {b:Nat} {o:iF} (h:jQ S w b o):b<w.heap.size:=by
 cases o<;>simp only[jQ]at h
 ·obtain⟨_,_,⟨_,h,_⟩,_⟩:=h;exact(fA.1 h).1
 ·obtain⟨_,_,h,_⟩:=h;exact(fA.1 h).1
 ·obtain⟨_,h,_⟩:=h;exact(fA.1 h).1
 obtain⟨_,h,_⟩:=h;exact(fA.1 h).1
structure kB where
 P:Program
 G:Nat→Option (List AV)
structure lY where
 w0:World
 O:Nat→Prop
 S0:gH
 D:List Deferred
 pin:Nat→Value
structure St (E:kB) (γ:lY) (S:gH) (H:Hp) (w:World):Prop where
 lt: ∀k,S k→k<w.heap.size
 base: ∀k,γ.S0 k→S k
 src: ∀k,S k→γ.S0 k∨γ.O k∨γ.w0.heap.size≤k
 obj: ∀b o,H b=some o→jQ S w b o∧ ¬S b∧(γ.O b∨γ.w0.heap.size≤b)
 ext:oH γ.O γ.w0 w
 glb: ∀g row,E.G g=some row→S g∧eW S w g 0 row
def mY (S:gH) (w:World) (fr:Fr) (a:Act):Prop:= ∀t,cI S w (fr t) (a.tmps.getD t Go.undef)
def ev (G:Nat→Option (List AV)) (fr:Fr):Operand→AV
 | .tmp t=>fr t
 | .const v=>Fz v
 | .global g=>match G g with |some row=> .ipt row 0|none=> .undef
 | .func f=> .fn (.func f) [] []
theorem eV {E:kB} {γ:lY} {S:gH} {H:Hp} {w:World} (hst:St E γ S H w) {fr:Fr} {a:Act} (d:mY S w fr a) (x:Operand):
  cI S w (ev E.G fr x) (a.eval x):=by
 cases x with
 |tmp t=>exact d t
 |const v=>exact nQ S w v
 |global g=>
  simp only[ev,Act.eval];split
  ·rename_i row h
   obtain⟨b,c⟩:=hst.glb g row h;simp only[cI];exact⟨g,0,rfl,b,c⟩
  simp only[cI]
 |func f=>simp only[ev,Act.eval,cI,dF];exact⟨[],[],rfl,rfl,rfl⟩
def rd (ti:TI) (row:List AV) (j:Nat):Option AV:=
 if ti.k.agg then(if j+ti.size≤row.length then some (.agg ((row.drop j).take ti.size))else none)else row[j]?
theorem Xb {P:Program} {t:TypeId} {ti:TI} (k:cD P t=some ti) {S:gH} {w:World} {b off:Nat} {row:List AV} (f:eW S w b off row) {j:Nat} {v:AV} (h:rd ti row j=some v):
  ∃l,(loadVar t ⟨b,off+j,none⟩).run P w= .ok l w∧cI S w v l:=by
 unfold rd at h;simp only[loadVar,Sem.run_bind,Ox k,Result.andThen_ok];split at h
 ·rename_i d
  split at h
  ·rename_i A
   obtain rfl:=(Option.some.inj h).symm;obtain⟨vs,e,n⟩:=f.vals;have o:=(e.drop j).take ti.size
   have p:((vs.drop j).take ti.size).length=ti.size:=by
    rw[dV,fL,e.length];omega
   have g:=run_loadCells_list (P:=P) w ⟨b,off+j,none⟩ ((vs.drop j).take ti.size) (fun i x c=>by
    rw[eI]at c;split at c
    ·rw[dW]at c
     have:=n _ _ c;rw[Addr.add_lit,show off+j+i=off+(j+i)by omega];exact this
    cases c)
   rw[p]at g;simp only[d,cQ,Sem.run_bind,gU k,Result.andThen_ok,g,Sem.run_pure];exact⟨_,rfl,by simp only[cI];exact⟨_,rfl,o⟩⟩
  cases h
 rename_i d;obtain⟨u,y,z⟩:=f.get j h;simp only[d,cF,dC,run_load,y];exact⟨u,rfl,z⟩
def vQ (H:Hp) (ti:TI):AV→Option AV
 | .ptr sz b i j=>match H b with
   |some (.rows sz' l)=>if sz=sz' then(l[i]?).bind fun row=>rd ti row j else none
   |_=>none
 | .ipt row j=>rd ti row j
 |_=>none
theorem Fe {E:kB} {γ:lY} {S:gH} {H:Hp} {w:World} (hst:St E γ S H w) {t:TypeId} {ti:TI} (o:cD E.P t=some ti) {x v:AV} {p:Value}
  (f:cI S w x p) (h:vQ H ti x=some v): ∃c,(Instr.loadAt t p).run E.P w= .ok c w∧cI S w v c:=by
 cases x<;>simp only[vQ]at h<;>try (cases h;done)
 case ptr sz b i j=>
  split at h
  ·rename_i A l u
   split at h
   ·rename_i e
    subst e;rw[cV]at h;obtain⟨row,y,h⟩:=h;have n:=(hst.obj b _ u).1;simp only[jQ]at n;obtain⟨z,e,_,_,d⟩:=n;obtain⟨_,d⟩:=dE.get i d y;simp only[cI]at f;subst f;obtain⟨c,g,k⟩:=Xb o d h;refine⟨c, ?_,k⟩;simp only[Instr.loadAt,Instr.sureAddr,pure_bind];rw[show i *sz+j=0+i *sz+j by omega];exact g
   cases h
  cases h
 case ipt row j=>
  simp only[cI]at f;obtain⟨b,off,rfl,_,d⟩:=f;obtain⟨c,g,k⟩:=Xb o d h;exact⟨c,by simpa only[Instr.loadAt,Instr.sureAddr,pure_bind]using g,k⟩
def mU (op:BinOp) (k:IntKind) (a:Int) (k':IntKind) (b:Int):Option AV:=
 match op with
 | .shl=>if 0≤b then some (.int k (k.wrap (a *2^(min b.toNat k.bits))))else none
 | .shr=>if 0≤b then some (.int k (a.fdiv (2^(min b.toNat k.bits))))else none
 | .add=>if k=k' then some (.int k (k.wrap (a+b)))else none
 | .sub=>if k=k' then some (.int k (k.wrap (a-b)))else none
 | .mul=>if k=k' then some (.int k (k.wrap (a *b)))else none
 | .quo=>if k=k'∧b≠0 then some (.int k (k.wrap (a.tdiv b)))else none
 | .rem=>if k=k'∧b≠0 then some (.int k (a.tmod b))else none
 | .and=>if k=k' then some (.int k (k.wrap (BitVec.ofInt k.bits a&&&BitVec.ofInt k.bits b).toNat))else none
 | .or=>if k=k' then some (.int k (k.wrap (BitVec.ofInt k.bits a|||BitVec.ofInt k.bits b).toNat))else none
 | .xor=>if k=k' then some (.int k (k.wrap (BitVec.ofInt k.bits a^^^BitVec.ofInt k.bits b).toNat))else none
 | .andNot=>if k=k' then some (.int k (k.wrap (BitVec.ofInt k.bits a&&& ~~~BitVec.ofInt k.bits b).toNat))else none
 | .eql=>if k=k' then some (.bool (decide (a=b)))else none
 | .neq=>if k=k' then some (.bool (!decide (a=b)))else none
 | .lss=>if k=k' then some (.bool (decide (a<b)))else none
 | .leq=>if k=k' then some (.bool (decide (a≤b)))else none
 | .gtr=>if k=k' then some (.bool (decide (b<a)))else none
 | .geq=>if k=k' then some (.bool (decide (b≤a)))else none
theorem Yv (a b:Bool):(a==b)=decide (a=b):=by cases a<;>cases b<;>rfl
theorem Q4 (a b:Int):(a==b)=decide (a=b):=by rw[eK];simp
theorem MZ (a b:Int):(a !=b)= !decide (a=b):=by rw[eK];simp
theorem J4 {op:BinOp} {k k':IntKind} {a b:Int} {v:AV} (h:mU op k a k' b=some v) (P:Program) (S:gH) (w:World) (t:TypeId):
  ∃e,(binOp op t (.int k a) (.int k' b)).run P w= .ok e w∧cI S w v e:=by
 unfold mU at h
 cases op<;>simp only[eM]at h<;>obtain⟨d,f⟩:=h<;>cases f<;>first
  |(obtain⟨rfl,c⟩:=d
    simp [binOp,Op.intDiv,c,cI])
  |(subst d
    simp [binOp,Op.intArith,Op.intBits,Op.intCmp,Q4,MZ,cI])
  |(have c: ¬b<0:=by omega
    simp [binOp,Op.shift,c,cI])
def vA (op:BinOp) (a b:List UInt8):Option AV:=
 match op with
 | .add=>if a.length+b.length≤maxLen then some (.str (a++b))else none
 | .eql=>some (.bool (decide (a=b)))
 | .neq=>some (.bool (!decide (a=b)))
 | .lss=>some (.bool (Op.bytesLess a b))
 | .leq=>some (.bool (Op.bytesLess a b||decide (a=b)))
 | .gtr=>some (.bool (!(Op.bytesLess a b||decide (a=b))))
 | .geq=>some (.bool (!Op.bytesLess a b))
 |_=>none
theorem xT (a b:List UInt8):(a==b)=decide (a=b):=by rw[eK];simp
theorem xI (a:List UInt8):ByteArray.toList ⟨a.toArray⟩=a:=by rw[ByteArray.toList_eq]
theorem J0 {op:BinOp} {a b:List UInt8} {v:AV} (h:vA op a b=some v) (P:Program) (S:gH) (w:World) (t:TypeId):
  ∃c,(binOp op t (.string ⟨a.toArray⟩) (.string ⟨b.toArray⟩)).run P w= .ok c w∧cI S w v c:=by
 unfold vA at h;cases op<;>first|(cases h;done)|skip
 case add=>
  simp only[eM]at h;obtain⟨d,e⟩:=h;cases e
  have f: ¬((a.length:Int)+(b.length:Int)>IntKind.i64.max):=by
   simp only[maxLen]at d;simp [IntKind.max,IntKind.signed,IntKind.bits]at *;omega
  refine⟨.string ⟨(a++b).toArray⟩, ?_,by simp only[cI]⟩;simp only[binOp,Op.stringOp]
  have g:((ByteArray.size ⟨a.toArray⟩+ByteArray.size ⟨b.toArray⟩:Nat):Int)=(a.length:Int)+(b.length:Int):=by
   simp [ByteArray.size]
  rw[g,aJ f];simp only[Sem.run_pure];congr 2
 all_goals
  cases h;simp [binOp,Op.stringOp,xT,cI]
def nU:List TK→List AV→List AV→Option Bool
 |[],[],[]=>some true
 | .int _::ks, .int k a::xs, .int k' b::ys=>if k=k' then(nU ks xs ys).map (decide (a=b)&& ·)else none
 | .bool::ks, .bool a::xs, .bool b::ys=>(nU ks xs ys).map (decide (a=b)&& ·)
 | .str::ks, .str a::xs, .str b::ys=>(nU ks xs ys).map (decide (a=b)&& ·)
 |_,_,_=>none
def xR (P:Program) (t:TypeId):Option TK:=
 match P.underlying t with
 |some (.int k)=>some (.int k)
 |some .bool=>some .bool
 |some .string=>some .str
 |_=>none
def Ac (P:Program):Nat→List Field→Option (List TK)
 |_,[]=>some []
 |i,f::fs=>if f.name≠ "_" ∧f.offset=i then(xR P f.type).bind fun k=>(Ac P (i+1) fs).map (k:: ·)else none
def Gq (P:Program) (t:TypeId):Option (List TK):=
 match P.underlying t with
 |some (.struct fs)=>if P.stoodInHeld t=false∧P.eqGuardType P.depth t=false then Ac P 0 fs.toList else none
 |_=>none
theorem wP {P:Program} {t:TypeId} {k:TK} (h:xR P t=some k) (w:World) (cs:Array Value) (i:Nat) (v:Value) (c:cs[i]?=some v):
  (part t cs i).run P w= .ok v w:=by
 unfold xR at h;split at h<;>first|(cases h;done)|(rename_i b;simp [part,isAgg,run_underlying b,c])
theorem Bc {P:Program} {S:gH} {w w1:World} (d:Nat) (xs p:Array Value): ∀(A:List Field) (i:Nat) (F:List TK) (n o:List AV) (r:Bool),
  Ac P i A=some F→dF S w n (xs.toList.drop i)→dF S w o (p.toList.drop i)→nU F n o=some r→
  (Op.eqFields (d+1) xs p A).run P w1= .ok r w1
 |[],i,F,n,o,r,g,B,C,hr=>by
  simp only[Ac,Option.some.injEq]at g;subst g;cases n<;>cases o<;>simp [nU]at hr;subst hr;simp [Op.eqFields]
 |f::A,i,F,n,o,r,g,B,C,hr=>by
  simp only[Ac,eM,cV,bO]at g;obtain⟨⟨U,V⟩,k,g,K,T,rfl⟩:=g
  cases n with
  |nil=>cases k<;>simp [nU]at hr
  |cons c n=>
   cases o with
   |nil=>cases k<;>cases c<;>simp [nU]at hr
   |cons e o=>
    simp only[dF]at B C;obtain⟨u,Y,I,y,B⟩:=B;obtain⟨x,X,J,z,C⟩:=C
    have N:xs[i]?=some u:=by
     have :(xs.toList.drop i)[0]?=some u:=by rw[I];rfl
     simpa [dW]using this
    have O:p[i]?=some x:=by
     have :(p.toList.drop i)[0]?=some x:=by rw[J];rfl
     simpa [dW]using this
    have L:Y=xs.toList.drop (i+1):=by
     have:=congrArg List.tail I;simpa [List.tail_drop]using this.symm
    have M:X=p.toList.drop (i+1):=by
     have:=congrArg List.tail J;simpa [List.tail_drop]using this.symm
    subst L;subst M
    have step: ∀(b:Bool) (l:Bool),nU K n o=some l→r=(b&&l)→(Op.equalIn (d+1) f.type u x).run P w1= .ok b w1→
      (Op.eqFields (d+1) xs p (f::A)).run P w1= .ok r w1:=by
     intro b l v G Q;have W:=Bc (w1:=w1) d xs p A (i+1) K n o l T B C v;simp only[Op.eqFields,ne_eq,U,Fq,cQ,Sem.run_bind,V,wP g w1 xs i u N,wP g w1 p i x O,Result.andThen_ok,Q];cases b
     ·simp [G]
     simp [G,W]
    unfold xR at g;split at g<;>first|(cases g;done)|skip
    ·rename_i j D
     cases g;cases c<;>cases e<;>first|(simp [nU]at hr;done)|skip
     simp only[nU]at hr;split at hr<;>try (cases hr;done)
     rename_i R;subst R;rw[bO]at hr;obtain⟨l,v,rfl⟩:=hr;simp only[cI]at y z;subst y;subst z;exact step _ l v rfl (by simp [Op.equalIn,run_underlying D,Q4])
    ·rename_i D
     cases g;cases c<;>cases e<;>first|(simp [nU]at hr;done)|skip
     simp only[nU]at hr;rw[bO]at hr;obtain⟨l,v,rfl⟩:=hr;simp only[cI]at y z;subst y;subst z;exact step _ l v rfl (by simp only[Op.equalIn,Sem.run_bind,run_underlying D,Result.andThen_ok,Sem.run_pure,Yv])
    rename_i D;cases g;cases c<;>cases e<;>first|(simp [nU]at hr;done)|skip
    simp only[nU]at hr;rw[bO]at hr;obtain⟨l,v,rfl⟩:=hr;simp only[cI]at y z;subst y;subst z;exact step _ l v rfl (by rw[run_equalIn_string _ _ _ _ _ D,xI,xI,xT])
theorem J5 {P:Program} {t:TypeId} {e:List TK} (b:Gq P t=some e) {S:gH} {w:World} {cs d:List AV} {xs c:List Value} {r:Bool}
  (l:dF S w cs xs) (n:dF S w d c) (o:nU e cs d=some r) (x y:Operand):
  (eqGuard .eql t x y (.agg xs.toArray) (.agg c.toArray)).run P w= .ok () w∧(eqGuard .neq t x y (.agg xs.toArray) (.agg c.toArray)).run P w= .ok () w∧
  (binOp .eql t (.agg xs.toArray) (.agg c.toArray)).run P w= .ok (.bool r) w∧(binOp .neq t (.agg xs.toArray) (.agg c.toArray)).run P w= .ok (.bool (!r)) w:=by
 unfold Gq at b;split at b
 ·rename_i f k
  simp only[eM]at b;obtain⟨⟨p,j⟩,b⟩:=b;have i:P.fieldsOf t=f:=by simp [Program.fieldsOf,k]
  have g:(Op.equal t (.agg xs.toArray) (.agg c.toArray)).run P w= .ok r w:=by
   unfold Op.equal Op.maxDepth;rw[run_equalIn_struct w 9999 t xs.toArray c.toArray (by rw[i];exact k) p,i];exact Bc 9998 _ _ f.toList 0 e cs d r b (by simpa using l) (by simpa using n) o
  refine⟨?_, ?_, ?_, ?_⟩
  ·simp [eqGuard,j]
  ·simp [eqGuard,j]
  ·simp [binOp,g]
  simp [binOp,g]
 cases b
def OL (n:Nat):Option AV→Option Nat
 |none=>some n
 |some (.int _ h)=>if 0≤h∧h≤n then some h.toNat else none
 |some _=>none
def OK (h:Nat):Option AV→Option Nat
 |none=>some 0
 |some (.int _ l)=>if 0≤l∧l≤h then some l.toNat else none
 |some _=>none
def Zp (n:Nat) (lo hi:Option AV):Option (Nat×Nat):=(OL n hi).bind fun h=>(OK h lo).map fun l=>(l,h)
def Ef:AV→Bool
 | .ptr _ _ _ _| .ipt _ _=>true
 |_=>false
def KR:AV→AV→Option Bool
 | .str a, .str b=>some (decide (a=b))
 | .int k a, .int k' b=>if k=k' then some (decide (a=b))else none
 |_,_=>none
def xB (k:AV):List (AV×AV)→Nat→Option (Option (Nat×AV))
 |[],_=>some none
 |(k',v)::es,i=>match KR k k' with
  |some true=>some (some (i,v))
  |some false=>xB k es (i+1)
  |none=>none
def Jm:List AV→Option UInt8
 |[.int .u8 n]=>some (UInt8.ofNat n.toNat)
 |_=>none
def pR:List (List AV)→Option (List UInt8)
 |[]=>some []
 |r::rs=>(Jm r).bind fun c=>(pR rs).map (c:: ·)
def Dq:AV→Option (List UInt8)
 | .nsl=>some []
 | .isl sz l=>if sz=1 then pR l else none
 |_=>none
def cellsOf:AV→Option (List AV)
 | .agg cs=>some cs
 | .undef=>none
 |v=>some [v]
def aq.abuild (E:kB) (fs:List (TypeId×Nat)):List AV→List (Nat×AV)→Option (List AV)
 |z,[]=>some z
 |z,(i,v)::r=>match fs[i]? with
  |some (t,off)=>match cD E.P t with
   |some ti=>match cellsOf v with
    |some cs=>if cs.length=ti.size∧off+cs.length≤z.length then aq.abuild E fs (z.take off++cs++z.drop (off+cs.length)) r else none
    |none=>none
   |none=>none
  |none=>none
def OJ (op:BinOp) (ti:Option TI) (b:Bool):Option AV:=match op,ti with
 | .eql,some ⟨.iface,_,_,_⟩=>some (.bool b)
 | .neq,some ⟨.iface,_,_,_⟩=>some (.bool (!b))
 |_,_=>none
def A9:Operand→Bool| .const _=>true|_=>false
def aq (E:kB) (H:Hp) (fr:Fr):Op→Option AV
 | .move x| .assign x=>some (ev E.G fr x)
 | .pick c x y=>match ev E.G fr c with | .bool b=>some (if b then ev E.G fr x else ev E.G fr y)|_=>none
 | .load t x=>(cD E.P t).bind fun ti=>vQ H ti (ev E.G fr x)
 | .nilCheck x=>if Ef (ev E.G fr x)then some (ev E.G fr x)else none
 | .binOp op t x y _=>match ev E.G fr x,ev E.G fr y with
   | .int k a, .int k' b=>mU op k a k' b
   | .str a, .str b=>vA op a b
   | .agg cs, .agg ds=>match op,(Gq E.P t).bind fun ks=>nU ks cs ds with
     | .eql,some r=>some (.bool r)
     | .neq,some r=>some (.bool (!r))
     |_,_=>none
   | .bool a, .bool b=>match op,cD E.P t with
     | .eql,some ⟨.bool,_,_,_⟩=>some (.bool (decide (a=b)))
     | .neq,some ⟨.bool,_,_,_⟩=>some (.bool (!decide (a=b)))
     |_,_=>none
   | .ifc _ _, .nif=>OJ op (cD E.P t) false
   | .nif, .nif=>if A9 y then OJ op (cD E.P t) true else none
   |_,_=>none
 | .unOp op _ x=>match op,ev E.G fr x with
   | .not, .bool b=>some (.bool (!b))
   | .neg, .int k n=>some (.int k (k.wrap (0 -n)))
   |_,_=>none
 | .convert s d x=>match cD E.P s,cD E.P d,ev E.G fr x with
   |some _,some ⟨.int k,_,_,_⟩, .int _ n=>some (.int k (k.wrap n))
   |some _,some ⟨.str,_,_,_⟩, .str a=>some (.str a)
   |some ⟨.slice e,_,_,_⟩,some ⟨.str,_,_,_⟩,v=>match cD E.P e with
    |some ⟨.int .u8,_,_,_⟩=>(Dq v).map .str
    |_=>none
   |_,_,_=>none
 | .slice t x lo hi none=>match cD E.P t,ev E.G fr x with
   |some ⟨.str,_,_,_⟩, .str s=>(Zp s.length (lo.map (ev E.G fr)) (hi.map (ev E.G fr))).map fun p=> .str ((s.drop p.1).take (p.2-p.1))
   |some ⟨.slice e,_,_,_⟩, .isl sz l=>match cD E.P e with
    |some te=>if te.size=sz then(Zp l.length (lo.map (ev E.G fr)) (hi.map (ev E.G fr))).map fun p=> .isl sz ((l.drop p.1).take (p.2-p.1))else none
    |none=>none
   |some ⟨.slice e,_,_,_⟩, .osl sz b len=>match cD E.P e with
    |some te=>if te.size=sz then(Zp len (lo.map (ev E.G fr)) (hi.map (ev E.G fr))).map fun p=> .sub sz b p.1 (p.2-p.1)else none
    |none=>none
   |some ⟨.array n e,_,_,_⟩, .ptr _ b 0 0=>match cD E.P e with
    |some te=>if te.size=1∧n≤4096 then(Zp n (lo.map (ev E.G fr)) (hi.map (ev E.G fr))).map fun p=> .sub 1 b p.1 (p.2-p.1)else none
    |none=>none
   |_,_=>none
 | .fieldAddr s x f=>match cD E.P s with
   |some ⟨.strct fs,_,_,_⟩=>match fs[f]? with
    |some (t,off)=>match cD E.P t with
     |some ti=>if ti.size=0 then none else match ev E.G fr x with
      | .ptr sz b i j=>some (.ptr sz b i (j+off))
      | .ipt row j=>some (.ipt row (j+off))
      |_=>none
     |none=>none
    |none=>none
   |_=>none
 | .field s x f=>match cD E.P s,ev E.G fr x with
   |some ⟨.strct fs,_,_,_⟩, .agg cs=>match fs[f]? with
    |some (t,off)=>(cD E.P t).bind fun ti=>rd ti cs off
    |none=>none
   |_,_=>none
 | .indexAddr t x ix=>match cD E.P t,ev E.G fr ix with
   |some ⟨.slice e,_,_,_⟩, .int _ i=>match cD E.P e,ev E.G fr x with
    |some te, .isl sz l=>if te.size=sz∧0≤i then(l[i.toNat]?).map fun row=> .ipt row 0 else none
    |some te, .osl sz b len=>if te.size=sz∧0≤i∧i<len then some (.ptr sz b i.toNat 0)else none
    |_,_=>none
   |some ⟨.array n e,_,_,_⟩, .int _ i=>match cD E.P e,ev E.G fr x with
    |some te, .ptr sz b r j=>if 0≤i∧i<n then some (.ptr sz b r (j+i.toNat *te.size))else none
    |some te, .ipt row j=>if 0≤i∧i<n then some (.ipt row (j+i.toNat *te.size))else none
    |_,_=>none
   |_,_=>none
 | .index t x ix=>match cD E.P t,ev E.G fr x,ev E.G fr ix with
   |some ⟨.str,_,_,_⟩, .str s, .int _ i=>if 0≤i then(s[i.toNat]?).map fun c=> .int .u8 c.toNat else none
   |some ⟨.array n e,_,_,_⟩, .agg cs, .int _ i=>(cD E.P e).bind fun te=>if 0≤i∧i<n then rd te cs (i.toNat *te.size)else none
   |_,_,_=>none
 | .extract x i=>match ev E.G fr x with | .tup vs=>vs[i]?|_=>none
 | .makeInterface t x=>match cD E.P t with
   |some ⟨.iface,_,_,_⟩=>none
   |some _=>some (.ifc t (ev E.G fr x))
   |none=>none
 | .makeFunc f first captured=>some (.fn f (first.toList.map (ev E.G fr)) (captured.toList.map (ev E.G fr)))
 | .lookup t x k ok=>match cD E.P t,ev E.G fr k with
   |some ⟨.map tk te,_,_,_⟩, .str s=>match cD E.P tk,cD E.P te with
    |some ⟨.str,_,_,_⟩,some ie=>match(match ev E.G fr x with | .mp b=>(match H b with |some (.amap es)=>some es|_=>none)| .nmp=>some []| .imp ks xs=>some (ks.zip xs)|_=>none)with
     |some es=>match xB (.str s) es 0 with
      |some r=>some (if ok then .tup [(r.map (·.2)).getD ie.zero, .bool r.isSome]else(r.map (·.2)).getD ie.zero)
      |none=>none
     |none=>none
    |_,_=>none
   |_,_=>none
 | .call ⟨.builtin .len,args,ts⟩=>match args.toList,ts.toList with
   |[x],[t]=>match cD E.P t,ev E.G fr x with
    |some ⟨.str,_,_,_⟩, .str s=>some (.int .i64 s.length)
    |some ⟨.slice _,_,_,_⟩, .isl _ l=>some (.int .i64 l.length)
    |some ⟨.slice _,_,_,_⟩, .osl _ _ len=>some (.int .i64 len)
    |some ⟨.slice _,_,_,_⟩, .nsl=>some (.int .i64 0)
    |some ⟨.array n _,_,_,_⟩,_=>some (.int .i64 n)
    |_,_=>none
   |_,_=>none
 | .call ⟨.builtin .min,args,_⟩=>match args.toList with
   |[x,y]=>match ev E.G fr x,ev E.G fr y with
    | .int k a, .int _ b=>some (.int k (if b<a then b else a))
    |_,_=>none
   |_=>none
 | .call ⟨.builtin .max,args,_⟩=>match args.toList with
   |[x,y]=>match ev E.G fr x,ev E.G fr y with
    | .int k a, .int _ b=>some (.int k (if a<b then b else a))
    |_,_=>none
   |_=>none
 | .build t parts=>(cD E.P t).bind fun ti=>match ti.k with
   | .strct fs=>if fs.all (fun p=>(cD E.P p.1).isSome)=false then none else match ti.zero with
     | .agg z=>(aq.abuild E fs z (parts.toList.map fun p=>(p.1,ev E.G fr p.2))).map .agg
     |_=>none
   |_=>none
 | .typeAssert x _ t true=>match cD E.P t,ev E.G fr x with
   |some ⟨.iface,_,_,_⟩,_=>none
   |some ti, .ifc t' v=>if t'=t then some (.tup [v, .bool true])else some (.tup [ti.zero, .bool false])
   |_,_=>none
 |_=>none
section
variable {E : kB} {γ : lY} {S : gH} {H : Hp} {w : World} {fr : Fr} {a : Act}
theorem O7 {P:Program} {t:TypeId} {ti:TI} (d:cD P t=some ti) {cs:List AV} {vs:List Value} (c:dF S w cs vs) {j:Nat} {v:AV} (h:rd ti cs j=some v) (w1:World):
  ∃e,(part t vs.toArray j).run P w1= .ok e w1∧cI S w v e:=by
 unfold rd at h;simp only[part,Sem.run_bind,Ox d,Result.andThen_ok];split at h
 ·rename_i b
  split at h
  ·obtain rfl:=(Option.some.inj h).symm
   simp only[b,cQ,Sem.run_bind,gU d,Result.andThen_ok,Sem.run_pure];refine⟨_,rfl, ?_⟩;simp only[cI];refine⟨(vs.drop j).take ti.size, ?_,(c.drop j).take ti.size⟩;simp
  cases h
 rename_i b;obtain⟨u,f,g⟩:=c.get j h;simp [b,f,g]
theorem vG {isS:Bool} {n cap:Nat} {lo z:Option AV} {o l:Option Value} {p:Nat×Nat} (h:Zp n lo z=some p) (M:n≤cap)
  (K: ∀x,lo=some x→ ∃y,o=some y∧cI S w x y) (L:lo=none→o=none) (I: ∀x,z=some x→ ∃y,l=some y∧cI S w x y) (J:z=none→l=none) (P:Program):
  (Instr.sliceBounds isS n cap o l none).run P w= .ok (p.1,p.2,cap) w∧p.1≤p.2∧p.2≤n:=by
 have D: ∀(k:IntKind) (i:Int) (y:Nat) (b:BoundsCode),0≤i→i≤y→(Instr.sliceBound (.int k i) y b).run P w= .ok i.toNat w:=fun k i y b F G=>by
  simp [Instr.sliceBound,asIntOf,F,G]
 simp only[Zp,cV,bO]at h;obtain⟨j,c,C,d,rfl⟩:=h
 have f:j≤n∧((l=none∧j=n)∨ ∃v,l=some v∧ ∀b,(Instr.sliceBound v cap b).run P w= .ok j w):=by
  cases z with
  |none=>simp only[OL,Option.some.injEq]at c;subst c;exact⟨bH _, .inl ⟨J rfl,rfl⟩⟩
  |some x=>
   obtain⟨y,A,e⟩:=I x rfl;cases x<;>simp only[OL]at c<;>try (cases c;done)
   simp only[cI]at e;subst e;split at c<;>cases c;rename_i B;exact⟨by omega, .inr ⟨_,A,fun b=>D _ _ _ _ B.1 (by omega)⟩⟩
 have g:C≤j∧((o=none∧C=0)∨ ∃v,o=some v∧ ∀b,(Instr.sliceBound v j b).run P w= .ok C w):=by
  cases lo with
  |none=>simp only[OK,Option.some.injEq]at d;subst d;exact⟨cK _, .inl ⟨L rfl,rfl⟩⟩
  |some x=>
   obtain⟨y,A,e⟩:=K x rfl;cases x<;>simp only[OK]at d<;>try (cases d;done)
   simp only[cI]at e;subst e;split at d<;>cases d;rename_i B;exact⟨by omega, .inr ⟨_,A,fun b=>D _ _ _ _ B.1 (by omega)⟩⟩
 refine⟨?_,g.1,f.1⟩;unfold Instr.sliceBounds;obtain⟨_,f⟩:=f;obtain⟨_,g⟩:=g;rcases f with⟨rfl,rfl⟩|⟨v,rfl,f⟩<;>rcases g with⟨rfl,rfl⟩|⟨u,rfl,g⟩<;>simp [*]
theorem Yp (P:Program) (w:World) (op:BinOp) (t:TypeId) (x y:Operand) (k k':IntKind) (a b:Int):(eqGuard op t x y (.int k a) (.int k' b)).run P w= .ok () w:=by
 unfold eqGuard;split<;>simp
theorem Yo (P:Program) (w:World) (op:BinOp) (t:TypeId) (x y:Operand) (a b:ByteArray):(eqGuard op t x y (.string a) (.string b)).run P w= .ok () w:=by
 unfold eqGuard;split<;>simp
theorem Ug (P:Program) (w:World) (op:BinOp) (t:TypeId) (x y:Operand) (a b:Bool):(eqGuard op t x y (.bool a) (.bool b)).run P w= .ok () w:=by
 unfold eqGuard;split<;>simp
theorem I0 {P:Program} (w:World) {t:TypeId} (h:P.underlying t=some .bool) (a b:Bool):(Op.equal t (.bool a) (.bool b)).run P w= .ok (decide (a=b)) w:=by
 unfold Op.equal Op.maxDepth;rw[run_equalIn_bool' w 9999 t a b h,Yv]
theorem LO {d:TypeDesc} (h:yV d= .bool):d= .bool:=by
 cases d<;>first|rfl|(simp [yV]at h)
theorem Vt {d:TypeDesc} (h:yV d= .iface): ∃b,d= .interface b:=by
 cases d<;>first|exact⟨_,rfl⟩|(simp [yV]at h)
theorem Ud {P:Program} (w:World) (n:Nat) {t:TypeId} {ms} (h:P.underlying t=some (.interface ms)) (b:TypeId) (u:Value):(Op.equalIn (n+1) t (.iface b u) .nilIface).run P w= .ok false w:=by
 simp [Op.equalIn,run_underlying h]
theorem Uc {P:Program} (w:World) (n:Nat) {t:TypeId} {ms} (h:P.underlying t=some (.interface ms)):(Op.equalIn (n+1) t .nilIface .nilIface).run P w= .ok true w:=by
 simp [Op.equalIn,run_underlying h]
theorem H9 {P:Program} (w:World) {t:TypeId} {ms} (h:P.underlying t=some (.interface ms)) (b:TypeId) (u:Value):(Op.equal t (.iface b u) .nilIface).run P w= .ok false w:=Ud w 9999 h b u
theorem H8 {P:Program} (w:World) {t:TypeId} {ms} (h:P.underlying t=some (.interface ms)):(Op.equal t .nilIface .nilIface).run P w= .ok true w:=Uc w 9999 h
theorem Uf (P:Program) (w:World) (op:BinOp) (t:TypeId) (x y:Operand) (b:TypeId) (u:Value):(eqGuard op t x y (.iface b u) .nilIface).run P w= .ok () w:=by
 unfold eqGuard;split<;>simp
theorem Ue (P:Program) (w:World) (op:BinOp) (t:TypeId) (x:Operand) (k:Value):(eqGuard op t x (.const k) .nilIface .nilIface).run P w= .ok () w:=by
 unfold eqGuard;split<;>simp
def oV (E:kB) (S:gH) (w:World) (a:Act) (o:Op) (v:AV):Prop:=
 ∀dst ty pos af g, ∃v',(execOp a.eval ⟨dst,o,ty,pos,af,g⟩).run E.P w= .ok (.value v') w∧cI S w v v'
theorem C6 (hst:St E γ S H w) (d:mY S w fr a) {t:TypeId} {x:Operand} {v:AV} (h:aq E H fr (.load t x)=some v):oV E S w a (.load t x) v:=by
 intro j l k i g;simp only[aq,cV]at h;obtain⟨ti,e,h⟩:=h;obtain⟨f,b,c⟩:=Fe hst e (eV hst d x) h;exact⟨f,by simp [execOp,b],c⟩
theorem Vy (hst:St E γ S H w) (C:mY S w fr a) {op:BinOp} {t u:TypeId} {x y:Operand} {v:AV} (h:aq E H fr (.binOp op t x y u)=some v):oV E S w a (.binOp op t x y u) v:=by
 intro K W U G g;have b:=eV hst C x;have c:=eV hst C y;simp only[aq]at h;split at h
 ·rename_i f j
  rw[f]at b;rw[j]at c;simp only[cI]at b c;obtain⟨B,o,A⟩:=J4 h E.P S w t;refine⟨B, ?_,A⟩;simp only[execOp,b,c,Sem.run_bind,Sem.run_pure];simp [Yp,o]
 ·rename_i f j
  rw[f]at b;rw[j]at c;simp only[cI]at b c;obtain⟨B,o,A⟩:=J0 h E.P S w t;refine⟨B, ?_,A⟩;simp only[execOp,b,c,Sem.run_bind,Sem.run_pure];simp [Yo,o]
 ·rename_i I J f j
  rw[f]at b;rw[j]at c;simp only[cI]at b c;obtain⟨X,L,b⟩:=b;obtain⟨Y,M,c⟩:=c;split at h<;>first|(cases h;done)|skip
  all_goals
   rename_i r n;cases h;rw[cV]at n;obtain⟨T,D,n⟩:=n;obtain⟨N,O,Q,R⟩:=J5 D b c n x y;refine⟨.bool _, ?_,by simp only[cI];rfl⟩;simp only[*,execOp,Sem.run_bind,Result.andThen_ok,Sem.run_pure]
 ·rename_i p q f j
  rw[f]at b;rw[j]at c;simp only[cI]at b c;split at h<;>first|(cases h;done)|skip
  all_goals
   rename_i ti;cases h;obtain⟨d,i,z,l,_,_,e⟩:=kG ti;have hd:d= .bool:=LO (congrArg TI.k e).symm;subst hd;refine⟨.bool _, ?_,by simp only[cI];rfl⟩;simp [execOp,b,c,Ug,binOp,I0 w l]
 ·rename_i V Z f j
  rw[f]at b;rw[j]at c;simp only[cI]at b c;obtain⟨u,b,_⟩:=b;unfold OJ at h;split at h<;>first|(cases h;done)|skip
  all_goals
   rename_i ti;cases h;obtain⟨d,i,z,l,_,_,e⟩:=kG ti;obtain⟨F,rfl⟩:=Vt (congrArg TI.k e).symm;refine⟨.bool _, ?_,by simp only[cI];rfl⟩;simp [execOp,b,c,Uf,binOp,H9 w l]
 ·rename_i f j
  rw[f]at b;rw[j]at c;simp only[cI]at b c;cases y<;>simp only[A9,cQ,cF,dC,reduceCtorEq]at h;unfold OJ at h;split at h<;>first|(cases h;done)|skip
  all_goals
   rename_i ti;cases h;obtain⟨d,i,z,l,_,_,e⟩:=kG ti;obtain⟨F,rfl⟩:=Vt (congrArg TI.k e).symm;refine⟨.bool _, ?_,by simp only[cI];rfl⟩;simp [execOp,b,c,Ue,binOp,H8 w l]
 cases h
theorem qQ {P:Program} {t:TypeId} {ti:TI} (h:cD P t=some ti): ∃d,P.underlying t=some d∧yV d=ti.k:=by
 obtain⟨d,i,z,b,_,_,e⟩:=kG h;exact⟨d,b,(congrArg TI.k e).symm⟩
theorem CG {P:Program} {t:TypeId} {k:IntKind} {a b:Nat} {z:AV} (h:cD P t=some ⟨.int k,a,b,z⟩):P.underlying t=some (.int k):=by
 obtain⟨d,c,e⟩:=qQ h;cases d<;>simp [yV]at e;subst e;exact c
theorem Du {P:Program} {t:TypeId} {a b:Nat} {z:AV} (h:cD P t=some ⟨.str,a,b,z⟩):P.underlying t=some .string:=by
 obtain⟨d,c,e⟩:=qQ h;cases d<;>simp [yV]at e;exact c
theorem mB {P:Program} {t e:TypeId} {a b:Nat} {z:AV} (h:cD P t=some ⟨.slice e,a,b,z⟩):P.underlying t=some (.slice e):=by
 obtain⟨d,c,e⟩:=qQ h;cases d<;>simp [yV]at e;subst e;exact c
theorem Gi {P:Program} {t e:TypeId} {n a b:Nat} {z:AV} (h:cD P t=some ⟨.array n e,a,b,z⟩):P.underlying t=some (.array n e):=by
 obtain⟨d,c,e⟩:=qQ h;cases d<;>simp [yV]at e;obtain⟨rfl,rfl⟩:=e;exact c
theorem CE {P:Program} {t k e:TypeId} {a b:Nat} {z:AV} (h:cD P t=some ⟨.map k e,a,b,z⟩):P.underlying t=some (.map k e):=by
 obtain⟨d,c,e⟩:=qQ h;cases d<;>simp [yV]at e;obtain⟨rfl,rfl⟩:=e;exact c
theorem Vp {P:Program} {t:TypeId} {c:List (TypeId×Nat)} {a b:Nat} {z:AV} (h:cD P t=some ⟨.strct c,a,b,z⟩):
  ∃g:Array Field,P.underlying t=some (.struct g)∧c=g.toList.map fun f=>(f.type,f.offset):=by
 obtain⟨d,i,e⟩:=qQ h;cases d<;>simp [yV]at e;exact⟨_,i,by simpa using e.symm⟩
theorem N3 {P:Program} {t:TypeId} {d:List (TypeId×Nat)} {a b:Nat} {z:AV} (h:cD P t=some ⟨.strct d,a,b,z⟩) {f:Nat} {p:TypeId×Nat} (e:d[f]?=some p):
  ∃(c:Array Field) (g:Field),P.underlying t=some (.struct c)∧c[f]?=some g∧g.type=p.1∧g.offset=p.2:=by
 obtain⟨c,j,rfl⟩:=Vp h;rw[dM,bO]at e;obtain⟨g,i,rfl⟩:=e;exact⟨c,g,j,by simpa using i,rfl,rfl⟩
theorem C5 (hst:St E γ S H w) (c:mY S w fr a) {op:UnOp} {t:TypeId} {x:Operand} {v:AV} (h:aq E H fr (.unOp op t x)=some v):oV E S w a (.unOp op t x) v:=by
 intro f j i d g;have b:=eV hst c x;simp only[aq]at h;split at h<;>first|(cases h;done)|skip
 all_goals
  rename_i e;cases h;rw[e]at b;simp only[cI]at b;simp [execOp,b,Op.unary,Op.intArith,cI]
theorem Jk {b:Nat}: ∀{l:List (List AV)} {off:Nat} {s:List UInt8},dE S w b off 1 l→pR l=some s→
  ∃d:List Int,d.length=l.length∧s=d.map (fun n=>UInt8.ofNat n.toNat)∧ ∀i,i<d.length→w.cell? ⟨b,off+i,none⟩=some (.int .u8 (d.getD i 0))
 |[],off,s,_,h=>by
  simp only[pR,Option.some.injEq]at h;exact⟨[],rfl,h.symm,fun i g=>by simp at g⟩
 |r::rs,off,s,hr,h=>by
  simp only[pR,cV,bO]at h;obtain⟨c,f,A,p,rfl⟩:=h;simp only[dE]at hr;obtain⟨z,j,o⟩:=hr;obtain⟨d,v,x,y⟩:=Jk o p;unfold Jm at f;split at f
  ·rename_i n
   cases f;simp only[eW]at j;obtain⟨⟨u,e,k⟩,_⟩:=j;simp only[cI]at k;subst k;refine⟨n::d,by simp [v],by rw[x];rfl,fun i g=>?_⟩
   cases i with
   |zero=>simpa using e
   |succ i=>
    have:=y i (by simpa using g);rw[show off+1+i=off+(i+1)by omega]at this;rw[this];simp
  cases f
theorem W4 {P:Program} {d c e:TypeId} (j:P.underlying d=some (.slice e)) (g:P.underlying e=some (.int .u8)) (hd:P.underlying c=some .string) {b off cap:Nat} {l:List (List AV)} {s:List UInt8} (i:dE S w b off 1 l) (h:pR l=some s):
  (convert d c (.slice (some ⟨b,off,none⟩) l.length cap)).run P w= .ok (.string ⟨s.toArray⟩) w:=by
 obtain⟨f,k,n,o⟩:=Jk i h;rw[←k,run_convert_bytes_arg w d e j g b off f.length cap f rfl o c hd,n];rfl
theorem Dy {P:Program} {c b e:TypeId} (f:P.underlying c=some (.slice e)) (d:P.underlying e=some (.int .u8)) (hd:P.underlying b=some .string) (g:Option Addr) (cap:Nat):
  (convert c b (.slice g 0 cap)).run P w= .ok (.string ⟨#[]⟩) w:=by
 cases g with
 |none=>exact run_convert_bytes_nil w c e f d 0 cap b hd
 |some a=>
  rw[run_convert_bytes_string w c b e _ 0 cap f d hd,run_bytesToString w a 0 cap [] (by simpa using run_loadCells_list (P:=P) w a [] (fun j v i=>by simp at i))];rfl
theorem Nh (hst:St E γ S H w) (A:mY S w fr a) {s d:TypeId} {x:Operand} {v:AV} (h:aq E H fr (.convert s d x)=some v):oV E S w a (.convert s d x) v:=by
 intro D G F C g;have c:=eV hst A x;simp only[aq]at h;split at h<;>first|(cases h;done)|skip
 ·rename_i i hd e
  cases h;rw[e]at c;simp only[cI]at c;obtain⟨u,k,_⟩:=qQ i;refine⟨.int _ _, ?_,by simp only[cI];rfl⟩;simp [execOp,convert,run_underlying k,run_underlying (CG hd),c,Conv.intToInt]
 ·rename_i i hd e
  cases h;rw[e]at c;simp only[cI]at c;obtain⟨u,k,_⟩:=qQ i;refine⟨.string _, ?_,by simp only[cI];rfl⟩;simp [execOp,convert,run_underlying k,run_underlying (Du hd),c]
 rename_i i hd _;split at h<;>first|(cases h;done)|skip
 rename_i z;rw[bO]at h;obtain⟨s,f,rfl⟩:=h;have p:=mB i;have o:=CG z;have n:=Du hd;unfold Dq at f;split at f<;>first|(cases f;done)|skip
 ·rename_i e
  cases f;rw[e]at c;simp only[cI]at c;refine⟨.string ⟨#[]⟩, ?_,by simp only[cI]⟩;simp only[execOp,c];simp [Dy p o n none 0]
 rename_i sz l e;split at f
 ·rename_i y
  subst y;rw[e]at c;simp only[cI]at c;obtain⟨B,cap,c,_,_,j⟩:=c;refine⟨.string ⟨s.toArray⟩, ?_,by simp only[cI]⟩;rcases j with rfl|⟨b,off,rfl,_,j⟩
  ·simp only[pR,Option.some.injEq]at f
   subst f;simp only[execOp,c];simp [Dy p o n B cap]
  simp only[execOp,c];simp [W4 p o n (cap:=cap) j f]
 cases f
theorem Nc (hst:St E γ S H w) (d:mY S w fr a) {x:Operand} {i:Nat} {v:AV} (h:aq E H fr (.extract x i)=some v):oV E S w a (.extract x i) v:=by
 intro n p o l g;have b:=eV hst d x;simp only[aq]at h;split at h<;>first|(cases h;done)|skip
 rename_i vs e;rw[e]at b;simp only[cI]at b;obtain⟨y,c,f⟩:=b;obtain⟨u,j,k⟩:=f.get i h;exact⟨u,by simp [execOp,c,Instr.extract,j],k⟩
theorem Hf (hst:St E γ S H w) (j:mY S w fr a) {x:Operand} {v:AV} (h:aq E H fr (.nilCheck x)=some v):oV E S w a (.nilCheck x) v:=by
 intro l o n k g;have c:=eV hst j x;simp only[aq,eM]at h;obtain⟨d,i⟩:=h;cases i;refine⟨a.eval x, ?_,c⟩;cases e:ev E.G fr x<;>rw[e]at d c<;>simp only[Ef]at d<;>try (cases d;done)
 ·simp only[cI]at c;simp [execOp,c]
 simp only[cI]at c;obtain⟨b,off,f,_⟩:=c;simp [execOp,f]
theorem xY (hst:St E γ S H w) (b:mY S w fr a) {t:TypeId} {x:Operand} {v:AV} (h:aq E H fr (.makeInterface t x)=some v):oV E S w a (.makeInterface t x) v:=by
 intro o y p l g;have j:=eV hst b x;simp only[aq]at h;split at h<;>first|(cases h;done)|skip
 rename_i ti c f;cases h;obtain⟨d,i,e⟩:=qQ f;refine⟨.iface t (a.eval x), ?_,by simp only[cI];exact⟨_,rfl,j⟩⟩;cases d<;>simp [execOp,Instr.makeInterface,run_underlying i];obtain⟨k,u,n,z⟩:=ti;simp only[yV]at e;subst e;exact c _ _ _ rfl
theorem dF.map (hst:St E γ S H w) (c:mY S w fr a): ∀b:List Operand,dF S w (b.map (ev E.G fr)) (b.map a.eval)
 |[]=>by simp only[dI,dF]
 |x::b=>by simp only[cU,dF];exact⟨_,_,rfl,eV hst c x,dF.map hst c b⟩
theorem Hg (hst:St E γ S H w) (c:mY S w fr a) {f:Fn} {xs b:Array Operand} {v:AV} (h:aq E H fr (.makeFunc f xs b)=some v):oV E S w a (.makeFunc f xs b) v:=by
 intro e j i d g;simp only[aq,Option.some.injEq]at h;subst h;refine⟨.func f (xs.toList.map a.eval).toArray (b.toList.map a.eval).toArray, ?_, ?_⟩
 ·simp only[execOp,Instr.makeFunc,Sem.run_bind,Sem.run_pure,Result.andThen_ok,←Array.toList_map,eT]
 simp only[cI];exact⟨_,_,rfl,dF.map hst c _,dF.map hst c _⟩
theorem Vw (hst:St E γ S H w) (l:mY S w fr a) {s:TypeId} {x:Operand} {f:Nat} {v:AV} (h:aq E H fr (.field s x f)=some v):oV E S w a (.field s x f) v:=by
 intro C I G B g;have b:=eV hst l x;simp only[aq]at h;split at h<;>first|(cases h;done)|skip
 rename_i u e;rw[e]at b;simp only[cI]at b;obtain⟨J,i,p⟩:=b;split at h<;>first|(cases h;done)|skip
 rename_i t off n;rw[cV]at h;obtain⟨ti,y,h⟩:=h;obtain⟨F,D,z,o,c,d⟩:=N3 u n;simp only at c d;obtain⟨A,j,k⟩:=O7 y p h w;exact⟨A,by simp [execOp,Instr.field,run_underlying z,o,i,asAgg,c,d,j],k⟩
theorem Fo (hst:St E γ S H w) (z:mY S w fr a) {s:TypeId} {x:Operand} {f:Nat} {v:AV} (h:aq E H fr (.fieldAddr s x f)=some v):oV E S w a (.fieldAddr s x f) v:=by
 intro D J I C g;have c:=eV hst z x;simp only[aq]at h;split at h<;>first|(cases h;done)|skip
 rename_i B;split at h<;>first|(cases h;done)|skip
 rename_i t off A;split at h<;>first|(cases h;done)|skip
 rename_i ti l;split at h<;>first|(cases h;done)|skip
 rename_i k;obtain⟨G,F,n,j,d,i⟩:=N3 B A;simp only at d i;split at h<;>first|(cases h;done)|skip
 ·rename_i e
  cases h;rw[e]at c;simp only[cI]at c;refine⟨_, ?_,by simp only[cI];rfl⟩;simp [execOp,Instr.fieldAt,run_underlying n,j,c,Instr.sureAddr,fieldPlace,d,gU l,k,i,Addr.add_lit,gA]
 rename_i e;cases h;rw[e]at c;simp only[cI]at c;obtain⟨b,o,p,u,y⟩:=c;refine⟨_, ?_,by simp only[cI];exact⟨b,o,rfl,u,y⟩⟩;simp [execOp,Instr.fieldAt,run_underlying n,j,p,Instr.sureAddr,fieldPlace,d,gU l,k,i,Addr.add_lit,gA]
end
section
variable {E : kB} {γ : lY} {S : gH} {H : Hp} {w : World} {fr : Fr} {a : Act}
theorem LU (s:List UInt8):ByteArray.size ⟨s.toArray⟩=s.length:=by simp [ByteArray.size]
theorem P2 (hst:St E γ S H w) (b:mY S w fr a) (o:Option Operand):(∀x,o.map (ev E.G fr)=some x→ ∃y,o.map a.eval=some y∧cI S w x y)∧(o.map (ev E.G fr)=none→o.map a.eval=none):=by
 cases o with
 |none=>simp
 |some x=>exact⟨fun y h=>by simp at h;subst h;exact⟨_,rfl,eV hst b x⟩,fun h=>by simp at h⟩
theorem Vu (hst:St E γ S H w) (F:mY S w fr a) {t:TypeId} {x:Operand} {lo G:Option Operand} {v:AV} (h:aq E H fr (.slice t x lo G none)=some v):oV E S w a (.slice t x lo G none) v:=by
 intro R ty V Q g;have c:=eV hst F x;have f:=P2 hst F lo;have d:=P2 hst F G;simp only[aq]at h;split at h<;>first|(cases h;done)|skip
 ·rename_i s o e
  rw[e]at c;simp only[cI]at c;rw[bO]at h;obtain⟨p,k,rfl⟩:=h;obtain⟨j,B,C⟩:=vG (isS:=false) (w:=w) (S:=S) (cap:=s.length) k (bH _) f.1 f.2 d.1 d.2 E.P;refine⟨.string _, ?_,by simp only[cI];rfl⟩;have i:ByteArray.size ⟨s.toArray⟩=s.length:=by simp [ByteArray.size]
  have u:=Du o;simp only[execOp,Instr.sliceAt,Sem.run_bind,run_underlying u,Result.andThen_ok,Instr.slice,c,iI,eO,cF,dC,i,j,Sem.run_pure];congr 3;apply ByteArray.ext;simp [ByteArray.data_extract]
 ·rename_i sz l o e
  split at h<;>first|(cases h;done)|skip
  rename_i K z;split at h<;>first|(cases h;done)|skip
  rename_i i;rw[e]at c;simp only[cI]at c;obtain⟨J,cap,A,D,M,I⟩:=c;rw[bO]at h;obtain⟨p,k,rfl⟩:=h;obtain⟨j,B,C⟩:=vG (isS:=true) (w:=w) (S:=S) k D f.1 f.2 d.1 d.2 E.P;have u:=mB o;refine⟨.slice (if cap=p.1 then J else J.map (·.add (p.1 *sz))) (p.2-p.1) (cap-p.1), ?_, ?_⟩
  ·simp only[execOp,Instr.sliceAt,Sem.run_bind,run_underlying u,Result.andThen_ok,Instr.slice,A,iI,j,gU z,i,Sem.run_pure]
  simp only[cI];have O:((l.drop p.1).take (p.2-p.1)).length=p.2-p.1:=by rw[dV,fL];omega
  refine⟨_,_,by rw[O],by omega,by omega, ?_⟩;rcases I with rfl|⟨b,off,rfl,L,I⟩
  ·simp
  by_cases y:p.2-p.1=0
  ·left;rw[y];simp
  right;refine⟨b,off+p.1 *sz, ?_,L,(I.drop p.1).take _⟩;rw[aJ (by omega)];simp [Addr.add_lit]
 ·rename_i sz b len o e
  split at h<;>first|(cases h;done)|skip
  rename_i K z;split at h<;>first|(cases h;done)|skip
  rename_i i;rw[e]at c;simp only[cI]at c;obtain⟨cap,T,A,_,D,M⟩:=c;rw[bO]at h;obtain⟨p,k,rfl⟩:=h;obtain⟨j,B,C⟩:=vG (isS:=true) (w:=w) (S:=S) k D f.1 f.2 d.1 d.2 E.P;have u:=mB o;refine⟨.slice (if cap=p.1 then some ⟨b,0,none⟩else(some (⟨b,0,none⟩:Addr)).map (·.add (p.1 *sz))) (p.2-p.1) (cap-p.1), ?_, ?_⟩
  ·simp only[execOp,Instr.sliceAt,Sem.run_bind,run_underlying u,Result.andThen_ok,Instr.slice,A,iI,j,gU z,i,Sem.run_pure]
  simp only[cI];refine⟨_,_,rfl, ?_,by omega,by omega⟩;by_cases y:p.2-p.1=0
  ·exact .inl y
  right;rw[aJ (by omega)];simp [Addr.add_lit]
 rename_i n e W X Y Z b o N;split at h<;>first|(cases h;done)|skip
 rename_i K z;split at h<;>first|(cases h;done)|skip
 rename_i i;rw[N]at c;simp only[cI,Nat.zero_mul,bV]at c;rw[bO]at h;obtain⟨p,k,rfl⟩:=h;obtain⟨j,B,C⟩:=vG (isS:=false) (w:=w) (S:=S) k (bH _) f.1 f.2 d.1 d.2 E.P;have u:=Gi o;have U:n≤maxLen:=by have:=i.2;simp only[maxLen];omega
 refine⟨.slice (some (if n=p.1 then⟨b,0,none⟩else(⟨b,0,none⟩:Addr).add (p.1 *1))) (p.2-p.1) (n-p.1), ?_, ?_⟩
 ·simp only[execOp,Instr.sliceAt,Sem.run_bind,run_underlying u,Result.andThen_ok,c,Instr.sureAddr,iI,j,gU z,i.1,Sem.run_pure]
 simp only[cI];refine⟨_,_,rfl, ?_,by omega,by omega⟩;by_cases y:p.2-p.1=0
 ·exact .inl y
 right;rw[aJ (by omega)];simp [Addr.add_lit]
theorem Fj (hst:St E γ S H w) (C:mY S w fr a) {t:TypeId} {x A:Operand} {v:AV} (h:aq E H fr (.indexAddr t x A)=some v):oV E S w a (.indexAddr t x A) v:=by
 intro M V U L g;have c:=eV hst C x;have f:=eV hst C A;simp only[aq]at h;split at h<;>first|(cases h;done)|skip
 ·rename_i z p
  rw[p]at f;simp only[cI]at f;have k:=mB z;split at h<;>first|(cases h;done)|skip
  ·rename_i B sz l i e
   rw[e]at c;simp only[cI]at c;obtain⟨T,D,n,O,Q,u⟩:=c;split at h<;>first|(cases h;done)|skip
   rename_i d;rw[bO]at h;obtain⟨row,y,rfl⟩:=h;have R:=(bF.1 y).1;rcases u with rfl|⟨b,off,rfl,J,u⟩
   ·simp at y
   obtain⟨_,K⟩:=dE.get _ u y;refine⟨_, ?_,by simp only[cI];exact⟨b,_,rfl,J,K⟩⟩;simp only[execOp,Instr.indexAt,f,asIntOf,Sem.run_bind,Sem.run_pure,Result.andThen_ok,run_underlying k,n,Instr.sureAddr,pure_bind];rw[bD (by omega)];simp [gU i,d.1,Addr.add_lit]
  rename_i B sz b len i e;rw[e]at c;simp only[cI]at c;obtain⟨D,N,n,_⟩:=c;split at h<;>first|(cases h;done)|skip
  rename_i d;cases h;refine⟨_, ?_,by simp only[cI];rfl⟩;simp only[execOp,Instr.indexAt,f,asIntOf,Sem.run_bind,Sem.run_pure,Result.andThen_ok,run_underlying k,n,Instr.sureAddr,pure_bind];rw[bD d.2];simp [gU i,d.1,Addr.add_lit]
 rename_i z p;rw[p]at f;simp only[cI]at f;have k:=Gi z;split at h<;>first|(cases h;done)|skip
 ·rename_i B sz b r j i e
  rw[e]at c;simp only[cI]at c;split at h<;>first|(cases h;done)|skip
  rename_i d;cases h;refine⟨_, ?_,by simp only[cI];rfl⟩;simp only[execOp,Instr.indexAt,f,asIntOf,Sem.run_bind,Sem.run_pure,Result.andThen_ok,run_underlying k,c,Instr.sureAddr,pure_bind];rw[bD d];simp [gU i,Addr.add_lit,gA]
 rename_i B row j i e;rw[e]at c;simp only[cI]at c;obtain⟨b,o,F,G,I⟩:=c;split at h<;>first|(cases h;done)|skip
 rename_i d;cases h;refine⟨_, ?_,by simp only[cI];exact⟨b,o,rfl,G,I⟩⟩;simp only[execOp,Instr.indexAt,f,asIntOf,Sem.run_bind,Sem.run_pure,Result.andThen_ok,run_underlying k,F,Instr.sureAddr,pure_bind];rw[bD d];simp [gU i,Addr.add_lit,gA]
theorem Vv (hst:St E γ S H w) (u:mY S w fr a) {t:TypeId} {x o:Operand} {v:AV} (h:aq E H fr (.index t x o)=some v):oV E S w a (.index t x o) v:=by
 intro K N L I g;have d:=eV hst u x;have b:=eV hst u o;simp only[aq]at h;split at h<;>first|(cases h;done)|skip
 ·rename_i s _ i k e f
  rw[f]at b;rw[e]at d;simp only[cI]at b d;have l:=Du k;split at h<;>first|(cases h;done)|skip
  rename_i j;rw[bO]at h;obtain⟨c,p,rfl⟩:=h;refine⟨.int .u8 _, ?_,by simp only[cI];rfl⟩
  have C:(⟨s.toArray⟩:ByteArray)[i.toNat]?=some c:=by
   have F:=(bF.1 p).1;rw[getElem?_pos (⟨s.toArray⟩:ByteArray) i.toNat (by simpa [ByteArray.size]using F)];congr 1;have:=(bF.1 p).2;show s.toArray[i.toNat]=c;simpa using this
  simp only[execOp,Instr.index,b,d,asIntOf,Sem.run_bind,Sem.run_pure,Result.andThen_ok,run_underlying l,bD j,C]
 rename_i n e J _ i k e f;rw[f]at b;rw[e]at d;simp only[cI]at b d;obtain⟨O,z,D⟩:=d;have l:=Gi k;rw[cV]at h;obtain⟨M,y,h⟩:=h;split at h<;>first|(cases h;done)|skip
 rename_i j;obtain⟨G,A,B⟩:=O7 y D h w;refine⟨G, ?_,B⟩;simp only[execOp,Instr.index,b,z,asIntOf,Sem.run_bind,Sem.run_pure,Result.andThen_ok,run_underlying l,bD j,gU y,A]
theorem V9 (hst:St E γ S H w) (y:mY S w fr a) {f:Array Operand} {i:Array TypeId} {v:AV} (h:aq E H fr (.call ⟨.builtin .len,f,i⟩)=some v):oV E S w a (.call ⟨.builtin .len,f,i⟩) v:=by
 intro A F D z g;simp only[aq]at h;split at h<;>first|(cases h;done)|skip
 rename_i x t u p;have c:=eV hst y x;have n:f= #[x]:=by rw[←eT (xs:=f),u]
 have o:i= #[t]:=by rw[←eT (xs:=i),p]
 subst n;subst o;split at h<;>first|(cases h;done)|skip
 ·rename_i s d e
  cases h;rw[e]at c;simp only[cI]at c;refine⟨.int .i64 _, ?_,by simp only[cI];rfl⟩;simp [execOp,resolve,invoke,builtin,Builtin.len_,run_underlying (Du d),c,goInt,LU]
 ·rename_i sz l d e
  cases h;rw[e]at c;simp only[cI]at c;obtain⟨C,k,j,_⟩:=c;refine⟨.int .i64 _, ?_,by simp only[cI];rfl⟩;simp [execOp,resolve,invoke,builtin,Builtin.len_,run_underlying (mB d),j,goInt]
 ·rename_i sz b len d e
  cases h;rw[e]at c;simp only[cI]at c;obtain⟨k,B,j,_⟩:=c;refine⟨.int .i64 _, ?_,by simp only[cI];rfl⟩;simp [execOp,resolve,invoke,builtin,Builtin.len_,run_underlying (mB d),j,goInt]
 ·rename_i d e
  cases h;rw[e]at c;simp only[cI]at c;refine⟨.int .i64 _, ?_,by simp only[cI];rfl⟩;simp [execOp,resolve,invoke,builtin,Builtin.len_,run_underlying (mB d),c,goInt]
 rename_i d;cases h;refine⟨.int .i64 _, ?_,by simp only[cI];rfl⟩;simp [execOp,resolve,invoke,builtin,Builtin.len_,run_underlying (Gi d),goInt]
theorem V7 (hst:St E γ S H w) (e:mY S w fr a) {b:Array Operand} {f:Array TypeId} {v:AV} (h:aq E H fr (.call ⟨.builtin .min,b,f⟩)=some v):oV E S w a (.call ⟨.builtin .min,b,f⟩) v:=by
 intro o u p n g;simp only[aq]at h;split at h<;>first|(cases h;done)|skip
 rename_i x y l;have c:=eV hst e x;have d:=eV hst e y;have k:b= #[x,y]:=by rw[←eT (xs:=b),l]
 subst k;split at h<;>first|(cases h;done)|skip
 rename_i i j;cases h;rw[i]at c;rw[j]at d;simp only[cI]at c d;refine⟨.int _ _, ?_,by simp only[cI];rfl⟩;simp [execOp,resolve,invoke,builtin,Builtin.min_,Builtin.min2,c,d]
theorem V8 (hst:St E γ S H w) (e:mY S w fr a) {b:Array Operand} {f:Array TypeId} {v:AV} (h:aq E H fr (.call ⟨.builtin .max,b,f⟩)=some v):oV E S w a (.call ⟨.builtin .max,b,f⟩) v:=by
 intro o u p n g;simp only[aq]at h;split at h<;>first|(cases h;done)|skip
 rename_i x y l;have c:=eV hst e x;have d:=eV hst e y;have k:b= #[x,y]:=by rw[←eT (xs:=b),l]
 subst k;split at h<;>first|(cases h;done)|skip
 rename_i i j;cases h;rw[i]at c;rw[j]at d;simp only[cI]at c d;refine⟨.int _ _, ?_,by simp only[cI];rfl⟩;simp [execOp,resolve,invoke,builtin,Builtin.max_,Builtin.max2,c,d]
theorem Zn {S:gH} {w:World} {k k':AV} {b:Bool} {x y:Value} (c:cI S w k x) (d:cI S w k' y) {s:List UInt8} (e:k= .str s) (h:KR k k'=some b):
  Instr.sameNow .string x y=some b:=by
 subst e;cases k'<;>simp only[KR]at h<;>try (cases h;done)
 simp only[cI]at c d;subst c;subst d;cases h;simp only[Instr.sameNow];congr 1;rw[beq_toListBytes,xI,xI,xT]
theorem xU {S:gH} {w:World} {s:List UInt8} {x:Value} (f:cI S w (.str s) x): ∀(es:List (AV×AV)) (c:List MapEntry) (i:Nat) (r:Option (Nat×AV)),
  fS S w es c→xB (.str s) es i=some r→ ∃b,Instr.findNow .string x c i=some b∧
   (match r,b with |none,none=>True|some (j,v),some (j',v')=>j=j'∧i≤j∧(es[j-i]?).map (·.2)=some v∧cI S w v v'|_,_=>False)
 |[],c,i,r,h,hr=>by
  simp only[fS]at h;subst h;simp only[xB,Option.some.injEq]at hr;subst hr;exact⟨none,by simp [Instr.findNow],trivial⟩
 |(k',v)::es,c,i,r,h,hr=>by
  simp only[fS]at h;obtain⟨e,y,rfl,k,z,A⟩:=h;simp only[xB]at hr;split at hr<;>first|(cases hr;done)|skip
  ·rename_i d
   cases hr;refine⟨some (i,e.val), ?_, ?_⟩
   ·simp only[Instr.findNow,Zn f k rfl d]
   simp only;exact⟨by trivial,bH _,by simp,z⟩
  rename_i d;obtain⟨b,l,g⟩:=xU f es y (i+1) r A hr;refine⟨b, ?_, ?_⟩
  ·simp only[Instr.findNow,Zn f k rfl d,l]
  cases r<;>cases b<;>simp only at g⊢;obtain⟨n,B,o,u⟩:=g;refine⟨n,by omega, ?_,u⟩;rename_i p _;rw[show p.1-i=(p.1-(i+1))+1 by omega];simpa using o
theorem oI {P:Program} {c:TypeId} (d:P.underlying c=some .string) {x:Value} {b:List MapEntry} {r:Option (Nat×Value)} (h:Instr.findNow .string x b 0=some r) (w1:World):
  (Instr.findKey c x b).run P w1= .ok r w1:=by
 simp only[Instr.findKey,Sem.run_bind,run_underlying d,Result.andThen_ok,h,Sem.run_pure]
theorem nO {P:Program} {c:TypeId} (d:P.underlying c=some .string) (b:Bool) (s:ByteArray) (w1:World):(Instr.checkKey b 10000 c (.string s)).run P w1= .ok () w1:=by
 have e: ∀n:Nat,(Instr.checkKey b (n+1) c (.string s)).run P w1= .ok () w1:=fun n=>by
  simp only[Instr.checkKey,Sem.run_bind,run_underlying d,Result.andThen_ok,Sem.run_pure]
 exact e 9999
theorem yW {P:Program} {w1:World} {b c:Nat} {d:Array MapEntry} (h:w1.heap[b]?=some (.map d c)):(getObj b).run P w1= .ok (.map d c) w1:=by
 simp only[getObj,Sem.run,h]
theorem fS.of_lists: ∀{c d:List AV} {b:List MapEntry},dF S w c (b.map fun e=>e.key)→dF S w d (b.map fun e=>e.val)→fS S w (c.zip d) b
 |[],_,b,h,_=>by
  simp only[dF,List.map_eq_nil_iff]at h;subst h;simp only[List.zip_nil_left,fS]
 |k::c,[],b,h,h'=>by
  simp only[dF,List.map_eq_nil_iff]at h';subst h';simp only[List.zip_nil_right,fS]
 |k::c,x::d,b,h,h'=>by
  cases b with
  |nil=>
   simp only[dF,dI]at h;obtain⟨_,_,e,_⟩:=h;cases e
  |cons m b=>
   simp only[dF,cU]at h h';obtain⟨u,o,e,g,j⟩:=h;obtain⟨n,p,f,i,l⟩:=h';simp only[List.cons.injEq]at e f;obtain⟨rfl,rfl⟩:=e;obtain⟨rfl,rfl⟩:=f;simp only[List.zip_cons_cons,fS];exact⟨m,b,rfl,g,i,fS.of_lists j l⟩
theorem Ru (hst:St E γ S H w) (F:mY S w fr a) {t:TypeId} {x k:Operand} {ok:Bool} {v:AV} (h:aq E H fr (.lookup t x k ok)=some v):oV E S w a (.lookup t x k ok) v:=by
 intro L ty a1 K g;have c:=eV hst F x;have l:=eV hst F k;simp only[aq]at h;split at h<;>first|(cases h;done)|skip
 rename_i X M;split at h<;>first|(cases h;done)|skip
 rename_i Z Y;split at h<;>first|(cases h;done)|skip
 rename_i es d;split at h<;>first|(cases h;done)|skip
 rename_i r V;cases h;rw[M]at l;obtain⟨z,J,N⟩:=mN Y w;have I:=CE X;have n:=Du Z;have Q:=l;simp only[cI]at l
 have R: ∃f:List MapEntry,fS S w es f∧((a.eval x= .map none∧f=[])∨ ∃b j,a.eval x= .map (some b)∧w.heap[b]?=some (.map f.toArray j)):=by
  split at d
  ·rename_i b e
   rw[e]at c;simp only[cI]at c;split at d<;>first|(cases d;done)|skip
   rename_i y;cases d;have G:=(hst.obj _ _ y).1;simp only[jQ]at G;obtain⟨f,j,o,u⟩:=G;exact⟨f.toList,u, .inr ⟨b,j,c,o⟩⟩
  ·rename_i e
   rw[e]at c;simp only[cI]at c;cases d;exact⟨[],by simp only[fS], .inl ⟨c,rfl⟩⟩
  ·rename_i e
   rw[e]at c;simp only[cI]at c;cases d;obtain⟨b,hv,_,a0,j,o,u,O⟩:=c;exact⟨a0.toList,fS.of_lists u O, .inr ⟨b,j,hv,o⟩⟩
  cases d
 obtain⟨f,T,U⟩:=R;obtain⟨i,A,B⟩:=xU Q es f 0 r T V;rw[l]at A
 have W:(execOp a.eval ⟨L, .lookup t x k ok,ty,a1,K,g⟩).run E.P w= .ok (.value (if ok then .tuple #[(i.map (·.2)).getD z, .bool i.isSome]else(i.map (·.2)).getD z)) w:=by
  rcases U with⟨e,rfl⟩|⟨b,j,e,y⟩
  ·simp only[execOp,Instr.lookup,Sem.run_bind,run_underlying I,Result.andThen_ok,e,Sem.run_pure,l,nO n,oI n A]
   cases i<;>simp [J]
  simp only[execOp,Instr.lookup,Sem.run_bind,run_underlying I,Result.andThen_ok,e,Sem.run_pure,yW y,l,nO n,oI n A];cases i<;>simp [J]
 refine⟨_,W, ?_⟩;have C:cI S w (Fz z) z:=nQ S w z;rw[←N]at C
 cases r with
 |none=>
  cases i with
  |some p=>simp only at B
  |none=>
   cases ok
   ·simpa using C
   simp only[cQ,iI,jJ,eO,cI,dF];exact⟨[z, .bool false],rfl,z,[.bool false],rfl,C, .bool false,[],rfl,rfl,rfl⟩
 |some p=>
  cases i with
  |none=>simp only at B
  |some p'=>
   obtain⟨_,_,_,D⟩:=B;cases ok
   ·simpa using D
   simp only[cQ,eD,jI,gC,cI,dF];exact⟨[p'.2, .bool true],rfl,p'.2,[.bool true],rfl,D, .bool true,[],rfl,rfl,rfl⟩
theorem nP {S:gH} {w:World} {v:AV} {v':Value} {cs:List AV} (h:cI S w v v') (b:cellsOf v=some cs):dF S w cs v'.cells.toList:=by
 cases v<;>simp only[cellsOf]at b<;>cases b
 case agg=>
  simp only[cI]at h;obtain⟨vs,rfl,h⟩:=h;simpa [Value.cells]using h
 all_goals
  have c:=h;simp only[cI]at h
  have e:v'.cells= #[v']:=by
   first
    |(subst h;rfl)
    |(obtain⟨_,_,rfl,_⟩:=h;rfl)
    |(obtain⟨_,rfl,_⟩:=h;rfl)
  rw[e];simp only[dF];exact⟨v',[],rfl,c,rfl⟩
theorem Dh (off:Nat): ∀(vs:List Value) (j:Nat) (b:Array Value),off+j+vs.length≤b.size→
  ((vs.zipIdx j).foldl (fun d (c,i)=>d.setIfInBounds (off+i) c) b).toList=b.toList.take (off+j)++vs++b.toList.drop (off+j+vs.length)
 |[],j,b,_=>by simp
 |v::vs,j,b,h=>by
  simp only[aM]at h;simp only[List.zipIdx_cons,List.foldl_cons];rw[Dh off vs (j+1) _ (by simp;omega)];simp only[Array.toList_setIfInBounds];rw[show off+(j+1)=off+j+1 by omega]
  have e:(b.toList.set (off+j) v).take (off+j+1)=b.toList.take (off+j)++[v]:=by
   rw[bW (by simp;omega)];simp only[List.getElem_set_self,List.append_cancel_right_eq];apply lL;intro i;simp only[eI,hY];split
   ·rw[aJ (by omega)]
   rfl
  rw[e,List.drop_set_of_lt (by omega)];simp [gA,Nat.add_comm 1]
theorem Yj {P:Program} {S:gH} {w:World} {gs:Array Field} {places:Nat→Option (Nat×Nat)} (A: ∀(f:Nat) (g:Field) (ti:TI),gs[f]?=some g→cD P g.type=some ti→places f=some (g.offset,ti.size)) {G:Nat→Option (List AV)}:
  ∀(k:List (Nat×AV)) (e:List (Nat×Value)) (z:List AV) (b:Array Value) (r:List AV),
   k.length=e.length→(∀(i:Nat) p q,k[i]?=some p→e[i]?=some q→p.1=q.1∧cI S w p.2 q.2)→dF S w z b.toList→
   aq.abuild ⟨P,G⟩ (gs.toList.map fun f=>(f.type,f.offset)) z k=some r→ ∃n,Instr.fill places b e=some n∧dF S w r n.toList
 |[],e,z,b,r,hl,_,hz,h=>by
  cases e with
  |nil=>
   simp only[aq.abuild,Option.some.injEq]at h;subst h;exact⟨b,by simp [Instr.fill],hz⟩
  |cons=>simp at hl
 |(i,v)::k,e,z,b,r,hl,hp,hz,h=>by
  cases e with
  |nil=>simp at hl
  |cons q e=>
   obtain⟨V,l⟩:=q;obtain⟨o,u⟩:=hp 0 _ _ rfl rfl;simp only at o u;subst o;simp only[aq.abuild]at h;split at h<;>first|(cases h;done)|skip
   rename_i t off x;split at h<;>first|(cases h;done)|skip
   rename_i ti R;split at h<;>first|(cases h;done)|skip
   rename_i d I;split at h<;>first|(cases h;done)|skip
   rename_i T;rw[dM,bO]at x;obtain⟨g,K,L⟩:=x;cases L;have B:=nP u I;have y:l.cells.size=d.length:=by simpa using B.length
   have U:b.size=z.length:=by simpa using hz.length
   have N:=A i g ti (by simpa using K) R;have J:=Dh g.offset l.cells.toList 0 b (by simp [y];omega)
   have Q:dF S w (z.take g.offset++d++z.drop (g.offset+d.length)) ((l.cells.zipIdx.foldl (fun d (c,j)=>d.setIfInBounds (g.offset+j) c) b).toList):=by
    have C:(l.cells.zipIdx.foldl (fun d (c,j)=>d.setIfInBounds (g.offset+j) c) b)=(l.cells.toList.zipIdx.foldl (fun d (c,j)=>d.setIfInBounds (g.offset+j) c) b):=by
     rw[←Array.foldl_toList];simp
    rw[C,J];simp only[mV,nW,y];exact(dF.append (hz.take _) B).append (hz.drop _)
   obtain⟨n,M,O⟩:=Yj A k e _ _ r (by simpa using hl) (fun j p q D F=>hp (j+1) p q (by simpa using D) (by simpa using F)) Q h;refine⟨n, ?_,O⟩;simp only[Instr.fill,N];rw[aJ (by simp;omega)];exact M
theorem Hu {P:Program} {w1:World}: ∀(b:List Field),(b.map fun f=>(f.type,f.offset)).all (fun p=>(cD P p.1).isSome)=true→
  ∃d:List (Nat×Nat),(b.mapM (m:=Sem) fun f=>do pure (f.offset,←sizeOf f.type)).run P w1= .ok d w1∧ ∀(f:Nat) (g:Field) (ti:TI),b[f]?=some g→cD P g.type=some ti→d[f]?=some (g.offset,ti.size)
 |[],_=>⟨[],by simp,by simp⟩
 |g::b,h=>by
  simp only[cU,dZ,aX,Option.isSome_iff_exists]at h;obtain⟨⟨ti,j⟩,h⟩:=h;obtain⟨d,i,l⟩:=Hu (w1:=w1) b h;refine⟨(g.offset,ti.size)::d, ?_,fun f k n c e=>?_⟩
  ·simp only[List.mapM_cons,Sem.run_bind,gU j,Result.andThen_ok,Sem.run_pure]at i⊢
   simp only[i,Result.andThen_ok]
  cases f with
  |zero=>simp at c;subst c;rw[j]at e;cases e;rfl
  |succ f=>simp at c;simpa using l f k n c e
theorem Vx (hst:St E γ S H w) (F:mY S w fr a) {t:TypeId} {c:Array (Nat×Operand)} {v:AV} (h:aq E H fr (.build t c)=some v):oV E S w a (.build t c) v:=by
 intro X ty Z V g;simp only[aq,cV]at h;obtain⟨ti,o,h⟩:=h;split at h<;>first|(cases h;done)|skip
 rename_i Y n;split at h<;>first|(cases h;done)|skip
 rename_i D;split at h<;>first|(cases h;done)|skip
 rename_i z A;rw[bO]at h;obtain⟨r,N,rfl⟩:=h;obtain⟨k,s1,W,z1⟩:=ti;simp only at n A;subst n;subst A;obtain⟨gs,Q,rfl⟩:=Vp o;obtain⟨b,U,C⟩:=mN o w;have B:cI S w (Fz b) b:=nQ S w b;rw[←C]at B;have T:dF S w z b.cells.toList:=nP B rfl;obtain⟨l,K,L⟩:=Hu (P:=E.P) (w1:=w) gs.toList (by simpa only[Bool.not_eq_false]using D)
 have M:(gs.mapM (m:=Sem) fun f=>do pure (f.offset,←sizeOf f.type)).run E.P w= .ok l.toArray w:=by
  rw[Array.mapM_eq_mapM_toList];simp only[Sem.run_map,K,Result.andThen_ok]
 obtain⟨j,I,O⟩:=Yj (P:=E.P) (G:=E.G) (places:=fun i=>l.toArray[i]?) (gs:=gs)
  (fun f g ti d e=>by simpa using L f g ti (by simpa using d) e)
  (c.toList.map fun p=>(p.1,ev E.G fr p.2)) (c.toList.map fun p=>(p.1,a.eval p.2)) z b.cells r (by simp)
  (fun i p q d e=>by
   rw[dM,bO]at d e;obtain⟨x,R,rfl⟩:=d;obtain⟨y,u,rfl⟩:=e;rw[R]at u;cases u
   exact⟨rfl,eV hst F x.2⟩) T N
 refine⟨.agg j, ?_,by simp only[cI];exact⟨j.toList,by simp,O⟩⟩;have J:Instr.fill (fun i=>l.toArray[i]?) b.cells (c.map fun x=>(x.1,a.eval x.2)).toList=some j:=by simpa using I
 simp only[execOp,Instr.build,Sem.run_bind,U,Result.andThen_ok,run_underlying Q,M,J,Sem.run_pure]
theorem Bm (hst:St E γ S H w) (p:mY S w fr a) {x:Operand} {k t:TypeId} {v:AV} (h:aq E H fr (.typeAssert x k t true)=some v):oV E S w a (.typeAssert x k t true) v:=by
 intro I K J G g;have b:=eV hst p x;simp only[aq]at h;split at h<;>first|(cases h;done)|skip
 rename_i ti j L A B e;rw[e]at b;simp only[cI]at b;obtain⟨u,b,D⟩:=b;obtain⟨d,i,z,C,y,F,l⟩:=kG B
 have hd: ∀o,d≠ .interface o:=fun o c=>by
  subst c;exact A _ _ _ (by rw[l];rfl)
 have f:(Instr.typeAssert (.iface j u) k t true).run E.P w=if j=t then .ok (.tuple #[u, .bool true]) w else .ok (.tuple #[z, .bool false]) w:=by
  unfold Instr.typeAssert;simp only[Sem.run_bind,run_underlying C,Result.andThen_ok];cases d<;>first|(exact absurd rfl (hd _))|skip
  all_goals
   split
   ·simp
   simp [zeroValue,typeInfo,y,F]
 by_cases n:j=t
 ·simp only[bD n]at h f
  cases h;refine⟨.tuple #[u, .bool true], ?_, ?_⟩
  ·simp only[execOp,b,Sem.run_bind,Sem.run_pure,f,Result.andThen_ok]
  simp only[cI,dF];exact⟨[u, .bool true],rfl,_,_,rfl,D,_,_,rfl,rfl,rfl⟩
 simp only[aJ n]at h f;cases h;refine⟨.tuple #[z, .bool false], ?_, ?_⟩
 ·simp only[execOp,b,Sem.run_bind,Sem.run_pure,f,Result.andThen_ok]
 simp only[cI,dF];exact⟨[z, .bool false],rfl,_,_,rfl,by rw[l];exact nQ S w z,_,_,rfl,rfl,rfl⟩
theorem KO (hst:St E γ S H w) (d:mY S w fr a) {o:Op} {v:AV} (h:aq E H fr o=some v):oV E S w a o v:=by
 cases o
 case move x=>
  intro j l k i g;simp only[aq,Option.some.injEq]at h;subst h;exact⟨_,by simp [execOp],eV hst d x⟩
 case assign x=>
  intro j l k i g;simp only[aq,Option.some.injEq]at h;subst h;exact⟨_,by simp [execOp],eV hst d x⟩
 case pick c x y=>
  intro j l k i g;have f:=eV hst d c;simp only[aq]at h;split at h<;>first|(cases h;done)|skip
  rename_i b e;cases h;rw[e]at f;simp only[cI]at f;cases b
  ·exact⟨_,by simp [execOp,f,asBool],eV hst d y⟩
  exact⟨_,by simp [execOp,f,asBool],eV hst d x⟩
 case build=>exact Vx hst d h
 case load=>exact C6 hst d h
 case nilCheck=>exact Hf hst d h
 case binOp=>exact Vy hst d h
 case unOp=>exact C5 hst d h
 case convert=>exact Nh hst d h
 case makeInterface=>exact xY hst d h
 case makeFunc=>exact Hg hst d h
 case slice t x lo hi mx=>
  cases mx with
  |none=>exact Vu hst d h
  |some m=>simp [aq]at h
 case fieldAddr=>exact Fo hst d h
 case field=>exact Vw hst d h
 case indexAddr=>exact Fj hst d h
 case index=>exact Vv hst d h
 case lookup=>exact Ru hst d h
 case extract=>exact Nc hst d h
 case typeAssert x xt t ok=>
  cases ok with
  |false=>simp [aq]at h
  |true=>exact Bm hst d h
 case call c=>
  obtain⟨n,p,u⟩:=c
  cases n with
  |value=>simp [aq]at h
  |invoke=>simp [aq]at h
  |builtin b=>
   cases b<;>first
    |exact V9 hst d h
    |exact V7 hst d h
    |exact V8 hst d h
    |(simp [aq]at h;done)
 all_goals (simp [aq]at h)
end
end Go.Al
