/- Chapter 14: strings.Builder: an append of a text to bytes that are owned, and what else stays as it was. Chapter 14: strings.Builder: copyCheck and WriteString, walked: what they leave, and what they keep. Chapter 14: strings.Builder: WriteString, walked. Chapter 14: strings.Builder: String, walked. Chapter 14: strings.Builder in the little logic: what is written, and what it says at last. Chapter 14: strings.Builder's contracts in the little logic. Chapter 52: strings.Builder: WriteByte, walked; its contract. -/
import Derived.Lib.AppendStr
import Derived.Lib.Builder
import Derived.Test.YtaecpjgmcffliaaGreatDoorProg
import Derived.BigCall
import Derived.BigGuard
import Derived.Shelf.Strings.Builder1
import Derived.Test.YtaecpjgmcffliaaGreatDoorAl3
import Derived.Shelf.RegionOpen
import Derived.Test.YtaecpjgmcffliaaGreatDoorSy2
import Derived.Test.YtaecpjgmcffliaaGreatDoorAl2
set_option linter.unusedSimpArgs false
set_option linter.unusedVariables false
set_option maxRecDepth 10000
namespace Go.Al
open Go.Lib
theorem rQ (w:World) (g:Nat) (cur l:Array Value) (e:TypeId) (hg:w.heap[g]?=some (.cells cur e (0,0))) (hl:l.size=cur.size): ∀k sh,w.shape? k=some sh→(w.setRow g l).shape? k=some sh:=by
 intro k sh hs;by_cases h:k=g
 ·subst h
  have h2:=setRow_heap w k cur l e _ hg;simp only[World.shape?,hg]at hs;simp only[World.shape?,h2,hl];exact hs
 have h2:=setRow_other w g k l h;simp only[World.shape?,h2]at *;exact hs
theorem Jq {P:Program} (w:World) (t u ty e:TypeId) (i:TypeInfo) (ht:P.underlying t=some (.slice e)) (hu:P.underlying u=some .string) (hi:P.info? e=some i) (hz:i.zero=some (.int .u8 0))
  (hsize:i.size=1) (hby:i.bytes=1) (v:Value) (n:Nat) (xs:List Value) (hown:w.ownsRow 0 e 1 v n xs) (s:ByteArray) (hb:n+s.size≤140737488355328):
  ∃v' w',(Builtin.append_ #[t,u] ty #[v, .string s]).run P w= .ok v' w'∧w'.ownsRow 0 e 1 v' (n+s.size) (xs++strCells s)∧w.grownBy w' v.ownBlock∧
   (∀k sh,w.shape? k=some sh→w'.shape? k=some sh)∧(∀g,v'.ownBlock=some g→v.ownBlock=some g∨w.heap.size≤g)∧(v'= .slice none 0 0↔v= .slice none 0 0∧s.size=0):=by
 have h63:n+s.size≤maxLen:=by unfold maxLen;omega
 have grow: ∀w',w.grownBy w' none→ ∀k sh,w.shape? k=some sh→w'.shape? k=some sh:=fun w' hg k sh hs=>by
  have hk:k<w.heap.size:=by
   unfold World.shape? at hs;split at hs
   ·rename_i h;exact(Array.getElem?_eq_some_iff.1 h).1
   cases hs
  have:=hg.block k hk (by simp);simp only[World.shape?,this]at *;exact hs
 rcases hown.2 with⟨rfl,rfl⟩|⟨g,cap,cur,rfl,hbg,hg,hnc,hcm,hcs,htake⟩
 ·obtain⟨v',w',h1,h2,h3,h4⟩:=run_append_own_string (P:=P) w w.heap.size t u ty e i ht hu hi hz hsize hby _ 0 xs ⟨hown.1, .inl ⟨rfl,rfl⟩⟩ s h63 hb (bF _)
  refine⟨v',w',h1,⟨h2.1, ?_⟩,h3,grow w' h3,fun g hg=> .inr ?_,h4⟩
  ·rcases h2.2 with h|⟨g,cap,cur,q1,_,q⟩
   ·exact .inl h
   exact .inr ⟨g,cap,cur,q1,Nat.zero_le _,q⟩
  exact(h2.lt g hg).1
 have hxl:xs.length=n:=by simpa using hown.1
 have hlen:(xs++strCells s).length=(n+s.size) *1:=by rw[aI,hxl,strCells_length,Nat.mul_one]
 have hcs':cur.size=cap:=by simpa using hcs
 by_cases hroom:n+s.size≤cap
 ·have hr:=run_append_room_string (P:=P) w t u ty e i ht hu hi hsize g n cap cur hg s hroom (by omega)
  have hls:(cur.toList.take n++strCells s++cur.toList.drop (n+s.size)).toArray.size=cur.size:=by
   simp only[List.size_toArray,aI,dR,List.length_drop,Array.length_toList,strCells_length];omega
  refine⟨_,_,hr,⟨hlen, .inr ⟨g,cap,_,rfl,hbg,setRow_heap w g cur _ e _ hg,hroom,hcm,by rw[hls];exact hcs, ?_⟩⟩,⟨rfl,rfl,rfl,by simp,fun k _ hk=>setRow_other w g k _ (fun e=>hk (by simp [Value.ownBlock,e]))⟩,rQ w g cur _ e hg hls,fun _ h=> .inl h,by simp⟩;have ht':cur.toList.take n=xs:=by simpa using htake
  rw[ht',←hlen];exact List.take_left
 have hr:=run_append_grow_string (P:=P) w t u ty e i (.int .u8 0) ht hu hi hz ⟨g,0,none⟩ n cap xs (by rw[hsize];simpa using hxl) (hown.cells (g:=g) rfl) s (by omega) (by omega) (by rw[hby];exact growslice_fits (by omega) (by omega));have hge:=grownCap_ge w (n+s.size) cap e;have hg0:w.grownBy (w.drew.alloc (.cells (xs.toArray++(strCells s).toArray++Builtin.zeroCells (Value.int .u8 0).cells (grownCap w (n+s.size) cap e-(n+s.size))) e)) none:=⟨rfl,rfl,rfl,by simp,fun k hk _=>by first|exact heap_alloc_old w.drew _ hk|exact heap_alloc_old w.drew _ k hk⟩;refine⟨_,_,hr,⟨hlen, .inr ⟨w.heap.size,_,_,rfl,Nat.zero_le _,heap_alloc_new w.drew _,hge,grownCap_le_maxLen w (n+s.size) cap e h63, ?_, ?_⟩⟩,⟨rfl,rfl,rfl,by simp,fun k hk _=>by first|exact heap_alloc_old w.drew _ hk|exact heap_alloc_old w.drew _ k hk⟩,grow _ hg0,fun g' h=> .inr ?_,by simp⟩
 ·have hz1:(Value.int IntKind.u8 0).cells.size=1:=rfl
  simp only[Array.size_append,List.size_toArray,size_zeroCells,hz1,hxl,strCells_length];omega
 ·simp only[Array.toList_append,List.append_assoc]
  rw[←List.append_assoc,←hlen];exact List.take_left
 simp only[Value.ownBlock,Option.some.injEq]at h;omega
end Go.Al
namespace Go.Proofs
open Go.Lib Go.RowKit Go.Al
abbrev TB:TypeId:=73
abbrev TQ:TypeId:=71
abbrev TU:TypeId:=5
theorem Qs:(Tryz.prog.info? TQ).map (·.size)=some 2:=by kernel_rfl
theorem Q4:liesAt Tryz.prog Tryz.prog.depth TB (2/Tryz.prog.cellsOf TB) 0 TQ 1=true:=by kernel_rfl
set_option maxHeartbeats 1000000 in
set_option maxRecDepth 100000 in
theorem xR (b:Nat) (w:World) (h0:w.cell? ⟨b,0,none⟩=some (.pointer (some ⟨b,0,none⟩))):
  Calls Tryz.prog 55 #[.pointer (some ⟨b,0,none⟩)] w fun e w'=>e= .returned (.tuple #[])∧w'=w:=by
 obtain⟨j,hj,_⟩:=bH.1 Qs
 go_enter Tryz.func55,Tryz.ntmps55
 go_wp2
 rw[Lib.run_neq_ptr_same w _ Tryz.underlying68 hj]
 go_wp2
 go_end0
 exact⟨rfl,rfl⟩
set_option maxHeartbeats 1000000 in
set_option maxRecDepth 100000 in
theorem vI (b:Nat) (w:World) (h0:w.cell? ⟨b,0,none⟩=some (.pointer none)) (hsh:w.shape? b=some (TB,2)) (hfz:w.frozen? ⟨b,0,none⟩=false):
  Calls Tryz.prog 55 #[.pointer (some ⟨b,0,none⟩)] w fun e w'=>e= .returned (.tuple #[])∧w'=w.setCell ⟨b,0,none⟩ (.pointer (some ⟨b,0,none⟩)):=by
 obtain⟨j,hj,hjs⟩:=bH.1 Qs
 go_enter Tryz.func55,Tryz.ntmps55
 go_wp2
 rw[Lib.run_to_unsafe w ⟨b,0,none⟩ Tryz.underlying68 Tryz.underlying136 hj (by rw[hjs];decide) hsh (Nat.zero_lt_succ 1)];simp only[Result.andThen];rw[Oper.upon_value]
 go_wp2
 rw[run_callFunc_extern Tryz.func80 (by kernel_rfl) (by kernel_rfl) (by kernel_rfl) (e:=Extern.AbiNoEscape.same) (by kernel_rfl)];rw[Lib.run_noEscape];simp only[Result.andThen];rw[Oper.upon_value]
 go_wp2
 rw[Lib.run_from_unsafe w ⟨b,0,none⟩ Tryz.underlying136 Tryz.underlying68 hj hsh Q4];simp only[Result.andThen];rw[Oper.upon_value]
 go_wp2
 go_end0
 exact⟨rfl,rfl⟩
theorem uP (b:Nat) (p v:Value) (w:World) (hb:w.heap[b]?=some (.cells #[p,v] TB (0,0))) (hp:p= .pointer none∨p= .pointer (some ⟨b,0,none⟩)):
  Calls Tryz.prog 55 #[.pointer (some ⟨b,0,none⟩)] w fun e w'=>e= .returned (.tuple #[])∧w'.heap[b]?=some (.cells #[.pointer (some ⟨b,0,none⟩),v] TB (0,0))∧iY (fun k=>k=b) w w':=by
 have c0:w.cell? ⟨b,0,none⟩=some p:=by rw[Lib.cell_of_heap hb];rfl
 rcases hp with rfl|rfl
 ·refine(vI b w c0 (by simp [World.shape?,hb]) (Lib.frozen_of_heap hb 0)).mono ?_
  rintro e w' ⟨rfl,rfl⟩;exact⟨rfl,by simp [World.setCell,Array.getElem?_modify,hb],iY.setCell w _ _ rfl⟩
 refine(xR b w c0).mono ?_;rintro e w' ⟨rfl,rfl⟩;exact⟨rfl,hb,iY.refl _ _⟩
end Go.Proofs
namespace Go.Proofs
open Go.Lib Go.RowKit Go.Al
theorem Bc:(Tryz.prog.info? TU).map (fun i=>(i.zero,i.size,i.bytes))=some (some (.int .u8 0),1,1):=by kernel_rfl
theorem qS {P:Program} {w:World} {ops:Array Oper} {rest:List Oper} {o:Oper} {a:Act} {Q:Exit→Act→World→Prop} (hgd:o.guard=none) (sl x:Operand) (t u:TypeId)
  (ho:o.op= .call {callee:= .builtin .append,args:= #[sl,x],argTypes:= #[t,u]})
  (e:TypeId) (i:TypeInfo) (ht:P.underlying t=some (.slice e)) (hu:P.underlying u=some .string) (hi:P.info? e=some i) (hz:i.zero=some (.int .u8 0))
  (hsize:i.size=1) (hby:i.bytes=1)
  (v:Value) (n:Nat) (xs:List Value) (hs:a.eval sl=v) (hown:w.ownsRow 0 e 1 v n xs) (s:ByteArray) (hx:a.eval x= .string s) (hb:n+s.size≤140737488355328)
  (h: ∀v' w',w'.ownsRow 0 e 1 v' (n+s.size) (xs++strCells s)→w.grownBy w' v.ownBlock→(∀k sh,w.shape? k=some sh→w'.shape? k=some sh)→(∀g,v'.ownBlock=some g→v.ownBlock=some g∨w.heap.size≤g)→(v'= .slice none 0 0↔v= .slice none 0 0∧s.size=0)→wpList P ops Q rest (a.put o.dst v') w'):wpList P ops Q (o::rest) a w:=by
 refine wpList_plain hgd fun K Y=>?_;obtain⟨v',w',hr,h2,h3,h4,h5,h6⟩:=Jq (P:=P) w t u o.type e i ht hu hi hz hsize hby v n xs hown s hb;unfold Oper.wp execOp;simp only[ho,resolve,invoke,builtin,Sem.run_bind,Sem.run_pure,Result.andThen_ok,List.map_toArray,List.map_cons,List.map_nil,hs,hx,hr];exact Y _ _ (h v' w' h2 h3 h4 h5 h6)
theorem Bl {M:Nat→Prop} {w w':World} {r:Option Nat} (h:w.grownBy w' r) (hs: ∀k sh,w.shape? k=some sh→w'.shape? k=some sh) (hr: ∀k,r=some k→M k):iY M w w':=
 ⟨h.os,h.tape,h.output,h.size,fun k hk hn=>h.block k hk fun e=>hn (hr k e.symm),hs⟩
set_option maxHeartbeats 2000000 in
set_option maxRecDepth 100000 in
theorem zE (b:Nat) (p v:Value) (n:Nat) (xs:List Value) (s:ByteArray) (w:World) (hb:w.heap[b]?=some (.cells #[p,v] TB (0,0))) (hp:p= .pointer none∨p= .pointer (some ⟨b,0,none⟩))
  (hown:w.ownsRow 0 TU 1 v n xs) (hlen:n+s.size≤140737488355328):
  Calls Tryz.prog 29 #[.pointer (some ⟨b,0,none⟩), .string s] w fun e w'=>e= .returned (.tuple #[.int .i64 s.size, .nilIface])∧
   ∃v',w'.heap[b]?=some (.cells #[.pointer (some ⟨b,0,none⟩),v'] TB (0,0))∧w'.ownsRow 0 TU 1 v' (n+s.size) (xs++strCells s)∧
    iY (fun k=>k=b∨v.ownBlock=some k) w w'∧(∀g,v'.ownBlock=some g→v.ownBlock=some g∨w.heap.size≤g)∧(v'= .slice none 0 0↔v= .slice none 0 0∧s.size=0):=by
 obtain⟨i0,hi,hz0,hz1,hz2⟩:=info_parts Bc;have hne:TB≠TU:=by decide
 have hnb:v.ownBlock≠some b:=Lib.ownBlock_ne hown hb hne
 go_enter Tryz.func29,Tryz.ntmps29
 go_wp2_with (go_at_call 55;refine(uP b p v _ hb hp).mono ?_)
 rintro e w1 ⟨rfl,hb1,he1⟩;have hown1:w1.ownsRow 0 TU 1 v n xs:=hown.kept (row:=some b) ⟨he1.os,he1.tape,he1.output,he1.size,fun k hk hn=>he1.keep k hk (fun e=>hn (by rw[e]))⟩ (.inr hnb);have c0:w1.cell? ⟨b,0,none⟩=some (.pointer (some ⟨b,0,none⟩)):=by rw[Lib.cell_of_heap hb1];rfl
 have c1:w1.cell? ⟨b,1,none⟩=some v:=by rw[Lib.cell_of_heap hb1];rfl
 go_wp2_with (at_builtin;refine qS rfl _ _ 69 9 rfl TU i0 Tryz.underlying69 Tryz.underlying9 hi hz0 hz1 hz2 _ _ _ rfl hown1 s rfl hlen ?_)
 intro v' w2 hown' hgrow hshp hnew hnil;have hlt:b<w1.heap.size:=(Array.getElem?_eq_some_iff.1 hb1).1
 have hb2:w2.heap[b]?=some (.cells #[.pointer (some ⟨b,0,none⟩),v] TB (0,0)):=by
  rw[hgrow.block b hlt (fun e=>hnb e.symm)];exact hb1
 have d0:w2.cell? ⟨b,0,none⟩=some (.pointer (some ⟨b,0,none⟩)):=by rw[Lib.cell_of_heap hb2];rfl
 have d1:w2.cell? ⟨b,1,none⟩=some v:=by rw[Lib.cell_of_heap hb2];rfl
 have f1:w2.frozen? ⟨b,1,none⟩=false:=Lib.frozen_of_heap hb2 1
 obtain⟨ao,n',cap,rfl⟩: ∃ao n' cap,v'= .slice ao n' cap:=by
  rcases hown'.2 with⟨hv,_⟩|⟨g,cap,cur,hv,_⟩
  ·exact⟨_,_,_,hv⟩
  exact⟨_,_,_,hv⟩
 have hnb':(Value.slice ao n' cap).ownBlock≠some b:=Lib.ownBlock_ne hown' hb2 hne;have hsz:=he1.size
 go_wp2
 go_ret2
 refine⟨rfl, .slice ao n' cap,by simp [World.setCell,Array.getElem?_modify,hb2], ?_, ?_, ?_,by simpa using hnil⟩
 ·exact hown'.kept (row:=some b) ⟨rfl,rfl,rfl,by simp [World.setCell],fun k _ hk=>Below.heap_setCell _ _ _ _ (fun e=>hk (by simp [e]))⟩ (.inr hnb')
 ·exact((he1.mono fun _ _ h=> .inl h).trans (Bl hgrow (fun k sh=>hshp k sh.1 sh.2) fun k h=> .inr h)).trans (iY.setCell w2 _ _ (.inl rfl))
 intro g hg;rcases hnew g hg with h|h
 ·exact .inl h
 exact .inr (by omega)
end Go.Proofs
namespace Go.Proofs
open Go.Lib Go.RowKit Go.Al
theorem H7:Tryz.prog.cellsOf TU=1:=by kernel_rfl
set_option maxHeartbeats 1000000 in
set_option maxRecDepth 100000 in
theorem Yy (b g cap:Nat) (p:Value) (l:List UInt8) (w:World) (h0:l≠[]) (hb:w.heap[b]?=some (.cells #[p, .slice (some ⟨g,0,none⟩) l.length cap] TB (0,0)))
  (cur:Array Value) (hg:w.heap[g]?=some (.cells cur TU (0,0))) (hcs:cur.size=cap) (hnc:l.length≤cap) (hcm:cap≤maxLen) (hcell: ∀(j:Nat) (x:UInt8),l[j]?=some x→cur[j]?=some (.int .u8 x.toNat)):
  Calls Tryz.prog 30 #[.pointer (some ⟨b,0,none⟩)] w fun e w'=>e= .returned (.string ⟨l.toArray⟩)∧w'=w.drew.freeze ⟨g,0,none⟩ l.length:=by
 have hl0:l.length≠0:=by simpa using h0
 have c1:w.drew.cell? ⟨b,1,none⟩=some (.slice (some ⟨g,0,none⟩) l.length cap):=by
  have :w.drew.heap[b]?=some (.cells #[p, .slice (some ⟨g,0,none⟩) l.length cap] TB (0,0)):=hb;rw[Lib.cell_of_heap this];rfl
 have hSD:(Builtin.unsafeSliceData_ #[69] 110 #[.slice (some ⟨g,0,none⟩) l.length cap]).run Tryz.prog w.drew= .ok (.pointer (some ⟨g,0,none⟩)) w.drew:=
  Lib.run_unsafeSliceData_row _ _ _ _ _ _ (by omega)
 have hg':w.drew.heap[g]?=some (.cells cur TU (0,0)):=hg
 have hUS:(Builtin.unsafeString_ #[110,3] 9 #[.pointer (some ⟨g,0,none⟩), .int .i64 l.length]).run Tryz.prog w.drew= .ok (.string ⟨l.toArray⟩) (w.drew.freeze ⟨g,0,none⟩ l.length):=by
  refine Lib.run_unsafeString_row w.drew 110 3 9 TU Tryz.underlying110 H7 g cur.size (by simp [World.shape?,hg']) l h0 (by omega) (by unfold maxLen at hcm;omega) ?_;intro j x hx;rw[Addr.add_lit,Lib.cell_of_heap hg',Nat.zero_add];exact hcell j x hx
 clear hg hg' hcell hcs hcm hnc
 go_enter Tryz.func30,Tryz.ntmps30
 go_wp2
 go_region
 all_goals (go_wp2;go_ret;exact⟨rfl,rfl⟩)
set_option maxHeartbeats 1000000 in
set_option maxRecDepth 100000 in
theorem Dn (b:Nat) (p:Value) (w:World) (hb:w.heap[b]?=some (.cells #[p, .slice none 0 0] TB (0,0))):
  Calls Tryz.prog 30 #[.pointer (some ⟨b,0,none⟩)] w fun e w'=>e= .returned (.string ⟨#[]⟩)∧w'=w.drew:=by
 have c1:w.drew.cell? ⟨b,1,none⟩=some (.slice none 0 0):=by
  have :w.drew.heap[b]?=some (.cells #[p, .slice none 0 0] TB (0,0)):=hb;rw[Lib.cell_of_heap this];rfl
 have hSD:(Builtin.unsafeSliceData_ #[69] 110 #[.slice none 0 0]).run Tryz.prog w.drew= .ok (.pointer none) w.drew:=rfl;have hUS: ∀(W:World) (q:Option Addr),(Builtin.unsafeString_ #[110,3] 9 #[.pointer q, .int .i64 0]).run Tryz.prog W= .ok (.string .empty) W:=fun W q=>Lib.run_unsafeString_none W _ _ _ q
 go_enter Tryz.func30,Tryz.ntmps30
 go_wp2
 go_region
 all_goals (go_wp2;go_ret;exact⟨rfl,rfl⟩)
end Go.Proofs
namespace Go.Al
open Go.Proofs Go.Lib Go.RowKit
def gP (b:Nat) (bs:List UInt8) (H:Hp):Prop:=
 (bs=[]∧H b=some (.bld TB none 0))∨(bs≠[]∧ ∃g cap,H b=some (.bld TB (some (g,cap)) bs.length)∧H g=some (.buf TU bs cap))
def Kr (b:Nat) (bs:List UInt8) (H:Hp):Prop:=
 (bs=[]∧H=upd lG b (some (.bld TB none 0)))∨(bs≠[]∧ ∃g cap,g≠b∧H=upd (upd lG b (some (.bld TB (some (g,cap)) bs.length))) g (some (.buf TU bs cap)))
def fC:iG→Prop
 | .rows _ _=>True
 | .amap _=>True
 |_=>False
theorem Kr.h {b:Nat} {bs:List UInt8} {H:Hp} (h:Kr b bs H):gP b bs H:=by
 rcases h with⟨e,rfl⟩|⟨e,g,cap,hg,rfl⟩
 ·exact .inl ⟨e,aS _ _ _⟩
 exact .inr ⟨e,g,cap,by rw[dK _ _ (Ne.symm hg),aS],aS _ _ _⟩
theorem gP.ne {b:Nat} {bs:List UInt8} {H:Hp} {g cap:Nat} (h1:H b=some (.bld TB (some (g,cap)) bs.length)) (h2:H g=some (.buf TU bs cap)):g≠b:=fun e=>by
 rw[e,h1]at h2;cases h2
theorem gP.least {b:Nat} {bs:List UInt8} {H:Hp} (h:gP b bs H): ∃H0,Kr b bs H0∧mQ H0 H∧ ∀x o,H x=some o→fC o→H0 x=none:=by
 rcases h with⟨e,h1⟩|⟨e,g,cap,h1,h2⟩
 ·refine⟨_, .inl ⟨e,rfl⟩,fun x o hx=>?_,fun x o hx hp=>?_⟩
  ·by_cases c:x=b
   ·subst c;rw[aS]at hx;rw[h1];exact hx
   rw[dK _ _ c]at hx;cases hx
  by_cases c:x=b
  ·subst c;rw[h1]at hx;cases hx;exact hp.elim
  rw[dK _ _ c];rfl
 have hg:=gP.ne h1 h2;refine⟨_, .inr ⟨e,g,cap,hg,rfl⟩,fun x o hx=>?_,fun x o hx hp=>?_⟩
 ·by_cases c:x=g
  ·subst c;rw[aS]at hx;rw[h2];exact hx
  rw[dK _ _ c]at hx;by_cases c2:x=b
  ·subst c2;rw[aS]at hx;rw[h1];exact hx
  rw[dK _ _ c2]at hx;cases hx
 have c:x≠g:=fun c=>by subst c;rw[h2]at hx;cases hx;exact hp
 have c2:x≠b:=fun c=>by subst c;rw[h1]at hx;cases hx;exact hp
 rw[dK _ _ c,dK _ _ c2];rfl
theorem gP.keep {b:Nat} {bs:List UInt8} {H H':Hp} (h:gP b bs H) (hk: ∀x o,H x=some o→ ¬fC o→H' x=some o):gP b bs H':=by
 rcases h with⟨e,h1⟩|⟨e,g,cap,h1,h2⟩
 ·exact .inl ⟨e,hk _ _ h1 (fun h=>h)⟩
 exact .inr ⟨e,g,cap,hk _ _ h1 (fun h=>h),hk _ _ h2 (fun h=>h)⟩
theorem gP.new {b:Nat} {bs:List UInt8} {H:Hp} (h:gP b bs H) {x:Nat} (hx:H x=none) (o:Option iG):gP b bs (upd H x o):=
 h.keep fun y o' hy _=>by rw[dK _ _ (fun e=>by subst e;rw[hx]at hy;cases hy)];exact hy
theorem gP.new2 {b:Nat} {bs:List UInt8} {H:Hp} (h:gP b bs H) {x:Nat} (hx:H x=none) (o o':Option iG):gP b bs (upd (upd H x o) x o'):=
 h.keep fun y o2 hy _=>by
  have c:y≠x:=fun e=>by subst e;rw[hx]at hy;cases hy
  rw[dK _ _ c,dK _ _ c];exact hy
theorem gP.set {b:Nat} {bs:List UInt8} {H:Hp} (h:gP b bs H) {x:Nat} {o:iG} (hx:H x=some o) (hp:fC o) (o':Option iG):gP b bs (upd H x o'):=
 h.keep fun y o2 hy hn=>by rw[dK _ _ (fun e=>by subst e;rw[hx]at hy;cases hy;exact hn hp)];exact hy
def Fe (E:fR) (g:FuncId) (args:List AV) (b:Nat) (bs:List UInt8) (v:AV) (out:List UInt8):Prop:= ∀H0,Kr b bs H0→rK E g args H0 (fun ae H'=>ae= .ret v∧Kr b (bs++out) H')
theorem yL {E:fR} {F:Nat→Prop} {ds:List (Option Nat)} {Q:dN} {d:Option Nat} {rest:List Oper} {fr:Fr} {H:Hp} {g:FuncId} {args args':List AV} {b:Nat} {bs out:List UInt8} {v:AV}
  (hc:Fe E g args' b bs v out) (hb:gP b bs H) (hs:cY args args') (hF: ∀x o,H x=some o→ ¬fC o→F x) (h: ∀H2,gP b (bs++out) H2→(∀x o,H x=some o→fC o→H2 x=some o)→(∀x o,H2 x=some o→fC o→H x=some o)→cI E F ds Q rest (dF fr d v) H2):oJ E F ds Q d rest fr H g args:=by
 obtain⟨H0,hm,hsub',hpl⟩:=hb.least
 refine jH (hc H0 hm) hs hsub' (fun x hx=>by
  cases e:H0 x with
  |none=>exact absurd e hx
  |some o=>exact hF x o (hsub' x o e) fun hp=>by rw[hpl x o (hsub' x o e) hp]at e;cases e) fun ae H' ⟨e,hm'⟩ hnew=>?_
 subst e
 have nopl: ∀x o,H' x=some o→ ¬fC o:=fun x o hx hp=>by
  rcases hm' with⟨_,rfl⟩|⟨_,g,cap,hg,rfl⟩
  ·by_cases c:x=b
   ·subst c;rw[aS]at hx;cases hx;exact hp
   rw[dK _ _ c]at hx;cases hx
  by_cases c:x=g
  ·subst c;rw[aS]at hx;cases hx;exact hp
  rw[dK _ _ c]at hx;by_cases c2:x=b
  ·subst c2;rw[aS]at hx;cases hx;exact hp
  rw[dK _ _ c2]at hx;cases hx
 refine h _ (hm'.h.keep fun x o hx _=>by simp only[gA,hx]) (fun x o hx hp=>?_) (fun x o hx hp=>?_)
 ·have h0:=hpl x o hx hp
  have h1:H' x=none:=by
   cases e:H' x with
   |none=>rfl
   |some o'=>
    rcases hnew x (by rw[e];simp)with c|c
    ·exact absurd h0 c
    rw[hx]at c;cases c
  simp only[gA,h1,h0,Option.isSome_none,Bool.false_eq_true,if_false,hx]
 unfold gA at hx;split at hx
 ·rename_i o' e
  cases hx;exact absurd hp (nopl _ _ e)
 split at hx
 ·cases hx
 exact hx
theorem Ux {E:fR} {F:Nat→Prop} {ds:List (Option Nat)} {Q:dN} {d:Option Nat} {rest:List Oper} {fr:Fr} {H:Hp} {g:FuncId} {args args':List AV} {b:Nat} {bs out:List UInt8} {v:AV}
  (hc:Fe E g args' b bs v out) (hb:gP b bs H) (hs:cY args args') (hF: ∀b,F b) (h: ∀H2,gP b (bs++out) H2→(∀x o,H x=some o→fC o→H2 x=some o)→(∀x o,H2 x=some o→fC o→H x=some o)→cI E F ds Q rest (dF fr d v) H2):oJ E F ds Q d rest fr H g args:=by
 exact yL hc hb hs (fun x _ _ _=>hF x) h
theorem nP {E:fR} {F:Nat→Prop} {ds:List (Option Nat)} {Q:dN} {d:Option Nat} {rest:List Oper} {fr:Fr} {H:Hp} {g:FuncId} {args args':List AV} {b:Nat} {bs out:List UInt8} {v:AV}
  (hb:gP b bs H) (hc:Fe E g args' b bs v out) (hs:cY args args') (hF: ∀x o,H x=some o→ ¬fC o→F x) (h: ∀H2,gP b (bs++out) H2→(∀x o,H x=some o→fC o→H2 x=some o)→(∀x o,H2 x=some o→fC o→H x=some o)→cI E F ds Q rest (dF fr d v) H2):oJ E F ds Q d rest fr H g args:=
 yL hc hb hs hF h
theorem dS {E:fR} {F:Nat→Prop} {ds:List (Option Nat)} {Q:dN} {d:Option Nat} {rest:List Oper} {fr:Fr} {H:Hp} {g:FuncId} {args args':List AV} {b:Nat} {bs out:List UInt8} {v:AV}
  (hb:gP b bs H) (hc:Fe E g args' b bs v out) (hs:cY args args') (hF: ∀b,F b) (h: ∀H2,gP b (bs++out) H2→(∀x o,H x=some o→fC o→H2 x=some o)→(∀x o,H2 x=some o→fC o→H x=some o)→cI E F ds Q rest (dF fr d v) H2):oJ E F ds Q d rest fr H g args:=
 Ux hc hb hs hF h
theorem gP.gives {b:Nat} {bs:List UInt8} {H:Hp} {v v':AV} (h:gP b bs H) (e:v=v'):bB (fun ae H'=>ae= .ret v'∧Kr b bs H') v H:=by
 obtain⟨H0,hm,hs,_⟩:=h.least;exact⟨v,H0,fZ.drop hs,by rw[e],hm⟩
theorem Q5 {E:fR} {N id d:Nat} {ty:TypeId} {pos:String} {af:Array Edge} {T:TypeId} {ti:TI} {Q:dN} {fr:Fr} {H:Hp} (hd:iI N ⟨some d, .alloc T,ty,pos,af,none⟩=true) (ht:bP E.P T=some ti) (hz:cellsOf ti.zero=some [.npt, .nsl])
  (h: ∀b,H b=none→Q .normal (upd fr d (.ptr 2 b 0 0)) (upd H b (some (.bld T none 0)))):jV E N (.region id #[⟨some d, .alloc T,ty,pos,af,none⟩] false) Q fr H:=fun γ a w hs=>by
 obtain⟨h1,h2,S,hst,hf⟩:=hs;refine wp_region_list (wpList_plain rfl fun K Y=>?_);obtain⟨z,hz',ez⟩:=gJ ht w;have hl:=hO (iD S w z) (by rw[←ez];exact hz);simp only[bW,bO]at hl;obtain⟨u1,us,e1,rfl,u2,us2,rfl,rfl,rfl⟩:=hl
 have hr:(execOp a.eval ⟨some d, .alloc T,ty,pos,af,none⟩).run E.P w= .ok (.value (.pointer (some ⟨w.heap.size,0,none⟩))) (w.alloc (.cells #[.pointer none, .slice none 0 0] T)):=by
  have e2:z.cells= #[.pointer none, .slice none 0 0]:=by rw[←Array.toArray_toList (xs:=z.cells),e1]
  simp only[execOp,Instr.alloc,Sem.run_bind,hz',Result.andThen_ok,newVar,newRow,run_newObj,Sem.run_pure,e2];rfl
 obtain⟨f1,f2,f3⟩:=hst.alloc (ob:= .cells #[.pointer none, .slice none 0 0] T) (o:= .bld T none 0) (by simp only[eR];exact⟨_,heap_alloc_new w _, .inl rfl⟩);simp only[Oper.wp,hr,Oper.upon_value];refine Y _ _ ?_;exact⟨_,_,Ff.put (o:=⟨some d, .alloc T,ty,pos,af,none⟩) f3 (hf.keeps f2) h1 h2 hd (v:= .ptr 2 w.heap.size 0 0) (by simp only[bO]),h _ f1⟩
end Go.Al
namespace Go.Al
open Go.Proofs Go.Lib Go.RowKit Go.Proofs.YtaecpjgmcffliaaGreatDoor
theorem Og (bs:List UInt8) (s:List UInt8):(bs.map fun c=>Value.int .u8 (c.toNat:Int))++strCells ⟨s.toArray⟩=(bs++s).map fun c=>Value.int .u8 (c.toNat:Int):=by
 rw[List.map_append];rfl
theorem Qr {S:dL} {w:World} {g cap:Nat} {bs:List UInt8} (h:eR S w g (.buf TU bs cap)):w.ownsRow 0 TU 1 (.slice (some ⟨g,0,none⟩) bs.length cap) bs.length (bs.map fun c=>Value.int .u8 (c.toNat:Int)):=by
 simp only[eR]at h;obtain⟨cur,h1,h2,h3,h4,h5⟩:=h;refine⟨by simp, .inr ⟨g,cap,cur,rfl,Nat.zero_le _,h1,h3,h4,by omega, ?_⟩⟩;apply List.ext_getElem?;intro i;rw[Nat.mul_one,List.getElem?_take,cE];split
 ·rename_i hi
  obtain⟨c,hc⟩: ∃c,bs[i]?=some c:=⟨_,aG hi⟩;have:=h5 i c hc;rw[Array.getElem?_toList,this,hc];rfl
 rw[List.getElem?_eq_none (by omega)];rfl
theorem Py {S:dL} {w:World} {v:Value} {bs:List UInt8} (hne:v≠ .slice none 0 0) (h:w.ownsRow 0 TU 1 v bs.length (bs.map fun c=>Value.int .u8 (c.toNat:Int))): ∃g cap,v= .slice (some ⟨g,0,none⟩) bs.length cap∧eR S w g (.buf TU bs cap):=by
 rcases h.2 with⟨h,_⟩|⟨g,cap,cur,rfl,_,h1,h2,h3,h4,h5⟩
 ·exact absurd h hne
 refine⟨g,cap,rfl, ?_⟩;simp only[eR];refine⟨cur,h1,by omega,h2,h3,fun i c hc=>?_⟩;have hi:i<bs.length:=(bV.1 hc).1;have:=congrArg (·[i]?) h5;simp only[Nat.mul_one,List.getElem?_take,hi,if_true,cE,hc,Option.map_some,Array.getElem?_toList]at this;exact this
theorem wE {γ:gD} {S:dL} {H:Hp} {w w':World} (hst:St cG γ S H w) {M:Nat→Prop} (hx:iY M w w') (hM: ∀k,M k→H k≠none) {H':Hp} (hH: ∀b o,H' b=some o→eR S w' b o∧(H b≠none∨w.heap.size≤b)):St cG γ S H' w':=
 hst.step hx (fun k h _=>hM k h) (fun _ h=>h) (fun k hk=>Nat.lt_of_lt_of_le (hst.lt k hk) hx.size) (fun k hk=> .inl hk) fun b o hb=>by
  obtain⟨h1,h2⟩:=hH b o hb;refine⟨fun hs=>?_, .inr ⟨h1,h2⟩⟩;rcases h2 with h2|h2
  ·cases e:H b with
   |none=>exact h2 e
   |some o'=>exact(hst.obj b o' e).2.1 hs
  exact Nat.lt_irrefl _ (Nat.lt_of_lt_of_le (hst.lt b hs) h2)
theorem cT (b:Nat) (bs s:List UInt8) (hl:(bs++s).length≤140737488355328):Fe cG 29 [.ptr 2 b 0 0, .str s] b bs (.tup [.int .i64 (s.length:Nat), .nif]) s:=by
 intro H0 hm;refine⟨⟨_,Tryz.func29,by kernel_rfl,by kernel_rfl⟩,fun w S vs hst ha=>?_⟩;simp only[bW,bO]at ha;obtain⟨_,_,rfl,rfl,_,_,rfl,rfl,rfl⟩:=ha;have hsz:(⟨s.toArray⟩:ByteArray).size=s.length:=rfl
 -- the builder's block, and its buffer
 obtain⟨p,v,h1,hp,hown,hv0,hvb,hd⟩: ∃p v,w.heap[b]?=some (.cells #[p,v] TB (0,0))∧(p= .pointer none∨p= .pointer (some ⟨b,0,none⟩))∧w.ownsRow 0 TU 1 v bs.length (bs.map fun c=>Value.int .u8 (c.toNat:Int))∧(v= .slice none 0 0↔bs=[])∧(∀g,v.ownBlock=some g→H0 g≠none)∧H0 b≠none:=by
  rcases hm with⟨rfl,rfl⟩|⟨e,g,cap,hg,rfl⟩
  ·have ho:=(hst.obj b _ (aS _ _ _)).1
   simp only[eR]at ho;obtain⟨p,h1,h2⟩:=ho;exact⟨p,_,h1,h2,⟨rfl, .inl ⟨rfl,rfl⟩⟩,by simp,fun g h=>(by simp [Value.ownBlock]at h),by rw[aS];simp⟩
  have ho:=(hst.obj b (.bld TB (some (g,cap)) bs.length) (by rw[dK _ _ (Ne.symm hg),aS])).1;have ho2:=(hst.obj g _ (aS _ _ _)).1;have hw:=Qr ho2;simp only[eR]at ho;obtain⟨p,h1,h2⟩:=ho;refine⟨p,_,h1,h2,hw,by simp [e],fun g' h=>?_,by rw[dK _ _ (Ne.symm hg),aS];simp⟩;simp only[Value.ownBlock,Option.some.injEq]at h;subst h;rw[aS];simp
 have hb:=zE b p v bs.length _ ⟨s.toArray⟩ w h1 hp hown (by rw[hsz,←aI];exact hl);rw[Og,hsz]at hb;refine hb.mono fun e w' ⟨e1,v',q1,q2,q3,q4,q5⟩=>?_
 have hM: ∀k,(k=b∨v.ownBlock=some k)→H0 k≠none:=fun k hk=>by
  rcases hk with rfl|hk
  ·exact hd
  exact hvb k hk
 have er:nW S w' (.ret (.tup [.int .i64 (s.length:Nat), .nif])) e:=by
  subst e1;simp only[nW,bO,bW];exact⟨_,rfl,_,rfl,_,_,rfl,rfl,_,_,rfl,rfl,rfl⟩
 by_cases hn:bs++s=[]
 ·have hv':v'= .slice none 0 0:=q5.2 ⟨hv0.2 (List.append_eq_nil_iff.1 hn).1,by have:=(List.append_eq_nil_iff.1 hn).2;simp [this]⟩
  subst hv';refine⟨_,_,S,wE hst q3 hM (H':=upd lG b (some (.bld TB none 0))) fun x o hx=>?_,er,rfl, .inl ⟨hn,rfl⟩⟩;by_cases c:x=b
  ·subst c
   rw[aS]at hx;cases hx;exact⟨by simp only[eR];exact⟨_,q1, .inr rfl⟩, .inl hd⟩
  rw[dK _ _ c]at hx;cases hx
 have hv':v'≠ .slice none 0 0:=fun e=>by
  obtain⟨a1,a2⟩:=q5.1 e;rw[hv0]at a1;rw[List.length_eq_zero_iff]at a2;exact hn (by rw[a1,a2];rfl)
 rw[←aI]at q2;obtain⟨g,cap,rfl,ho⟩:=Py (S:=S) hv' q2;have hgb:g≠b:=fun e=>Lib.ownBlock_ne q2 q1 (by decide) (by simp [Value.ownBlock,e]);refine⟨_,_,S,wE hst q3 hM (H':=upd (upd lG b (some (.bld TB (some (g,cap)) (bs++s).length))) g (some (.buf TU (bs++s) cap))) fun x o hx=>?_,er,rfl, .inr ⟨hn,g,cap,hgb,rfl⟩⟩;by_cases c:x=g
 ·subst c
  rw[aS]at hx;cases hx;refine⟨ho, ?_⟩;rcases q4 x rfl with h|h
  ·exact .inl (hvb x h)
  exact .inr h
 rw[dK _ _ c]at hx;by_cases c2:x=b
 ·subst c2
  rw[aS]at hx;cases hx;exact⟨by simp only[eR];exact⟨_,q1, .inr rfl⟩, .inl hd⟩
 rw[dK _ _ c2]at hx;cases hx
theorem Oq (b:Nat) (bs:List UInt8) (H0:Hp) (hm:Kr b bs H0):rK cG 30 [.ptr 2 b 0 0] H0 (fun ae H'=>ae= .ret (.str bs)∧H'=lG):=by
 refine⟨⟨_,Tryz.func30,by kernel_rfl,by kernel_rfl⟩,fun w S vs hst ha=>?_⟩;simp only[bW,bO]at ha;obtain⟨_,_,rfl,rfl,rfl⟩:=ha
 have er: ∀w' e,e= .returned (.string ⟨bs.toArray⟩)→nW S w' (.ret (.str bs)) e:=fun w' e h=>by
  simp only[nW,bO];exact⟨_,h,rfl⟩
 rcases hm with⟨rfl,rfl⟩|⟨e,g,cap,hg,rfl⟩
 ·have ho:=(hst.obj b _ (aS _ _ _)).1
  simp only[eR]at ho;obtain⟨p,h1,_⟩:=ho;refine(Dn b p w h1).mono fun e w' ⟨e1,e2⟩=>⟨_,lG,S, ?_,er w' e e1,rfl,rfl⟩;subst e2;exact wE hst (M:=fun _=>False) (iY.drew _ w) (fun _ h=>h.elim) fun x o hx=>by cases hx
 have ho:=(hst.obj b (.bld TB (some (g,cap)) bs.length) (by rw[dK _ _ (Ne.symm hg),aS])).1;have ho2:=(hst.obj g _ (aS _ _ _)).1;simp only[eR]at ho ho2;obtain⟨p,h1,_⟩:=ho;obtain⟨cur,h2,h3,h4,h5,h6⟩:=ho2;refine(Yy b g cap p bs w e h1 cur h2 h3 h4 h5 h6).mono fun e w' ⟨e1,e2⟩=>⟨_,lG,S, ?_,er w' e e1,rfl,rfl⟩;subst e2;refine wE hst (M:=fun k=>k=g) ?_ (fun k h=>by subst h;rw[aS];simp) fun x o hx=>by cases hx
 refine(iY.drew _ w).trans ?_
 have hf: ∀k,k≠g→(w.drew.freeze ⟨g,0,none⟩ bs.length).heap[k]?=w.drew.heap[k]?:=fun k hk=>by
  unfold World.freeze;split
  ·rfl
  simp only[Array.getElem?_modify];rw[if_neg (Ne.symm hk)]
 refine⟨?_, ?_, ?_, ?_,fun k _ hk=>hf k hk,fun k sh hs=>?_⟩
 ·unfold World.freeze;split<;>rfl
 ·unfold World.freeze;split<;>rfl
 ·unfold World.freeze;split<;>rfl
 ·unfold World.freeze;split<;>simp
 by_cases hk:k=g
 ·subst hk
  have h2':w.drew.heap[k]?=some (.cells cur TU (0,0)):=h2;unfold World.freeze;split
  ·exact hs
  have hs':w.shape? k=some sh:=hs;simp only[World.shape?,h2]at hs';simp only[World.shape?,Array.getElem?_modify,if_true,h2',Option.map_some];exact hs'
 rw[mH (hf k hk)];exact hs
end Go.Al
namespace Go.Al
open Go.Lib
theorem Jr {P:Program} (w:World) (t ty e:TypeId) (i:TypeInfo) (ht:P.underlying t=some (.slice e)) (hi:P.info? e=some i) (hz:i.zero=some (.int .u8 0))
  (hsize:i.size=1) (hby:i.bytes=1) (v:Value) (n:Nat) (xs:List Value) (hown:w.ownsRow 0 e 1 v n xs) (k c:Nat) (z:Int) (hk:w.cell? ⟨k,0,none⟩=some (.int .u8 z)) (hb:n+1≤140737488355328):
  ∃v' w',(Builtin.append_ #[t,t] ty #[v, .slice (some ⟨k,0,none⟩) 1 c]).run P w= .ok v' w'∧w'.ownsRow 0 e 1 v' (n+1) (xs++[.int .u8 z])∧w.grownBy w' v.ownBlock∧
   (∀k sh,w.shape? k=some sh→w'.shape? k=some sh)∧(∀g,v'.ownBlock=some g→v.ownBlock=some g∨w.heap.size≤g)∧v'≠ .slice none 0 0:=by
 have h63:n+1≤maxLen:=by unfold maxLen;omega
 have hnews: ∀(j:Nat) u,([.int .u8 z]:List Value)[j]?=some u→w.cell? ((⟨k,0,none⟩:Addr).add j)=some u:=fun j u hj=>by
  match j,hj with
  |0,hj=>simp at hj;subst hj;simpa [Addr.add]using hk
 have h1: ∀u∈([.int .u8 z]:List Value),u.oneCell'=true:=fun u hu=>by simp at hu;subst hu;rfl
 have grow: ∀w',w.grownBy w' none→ ∀k sh,w.shape? k=some sh→w'.shape? k=some sh:=fun w' hg k sh hs=>by
  have hk:k<w.heap.size:=by
   unfold World.shape? at hs;split at hs
   ·rename_i h;exact(Array.getElem?_eq_some_iff.1 h).1
   cases hs
  have:=hg.block k hk (by simp);simp only[World.shape?,this]at *;exact hs
 rcases hown.2 with⟨rfl,rfl⟩|⟨g,cap,cur,rfl,hbg,hg,hnc,hcm,hcs,htake⟩
 ·obtain⟨v',w',q1,q2,q3,q4⟩:=run_append_own (P:=P) w w.heap.size t ty e i (.int .u8 0) 1 1 ht hi hz hsize hby rfl (by decide) _ 0 xs ⟨hown.1, .inl ⟨rfl,rfl⟩⟩ ⟨k,0,none⟩ 1 c _ rfl hnews h1 h63 (by omega) (bF _)
  refine⟨v',w',q1,⟨q2.1, ?_⟩,q3,grow w' q3,fun g hg=> .inr ?_,fun e=>by have:=(q4.1 e).2;omega⟩
  ·rcases q2.2 with h|⟨g,cap,cur,q1,_,q⟩
   ·exact .inl h
   exact .inr ⟨g,cap,cur,q1,Nat.zero_le _,q⟩
  exact(q2.lt g hg).1
 have hxl:xs.length=n:=by simpa using hown.1
 have hlen:(xs++[Value.int .u8 z]).length=(n+1) *1:=by rw[aI,hxl];simp
 have hcs':cur.size=cap:=by simpa using hcs
 by_cases hroom:n+1≤cap
 ·have hr:=qI P w t ty e e i ht hi g n cap cur hg ⟨k,0,none⟩ 1 c [.int .u8 z] (by rw[hsize];rfl) hnews h1 hroom (by rw[hsize];simp;omega)
  rw[hsize]at hr
  have hls:(cur.toList.take (n *1)++[Value.int .u8 z]++cur.toList.drop (n *1+[Value.int .u8 z].length)).toArray.size=cur.size:=by
   simp only[List.size_toArray,aI,dR,List.length_drop,Array.length_toList,List.length_singleton];omega
  refine⟨_,_,hr,⟨hlen, .inr ⟨g,cap,_,rfl,hbg,setRow_heap w g cur _ e _ hg,hroom,hcm,by rw[hls];exact hcs, ?_⟩⟩,⟨rfl,rfl,rfl,by simp,fun k _ hk=>setRow_other w g k _ (fun e=>hk (by simp [Value.ownBlock,e]))⟩,rQ w g cur _ e hg hls,fun _ h=> .inl h,by simp⟩;have ht':cur.toList.take (n *1)=xs:=by simpa using htake
  rw[ht',←hlen];exact List.take_left
 have hr:=run_append_grow (P:=P) w t ty e i (.int .u8 0) ht hi hz ⟨g,0,none⟩ n cap xs (by rw[hsize];simpa using hxl) (hown.cells (g:=g) rfl) ⟨k,0,none⟩ 1 c [.int .u8 z] (by rw[hsize];rfl) hnews (by omega) (by omega) (by rw[hby];exact growslice_fits (by omega) (by omega));have hge:=grownCap_ge w (n+1) cap e;have hg0:w.grownBy (w.drew.alloc (.cells (xs.toArray++[Value.int .u8 z].toArray++Builtin.zeroCells (Value.int .u8 0).cells (grownCap w (n+1) cap e-(n+1))) e)) none:=⟨rfl,rfl,rfl,by simp,fun k hk _=>by first|exact heap_alloc_old w.drew _ hk|exact heap_alloc_old w.drew _ k hk⟩;refine⟨_,_,hr,⟨hlen, .inr ⟨w.heap.size,_,_,rfl,Nat.zero_le _,heap_alloc_new w.drew _,hge,grownCap_le_maxLen w (n+1) cap e h63, ?_, ?_⟩⟩,⟨rfl,rfl,rfl,by simp,fun k hk _=>by first|exact heap_alloc_old w.drew _ hk|exact heap_alloc_old w.drew _ k hk⟩,grow _ hg0,fun g' h=> .inr ?_,by simp⟩
 ·have hz1:(Value.int IntKind.u8 0).cells.size=1:=rfl
  simp only[Array.size_append,List.size_toArray,size_zeroCells,hz1,hxl,List.length_singleton];omega
 ·simp only[Array.toList_append,List.append_assoc]
  rw[←List.append_assoc,←hlen];exact List.take_left
 simp only[Value.ownBlock,Option.some.injEq]at h;omega
end Go.Al
namespace Go.Proofs
open Go.Lib Go.RowKit Go.Al
theorem qT {P:Program} {w:World} {ops:Array Oper} {rest:List Oper} {o:Oper} {a:Act} {Q:Exit→Act→World→Prop} (hgd:o.guard=none) (sl x:Operand) (t:TypeId)
  (ho:o.op= .call {callee:= .builtin .append,args:= #[sl,x],argTypes:= #[t,t]})
  (e:TypeId) (i:TypeInfo) (ht:P.underlying t=some (.slice e)) (hi:P.info? e=some i) (hz:i.zero=some (.int .u8 0))
  (hsize:i.size=1) (hby:i.bytes=1)
  (v:Value) (n:Nat) (xs:List Value) (hs:a.eval sl=v) (hown:w.ownsRow 0 e 1 v n xs) (k c:Nat) (z:Int) (hx:a.eval x= .slice (some ⟨k,0,none⟩) 1 c) (hk:w.cell? ⟨k,0,none⟩=some (.int .u8 z)) (hb:n+1≤140737488355328)
  (h: ∀v' w',w'.ownsRow 0 e 1 v' (n+1) (xs++[.int .u8 z])→w.grownBy w' v.ownBlock→(∀k sh,w.shape? k=some sh→w'.shape? k=some sh)→(∀g,v'.ownBlock=some g→v.ownBlock=some g∨w.heap.size≤g)→v'≠ .slice none 0 0→wpList P ops Q rest (a.put o.dst v') w'):wpList P ops Q (o::rest) a w:=by
 refine wpList_plain hgd fun K Y=>?_;obtain⟨v',w',hr,h2,h3,h4,h5,h6⟩:=Jr (P:=P) w t o.type e i ht hi hz hsize hby v n xs hown k c z hk hb;unfold Oper.wp execOp;simp only[ho,resolve,invoke,builtin,Sem.run_bind,Sem.run_pure,Result.andThen_ok,List.map_toArray,List.map_cons,List.map_nil,hs,hx,hr];exact Y _ _ (h v' w' h2 h3 h4 h5 h6)
set_option maxHeartbeats 2000000 in
set_option maxRecDepth 100000 in
theorem Fj (b:Nat) (p v:Value) (n:Nat) (xs:List Value) (c:Int) (w:World) (hb:w.heap[b]?=some (.cells #[p,v] TB (0,0))) (hp:p= .pointer none∨p= .pointer (some ⟨b,0,none⟩))
  (hown:w.ownsRow 0 TU 1 v n xs) (hlen:n+1≤140737488355328):
  Calls Tryz.prog 123 #[.pointer (some ⟨b,0,none⟩), .int .u8 c] w fun e w'=>e= .returned .nilIface∧
   ∃v',w'.heap[b]?=some (.cells #[.pointer (some ⟨b,0,none⟩),v'] TB (0,0))∧w'.ownsRow 0 TU 1 v' (n+1) (xs++[.int .u8 c])∧
    iY (fun k=>k=b∨v.ownBlock=some k) w w'∧(∀g,v'.ownBlock=some g→v.ownBlock=some g∨w.heap.size≤g)∧v'≠ .slice none 0 0:=by
 obtain⟨i0,hi,hz0,hz1,hz2⟩:=info_parts Bc;have hne:TB≠TU:=by decide
 have hnb:v.ownBlock≠some b:=Lib.ownBlock_ne hown hb hne
 go_enter Tryz.func123,Tryz.ntmps123
 go_wp2_with (go_at_call 55;refine(uP b p v _ hb hp).mono ?_)
 rintro e w1 ⟨rfl,hb1,he1⟩;have hown1:w1.ownsRow 0 TU 1 v n xs:=hown.kept (row:=some b) ⟨he1.os,he1.tape,he1.output,he1.size,fun k hk hn=>he1.keep k hk (fun e=>hn (by rw[e]))⟩ (.inr hnb);have c0:w1.cell? ⟨b,0,none⟩=some (.pointer (some ⟨b,0,none⟩)):=by rw[Lib.cell_of_heap hb1];rfl
 have c1:w1.cell? ⟨b,1,none⟩=some v:=by rw[Lib.cell_of_heap hb1];rfl
 have hlt:b<w1.heap.size:=(Array.getElem?_eq_some_iff.1 hb1).1
 go_wp2_with (at_builtin;refine qT rfl _ _ 69 rfl TU i0 Tryz.underlying69 hi hz0 hz1 hz2 _ _ _ rfl (hown1.alloc _) w1.heap.size 1 c rfl (by simp) hlen ?_)
 intro v' w2 hown' hgrow hshp hnew hnil
 have hb2:w2.heap[b]?=some (.cells #[.pointer (some ⟨b,0,none⟩),v] TB (0,0)):=by
  rw[hgrow.block b (by simp;omega) (fun e=>hnb e.symm),Lib.alloc_old w1 _ b hlt];exact hb1
 have d0:w2.cell? ⟨b,0,none⟩=some (.pointer (some ⟨b,0,none⟩)):=by rw[Lib.cell_of_heap hb2];rfl
 have d1:w2.cell? ⟨b,1,none⟩=some v:=by rw[Lib.cell_of_heap hb2];rfl
 have f1:w2.frozen? ⟨b,1,none⟩=false:=Lib.frozen_of_heap hb2 1
 obtain⟨ao,n',cap,rfl⟩: ∃ao n' cap,v'= .slice ao n' cap:=by
  rcases hown'.2 with⟨hv,_⟩|⟨g,cap,cur,hv,_⟩
  ·exact⟨_,_,_,hv⟩
  exact⟨_,_,_,hv⟩
 have hnb':(Value.slice ao n' cap).ownBlock≠some b:=Lib.ownBlock_ne hown' hb2 hne;have hsz:=he1.size
 go_wp2
 go_ret
 refine⟨rfl, .slice ao n' cap,by simp [World.setCell,Array.getElem?_modify,hb2], ?_, ?_, ?_,hnil⟩
 ·exact hown'.kept (row:=some b) ⟨rfl,rfl,rfl,by simp [World.setCell],fun k _ hk=>Below.heap_setCell _ _ _ _ (fun e=>hk (by simp [e]))⟩ (.inr hnb')
 ·exact(((he1.mono fun _ _ h=> .inl h).trans (iY.alloc _ w1 _)).trans (Bl hgrow (fun k sh=>hshp k sh.1 sh.2) fun k h=> .inr h)).trans (iY.setCell w2 _ _ (.inl rfl))
 intro g hg;rcases hnew g hg with h|h
 ·exact .inl h
 exact .inr (by first|omega|(simp at h;omega))
end Go.Proofs
namespace Go.Al
open Go.Proofs Go.Lib Go.RowKit Go.Proofs.YtaecpjgmcffliaaGreatDoor
theorem zU (b:Nat) (bs:List UInt8) (c:UInt8) (hl:bs.length+1≤140737488355328):Fe cG 123 [.ptr 2 b 0 0, .int .u8 (c.toNat:Nat)] b bs .nif [c]:=by
 intro H0 hm;refine⟨⟨_,Tryz.func123,by kernel_rfl,by kernel_rfl⟩,fun w S vs hst ha=>?_⟩;simp only[bW,bO]at ha;obtain⟨_,_,rfl,rfl,_,_,rfl,rfl,rfl⟩:=ha
 obtain⟨p,v,h1,hp,hown,hvb,hd⟩: ∃p v,w.heap[b]?=some (.cells #[p,v] TB (0,0))∧(p= .pointer none∨p= .pointer (some ⟨b,0,none⟩))∧w.ownsRow 0 TU 1 v bs.length (bs.map fun c=>Value.int .u8 (c.toNat:Int))∧(∀g,v.ownBlock=some g→H0 g≠none)∧H0 b≠none:=by
  rcases hm with⟨rfl,rfl⟩|⟨e,g,cap,hg,rfl⟩
  ·have ho:=(hst.obj b _ (aS _ _ _)).1
   simp only[eR]at ho;obtain⟨p,h1,h2⟩:=ho;exact⟨p,_,h1,h2,⟨rfl, .inl ⟨rfl,rfl⟩⟩,fun g h=>(by simp [Value.ownBlock]at h),by rw[aS];simp⟩
  have ho:=(hst.obj b (.bld TB (some (g,cap)) bs.length) (by rw[dK _ _ (Ne.symm hg),aS])).1;have ho2:=(hst.obj g _ (aS _ _ _)).1;have hw:=Qr ho2;simp only[eR]at ho;obtain⟨p,h1,h2⟩:=ho;refine⟨p,_,h1,h2,hw,fun g' h=>?_,by rw[dK _ _ (Ne.symm hg),aS];simp⟩;simp only[Value.ownBlock,Option.some.injEq]at h;subst h;rw[aS];simp
 have hb:=Fj b p v bs.length _ (c.toNat:Int) w h1 hp hown hl;rw[show(bs.map fun c=>Value.int .u8 (c.toNat:Int))++[.int .u8 (c.toNat:Int)]=(bs++[c]).map fun c=>Value.int .u8 (c.toNat:Int)by rw[List.map_append];rfl]at hb;refine hb.mono fun e w' ⟨e1,v',q1,q2,q3,q4,hv'⟩=>?_
 have hM: ∀k,(k=b∨v.ownBlock=some k)→H0 k≠none:=fun k hk=>by
  rcases hk with rfl|hk
  ·exact hd
  exact hvb k hk
 have er:nW S w' (.ret .nif) e:=by
  subst e1;simp only[nW,bO];exact⟨_,rfl,rfl⟩
 rw[show bs.length+1=(bs++[c]).length by rw[aI];rfl]at q2;obtain⟨g,cap,rfl,ho⟩:=Py (S:=S) hv' q2;have hgb:g≠b:=fun e=>Lib.ownBlock_ne q2 q1 (by decide) (by simp [Value.ownBlock,e]);refine⟨_,_,S,wE hst q3 hM (H':=upd (upd lG b (some (.bld TB (some (g,cap)) (bs++[c]).length))) g (some (.buf TU (bs++[c]) cap))) fun x o hx=>?_,er,rfl, .inr ⟨by simp,g,cap,hgb,rfl⟩⟩;by_cases c:x=g
 ·subst c
  rw[aS]at hx;cases hx;refine⟨ho, ?_⟩;rcases q4 x rfl with h|h
  ·exact .inl (hvb x h)
  exact .inr h
 rw[dK _ _ c]at hx;by_cases c2:x=b
 ·subst c2
  rw[aS]at hx;cases hx;exact⟨by simp only[eR];exact⟨_,q1, .inr rfl⟩, .inl hd⟩
 rw[dK _ _ c2]at hx;cases hx
end Go.Al
