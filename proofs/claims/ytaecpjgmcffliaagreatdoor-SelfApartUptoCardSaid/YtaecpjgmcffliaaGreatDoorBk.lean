/- Chapter 52: a program among the arguments, and its bulk. -/
import Derived.Test.YtaecpjgmcffliaaGreatDoorSc1
import Derived.Test.YtaecpjgmcffliaaGreatDoorSy1
import Derived.Test.YtaecpjgmcffliaaGreatDoorRows
import Derived.Test.YtaecpjgmcffliaaGreatDoorJg
import Derived.Test.YtaecpjgmcffliaaGreatDoorSy2
import Derived.Test.YtaecpjgmcffliaaGreatDoorAl3
import Derived.Test.YtaecpjgmcffliaaGreatDoorCards
import Derived.Test.YtaecpjgmcffliaaGreatDoorTie
import Derived.Deep.DeepHandedRow
import Derived.Test.YtaecpjgmcffliaaGreatDoorSy3
import Derived.Test.YtaecpjgmcffliaaGreatDoorAl4
set_option linter.unusedSimpArgs false
set_option linter.unusedVariables false
set_option maxRecDepth 10000
namespace Go.Proofs.YtaecpjgmcffliaaGreatDoor
open Go.Al Go.ChangeShapes Go.WideShapes
structure Fg (p:Pg):Prop where
 ok:p.ok
 fs: ∀f∈p.funs,f.params.length≤1100000∧f.locs.length≤1100000∧gH f.body≤1000000
theorem Fg.few {p:Pg} (h:Fg p) (hv:p.vars.length≤40) (ha:p.arrs.length≤4) (hr:dH p=true):p.few:=by
 simp only[dH,bA,bC,List.all_eq_true]at hr;refine⟨h.ok,by omega,by omega,by omega,fun f hf=>?_⟩;have:=h.fs f hf;have h2:=hr.2 f hf;simp only[eT,bA,bC]at h2;omega
def rV {α:Type} (m:α→Nat):List α→Nat
 |[]=>0
 |a::l=>m a+rV m l
theorem xW {H:Type} (d:DataW H):1≤Rows.uptoBulk d:=by
 cases d with
 |lit l=>cases l<;>simp [Rows.uptoBulk]
 |nil=>simp [Rows.uptoBulk]
 |ptr d=>simp [Rows.uptoBulk]
 |slice elems spare=>simp [Rows.uptoBulk]
 |agg parts=>simp [Rows.uptoBulk]
 |iface t d=>simp [Rows.uptoBulk]
 |map entries=>simp [Rows.uptoBulk]
 |held h=>simp [Rows.uptoBulk]
theorem G8 {H:Type} (l:List (DataW H)):l.length≤Rows.uptoBulkAll l:=by
 induction l with
 |nil=>simp [Rows.uptoBulkAll]
 |cons x r ih=>have:=xW x;simp only[Rows.uptoBulkAll,aQ];omega
section
variable {H : Type} {enc : TypeId × Value → H} {P : Program} {w : World} {sp : Nat → Bool} {held : Bool}
theorem Yx {α β:Type} (m:α→Nat): ∀(l:List α) (E:List (DataW H×β)),l.length=E.length→(∀(i:Nat) a y,l[i]?=some a→E[i]?=some y→m a≤Rows.uptoBulk y.1)→rV m l≤Rows.uptoBulkAll (E.map (·.1))
 |[],_,_,_=>by simp [rV]
 |a::l,[],h,_=>by simp at h
 |a::l,y::E,h,hm=>by
  have h0:=hm 0 a y rfl rfl;have ih:=Yx m l E (by simpa using h) fun i b z h1 h2=>hm (i+1) b z (by simpa using h1) (by simpa using h2);simp only[rV,List.map_cons,Rows.uptoBulkAll];omega
theorem gV {α:Type} (m:α→Nat) {row:α→List AV} {ok:α→Prop} {t e:TypeId} {sz fuel:Nat} {cs:List Value} {x:DataW H×List MemPlace} (ht:P.underlying t=some (.slice e)) (hc:P.cellsOf e=sz) (hz:0<sz)
  (hlen: ∀a,(row a).length=sz) (h:DataW.trod enc P w 0 sp held fuel t cs=some x)
  (each: ∀n cs y,n<fuel→DataW.trod enc P w 0 sp held n e cs=some y→ ∃a:α,ok a∧bW (old w) w (row a) cs∧m a≤Rows.uptoBulk y.1):
  ∃l:List α,cQ l∧(∀a∈l,ok a)∧(rV m l+1≤Rows.uptoBulk x.1∧l.length+1≤Rows.uptoBulk x.1)∧ ∃v,cs=[v]∧bO (old w) w (.isl sz (l.map row)) v:=by
 rcases DataW.trod_slice ht h with⟨rfl,rfl⟩|⟨a,len,cap,elems,rest,n,rfl,rfl,rfl,_,hl,hm,hel,hi,_,_⟩
 ·refine⟨[],by simp [cQ],by simp,⟨by simp [rV,Rows.uptoBulk],by simp [Rows.uptoBulk]⟩,_,rfl, ?_⟩
  simp only[bO,List.map_nil];exact⟨none,0,rfl,bF _,by simp [maxLen], .inl trivial⟩
 have key: ∀i,i<len→ ∃b:α,ok b∧(∀y,elems[i]?=some y→m b≤Rows.uptoBulk y.1)∧ ∃ds:List Value,ds.length=sz∧bW (old w) w (row b) ds∧ ∀j,j<sz→w.cell? ((a.add (i *sz)).add j)=ds[j]?:=by
  intro i hil;have h1:=hi i hil;rw[hc,aG (by omega),bU]at h1;obtain⟨ds,hds,hy⟩:=h1;obtain⟨_,h3,h4⟩:=World.cells?_some hds;obtain⟨b,hb,hr,hmb⟩:=each n ds _ (by omega) hy;exact⟨b,hb,(fun y hy'=>by rw[aG (by omega)]at hy';cases hy';exact hmb),ds,h3,hr,h4⟩
 obtain⟨l,hll,hget⟩:=nJ len key;refine⟨l,by simp only[cQ,hll];simp only[maxLen]at hm;omega,fun b hb=>?_,⟨?_, ?_⟩,_,rfl, ?_⟩
 ·obtain⟨i,hi2⟩:=List.getElem?_of_mem hb
  exact(hget i b hi2).1
 ·have hsum:=Yx m l elems (by omega) fun i a y h1 h2=>(hget i a h1).2.1 y h2
  simp only[Rows.uptoBulk];omega
 ·have hll2:=G8 (elems.map (·.1))
  rw[aC]at hll2;simp only[Rows.uptoBulk];omega
 simp only[bO,aC,List.map_eq_nil_iff];refine⟨some a,cap,by rw[hll],by omega,hm, ?_⟩;by_cases hnil:l=[]
 ·exact .inl hnil
 right;obtain⟨b0,l0,rfl⟩: ∃b0 l0,l=b0::l0:=by cases l with |nil=>exact absurd rfl hnil|cons b l=>exact⟨b,l,rfl⟩
 obtain⟨_,_,ds,hd1,_,hd3⟩:=hget 0 b0 rfl;have h0:=hd3 0 hz;rw[aG (by omega)]at h0;simp only[Nat.zero_mul,Addr.add,if_true]at h0
 have hspot:a.spot=none:=by
  unfold World.cell? at h0;split at h0
  ·split at h0
   ·cases h0
   rename_i hs;cases hh:a.spot with |none=>rfl|some y=>rw[hh]at hs;simp at hs
  cases h0
 have hblk:a.block<w.heap.size:=by
  unfold World.cell? at h0;split at h0
  ·rename_i e;exact(Array.getElem?_eq_some_iff.1 e).1
  cases h0
 obtain⟨ab,ao,asp⟩:=a;simp only at hspot hblk;subst hspot;refine⟨ab,ao,rfl,hblk,bZ.of_get fun i r hr=>?_⟩;rw[cE,bH]at hr;obtain⟨b,hb,rfl⟩:=hr;obtain⟨_,_,ds,h1,h2,h3⟩:=hget i b hb;refine⟨hlen b,cL.of_vals h2 fun j v hj=>?_⟩;have hjl:j<sz:=by have:=(bV.1 hj).1;omega
 rw[←hj,←h3 j hjl];congr 1;simp only[Addr.add];by_cases e1:i *sz=0<;>by_cases e2:j=0<;>simp [e1,e2]
theorem lI {t:TypeId} {fs:List (TypeId×Nat)} {fuel:Nat} {cs:List Value} {x:DataW H×List MemPlace} (ht:gS P t=some fs) (h:DataW.trod enc P w 0 sp held fuel t cs=some x):
  ∃(xs:List (DataW H×List MemPlace)) (n:Nat),fuel=n+1∧cs.length=P.cellsOf t∧x.1= .agg (xs.map (·.1))∧xs.length=fs.length∧ ∀(i:Nat) ty off,fs[i]?=some (ty,off)→DataW.trod enc P w 0 sp held n ty ((cs.drop off).take (P.cellsOf ty))=xs[i]?:=by
 unfold gS at ht;split at ht
 ·rename_i fa hu
  cases ht;obtain⟨xs,n,h1,h2,h3,h4,h5⟩:=DataW.trod_struct hu h;refine⟨xs,n,h1,h3,by rw[h2],by rw[h4];simp,fun i ty off hi=>?_⟩;rw[cE,bH]at hi;obtain⟨f,hf,e⟩:=hi;simp only[Prod.mk.injEq]at e;have h6:=h5 i f (by simpa using hf);rw[e.1,e.2]at h6;exact h6
 cases ht
theorem G9 {y0 y1 y2 y3 y4:DataW H×List MemPlace}:Rows.uptoBulk (.agg ([y0,y1,y2,y3,y4].map (·.1)))=Rows.uptoBulk y0.1+(Rows.uptoBulk y1.1+(Rows.uptoBulk y2.1+(Rows.uptoBulk y3.1+Rows.uptoBulk y4.1)))+1:=by
 simp [Rows.uptoBulk,Rows.uptoBulkAll]
theorem A9 {α:Type} {xs:List α} (h:xs.length=5): ∃a b c d e,xs=[a,b,c,d,e]:=by
 match xs,h with
 |[a,b,c,d,e],_=>exact⟨a,b,c,d,e,rfl⟩
theorem BA {α:Type} {xs:List α} (h:xs.length=3): ∃a b c,xs=[a,b,c]:=by
 match xs,h with
 |[a,b,c],_=>exact⟨a,b,c,rfl⟩
end
theorem A6: ∀l:List Ex,rV (fun e=>2 *e.sz) l=2 *jA l
 |[]=>rfl
 |e::l=>by simp only[rV,jA,A6 l];omega
theorem A5: ∀l:List Sm,rV (fun e=>2 *e.sz) l=2 *gH l
 |[]=>rfl
 |e::l=>by simp only[rV,gH,A5 l];omega
def mF (f:Fu):Nat:=f.params.length+f.locs.length+2 *gH f.body
theorem W0 {f:Fu}: ∀{l:List Fu},f∈l→mF f≤rV mF l
 |x::l,h=>by
  rcases List.mem_cons.1 h with rfl|h
  ·simp only[rV];omega
  have:=W0 h;simp only[rV];omega
section
variable {H : Type} {enc : TypeId × Value → H} {P : Program} {w : World} {sp : Nat → Bool} {held : Bool} (T : BQ P)
theorem wA {fuel:Nat} {cs:List Value} {x:DataW H×List MemPlace} (h:DataW.trod enc P w 0 sp held fuel T.strs cs=some x): ∃l:List cN,X8 l∧l.length+1≤Rows.uptoBulk x.1∧ ∃v,cs=[v]∧bO (old w) w (strs l) v:=by
 obtain⟨l,h1,h2,⟨_,h4⟩,h3⟩:=gV (fun _=>0) (row:=bG) (ok:=cQ) T.uStrs (T.one1 (by simp)) (by decide) (fun _=>rfl) h fun n cs y _ hy=>by
  obtain⟨s,rfl,hs⟩:=mD T.uStr hy;exact⟨s,hs,Pi s,Nat.zero_le _⟩
 exact⟨l,⟨h1,h2⟩,h4,h3⟩
theorem G1: ∀(fuel:Nat) (cs:List Value) (x:DataW H×List MemPlace),DataW.trod enc P w 0 sp held fuel T.ex cs=some x→ ∃e:Ex,e.ok∧bW (old w) w e.row cs∧2 *e.sz≤Rows.uptoBulk x.1:=by
 intro fuel
 induction fuel using Nat.strongRecOn with
 |_ fuel ih=>
  intro cs x h;obtain⟨xs,n,rfl,hl,hx,hxl,hf⟩:=lI T.uEx h;rw[T.cEx]at hl;obtain⟨a,b,c,d,e,rfl⟩:=Y5 hl;obtain⟨y0,y1,y2,y3,y4,rfl⟩:=A9 hxl;rw[hx,G9];have h0:=hf 0 _ _ rfl;have h1:=hf 1 _ _ rfl;have h2:=hf 2 _ _ rfl;have h3:=hf 3 _ _ rfl;have h4:=hf 4 _ _ rfl;simp only[List.getElem?_cons_zero,List.getElem?_cons_succ]at h0 h1 h2 h3 h4;rw[T.one1 (by simp)]at h0 h1 h2 h3 h4;obtain⟨k,e0,w0⟩:=pB T.uInt h0;obtain⟨o,e1,w1⟩:=pB T.uInt h1;obtain⟨m,e2,w2⟩:=pB T.uU32 h2;obtain⟨s,e3,w3⟩:=mD T.uStr h3;obtain⟨l,w4,w5,⟨hm,_⟩,v,e4,hv⟩:=gV (fun e=>2 *e.sz) (row:=Ex.row) (ok:=Ex.ok) T.uExs T.cEx (by decide) Ex.row_len h4 fun n' cs' y' hn hy=>ih n' (by omega) cs' y' hy;rw[A6]at hm;simp at e0 e1 e2 e3 e4;subst e0;subst e1;subst e2;subst e3;subst e4;refine⟨.mk k o m s l, .mk k o m s l (Df w0) (Df w1) (X0 w2) w3 w4 w5, ?_, ?_⟩
  ·rw[Ex.row_eq]
   simp only[bW,bO,Ex.kind,Ex.op,Ex.num,Ex.name,Ex.kids];exact⟨_,_,rfl,rfl,_,_,rfl,rfl,_,_,rfl,rfl,_,_,rfl,rfl,_,_,rfl,hv,rfl⟩
  have:=xW y0.1;simp only[Ex.sz];omega
theorem Ug {fuel:Nat} {cs:List Value} {x:DataW H×List MemPlace} (h:DataW.trod enc P w 0 sp held fuel T.exs cs=some x): ∃l:List Ex,rT l∧2 *jA l+1≤Rows.uptoBulk x.1∧ ∃v,cs=[v]∧bO (old w) w (exs l) v:=by
 obtain⟨l,h1,h2,⟨h4,_⟩,h3⟩:=gV (fun e=>2 *e.sz) (row:=Ex.row) (ok:=Ex.ok) T.uExs T.cEx (by decide) Ex.row_len h fun n cs y _ hy=>G1 T n cs y hy;rw[A6]at h4;exact⟨l,⟨h1,h2⟩,h4,h3⟩
theorem Zf: ∀(fuel:Nat) (cs:List Value) (x:DataW H×List MemPlace),DataW.trod enc P w 0 sp held fuel T.sm cs=some x→ ∃e:Sm,e.ok∧bW (old w) w e.row cs∧2 *e.sz≤Rows.uptoBulk x.1:=by
 intro fuel
 induction fuel using Nat.strongRecOn with
 |_ fuel ih=>
  intro cs x h;obtain⟨xs,n,rfl,hl,hx,hxl,hf⟩:=lI T.uSm h;rw[T.cSm]at hl;obtain⟨a,b,c,d,e,rfl⟩:=Y5 hl;obtain⟨y0,y1,y2,y3,y4,rfl⟩:=A9 hxl;rw[hx,G9];have h0:=hf 0 _ _ rfl;have h1:=hf 1 _ _ rfl;have h2:=hf 2 _ _ rfl;have h3:=hf 3 _ _ rfl;have h4:=hf 4 _ _ rfl;simp only[List.getElem?_cons_zero,List.getElem?_cons_succ]at h0 h1 h2 h3 h4;rw[T.one1 (by simp)]at h0 h1 h2 h3 h4;obtain⟨k,e0,w0⟩:=pB T.uInt h0;obtain⟨s,e1,w1⟩:=mD T.uStr h1;obtain⟨l,w2,m2,v2,e2,hv2⟩:=Ug T h2;obtain⟨t,w3,w3',⟨m3,_⟩,v3,e3,hv3⟩:=gV (fun e=>2 *e.sz) (row:=Sm.row) (ok:=Sm.ok) T.uSms T.cSm (by decide) Sm.row_len h3 fun n' cs' y' hn hy=>ih n' (by omega) cs' y' hy;obtain⟨u,w4,w4',⟨m4,_⟩,v4,e4,hv4⟩:=gV (fun e=>2 *e.sz) (row:=Sm.row) (ok:=Sm.ok) T.uSms T.cSm (by decide) Sm.row_len h4 fun n' cs' y' hn hy=>ih n' (by omega) cs' y' hy;rw[A5]at m3 m4;simp at e0 e1 e2 e3 e4;subst e0;subst e1;subst e2;subst e3;subst e4;refine⟨.mk k s l t u, .mk k s l t u (Df w0) w1 w2 w3 w3' w4 w4', ?_, ?_⟩
  ·rw[Sm.row_eq]
   simp only[bW,bO,Sm.kind,Sm.name,Sm.es,Sm.thn,Sm.els];exact⟨_,_,rfl,rfl,_,_,rfl,rfl,_,_,rfl,hv2,_,_,rfl,hv3,_,_,rfl,hv4,rfl⟩
  have:=xW y0.1;simp only[Sm.sz];omega
theorem Rt {fuel:Nat} {cs:List Value} {x:DataW H×List MemPlace} (h:DataW.trod enc P w 0 sp held fuel T.sms cs=some x): ∃l:List Sm,rI l∧2 *gH l+1≤Rows.uptoBulk x.1∧ ∃v,cs=[v]∧bO (old w) w (sms l) v:=by
 obtain⟨l,h1,h2,⟨h4,_⟩,h3⟩:=gV (fun e=>2 *e.sz) (row:=Sm.row) (ok:=Sm.ok) T.uSms T.cSm (by decide) Sm.row_len h fun n cs y _ hy=>Zf T n cs y hy;rw[A5]at h4;exact⟨l,⟨h1,h2⟩,h4,h3⟩
theorem E1 (fuel:Nat) (cs:List Value) (x:DataW H×List MemPlace) (h:DataW.trod enc P w 0 sp held fuel T.fu cs=some x): ∃f:Fu,f.ok∧bW (old w) w f.row cs∧mF f≤Rows.uptoBulk x.1:=by
 obtain⟨xs,n,rfl,hl,hx,hxl,hf⟩:=lI T.uFu h;rw[T.cFu]at hl;obtain⟨a,b,c,d,e,rfl⟩:=Y5 hl;obtain⟨y0,y1,y2,y3,y4,rfl⟩:=A9 hxl;rw[hx,G9];have h0:=hf 0 _ _ rfl;have h1:=hf 1 _ _ rfl;have h2:=hf 2 _ _ rfl;have h3:=hf 3 _ _ rfl;have h4:=hf 4 _ _ rfl;simp only[List.getElem?_cons_zero,List.getElem?_cons_succ]at h0 h1 h2 h3 h4;rw[T.one1 (by simp)]at h0 h1 h2 h3 h4;obtain⟨s,e0,w0⟩:=mD T.uStr h0;obtain⟨ps,w1,m1,v1,e1,hv1⟩:=wA T h1;obtain⟨ls,w2,m2,v2,e2,hv2⟩:=wA T h2;obtain⟨bw,e3,_⟩:=DataW.trod_bool T.uBool h3;obtain⟨l,w4,m4,v4,e4,hv4⟩:=Rt T h4;simp at e0 e1 e2 e3 e4;subst e0;subst e1;subst e2;subst e3;subst e4;refine⟨⟨s,ps,ls,bw,l⟩,⟨w0,w1,w2,w4⟩, ?_, ?_⟩
 ·simp only[Fu.row,bW,bO]
  exact⟨_,_,rfl,rfl,_,_,rfl,hv1,_,_,rfl,hv2,_,_,rfl,rfl,_,_,rfl,hv4,rfl⟩
 simp only[mF];omega
theorem Zq {fuel:Nat} {cs:List Value} {x:DataW H×List MemPlace} (h:DataW.trod enc P w 0 sp held fuel T.pg cs=some x): ∃p:Pg,p.ok∧bW (old w) w p.row cs∧ ∀f∈p.funs,mF f≤Rows.uptoBulk x.1:=by
 obtain⟨xs,n,rfl,hl,hx,hxl,hf⟩:=lI T.uPg h;rw[T.cPg]at hl;obtain⟨a,b,c,rfl⟩:=AG hl;obtain⟨y0,y1,y2,rfl⟩:=BA hxl;have h0:=hf 0 _ _ rfl;have h1:=hf 1 _ _ rfl;have h2:=hf 2 _ _ rfl;simp only[List.getElem?_cons_zero,List.getElem?_cons_succ]at h0 h1 h2;rw[T.one1 (by simp)]at h0 h1 h2;obtain⟨vs,w0,v0,e0,hv0⟩:=Ro T h0;obtain⟨arl,w1,w1',v1,e1,hv1⟩:=wJ (row:=Ar.row) (ok:=fun a=>cQ a.name∧eK a.size) T.uArs T.cAr (by decide) (fun _=>rfl) h1 fun n cs y _ hy=>Q6 T n cs y hy;obtain⟨fs,w2,w2',⟨m2,_⟩,v2,e2,hv2⟩:=gV mF (row:=Fu.row) (ok:=Fu.ok) T.uFus T.cFu (by decide) (fun _=>rfl) h2 fun n cs y _ hy=>E1 T n cs y hy;simp at e0 e1 e2;subst e0;subst e1;subst e2;refine⟨⟨vs,arl,fs⟩,⟨w0,w1,w1',w2,w2'⟩, ?_,fun f hff=>?_⟩
 ·simp only[Pg.row,bW]
  exact⟨_,_,rfl,hv0,_,_,rfl,hv1,_,_,rfl,hv2,rfl⟩
 have :mF f≤rV mF fs:=W0 hff;rw[hx];simp only[List.map_cons,List.map_nil,Rows.uptoBulk,Rows.uptoBulkAll];omega
theorem Du {r:Reach} {b0:Nat} {v:Value} {d:DataW H} {ps:List MemPlace} (hu: ∃fs,P.underlying T.pg=some (.struct fs)) (hval:Value.okWide P w r b0 T.pg v) (hd:DataW.Trod enc P w 0 sp held T.pg v d ps) (hb:Rows.uptoBulk d≤1048576): ∃p:Pg,Fg p∧bO (old w) w p.av v:=by
 obtain⟨fs,hu⟩:=hu;obtain⟨cs,rfl,_⟩:=okWide_struct hu hval;obtain⟨fuel,hf⟩:=hd;obtain⟨p,h1,h2,h3⟩:=Zq T hf;refine⟨p,⟨h1,fun f hff=>?_⟩, ?_⟩
 ·have:=h3 f hff
  simp only[mF]at this;omega
 simp only[Pg.av,bO];exact⟨cs.toList,by simp,h2⟩
end
end Go.Proofs.YtaecpjgmcffliaaGreatDoor
namespace Go.Al
theorem Ul {n:Int} (h:iN n):(Lib.decDigits n.toNat).length≤11:=by
 have key: ∀(k:Nat) (m:Nat),m<10^(k+1)→(Lib.decDigits m).length≤k+1:=by
  intro k
  induction k with
  |zero=>intro m hm;rw[Lib.decDigits,dif_pos (by omega)];simp
  |succ k ih=>
   intro m hm;rw[Lib.decDigits];split
   ·simp
   have:=ih (m/10) (by rw[Nat.pow_succ]at hm;omega);simp only[aI,aQ,List.length_nil];omega
 have:=key 9 n.toNat (by have:=h.2;have:=h.1;omega);omega
end Go.Al
namespace Go.Proofs.YtaecpjgmcffliaaGreatDoor
open Go.Al
theorem pQ {e:Ex} (h:SX e):(jU e).length≤12 *e.sz:=by
 induction h with
 |num n h=>have:=Ul h;simp [jU,eQ,fB,Ex.sz,jA];omega
 |var c h=>simp [jU,eQ,fB,Ex.sz,jA]
 |idx a ha ih=>rw[jU,vE];simp [fB,Ex.sz,jA];omega
 |get=>simp [jU,eQ,fB,Ex.sz,jA]
 |neg a ha ih=>rw[jU,vE];simp [fB,Ex.sz,jA];omega
 |op o a b h ha hb iha ihb=>
  rw[jU,J9]
  have :(fB 6 o 0 []).length≤1:=by
   simp only[fB,Int.reduceEq,if_true,if_false];cases Zv[(o- 4).toNat]?<;>simp
  simp [Ex.sz,jA];omega
theorem Dj {l:List Sm} (h: ∀s∈l,(mZ s).length≤12 *s.sz):(iZ l).length≤12 *gH l:=by
 induction l with
 |nil=>simp [iZ]
 |cons s l ih=>
  have h1:=h s (List.mem_cons_self);have h2:=ih fun x hx=>h x (List.mem_cons_of_mem _ hx);rw[iZ,gH,aI];omega
theorem J7 {s:Sm} (h:SS s):(mZ s).length≤12 *s.sz:=by
 induction h with
 |set c e he=>have:=pQ he;simp [mZ,vE,Sm.sz,jA,gH];omega
 |store a e ha he=>have:=pQ ha;have:=pQ he;simp [mZ,J9,Sm.sz,jA,gH];omega
 |put e he=>have:=pQ he;simp [mZ,vE,Sm.sz,jA,gH];omega
 |cond e t he ht ih=>have:=pQ he;have:=Dj ih;simp [mZ,vE,Sm.sz,jA,gH];omega
 |loop e t he ht ih=>have:=pQ he;have:=Dj ih;simp [mZ,vE,Sm.sz,jA,gH];omega
theorem Dk {p:Pg} (hp:Fg p): ∀f∈p.funs,dY (fun l=>l.all lJ) p=true→(iZ f.body).length≤1000000000000:=fun f hf h=>by
 obtain⟨g,hg,hs⟩:=wH hp.ok h;rw[hg,List.mem_singleton]at hf;subst hf;have h1:=Dj fun s hx=>J7 (hs s hx);have h2:=(hp.fs f (by rw[hg];exact List.mem_singleton.2 rfl)).2.2;omega
def Nw (p:Pg):Bool:=decide (p.funs.length≤4)&&decide (p.vars.length≤40)&&decide (p.arrs.length≤4)&&(!dH p||decide (Hg p≤200))
theorem jZ {p:Pg} (hp:Fg p) (h:Nw p=true):dH p=true→p.few:=fun hr=>by
 simp only[Nw,bA,bC]at h;exact hp.few h.1.1.2 h.1.2 hr
theorem tR (p:Pg) (hp:Fg p):cM cG 10 [p.av] (.bool (Nw p)):=by
 have hR:=rH p hp.ok;have hZ:=fun h1 h2 h3=>J0 p h1 h2 h3 (fun f hf=>by have:=hp.fs f hf;simp only[Un];omega);have hB:Nw p=(decide (p.funs.length≤4)&&decide (p.vars.length≤40)&&decide (p.arrs.length≤4)&&(!dH p||decide (Hg p≤200))):=rfl;rw[hB];have c1:decide ((p.funs.length:Int)≤4)=decide (p.funs.length≤4):=decide_eq_decide.2 (by omega);have c2:decide ((p.vars.length:Int)≤40)=decide (p.vars.length≤40):=decide_eq_decide.2 (by omega);have c3:decide ((p.arrs.length:Int)≤4)=decide (p.arrs.length≤4):=decide_eq_decide.2 (by omega);have c5:decide ((Hg p:Int)≤200)=decide (Hg p≤200):=decide_eq_decide.2 (by omega);have hav:p.av= .agg p.row:=rfl;have hrow:p.row=[.isl 1 (p.vars.map bG), .isl 2 (p.arrs.map Ar.row), .isl 5 (p.funs.map Fu.row)]:=rfl;rw[hav,hrow]at *;clear hB hav hrow;generalize Hg p=z at *;by_cases g1:p.funs.length≤4
 rotate_left
 ·have d1:=aX g1
  rw[d1]at c1;rw[d1];refine bM 29 [.tmp 2] Tryz.func10 rfl rfl rfl rfl ?_;refine aB fun _ Y=>aA rfl ?_;simp only[RR,seval];refine aT fun b1 hn1=>?_;simp only[RR,seval];apply Y;clear Y;refine aB fun _ Y=>aA rfl ?_;simp only[aC,c1,RR,seval]
  all_goals try ((first|refine aO (fun h=>?_) (fun h=>?_)|refine aR (fun h=>?_) (fun h=>?_))<;>simp only[h,aC,c1,RR,seval])
  all_goals try ((first|refine aO (fun h=>?_) (fun h=>?_)|refine aR (fun h=>?_) (fun h=>?_))<;>simp only[h,aC,c1,RR,seval])
  all_goals try ((first|refine aO (fun h=>?_) (fun h=>?_)|refine aR (fun h=>?_) (fun h=>?_))<;>simp only[h,aC,c1,RR,seval])
  all_goals try ((first|refine aO (fun h=>?_) (fun h=>?_)|refine aR (fun h=>?_) (fun h=>?_))<;>simp only[h,aC,c1,RR,seval])
  all_goals try ((first|refine aO (fun h=>?_) (fun h=>?_)|refine aR (fun h=>?_) (fun h=>?_))<;>simp only[h,aC,c1,RR,seval])
  all_goals
   apply Y;clear Y;refine aM ?_;simp only[aZ,aL,bJ,RR,seval];refine bB.pure ?_;rfl
 have d1:=bQ g1;rw[d1]at c1;rw[d1];by_cases g2:p.vars.length≤40
 rotate_left
 ·have d2:=aX g2
  rw[d2]at c2;rw[d2];refine bM 29 [.tmp 2] Tryz.func10 rfl rfl rfl rfl ?_;refine aB fun _ Y=>aA rfl ?_;simp only[RR,seval];refine aT fun b1 hn1=>?_;simp only[RR,seval];apply Y;clear Y;refine aB fun _ Y=>aA rfl ?_;simp only[aC,c1,c2,RR,seval]
  all_goals try ((first|refine aO (fun h=>?_) (fun h=>?_)|refine aR (fun h=>?_) (fun h=>?_))<;>simp only[h,aC,c1,c2,RR,seval])
  all_goals try ((first|refine aO (fun h=>?_) (fun h=>?_)|refine aR (fun h=>?_) (fun h=>?_))<;>simp only[h,aC,c1,c2,RR,seval])
  all_goals try ((first|refine aO (fun h=>?_) (fun h=>?_)|refine aR (fun h=>?_) (fun h=>?_))<;>simp only[h,aC,c1,c2,RR,seval])
  all_goals try ((first|refine aO (fun h=>?_) (fun h=>?_)|refine aR (fun h=>?_) (fun h=>?_))<;>simp only[h,aC,c1,c2,RR,seval])
  all_goals try ((first|refine aO (fun h=>?_) (fun h=>?_)|refine aR (fun h=>?_) (fun h=>?_))<;>simp only[h,aC,c1,c2,RR,seval])
  all_goals
   apply Y;clear Y;refine aM ?_;simp only[aZ,aL,bJ,RR,seval];refine bB.pure ?_;rfl
 have d2:=bQ g2;rw[d2]at c2;rw[d2];by_cases g3:p.arrs.length≤4
 rotate_left
 ·have d3:=aX g3
  rw[d3]at c3;rw[d3];refine bM 29 [.tmp 2] Tryz.func10 rfl rfl rfl rfl ?_;refine aB fun _ Y=>aA rfl ?_;simp only[RR,seval];refine aT fun b1 hn1=>?_;simp only[RR,seval];apply Y;clear Y;refine aB fun _ Y=>aA rfl ?_;simp only[aC,c1,c2,c3,RR,seval]
  all_goals try ((first|refine aO (fun h=>?_) (fun h=>?_)|refine aR (fun h=>?_) (fun h=>?_))<;>simp only[h,aC,c1,c2,c3,RR,seval])
  all_goals try ((first|refine aO (fun h=>?_) (fun h=>?_)|refine aR (fun h=>?_) (fun h=>?_))<;>simp only[h,aC,c1,c2,c3,RR,seval])
  all_goals try ((first|refine aO (fun h=>?_) (fun h=>?_)|refine aR (fun h=>?_) (fun h=>?_))<;>simp only[h,aC,c1,c2,c3,RR,seval])
  all_goals try ((first|refine aO (fun h=>?_) (fun h=>?_)|refine aR (fun h=>?_) (fun h=>?_))<;>simp only[h,aC,c1,c2,c3,RR,seval])
  all_goals try ((first|refine aO (fun h=>?_) (fun h=>?_)|refine aR (fun h=>?_) (fun h=>?_))<;>simp only[h,aC,c1,c2,c3,RR,seval])
  all_goals
   apply Y;clear Y;refine aM ?_;simp only[aZ,aL,bJ,RR,seval];refine bB.pure ?_;rfl
 have d3:=bQ g3;rw[d3]at c3;rw[d3];have hZ:=hZ (by omega) (by omega) (by omega)
 cases hr:dH p with
 |false=>
  rw[hr]at hR;refine bM 29 [.tmp 2] Tryz.func10 rfl rfl rfl rfl ?_;refine aB fun _ Y=>aA rfl ?_;simp only[RR,seval];refine aT fun b1 hn1=>?_;simp only[RR,seval];apply Y;clear Y;refine aB fun _ Y=>aA rfl ?_;simp only[aC,c1,c2,c3,RR,seval]
  all_goals try ((first|refine aO (fun h=>?_) (fun h=>?_)|refine aR (fun h=>?_) (fun h=>?_))<;>simp only[h,aC,c1,c2,c3,RR,seval])
  all_goals try ((first|refine aO (fun h=>?_) (fun h=>?_)|refine aR (fun h=>?_) (fun h=>?_))<;>simp only[h,aC,c1,c2,c3,RR,seval])
  all_goals try ((first|refine aO (fun h=>?_) (fun h=>?_)|refine aR (fun h=>?_) (fun h=>?_))<;>simp only[h,aC,c1,c2,c3,RR,seval])
  all_goals try (refine aP (hR) ?_;simp only[RR,seval])
  all_goals try ((first|refine aO (fun h=>?_) (fun h=>?_)|refine aR (fun h=>?_) (fun h=>?_))<;>simp only[h,aC,c1,c2,c3,RR,seval])
  all_goals try ((first|refine aO (fun h=>?_) (fun h=>?_)|refine aR (fun h=>?_) (fun h=>?_))<;>simp only[h,aC,c1,c2,c3,RR,seval])
  all_goals
   apply Y;clear Y;refine aM ?_;simp only[aZ,aL,bJ,RR,seval];refine bB.pure ?_;rfl
 |true=>
  rw[hr]at hR;refine bM 29 [.tmp 2] Tryz.func10 rfl rfl rfl rfl ?_;refine aB fun _ Y=>aA rfl ?_;simp only[RR,seval];refine aT fun b1 hn1=>?_;simp only[RR,seval];apply Y;clear Y;refine aB fun _ Y=>aA rfl ?_;simp only[aC,c1,c2,c3,RR,seval]
  all_goals try ((first|refine aO (fun h=>?_) (fun h=>?_)|refine aR (fun h=>?_) (fun h=>?_))<;>simp only[h,aC,c1,c2,c3,c5,RR,seval])
  all_goals try ((first|refine aO (fun h=>?_) (fun h=>?_)|refine aR (fun h=>?_) (fun h=>?_))<;>simp only[h,aC,c1,c2,c3,c5,RR,seval])
  all_goals try ((first|refine aO (fun h=>?_) (fun h=>?_)|refine aR (fun h=>?_) (fun h=>?_))<;>simp only[h,aC,c1,c2,c3,c5,RR,seval])
  all_goals try (refine aP (hR) ?_;simp only[RR,seval])
  all_goals try ((first|refine aO (fun h=>?_) (fun h=>?_)|refine aR (fun h=>?_) (fun h=>?_))<;>simp only[h,aC,c1,c2,c3,c5,RR,seval])
  all_goals try (refine aP (hZ) ?_;simp only[c5,RR,seval])
  all_goals try ((first|refine aO (fun h=>?_) (fun h=>?_)|refine aR (fun h=>?_) (fun h=>?_))<;>simp only[h,aC,c1,c2,c3,c5,RR,seval])
  all_goals
   apply Y;clear Y;refine aM ?_;simp only[aZ,aL,bJ,RR,seval];refine bB.pure ?_;rfl
end Go.Proofs.YtaecpjgmcffliaaGreatDoor
namespace Go.Proofs.YtaecpjgmcffliaaGreatDoor
open Go.Al
theorem zV (p:Pg) (hp:Fg p):cM cG 3 [p.av] (.bool true):=by
 have hF:=tR p hp;have hA:=Ce;have k1:=fun h=>mK p hp.ok (jZ hp h) (Dk hp);have k2:=fun h=>Tt p hp.ok (jZ hp h) (Dk hp);have k3:=fun h=>qZ p hp.ok (jZ hp h);have k4:=fun h=>nK p hp.ok (jZ hp h);rw[←qV]at k4;generalize dY (fun l=>l.all lJ) p=sb at *;generalize(zC p).1=tx at *;generalize(zC p).2=te at *;generalize Nw p=fb at *;obtain⟨vs,aa,fs⟩:=p;simp only[Pg.av,Pg.row]at *;clear hp
 cases fb with
 |false=>
  refine bM 39 [.tmp 2] Tryz.func3 rfl rfl rfl rfl ?_;refine aB fun _ Y=>aA rfl ?_;simp only[RR,seval];refine aT fun b1 hn1=>?_;simp only[RR,seval];apply Y;clear Y;refine aJ ?_;refine aB fun _ Y=>aA rfl ?_;simp only[RR,seval];refine aP (hF) ?_;simp only[RR,seval];apply Y;clear Y;refine aH true rfl (fun _=>?_) (fun hc=>by cases hc);refine aB fun _ Y=>aA rfl ?_;simp only[RR,seval];refine aP (hA) ?_;simp only[RR,seval];apply Y;clear Y;refine aM ?_;simp only[aZ,aL,bJ,RR,seval];refine bB.pure ?_;rfl
 |true=>
  have k1:=k1 rfl;have k2:=k2 rfl;have k3:=k3 rfl;have k4:=k4 rfl;refine bM 39 [.tmp 2] Tryz.func3 rfl rfl rfl rfl ?_;refine aB fun _ Y=>aA rfl ?_;simp only[RR,seval];refine aT fun b1 hn1=>?_;simp only[RR,seval];apply Y;clear Y;refine aJ ?_;refine aB fun _ Y=>aA rfl ?_;simp only[RR,seval];refine aP (hF) ?_;simp only[RR,seval];apply Y;clear Y;refine aH false rfl (fun hc=>by cases hc) (fun _=>?_);refine aK ?_;try simp only[RR]
  refine aB fun _ Y=>aA rfl ?_;simp only[RR,seval];refine aP (k1) ?_;simp only[RR,seval];apply Y;clear Y;refine aB fun _ Y=>aA rfl ?_;simp only[RR,seval];refine aP (k2) ?_;simp only[RR,seval];apply Y;clear Y;refine aB fun K Y=>?_;refine bK (fun x=>x≠b1) [(0,1),(1,3),(2,1),(4,0),(3,1),(5,1),(6,3),(7,3),(8,3),(9,3),(10,3),(11,3),(12,3),(13,3),(14,3),(15,3),(16,3),(17,3),(18,3)] [] cX (by kernel_rfl) rfl rfl ?_;simp only[cO,dG,RR,seval]
  all_goals try (refine aP (hA) ?_;simp only[RR,seval])
  all_goals try ((first|refine aO (fun h=>?_) (fun h=>?_)|refine aR (fun h=>?_) (fun h=>?_))<;>simp only[h,cO,dG,EM,gG,Option.map_some,decide_true,Bool.and_self,Bool.and_true,RR,seval])
  all_goals try (refine aP (k3) ?_;simp only[RR,seval])
  all_goals try (refine aP (k4) ?_;simp only[decide_true,RR,seval])
  all_goals try ((first|refine aO (fun h=>?_) (fun h=>?_)|refine aR (fun h=>?_) (fun h=>?_))<;>simp only[h,cO,dG,EM,gG,Option.map_some,decide_true,Bool.and_self,Bool.and_true,RR,seval])
  all_goals try ((first|refine aO (fun h=>?_) (fun h=>?_)|refine aR (fun h=>?_) (fun h=>?_))<;>simp only[h,cO,dG,EM,gG,Option.map_some,decide_true,Bool.and_self,Bool.and_true,RR,seval])
  all_goals
   apply Y;clear Y;refine aM ?_;simp only[aZ,aL,bJ,Option.map_some,RR,seval];refine bB.pure ?_;simp
end Go.Proofs.YtaecpjgmcffliaaGreatDoor
namespace Go.Al
open Go.Lib
theorem uD {P:Program} {W:World} {name:String} {k:IntKind} {zs:List Int} {g:Nat} {t e:TypeId} {n:Nat} (hg:P.globalNamed name=some g) (hty:(P.globals[g]?).map (·.type)=some t) (ht:P.underlying t=some (.array n e)) (he:P.underlying e=some (.int k)) (hce:P.cellsOf e=1) (hct:P.cellsOf t=n):
  ∀{l:List (String×DataW Unit)} {ps:List MemPlace},DataW.LaidVars P W l ps→(name,tabData k zs)∈l→W.var? P name=some (zs.map fun z=>Value.int k z).toArray
 |[],_,_,hm=>by cases hm
 |(nm,d)::rest,ps,h,hm=>by
  obtain⟨g',t',cs,fuel,p,q,hg',ht',hvar,hd,hrest,_⟩:=h;rcases List.mem_cons.1 hm with hm|hm
  ·cases hm
   obtain rfl:=Option.some.inj (hg.symm.trans hg');obtain rfl:=Option.some.inj (hty.symm.trans ht');rw[hvar,←cells_of_tab ht he hce hct hd]
  exact uD hg hty ht he hce hct hrest hm
def O2:DataW Unit→Value
 | .lit (.int k z)=> .int k z
 | .lit (.string s)=> .string ⟨s.toArray⟩
 |_=>Go.undef
def Um:DataW Unit→Array Value
 | .agg l=>(l.map O2).toArray
 |_=> #[]
end Go.Al
namespace Go.Proofs.YtaecpjgmcffliaaGreatDoor
open Go.Al Go.Lib
theorem Nr:Tryz.prog.globalNamed "seedcorn/token.words" =some 0:=by kernel_rfl
theorem P2:(Tryz.prog.globals[0]?).map (·.type)=some 327:=by kernel_rfl
theorem Y2:Tryz.prog.globalNamed "internal/strconv.uint64pow10" =some 1:=by kernel_rfl
theorem BF:(Tryz.prog.globals[1]?).map (·.type)=some 353:=by kernel_rfl
theorem CU:Tryz.prog.underlying 327=some (.array 10 9):=by kernel_rfl
theorem CS:Tryz.prog.underlying 353=some (.array 20 172):=by kernel_rfl
theorem uStr:Tryz.prog.underlying 9=some .string:=by kernel_rfl
theorem BS:Tryz.prog.underlying 172=some (.int .u64):=by kernel_rfl
theorem CL:Tryz.prog.cellsOf 9=1:=by kernel_rfl
theorem CJ:Tryz.prog.cellsOf 172=1:=by kernel_rfl
theorem CX:Tryz.prog.cellsOf 327=10:=by kernel_rfl
theorem CW:Tryz.prog.cellsOf 353=20:=by kernel_rfl
theorem Aq {S:dL} {w:World} {b:Nat} {α:Type} (fv:α→Value) (fa:α→AV) (hv: ∀a,bO S w (fa a) (fv a)): ∀(ws:List α) (off:Nat),(∀(i:Nat) s,ws[i]?=some s→w.cell? ⟨b,off+i,none⟩=some (fv s))→cL S w b off (ws.map fa)
 |[],_,_=>by simp only[List.map_nil,cL]
 |s::ws,off,h=>by
  simp only[List.map_cons,cL];refine⟨⟨_,by simpa using h 0 s rfl,hv s⟩,Aq fv fa hv ws (off+1) fun i s' hs=>?_⟩;rw[show off+1+i=off+(i+1)by omega];exact h (i+1) s' (by simpa using hs)
def AN:List Int:=[1,10,100,1000,10000,100000,1000000,10000000,100000000,1000000000,10000000000,100000000000,1000000000000,10000000000000,100000000000000,1000000000000000,10000000000000000,100000000000000000,1000000000000000000,10000000000000000000]
theorem wC {W:World} (hL:laidMet Tryz.prog [("math/bits.deBruijn32tab",Rows.laid_math_bits_deBruijn32tab),("math/bits.deBruijn64tab",Rows.laid_math_bits_deBruijn64tab),("internal/strconv.uint64pow10",Rows.laid_internal_strconv_uint64pow10),("seedcorn/token.words",Rows.laid_seedcorn_token_words)] W):St cG ⟨W,G5 lG,old W,[],fun _=>Go.undef⟩ (old W) lG W:=by
 obtain⟨ps,hv,_⟩:=hL;have v1:W.var? Tryz.prog "seedcorn/token.words" =some (dA.map fun s=>Value.string ⟨s.toArray⟩).toArray:=rO Nr P2 CU uStr CL CX hv (by simp only[List.mem_cons];right;right;right;left;rfl)
 have v3:W.var? Tryz.prog "internal/strconv.uint64pow10" =some (AN.map fun z=>Value.int .u64 z).toArray:=uD Y2 BF CS BS CJ CW hv (by simp only[List.mem_cons];right;right;left;rfl)
 have lt: ∀{n:String} {g:Nat} {cs:Array Value},Tryz.prog.globalNamed n=some g→W.var? Tryz.prog n=some cs→g<W.heap.size:=fun {n g cs} hg h=>by
  simp only[World.var?,hg,Option.bind_some]at h;split at h
  ·rename_i e;exact(Array.getElem?_eq_some_iff.1 e).1
  cases h
 refine⟨fun k hk=>hk,fun _ h=>h,fun k hk=> .inl hk,fun b o h=>(by cases h),iY.refl _ _,fun g row h=>?_⟩
 have key: ∀{α:Type} (fv:α→Value) (fa:α→AV),(∀a,bO (old W) W (fa a) (fv a))→ ∀{n:String} {g:Nat} {ws:List α},Tryz.prog.globalNamed n=some g→W.var? Tryz.prog n=some (ws.map fv).toArray→cL (old W) W g 0 (ws.map fa):=fun {α} fv fa hva {n g ws} hg h=>
  Aq fv fa hva ws 0 fun i s hs=>by
   rw[World.var?_cell hg h];simp [hs]
 have ks: ∀{n:String} {g:Nat} {ws:List (List UInt8)},Tryz.prog.globalNamed n=some g→W.var? Tryz.prog n=some (ws.map fun s=>Value.string ⟨s.toArray⟩).toArray→cL (old W) W g 0 (ws.map .str):=fun {n g ws} hg h=>key (fun s:List UInt8=>Value.string ⟨s.toArray⟩) AV.str (fun a=>by simp only[bO]) hg h;simp only[Y7,D7]at h;split at h
 ·cases h;exact⟨lt Nr v1,ks Nr v1⟩
 ·cases h;exact⟨lt Y2 v3,key (fun z:Int=>Value.int .u64 z) (AV.int .u64) (fun a=>by simp only[bO]) (ws:=AN) Y2 v3⟩
 cases h
def rR (d:DataW Unit):Obj→Obj
 | .cells _ t frozen=> .cells (Um d) t frozen
 |o=>o
noncomputable def If (h:Array Obj):Array Obj:=
 (((h.modify 2 (rR Rows.laid_math_bits_deBruijn32tab)).modify 3 (rR Rows.laid_math_bits_deBruijn64tab)).modify 1 (rR Rows.laid_internal_strconv_uint64pow10)).modify 0 (rR Rows.laid_seedcorn_token_words)
end Go.Proofs.YtaecpjgmcffliaaGreatDoor
namespace Go.Proofs.YtaecpjgmcffliaaGreatDoor.fnSelfTexts
open Go.ChangeShapes Go.WideShapes Go.ChangeAt Go.RowKit Go.Al Go.ChangeMaps
theorem own:ownKnob Tryz.prog.godebug=none:=by kernel_rfl
theorem Md:laidOutB cG.P=true:=by kernel_rfl
theorem Lq: ∀t∈Tryz.f3.params.toList,cG.P.readableRec t=true∧t<cG.P.types.size:=by
 rw[Tryz.params3];intro t ht;simp only[List.mem_cons,List.not_mem_nil,or_false]at ht;rcases ht with rfl
 all_goals exact⟨by kernel_rfl,aD (by kernel_rfl)⟩
theorem uBool:Tryz.prog.underlying 4=some .bool:=by kernel_rfl
theorem J6: ∃fs,Tryz.prog.underlying 26=some (.struct fs):=by
 have h:=AA.uPg;simp only[gS]at h;split at h
 ·rename_i fs hfs;exact⟨fs,hfs⟩
 cases h
theorem mU (H:Type) (enc:TypeId×Value→H) (W:World) (base:Nat) (args:Array Value) (ds gs:List (DataW H)) (before:List MemPlace)
  (hval: ∀(j:Nat) t v,Tryz.f3.params[j]?=some t→args[j]?=some v→Value.okWide Tryz.prog W .any base t v)
  (hW:DataW.Whole enc Tryz.prog Tryz.f3.params.toList Rows.selfTextsSpec.vars false W args.toList ds gs before) (hL:laidMetH Tryz.prog Rows.selfTextsUptoRow.laid W) (hk:Rows.uptoSmall H (ds++gs)=true):
  Calls Tryz.prog 3 args W fun e W'=> ∃v,e= .returned v∧Rows.selfTextsSpec.post enc Tryz.prog Tryz.f3 false true false false W args v W':=by
 have hst:=wC hL;have hW2:=hW;obtain⟨p,q,hA,_⟩:=hW2;rw[Tryz.params3]at hA hval;obtain⟨v0,vs0,d0,ds0,p0,q0,e0,rfl,rfl,h0,r0⟩:=trodAll_cons hA;obtain⟨rfl,rfl,rfl⟩:=trodAll_nil r0;obtain rfl:args= #[v0]:=by cases args;simp_all
 obtain⟨x0,hx0,hv0⟩:=Du AA J6 (hval 0 _ v0 rfl rfl) h0 (by have hB:Rows.uptoBulkAll _≤1048576:=aD hk;simp only[List.cons_append,Rows.uptoBulkAll]at hB;omega);refine Ie (E:=cG) (xs:=[x0.av]) Md Lq rfl uBool rfl (fun ds h=>?_) hW hst ?_ (zV x0 hx0)
 ·rw[Tryz.params3]at h
  match ds,h with
  |[a],_=>exact⟨rfl,rfl,rfl⟩
 simp only[bW];exact⟨_,_,rfl,by first|exact hv0|simpa only[bO,Pg.av]using hv0,rfl⟩
noncomputable def jP (os:Os):World:=
 let w:=World.holding Tryz.prog os ⟨#[], #[],[]⟩
 {w with heap:=If w.heap}
theorem wZ (os:Os):laidMet Tryz.prog Rows.selfTextsUptoRow.laid ((jP os).forCall (fun _ _=>0) ⟨#[], #[.agg #[.slice Option.none 0 0, .slice Option.none 0 0, .slice Option.none 0 0]],[]⟩).memory:=
 laidMet_of_run' 8 (by kernel_rfl) (by kernel_rfl)
theorem Po (os:Os) {H:Type} (enc:TypeId×Value→H): ∃places,DataW.whole enc Tryz.prog ((jP os).forCall (fun _ _=>0) ⟨#[], #[.agg #[.slice Option.none 0 0, .slice Option.none 0 0, .slice Option.none 0 0]],[]⟩).memory Tryz.f3.params.toList Rows.selfTextsSpec.vars false (#[.agg #[.slice Option.none 0 0, .slice Option.none 0 0, .slice Option.none 0 0]]:Array Value).toList 8=some ([.agg [.nil, .nil, .nil]],[],places):=
 ⟨[],by kernel_rfl⟩
set_option maxRecDepth 100000 in
theorem Mc (os:Os) (started:os.Started) (H:Type) (enc:TypeId×Value→H) (F:Stop.Interp):
  ReturnsInHanded {} Tryz.checked os 3 .any ((Rows.OpenSpec.upto Rows.selfTextsSpec).preRow enc Tryz.prog Tryz.f3 Rows.selfTextsUptoRow.domain false Rows.selfTextsUptoRow.laid) (((Rows.OpenSpec.upto Rows.selfTextsSpec).at F).post enc Tryz.prog Tryz.f3 false true false false):=by
 obtain⟨places,hx⟩:=Po os enc
 refine returnsInHanded_of_row (C:=Tryz.checked) (s:=Rows.OpenSpec.upto Rows.selfTextsSpec) own started (by kernel_rfl) Tryz.func3
  (witness_row_at (enc:=enc) (C:=Tryz.checked) false (jP os) #[.agg #[.slice Option.none 0 0, .slice Option.none 0 0, .slice Option.none 0 0]] rfl (by kernel_rfl) (by kernel_rfl) (by kernel_rfl)
   (OpenSpec.preRow_of_cond 8 hx (by kernel_rfl) (fun k hk=>by cases hk;kernel_rfl) (by kernel_rfl) (wZ os))) ?_
 intro W base args ds gs before hval hW _ hk _ hL _ _;exact mU H enc W base args ds gs before hval hW hL (hk _ rfl)
theorem said:Rows.SelfTextsUptoSaid:=
 OpenClaim.holds_of_cond 3 Tryz.f3 rfl rfl rfl rfl rfl rfl rfl ⟨rfl,rfl,rfl,rfl,rfl⟩ rfl rfl rfl rfl rfl (by kernel_rfl) Tryz.func3 (by kernel_rfl)
  (aD (by kernel_rfl)) (by unfold Func.isWrapper;first|(rw[if_pos (by decide+kernel)];kernel_rfl)|(rw[if_neg (by decide+kernel)];exact⟨rfl,rfl⟩))
  (fun os started H enc _ F=>by rw[OpenClaim.pre_eq_preRow];exact Mc os started H enc F)
theorem fC (f:FuncId) (fn:Func) (hf:Tryz.pinned.checked.prog.funcNamed "seedcorn/seedcornlaw52.SelfTexts" =some f) (hfn:Tryz.pinned.checked.prog.funcs[f]?=some fn):
  false=Tryz.pinned.checked.prog.looks []∧ ∀(j:Nat) t,fn.params[j]?=some t→Tryz.pinned.checked.prog.wantsStandIn t=false:=by
 obtain rfl:f=3:=Option.some.inj ((show Tryz.prog.funcNamed "seedcorn/seedcornlaw52.SelfTexts" =some 3 by kernel_rfl).symm.trans hf)|>.symm
 obtain rfl:fn=Tryz.f3:=(Option.some.inj (Tryz.func3.symm.trans hfn)).symm;refine⟨by kernel_rfl,fun j t ht=>?_⟩;rw[Tryz.params3]at ht;have hm:=Array.mem_of_getElem? ht;simp only[List.mem_toArray,List.mem_cons,List.not_mem_nil,or_false]at hm;rcases hm with rfl
 all_goals exact(show Tryz.prog.wantsStandIn _=false by kernel_rfl)
theorem card:Rows.SelfTextsUptoCardSaid:=
 Claim7.holds_tied_plain_at .later [] _ _ _ _ said (fun _ h=>by cases h) (by kernel_rfl) (fun _ h=>by cases h) selfTextsUpto_row_tie rfl ⟨rfl,rfl⟩ (by kernel_rfl) rfl fC (by kernel_rfl)
end Go.Proofs.YtaecpjgmcffliaaGreatDoor.fnSelfTexts
namespace Go.Al
noncomputable def Qm {α:Type} (a b:α):Bool:= @decide (a=b) (Classical.propDecidable _)
theorem kA {α:Type} {a b:α} (h:a=b):Qm a b=true:= @bQ _ (Classical.propDecidable _) h
theorem pW {α:Type} {a b:α} (h: ¬a=b):Qm a b=false:= @aX _ (Classical.propDecidable _) h
theorem vO {α:Type} {a b:α}:Qm a b=true↔a=b:=⟨fun h=> @aD _ (Classical.propDecidable _) h,kA⟩
theorem sJ {α:Type} (a:α):Qm a a=true:=kA rfl
theorem A0 {α:Type} {a b:α} (h:Qm a b=false): ¬a=b:=fun e=>by rw[kA e]at h;cases h
theorem xN {α:Type} {l m:List α} {i:Nat} {a b:α} (h1:l[i]?=some a) (h2:m[i]?=some b) (h: ¬a=b):Qm l m=false:=
 pW fun e=>by subst e;rw[h1]at h2;cases h2;exact h rfl
theorem En {α:Type} {l m:List α} (h: ¬l.length=m.length):Qm l m=false:=pW fun e=>h (by rw[e])
theorem mB {α:Type} {l m:List α} {k:Nat} (hk:l.take k=m.take k) {a b:α} (h1:l[k]?=some a) (h2:m[k]?=some b) (h:a=b):l.take (k+1)=m.take (k+1):=by
 obtain⟨i1,rfl⟩:=bV.1 h1;obtain⟨i2,rfl⟩:=bV.1 h2;rw[bL i1,bL i2,hk,h]
theorem iH {α:Type} {l m:List α} (hl:l.length=m.length) (hk:l.take l.length=m.take l.length):l=m:=by
 rw[List.take_length,hl,List.take_length]at hk;exact hk
end Go.Al
namespace Go.Proofs.YtaecpjgmcffliaaGreatDoor
open Go.Al
theorem sY (l m:List cN) (hfl:cQ l) (hfm:cQ m):cM cG 48 [.isl 1 (l.map bG), .isl 1 (m.map bG)] (.bool (Qm l m)):=by
 have hfl:l.length≤9223372036854775807:=hfl;refine bM 26 [.tmp 4] Tryz.func48 rfl rfl rfl rfl ?_;refine aB fun _ Y=>aA rfl ?_;simp only[RR,seval];apply Y;clear Y;refine aJ ?_;refine aB fun _ Y=>aA rfl ?_;simp only[aC,RR,seval];apply Y;clear Y;refine aH _ rfl (fun hc1=>?_) (fun hc1=>?_)
 ·refine aB fun _ Y=>aA rfl ?_
  simp only[RR,seval];apply Y;clear Y;refine aM ?_;simp only[aZ,aL,bJ,RR,seval];refine bB.pure ?_;rw[En];intro e;simp [e]at hc1
 have hlen:l.length=m.length:=by
  have :decide ((l.length:Int)=(m.length:Int))=true:=by simpa using hc1
  have:=aD this;omega
 refine aK ?_;try simp only[RR]
 refine aJ ?_;refine aB fun _ Y=>aA rfl ?_;simp only[RR,seval];apply Y;clear Y;refine bN fun F1 M1 hfr hH=>?_;have g0:=hfr 0;have g1:=hfr 1;have g4:=hfr 4;have g5:=hfr 5
 try simp only[RR,seval]at g0 g1 g4 g5
 have f0:=g0;clear g0;have f1:=g1;clear g1;have f4:=g4;clear g4;have f5:=g5;clear g5;clear hfr hH;refine aN ?_;refine cF [0,1] (l.length) (fun k fr M=>fr 5= .int .i64 (k:Nat)∧l.take k=m.take k) ⟨f5,rfl⟩ ?_;rintro k F2 M2 hk0 ⟨fx,hk⟩ agx K0 hK0;have f0:=(agx 0 rfl).trans f0;have f1:=(agx 1 rfl).trans f1;have f5:=fx;clear fx;have ag0:=aY.refl [0,1] F2;clear agx;refine aJ ?_;refine aB fun _ Y=>aA rfl ?_;simp only[f0,f5,aC,RR,seval];apply Y;clear Y;refine aH _ rfl (fun hc=>?_) (fun hc=>?_)
 ·have hlt0:k<l.length:=by have:=aD hc;omega
  clear hc;have g1:=aG hlt0;have g2:=aG (show k<m.length by omega);have ga:=vH g1;have gb:=vH g2;generalize l[k]=a at *;generalize m[k]=b at *;refine aK ?_;try simp only[RR]
  refine aJ ?_;refine aN ?_;refine aB fun K Y=>?_;refine bK (fun x=>True) [(0,3),(1,3),(2,3),(3,1),(4,3),(5,3),(6,3),(7,1),(8,3)] [] cX (by kernel_rfl) rfl rfl ?_;simp only[cO,f0,f1,f5,ga,gb,RR,seval];apply Y;clear Y;refine aH _ rfl (fun hc6=>?_) (fun hc6=>?_)
  ·refine aB fun _ Y=>aA rfl ?_
   simp only[RR,seval];apply Y;clear Y;refine aM ?_;simp only[aZ,aL,bJ,RR,seval];refine bB.pure ?_;rw[xN g1 g2];rintro rfl;simp at hc6
  refine aK ?_;try simp only[RR]
  refine aA rfl ?_;simp only[f5,RR,seval]
  try rw[aV _ (by omega)]
  refine hK0 _ _ hlt0 ⟨by first|rfl|(simp only[aF,seval];rfl),mB hk g1 g2 (by simpa using hc6)⟩ (by repeat (first|exact ag0|refine aY.upd rfl ?_))
 have hkn0:k=l.length:=by have:=aE hc;omega
 clear hc;refine bI ?_;simp only[RR,seval];refine aB fun _ Y=>aA rfl ?_;simp only[RR,seval];apply Y;clear Y;refine aM ?_;simp only[aZ,aL,bJ,RR,seval];refine bB.pure ?_;rw[hkn0]at hk;rw[kA (iH hlen hk)]
set_option maxHeartbeats 4000000 in
theorem zY (n:Nat): ∀(l m:List Ex),jA l≤n→rT l→rT m→cM cG 74 [.isl 5 (l.map Ex.row), .isl 5 (m.map Ex.row)] (.bool (Qm l m)):=by
 induction n using Nat.strongRecOn with
 |_ n ih=>
  intro l m hn hol hom;have hfl:l.length≤9223372036854775807:=hol.fit;refine bM 81 [.tmp 4] Tryz.func74 rfl rfl rfl rfl ?_;refine aB fun _ Y=>aA rfl ?_;simp only[RR,seval];apply Y;clear Y;refine aJ ?_;refine aB fun _ Y=>aA rfl ?_;simp only[aC,RR,seval];apply Y;clear Y;refine aH _ rfl (fun hc1=>?_) (fun hc1=>?_)
  ·refine aB fun _ Y=>aA rfl ?_
   simp only[RR,seval];apply Y;clear Y;refine aM ?_;simp only[aZ,aL,bJ,RR,seval];refine bB.pure ?_;rw[En];intro e;simp [e]at hc1
  have hlen:l.length=m.length:=by
   have :decide ((l.length:Int)=(m.length:Int))=true:=by simpa using hc1
   have:=aD this;omega
  refine aK ?_;try simp only[RR]
  refine aJ ?_;refine aB fun _ Y=>aA rfl ?_;simp only[RR,seval];apply Y;clear Y;refine bN fun F1 M1 hfr hH=>?_;have g0:=hfr 0;have g1:=hfr 1;have g4:=hfr 4;have g5:=hfr 5
  try simp only[RR,seval]at g0 g1 g4 g5
  have f0:=g0;clear g0;have f1:=g1;clear g1;have f4:=g4;clear g4;have f5:=g5;clear g5;clear hfr hH;refine aN ?_;refine cF [0,1] (l.length) (fun k fr M=>fr 5= .int .i64 (k:Nat)∧l.take k=m.take k) ⟨f5,rfl⟩ ?_;rintro k F2 M2 hk0 ⟨fx,hk⟩ agx K0 hK0;have f0:=(agx 0 rfl).trans f0;have f1:=(agx 1 rfl).trans f1;have f5:=fx;clear fx;have ag0:=aY.refl [0,1] F2;clear agx;refine aJ ?_;refine aB fun _ Y=>aA rfl ?_;simp only[f0,f5,aC,RR,seval];apply Y;clear Y;refine aH _ rfl (fun hc=>?_) (fun hc=>?_)
  ·have hlt0:k<l.length:=by have:=aD hc;omega
   clear hc;have g1:=aG hlt0;have g2:=aG (show k<m.length by omega);have ga:=nM g1;have gb:=nM g2;have o1:=hol.all _ (bE hlt0);have o2:=hom.all _ (bE (show k<m.length by omega));have z1:=fH (bE hlt0);generalize l[k]=a at *;generalize m[k]=b at *;have z2:=a.sz_eq;have hih:=ih (jA a.kids) (by omega) a.kids b.kids (bF _) o1.kids o2.kids;obtain⟨k1,p1,n1,s1,l1⟩:=a;obtain⟨k2,p2,n2,s2,l2⟩:=b;simp only[Ex.kind,Ex.op,Ex.num,Ex.name,Ex.kids]at ga gb hih;refine aK ?_;try simp only[RR]
   refine aJ ?_;refine aN ?_;refine aB fun K Y=>?_;refine bK (fun x=>True) [(0,3),(1,3),(2,3),(3,3),(4,1),(5,3),(6,3),(7,3),(8,3),(9,1),(10,3),(11,3),(12,3),(13,3),(14,3),(15,3),(16,1),(17,3),(18,3),(19,3),(20,3),(21,1),(22,3),(23,3),(24,3),(25,3),(26,3),(27,3),(28,3),(29,1),(30,3),(31,3),(32,3),(33,3),(34,1),(35,3),(36,3),(37,3),(38,3),(39,3),(40,3),(41,3),(42,1),(43,3),(44,3),(45,3),(46,3),(47,1),(48,3),(49,3),(50,3),(51,3),(52,3),(53,3),(54,3),(55,1),(56,3),(57,3),(58,3),(59,3),(60,1),(61,1),(62,3),(63,3)] [] cX (by kernel_rfl) rfl rfl ?_;simp only[cO,f0,f1,f5,ga,gb,RR,seval]
   all_goals try ((first|refine aO (fun h=>?_) (fun h=>?_)|refine aR (fun h=>?_) (fun h=>?_))<;>simp only[h,f0,f1,f5,ga,gb,RR,seval])
   all_goals try ((first|refine aO (fun h=>?_) (fun h=>?_)|refine aR (fun h=>?_) (fun h=>?_))<;>simp only[h,f0,f1,f5,ga,gb,RR,seval])
   all_goals try ((first|refine aO (fun h=>?_) (fun h=>?_)|refine aR (fun h=>?_) (fun h=>?_))<;>simp only[h,f0,f1,f5,ga,gb,RR,seval])
   all_goals try ((first|refine aO (fun h=>?_) (fun h=>?_)|refine aR (fun h=>?_) (fun h=>?_))<;>simp only[h,f0,f1,f5,ga,gb,RR,seval])
   all_goals try (refine aP (hih) ?_;simp only[RR,seval])
   all_goals
    apply Y;clear Y;refine aH _ rfl (fun hc6=>?_) (fun hc6=>?_)
    ·try (cases hc6;done)
     all_goals
      refine aB fun _ Y=>aA rfl ?_;simp only[RR,seval];apply Y;clear Y;refine aM ?_;simp only[aZ,aL,bJ,RR,seval];refine bB.pure ?_;rw[xN g1 g2];intro e;cases e;simp_all [sJ]
    try (cases hc6;done)
    all_goals
     refine aK ?_;try simp only[RR]
     refine aA rfl ?_;simp only[f5,RR,seval]
     try rw[aV _ (by omega)]
     refine hK0 _ _ hlt0 ⟨by first|rfl|(simp only[aF,seval];rfl),mB hk g1 g2 (by have hq:=vO.1 (by simpa using hc6:Qm l1 l2=true);simp_all)⟩ (by repeat (first|exact ag0|refine aY.upd rfl ?_))
  have hkn0:k=l.length:=by have:=aE hc;omega
  clear hc;refine bI ?_;simp only[RR,seval];refine aB fun _ Y=>aA rfl ?_;simp only[RR,seval];apply Y;clear Y;refine aM ?_;simp only[aZ,aL,bJ,RR,seval];refine bB.pure ?_;rw[hkn0]at hk;rw[kA (iH hlen hk)]
end Go.Proofs.YtaecpjgmcffliaaGreatDoor
