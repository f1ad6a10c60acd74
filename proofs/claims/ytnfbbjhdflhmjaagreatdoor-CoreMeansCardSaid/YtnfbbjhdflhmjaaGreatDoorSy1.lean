/- The language's trees, as plain Lean data, and the rows of cells that they stand for. No program in sight. The language's trees among a law's arguments: what is read as data stands for a tree. It speaks of no one program. The little logic: a box's row made weaker; rows that name no owned block. -/
import Derived.Test.YtnfbbjhdflhmjaaGreatDoorAl3
import Derived.Test.YtnfbbjhdflhmjaaGreatDoorAl4
set_option linter.unusedSimpArgs false
set_option linter.unusedVariables false
set_option maxRecDepth 10000
namespace Go.Al
abbrev cR:=List UInt8
inductive Ex where
 |mk (kind op num:Int) (name:cR) (kids:List Ex)
inductive Sm where
 |mk (kind:Int) (name:cR) (es:List Ex) (thn els:List Sm)
structure Ar where
 name:cR
 size:Int
structure Fu where
 name:cR
 params:List cR
 locs:List cR
 word:Bool
 body:List Sm
structure Pg where
 vars:List cR
 arrs:List Ar
 funs:List Fu
def Ex.kind:Ex→Int| .mk k _ _ _ _=>k
def Ex.op:Ex→Int| .mk _ o _ _ _=>o
def Ex.num:Ex→Int| .mk _ _ n _ _=>n
def Ex.name:Ex→cR| .mk _ _ _ s _=>s
def Ex.kids:Ex→List Ex| .mk _ _ _ _ l=>l
def Sm.kind:Sm→Int| .mk k _ _ _ _=>k
def Sm.name:Sm→cR| .mk _ s _ _ _=>s
def Sm.es:Sm→List Ex| .mk _ _ l _ _=>l
def Sm.thn:Sm→List Sm| .mk _ _ _ l _=>l
def Sm.els:Sm→List Sm| .mk _ _ _ _ l=>l
def bK (s:cR):List AV:=[.str s]
def strs (l:List cR):AV:= .isl 1 (l.map bK)
mutual
def Ex.row:Ex→List AV
 | .mk k o n s l=>[.int .i64 k, .int .i64 o, .int .u32 n, .str s, .isl 5 (Ed l)]
def Ed:List Ex→List (List AV)
 |[]=>[]
 |e::l=>e.row::Ed l
end
theorem Ab: ∀l:List Ex,Ed l=l.map Ex.row
 |[]=>by simp only[Ed,List.map_nil]
 |e::l=>by simp only[Ed,List.map_cons,Ab l]
def exs (l:List Ex):AV:= .isl 5 (l.map Ex.row)
theorem Ex.row_eq (e:Ex):e.row=[.int .i64 e.kind, .int .i64 e.op, .int .u32 e.num, .str e.name, .isl 5 (e.kids.map Ex.row)]:=by
 cases e;simp only[Ex.row,Ab,Ex.kind,Ex.op,Ex.num,Ex.name,Ex.kids]
mutual
def Sm.row:Sm→List AV
 | .mk k s l t u=>[.int .i64 k, .str s,exs l, .isl 5 (Aa t), .isl 5 (Aa u)]
def Aa:List Sm→List (List AV)
 |[]=>[]
 |e::l=>e.row::Aa l
end
theorem zZ: ∀l:List Sm,Aa l=l.map Sm.row
 |[]=>by simp only[Aa,List.map_nil]
 |e::l=>by simp only[Aa,List.map_cons,zZ l]
def sms (l:List Sm):AV:= .isl 5 (l.map Sm.row)
theorem Sm.row_eq (s:Sm):s.row=[.int .i64 s.kind, .str s.name, .isl 5 (s.es.map Ex.row), .isl 5 (s.thn.map Sm.row), .isl 5 (s.els.map Sm.row)]:=by
 cases s;simp only[Sm.row,zZ,exs,Sm.kind,Sm.name,Sm.es,Sm.thn,Sm.els]
def Ar.row (a:Ar):List AV:=[.str a.name, .int .i64 a.size]
def ars (l:List Ar):AV:= .isl 2 (l.map Ar.row)
def Fu.row (f:Fu):List AV:=[.str f.name, .isl 1 (f.params.map bK), .isl 1 (f.locs.map bK), .bool f.word, .isl 5 (f.body.map Sm.row)]
def fus (l:List Fu):AV:= .isl 5 (l.map Fu.row)
def Pg.row (p:Pg):List AV:=[.isl 1 (p.vars.map bK), .isl 2 (p.arrs.map Ar.row), .isl 5 (p.funs.map Fu.row)]
def Pg.av (p:Pg):AV:= .agg p.row
mutual
def Ex.sz:Ex→Nat
 | .mk _ _ _ _ l=>1+iJ l
def iJ:List Ex→Nat
 |[]=>0
 |e::l=>e.sz+iJ l
end
mutual
def Sm.sz:Sm→Nat
 | .mk _ _ l t u=>1+iJ l+gA t+gA u
def gA:List Sm→Nat
 |[]=>0
 |e::l=>e.sz+gA l
end
theorem Ex.sz_eq (e:Ex):e.sz=1+iJ e.kids:=by cases e;simp only[Ex.sz,Ex.kids]
theorem Sm.sz_eq (s:Sm):s.sz=1+iJ s.es+gA s.thn+gA s.els:=by cases s;simp only[Sm.sz,Sm.es,Sm.thn,Sm.els]
theorem jR: ∀{l:List Ex} {e:Ex},e∈l→e.sz≤iJ l
 |e::l,x,h=>by
  simp only[iJ];rcases List.mem_cons.1 h with rfl|h
  ·omega
  have:=jR h;omega
theorem gY: ∀{l:List Sm} {e:Sm},e∈l→e.sz≤gA l
 |e::l,x,h=>by
  simp only[gA];rcases List.mem_cons.1 h with rfl|h
  ·omega
  have:=gY h;omega
def cY {α:Type} (l:List α):Prop:=l.length≤9223372036854775807
def cC (n:Int):Prop:=0≤n∧n<4294967296
def dA (n:Int):Prop:= -9223372036854775808≤n∧n<9223372036854775808
inductive Ex.ok:Ex→Prop where
 |mk (k o n:Int) (s:cR) (l:List Ex) (hk:dA k) (ho:dA o) (hn:cC n) (hs:cY s) (hl:cY l) (h: ∀e∈l,Ex.ok e):Ex.ok (.mk k o n s l)
structure Cw (l:List Ex):Prop where
 fit:cY l
 all: ∀e∈l,e.ok
inductive Sm.ok:Sm→Prop where
 |mk (k:Int) (s:cR) (l:List Ex) (t u:List Sm) (hk:dA k) (hs:cY s) (hl:Cw l) (ht:cY t) (hta: ∀e∈t,Sm.ok e) (hu:cY u) (hua: ∀e∈u,Sm.ok e):Sm.ok (.mk k s l t u)
structure Af (l:List Sm):Prop where
 fit:cY l
 all: ∀e∈l,e.ok
structure C7 (l:List cR):Prop where
 fit:cY l
 all: ∀s∈l,cY s
structure Fu.ok (f:Fu):Prop where
 name:cY f.name
 params:C7 f.params
 locs:C7 f.locs
 body:Af f.body
structure Pg.ok (p:Pg):Prop where
 vars:C7 p.vars
 afit:cY p.arrs
 arrs: ∀a∈p.arrs,cY a.name∧dA a.size
 ffit:cY p.funs
 funs: ∀f∈p.funs,f.ok
theorem Ex.ok.kids {e:Ex} (h:e.ok):Cw e.kids:=by cases h;exact⟨by assumption,by assumption⟩
theorem Ex.ok.name {e:Ex} (h:e.ok):cY e.name:=by cases h;assumption
theorem Ex.ok.num {e:Ex} (h:e.ok):cC e.num:=by cases h;assumption
theorem Ex.ok.kind {e:Ex} (h:e.ok):dA e.kind:=by cases h;assumption
theorem Ex.ok.op {e:Ex} (h:e.ok):dA e.op:=by cases h;assumption
theorem Sm.ok.es {s:Sm} (h:s.ok):Cw s.es:=by cases h;assumption
theorem Sm.ok.thn {s:Sm} (h:s.ok):Af s.thn:=by cases h;exact⟨by assumption,by assumption⟩
theorem Sm.ok.els {s:Sm} (h:s.ok):Af s.els:=by cases h;exact⟨by assumption,by assumption⟩
theorem Sm.ok.name {s:Sm} (h:s.ok):cY s.name:=by cases h;assumption
theorem Sm.ok.kind {s:Sm} (h:s.ok):dA s.kind:=by cases h;assumption
theorem mM {α:Type} (f:α→List AV) {l:List α} {i:Nat} {x:α} (h:l[i]?=some x):(l.map f)[i]?=some (f x):=by
 rw[bN,h];rfl
theorem nK {l:List Ex} {i:Nat} {e:Ex} (h:l[i]?=some e):(l.map Ex.row)[i]?=some [.int .i64 e.kind, .int .i64 e.op, .int .u32 e.num, .str e.name, .isl 5 (e.kids.map Ex.row)]:=by
 rw[mM _ h,e.row_eq]
theorem Fi {l:List Sm} {i:Nat} {s:Sm} (h:l[i]?=some s):(l.map Sm.row)[i]?=some [.int .i64 s.kind, .str s.name, .isl 5 (s.es.map Ex.row), .isl 5 (s.thn.map Sm.row), .isl 5 (s.els.map Sm.row)]:=by
 rw[mM _ h,s.row_eq]
theorem tP {l:List cR} {i:Nat} {s:cR} (h:l[i]?=some s):(l.map bK)[i]?=some [.str s]:=mM _ h
theorem pG {l:List Fu} {i:Nat} {f:Fu} (h:l[i]?=some f):(l.map Fu.row)[i]?=some [.str f.name, .isl 1 (f.params.map bK), .isl 1 (f.locs.map bK), .bool f.word, .isl 5 (f.body.map Sm.row)]:=mM _ h
theorem Bx {l:List Ar} {i:Nat} {a:Ar} (h:l[i]?=some a):(l.map Ar.row)[i]?=some [.str a.name, .int .i64 a.size]:=mM _ h
end Go.Al
namespace Go.Al
open Go.ChangeShapes Go.WideShapes
section
variable {H : Type} {enc : TypeId × Value → H} {P : Program} {w : World} {sp : Nat → Bool} {held : Bool}
theorem rX {α:Type} {Q:Nat→α→Prop}: ∀n:Nat,(∀i,i<n→ ∃a,Q i a)→ ∃l:List α,l.length=n∧ ∀(i:Nat) a,l[i]?=some a→Q i a
 |0,_=>⟨[],rfl,fun i a h=>by simp at h⟩
 |n+1,h=>by
  obtain⟨l,h1,h2⟩:=rX n fun i hi=>h i (by omega);obtain⟨a,ha⟩:=h n (by omega);refine⟨l++[a],by simp [h1],fun i b hb=>?_⟩;by_cases hi:i<n
  ·rw[List.getElem?_append_left (by omega)]at hb;exact h2 i b hb
  rw[List.getElem?_append_right (by omega)]at hb
  have :i-l.length=0:=by
   by_cases e:i-l.length=0
   ·exact e
   rw[List.getElem?_eq_none (by simp;omega)]at hb;cases hb
  rw[this]at hb;simp at hb;subst hb;rw[show i=n by omega];exact ha
theorem iC {α:Type} {row:α→List AV} {ok:α→Prop} {t e:TypeId} {sz fuel:Nat} {cs:List Value} {x:DataW H×List MemPlace} (ht:P.underlying t=some (.slice e)) (hc:P.cellsOf e=sz) (hz:0<sz)
  (hlen: ∀a,(row a).length=sz) (h:DataW.trod enc P w 0 sp held fuel t cs=some x)
  (each: ∀n cs y,n<fuel→DataW.trod enc P w 0 sp held n e cs=some y→ ∃a:α,ok a∧cB (old w) w (row a) cs):
  ∃l:List α,cY l∧(∀a∈l,ok a)∧ ∃v,cs=[v]∧bM (old w) w (.isl sz (l.map row)) v:=by
 rcases DataW.trod_slice ht h with⟨rfl,_⟩|⟨a,len,cap,elems,rest,n,rfl,rfl,_,_,hl,hm,hel,hi,_,_⟩
 ·refine⟨[],by simp [cY],by simp,_,rfl, ?_⟩
  simp only[bM,List.map_nil];exact⟨none,0,rfl,aY _,by simp [maxLen], .inl trivial⟩
 have key: ∀i,i<len→ ∃b:α,ok b∧ ∃ds:List Value,ds.length=sz∧cB (old w) w (row b) ds∧ ∀j,j<sz→w.cell? ((a.add (i *sz)).add j)=ds[j]?:=by
  intro i hil;have h1:=hi i hil;rw[hc,aG (by omega),bW]at h1;obtain⟨ds,hds,hy⟩:=h1;obtain⟨_,h3,h4⟩:=World.cells?_some hds;obtain⟨b,hb,hr⟩:=each n ds _ (by omega) hy;exact⟨b,hb,ds,h3,hr,h4⟩
 obtain⟨l,hll,hget⟩:=rX len key;refine⟨l,by simp only[cY,hll];simp only[maxLen]at hm;omega,fun b hb=>?_,_,rfl, ?_⟩
 ·obtain⟨i,hi2⟩:=List.getElem?_of_mem hb
  exact(hget i b hi2).1
 simp only[bM,aD,List.map_eq_nil_iff];refine⟨some a,cap,by rw[hll],by omega,hm, ?_⟩;by_cases hnil:l=[]
 ·exact .inl hnil
 right;obtain⟨b0,l0,rfl⟩: ∃b0 l0,l=b0::l0:=by cases l with |nil=>exact absurd rfl hnil|cons b l=>exact⟨b,l,rfl⟩
 obtain⟨_,ds,hd1,_,hd3⟩:=hget 0 b0 rfl;have h0:=hd3 0 hz;rw[aG (by omega)]at h0;simp only[Nat.zero_mul,Addr.add,if_true]at h0
 have hspot:a.spot=none:=by
  unfold World.cell? at h0;split at h0
  ·split at h0
   ·cases h0
   rename_i hs;cases hh:a.spot with |none=>rfl|some y=>rw[hh]at hs;simp at hs
  cases h0
 have hblk:a.block<w.heap.size:=by
  unfold World.cell? at h0;split at h0
  ·rename_i e;exact(Array.getElem?_eq_some_iff.1 e).1
  cases h0
 obtain⟨ab,ao,asp⟩:=a;simp only at hspot hblk;subst hspot;refine⟨ab,ao,rfl,hblk,cD.of_get fun i r hr=>?_⟩;rw[bN,aV]at hr;obtain⟨b,hb,rfl⟩:=hr;obtain⟨_,ds,h1,h2,h3⟩:=hget i b hb;refine⟨hlen b,cW.of_vals h2 fun j v hj=>?_⟩;have hjl:j<sz:=by have:=(aZ.1 hj).1;omega
 rw[←hj,←h3 j hjl];congr 1;simp only[Addr.add];by_cases e1:i *sz=0<;>by_cases e2:j=0<;>simp [e1,e2]
def jW (P:Program) (t:TypeId):Option (List (TypeId×Nat)):=match P.underlying t with
 |some (.struct fs)=>some (fs.toList.map fun f=>(f.type,f.offset))
 |_=>none
theorem kV {t:TypeId} {fs:List (TypeId×Nat)} {fuel:Nat} {cs:List Value} {x:DataW H×List MemPlace} (ht:jW P t=some fs) (h:DataW.trod enc P w 0 sp held fuel t cs=some x):
  ∃n,fuel=n+1∧cs.length=P.cellsOf t∧ ∀(i:Nat) ty off,fs[i]?=some (ty,off)→ ∃y,DataW.trod enc P w 0 sp held n ty ((cs.drop off).take (P.cellsOf ty))=some y:=by
 unfold jW at ht;split at ht
 ·rename_i fa hu
  cases ht;obtain⟨xs,n,h1,_,h3,h4,h5⟩:=DataW.trod_struct hu h;refine⟨n,h1,h3,fun i ty off hi=>?_⟩;rw[bN,aV]at hi;obtain⟨f,hf,e⟩:=hi;simp only[Prod.mk.injEq]at e;have h6:=h5 i f (by simpa using hf);rw[e.1,e.2]at h6
  have hlt:i<xs.length:=by
   have:=(aZ.1 hf).1;rw[h4];simpa using this
  exact⟨xs[i],by rw[h6,aG hlt]⟩
 cases ht
theorem pF {t:TypeId} {k:IntKind} {fuel:Nat} {cs:List Value} {x:DataW H×List MemPlace} (ht:P.underlying t=some (.int k)) (h:DataW.trod enc P w 0 sp held fuel t cs=some x): ∃n,cs=[.int k n]∧(Lit.int k n).wf=true:=by
 obtain⟨n,h1,_,h3⟩:=DataW.trod_int ht h;exact⟨n,h1,h3⟩
theorem pB {t:TypeId} {fuel:Nat} {cs:List Value} {x:DataW H×List MemPlace} (ht:P.underlying t=some .string) (h:DataW.trod enc P w 0 sp held fuel t cs=some x): ∃s:cR,cs=[.string ⟨s.toArray⟩]∧cY s:=by
 obtain⟨s,h1,_,h3⟩:=DataW.trod_string ht h;refine⟨s.data.toList,h1, ?_⟩;simp only[cY,Array.length_toList];simp only[maxLen,ByteArray.size]at h3;omega
theorem vN {n:Int} (h:(Lit.int .i64 n).wf=true):dA n:=by
 have:=Go.bounds_i64 h;simp only[dA];omega
theorem Ya {n:Int} (h:(Lit.int .u32 n).wf=true):cC n:=by
 have:=Go.bounds_u32 h;simp only[cC];omega
end
structure J2 (P:Program) where
 int:TypeId
 u32:TypeId
 str:TypeId
 bool:TypeId
 strs:TypeId
 ex:TypeId
 exs:TypeId
 sm:TypeId
 sms:TypeId
 ar:TypeId
 ars:TypeId
 fu:TypeId
 fus:TypeId
 pg:TypeId
 uInt:P.underlying int=some (.int .i64)
 uU32:P.underlying u32=some (.int .u32)
 uStr:P.underlying str=some .string
 uBool:P.underlying bool=some .bool
 uStrs:P.underlying strs=some (.slice str)
 uEx:jW P ex=some [(int,0),(int,1),(u32,2),(str,3),(exs,4)]
 uExs:P.underlying exs=some (.slice ex)
 uSm:jW P sm=some [(int,0),(str,1),(exs,2),(sms,3),(sms,4)]
 uSms:P.underlying sms=some (.slice sm)
 uAr:jW P ar=some [(str,0),(int,1)]
 uArs:P.underlying ars=some (.slice ar)
 uFu:jW P fu=some [(str,0),(strs,1),(strs,2),(bool,3),(sms,4)]
 uFus:P.underlying fus=some (.slice fu)
 uPg:jW P pg=some [(strs,0),(ars,1),(fus,2)]
 c1:[int,u32,str,bool,strs,exs,sms,ars,fus].all (fun t=>P.cellsOf t==1)=true
 cEx:P.cellsOf ex=5
 cSm:P.cellsOf sm=5
 cAr:P.cellsOf ar=2
 cFu:P.cellsOf fu=5
 cPg:P.cellsOf pg=3
section
variable {H : Type} {enc : TypeId × Value → H} {P : Program} {w : World} {sp : Nat → Bool} {held : Bool} (T : J2 P)
theorem J2.one1 {t:TypeId} (h:t∈[T.int,T.u32,T.str,T.bool,T.strs,T.exs,T.sms,T.ars,T.fus]):P.cellsOf t=1:=by
 have:=List.all_eq_true.1 T.c1 t h;simpa using this
theorem Zd {cs:List Value} (h:cs.length=5): ∃a b c d e,cs=[a,b,c,d,e]:=by
 match cs,h with
 |[a,b,c,d,e],_=>exact⟨a,b,c,d,e,rfl⟩
theorem B9 {cs:List Value} (h:cs.length=3): ∃a b c,cs=[a,b,c]:=by
 match cs,h with
 |[a,b,c],_=>exact⟨a,b,c,rfl⟩
theorem B7 {cs:List Value} (h:cs.length=2): ∃a b,cs=[a,b]:=by
 match cs,h with
 |[a,b],_=>exact⟨a,b,rfl⟩
theorem Uk {S:dV} {w:World} (s:cR):cB S w (bK s) [.string ⟨s.toArray⟩]:=by
 simp only[bK,cB,bM];exact⟨_,_,rfl,rfl,rfl⟩
theorem tA {fuel:Nat} {cs:List Value} {x:DataW H×List MemPlace} (h:DataW.trod enc P w 0 sp held fuel T.strs cs=some x): ∃l:List cR,C7 l∧ ∃v,cs=[v]∧bM (old w) w (strs l) v:=by
 obtain⟨l,h1,h2,h3⟩:=iC (row:=bK) (ok:=cY) T.uStrs (T.one1 (by simp)) (by decide) (fun _=>rfl) h fun n cs y _ hy=>by
  obtain⟨s,rfl,hs⟩:=pB T.uStr hy;exact⟨s,hs,Uk s⟩
 exact⟨l,⟨h1,h2⟩,h3⟩
theorem Ex.row_len (e:Ex):e.row.length=5:=by rw[e.row_eq];rfl
theorem Sm.row_len (s:Sm):s.row.length=5:=by rw[s.row_eq];rfl
theorem Vm: ∀(fuel:Nat) (cs:List Value) (x:DataW H×List MemPlace),DataW.trod enc P w 0 sp held fuel T.ex cs=some x→ ∃e:Ex,e.ok∧cB (old w) w e.row cs:=by
 intro fuel
 induction fuel using Nat.strongRecOn with
 |_ fuel ih=>
  intro cs x h;obtain⟨n,rfl,hl,hf⟩:=kV T.uEx h;rw[T.cEx]at hl;obtain⟨a,b,c,d,e,rfl⟩:=Zd hl;obtain⟨y0,h0⟩:=hf 0 _ _ rfl;obtain⟨y1,h1⟩:=hf 1 _ _ rfl;obtain⟨y2,h2⟩:=hf 2 _ _ rfl;obtain⟨y3,h3⟩:=hf 3 _ _ rfl;obtain⟨y4,h4⟩:=hf 4 _ _ rfl;rw[T.one1 (by simp)]at h0 h1 h2 h3 h4;obtain⟨k,e0,w0⟩:=pF T.uInt h0;obtain⟨o,e1,w1⟩:=pF T.uInt h1;obtain⟨m,e2,w2⟩:=pF T.uU32 h2;obtain⟨s,e3,w3⟩:=pB T.uStr h3;obtain⟨l,w4,w5,v,e4,hv⟩:=iC (row:=Ex.row) (ok:=Ex.ok) T.uExs T.cEx (by decide) Ex.row_len h4 fun n' cs' y' hn hy=>ih n' (by omega) cs' y' hy;simp at e0 e1 e2 e3 e4;subst e0;subst e1;subst e2;subst e3;subst e4;refine⟨.mk k o m s l, .mk k o m s l (vN w0) (vN w1) (Ya w2) w3 w4 w5, ?_⟩;rw[Ex.row_eq];simp only[cB,bM,Ex.kind,Ex.op,Ex.num,Ex.name,Ex.kids];exact⟨_,_,rfl,rfl,_,_,rfl,rfl,_,_,rfl,rfl,_,_,rfl,rfl,_,_,rfl,hv,rfl⟩
theorem Su {fuel:Nat} {cs:List Value} {x:DataW H×List MemPlace} (h:DataW.trod enc P w 0 sp held fuel T.exs cs=some x): ∃l:List Ex,Cw l∧ ∃v,cs=[v]∧bM (old w) w (exs l) v:=by
 obtain⟨l,h1,h2,h3⟩:=iC (row:=Ex.row) (ok:=Ex.ok) T.uExs T.cEx (by decide) Ex.row_len h fun n cs y _ hy=>Vm T n cs y hy;exact⟨l,⟨h1,h2⟩,h3⟩
theorem Um: ∀(fuel:Nat) (cs:List Value) (x:DataW H×List MemPlace),DataW.trod enc P w 0 sp held fuel T.sm cs=some x→ ∃e:Sm,e.ok∧cB (old w) w e.row cs:=by
 intro fuel
 induction fuel using Nat.strongRecOn with
 |_ fuel ih=>
  intro cs x h;obtain⟨n,rfl,hl,hf⟩:=kV T.uSm h;rw[T.cSm]at hl;obtain⟨a,b,c,d,e,rfl⟩:=Zd hl;obtain⟨y0,h0⟩:=hf 0 _ _ rfl;obtain⟨y1,h1⟩:=hf 1 _ _ rfl;obtain⟨y2,h2⟩:=hf 2 _ _ rfl;obtain⟨y3,h3⟩:=hf 3 _ _ rfl;obtain⟨y4,h4⟩:=hf 4 _ _ rfl;rw[T.one1 (by simp)]at h0 h1 h2 h3 h4;obtain⟨k,e0,w0⟩:=pF T.uInt h0;obtain⟨s,e1,w1⟩:=pB T.uStr h1;obtain⟨l,w2,v2,e2,hv2⟩:=Su T h2;obtain⟨t,w3,w3',v3,e3,hv3⟩:=iC (row:=Sm.row) (ok:=Sm.ok) T.uSms T.cSm (by decide) Sm.row_len h3 fun n' cs' y' hn hy=>ih n' (by omega) cs' y' hy;obtain⟨u,w4,w4',v4,e4,hv4⟩:=iC (row:=Sm.row) (ok:=Sm.ok) T.uSms T.cSm (by decide) Sm.row_len h4 fun n' cs' y' hn hy=>ih n' (by omega) cs' y' hy;simp at e0 e1 e2 e3 e4;subst e0;subst e1;subst e2;subst e3;subst e4;refine⟨.mk k s l t u, .mk k s l t u (vN w0) w1 w2 w3 w3' w4 w4', ?_⟩;rw[Sm.row_eq];simp only[cB,bM,Sm.kind,Sm.name,Sm.es,Sm.thn,Sm.els];exact⟨_,_,rfl,rfl,_,_,rfl,rfl,_,_,rfl,hv2,_,_,rfl,hv3,_,_,rfl,hv4,rfl⟩
theorem Qs {fuel:Nat} {cs:List Value} {x:DataW H×List MemPlace} (h:DataW.trod enc P w 0 sp held fuel T.sms cs=some x): ∃l:List Sm,Af l∧ ∃v,cs=[v]∧bM (old w) w (sms l) v:=by
 obtain⟨l,h1,h2,h3⟩:=iC (row:=Sm.row) (ok:=Sm.ok) T.uSms T.cSm (by decide) Sm.row_len h fun n cs y _ hy=>Um T n cs y hy;exact⟨l,⟨h1,h2⟩,h3⟩
theorem Vt (fuel:Nat) (cs:List Value) (x:DataW H×List MemPlace) (h:DataW.trod enc P w 0 sp held fuel T.ar cs=some x): ∃a:Ar,(cY a.name∧dA a.size)∧cB (old w) w a.row cs:=by
 obtain⟨n,rfl,hl,hf⟩:=kV T.uAr h;rw[T.cAr]at hl;obtain⟨a,b,rfl⟩:=B7 hl;obtain⟨y0,h0⟩:=hf 0 _ _ rfl;obtain⟨y1,h1⟩:=hf 1 _ _ rfl;rw[T.one1 (by simp)]at h0 h1;obtain⟨s,e0,w0⟩:=pB T.uStr h0;obtain⟨k,e1,w1⟩:=pF T.uInt h1;simp at e0 e1;subst e0;subst e1;refine⟨⟨s,k⟩,⟨w0,vN w1⟩, ?_⟩;simp only[Ar.row,cB,bM];exact⟨_,_,rfl,rfl,_,_,rfl,rfl,rfl⟩
theorem Vi (fuel:Nat) (cs:List Value) (x:DataW H×List MemPlace) (h:DataW.trod enc P w 0 sp held fuel T.fu cs=some x): ∃f:Fu,f.ok∧cB (old w) w f.row cs:=by
 obtain⟨n,rfl,hl,hf⟩:=kV T.uFu h;rw[T.cFu]at hl;obtain⟨a,b,c,d,e,rfl⟩:=Zd hl;obtain⟨y0,h0⟩:=hf 0 _ _ rfl;obtain⟨y1,h1⟩:=hf 1 _ _ rfl;obtain⟨y2,h2⟩:=hf 2 _ _ rfl;obtain⟨y3,h3⟩:=hf 3 _ _ rfl;obtain⟨y4,h4⟩:=hf 4 _ _ rfl;rw[T.one1 (by simp)]at h0 h1 h2 h3 h4;obtain⟨s,e0,w0⟩:=pB T.uStr h0;obtain⟨ps,w1,v1,e1,hv1⟩:=tA T h1;obtain⟨ls,w2,v2,e2,hv2⟩:=tA T h2;obtain⟨bw,e3,_⟩:=DataW.trod_bool T.uBool h3;obtain⟨l,w4,v4,e4,hv4⟩:=Qs T h4;simp at e0 e1 e2 e3 e4;subst e0;subst e1;subst e2;subst e3;subst e4;refine⟨⟨s,ps,ls,bw,l⟩,⟨w0,w1,w2,w4⟩, ?_⟩;simp only[Fu.row,cB,bM];exact⟨_,_,rfl,rfl,_,_,rfl,hv1,_,_,rfl,hv2,_,_,rfl,rfl,_,_,rfl,hv4,rfl⟩
theorem Uw {fuel:Nat} {cs:List Value} {x:DataW H×List MemPlace} (h:DataW.trod enc P w 0 sp held fuel T.pg cs=some x): ∃p:Pg,p.ok∧cB (old w) w p.row cs:=by
 obtain⟨n,rfl,hl,hf⟩:=kV T.uPg h;rw[T.cPg]at hl;obtain⟨a,b,c,rfl⟩:=B9 hl;obtain⟨y0,h0⟩:=hf 0 _ _ rfl;obtain⟨y1,h1⟩:=hf 1 _ _ rfl;obtain⟨y2,h2⟩:=hf 2 _ _ rfl;rw[T.one1 (by simp)]at h0 h1 h2;obtain⟨vs,w0,v0,e0,hv0⟩:=tA T h0;obtain⟨as,w1,w1',v1,e1,hv1⟩:=iC (row:=Ar.row) (ok:=fun a=>cY a.name∧dA a.size) T.uArs T.cAr (by decide) (fun _=>rfl) h1 fun n cs y _ hy=>Vt T n cs y hy;obtain⟨fs,w2,w2',v2,e2,hv2⟩:=iC (row:=Fu.row) (ok:=Fu.ok) T.uFus T.cFu (by decide) (fun _=>rfl) h2 fun n cs y _ hy=>Vi T n cs y hy;simp at e0 e1 e2;subst e0;subst e1;subst e2;refine⟨⟨vs,as,fs⟩,⟨w0,w1,w1',w2,w2'⟩, ?_⟩;simp only[Pg.row,cB];exact⟨_,_,rfl,hv0,_,_,rfl,hv1,_,_,rfl,hv2,rfl⟩
theorem Yk {r:Reach} {b0:Nat} {v:Value} {d:DataW H} {ps:List MemPlace} (hu: ∃fs,P.underlying T.pg=some (.struct fs)) (hval:Value.okWide P w r b0 T.pg v) (hd:DataW.Trod enc P w 0 sp held T.pg v d ps): ∃p:Pg,p.ok∧bM (old w) w p.av v:=by
 obtain⟨fs,hu⟩:=hu;obtain⟨cs,rfl,_⟩:=okWide_struct hu hval;obtain⟨fuel,hf⟩:=hd;obtain⟨p,h1,h2⟩:=Uw T hf;refine⟨p,h1, ?_⟩;simp only[Pg.av,bM];exact⟨cs.toList,by simp,h2⟩
end
end Go.Al
namespace Go.Al
theorem lO.get {x y:List AV} (h:lO x y): ∀(j:Nat) a b,x[j]?=some a→y[j]?=some b→oT a b:=by
 induction h with
 |nil=>intro j a b ha;simp at ha
 |cons h _ ih=>
  intro j a b ha hb
  cases j with
  |zero=>simp at ha hb;subst ha;subst hb;exact h
  |succ j=>exact ih j a b (by simpa using ha) (by simpa using hb)
theorem Nz {E:fY} {N:Nat} {Q:dI} {c:Code} {fr:Fr} {H:Hp} {b sz:Nat} {r r':List AV} (hb:H b=some (.rows sz [r])) (hs:lO r r') (h:jD E N c Q fr (upd H b (some (.rows sz [r'])))):jD E N c Q fr H:=
 Cn (l':=[r']) hb rfl (fun i x x' hx hx'=>by
  cases i with
  |zero=>simp at hx hx';subst hx;subst hx';exact⟨hs.len,hs.get⟩
  |succ i=>simp at hx) h
def xB:AV→Bool
 | .osl _ _ _=>false
 |_=>true
end Go.Al
