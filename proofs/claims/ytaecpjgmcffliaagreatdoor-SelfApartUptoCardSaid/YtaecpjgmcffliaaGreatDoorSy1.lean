/- The language's trees, as plain Lean data, and the rows of cells that they stand for. No program in sight. The language's trees among a law's arguments: what is read as data stands for a tree. It speaks of no one program. The little logic: a box's row made weaker; rows that name no owned block. -/
import Derived.Test.YtaecpjgmcffliaaGreatDoorAl3
import Derived.Test.YtaecpjgmcffliaaGreatDoorAl4
set_option linter.unusedSimpArgs false
set_option linter.unusedVariables false
set_option maxRecDepth 10000
namespace Go.Al
abbrev cN:=List UInt8
inductive Ex where
 |mk (kind op num:Int) (name:cN) (kids:List Ex)
inductive Sm where
 |mk (kind:Int) (name:cN) (es:List Ex) (thn els:List Sm)
structure Ar where
 name:cN
 size:Int
structure Fu where
 name:cN
 params:List cN
 locs:List cN
 word:Bool
 body:List Sm
structure Pg where
 vars:List cN
 arrs:List Ar
 funs:List Fu
def Ex.kind:Ex→Int| .mk k _ _ _ _=>k
def Ex.op:Ex→Int| .mk _ o _ _ _=>o
def Ex.num:Ex→Int| .mk _ _ n _ _=>n
def Ex.name:Ex→cN| .mk _ _ _ s _=>s
def Ex.kids:Ex→List Ex| .mk _ _ _ _ l=>l
def Sm.kind:Sm→Int| .mk k _ _ _ _=>k
def Sm.name:Sm→cN| .mk _ s _ _ _=>s
def Sm.es:Sm→List Ex| .mk _ _ l _ _=>l
def Sm.thn:Sm→List Sm| .mk _ _ _ l _=>l
def Sm.els:Sm→List Sm| .mk _ _ _ _ l=>l
def bG (s:cN):List AV:=[.str s]
def strs (l:List cN):AV:= .isl 1 (l.map bG)
mutual
def Ex.row:Ex→List AV
 | .mk k o n s l=>[.int .i64 k, .int .i64 o, .int .u32 n, .str s, .isl 5 (Hj l)]
def Hj:List Ex→List (List AV)
 |[]=>[]
 |e::l=>e.row::Hj l
end
theorem Ap: ∀l:List Ex,Hj l=l.map Ex.row
 |[]=>by simp only[Hj,List.map_nil]
 |e::l=>by simp only[Hj,List.map_cons,Ap l]
def exs (l:List Ex):AV:= .isl 5 (l.map Ex.row)
theorem Ex.row_eq (e:Ex):e.row=[.int .i64 e.kind, .int .i64 e.op, .int .u32 e.num, .str e.name, .isl 5 (e.kids.map Ex.row)]:=by
 cases e;simp only[Ex.row,Ap,Ex.kind,Ex.op,Ex.num,Ex.name,Ex.kids]
mutual
def Sm.row:Sm→List AV
 | .mk k s l t u=>[.int .i64 k, .str s,exs l, .isl 5 (Ao t), .isl 5 (Ao u)]
def Ao:List Sm→List (List AV)
 |[]=>[]
 |e::l=>e.row::Ao l
end
theorem An: ∀l:List Sm,Ao l=l.map Sm.row
 |[]=>by simp only[Ao,List.map_nil]
 |e::l=>by simp only[Ao,List.map_cons,An l]
def sms (l:List Sm):AV:= .isl 5 (l.map Sm.row)
theorem Sm.row_eq (s:Sm):s.row=[.int .i64 s.kind, .str s.name, .isl 5 (s.es.map Ex.row), .isl 5 (s.thn.map Sm.row), .isl 5 (s.els.map Sm.row)]:=by
 cases s;simp only[Sm.row,An,exs,Sm.kind,Sm.name,Sm.es,Sm.thn,Sm.els]
def Ar.row (a:Ar):List AV:=[.str a.name, .int .i64 a.size]
def ars (l:List Ar):AV:= .isl 2 (l.map Ar.row)
def Fu.row (f:Fu):List AV:=[.str f.name, .isl 1 (f.params.map bG), .isl 1 (f.locs.map bG), .bool f.word, .isl 5 (f.body.map Sm.row)]
def fus (l:List Fu):AV:= .isl 5 (l.map Fu.row)
def Pg.row (p:Pg):List AV:=[.isl 1 (p.vars.map bG), .isl 2 (p.arrs.map Ar.row), .isl 5 (p.funs.map Fu.row)]
def Pg.av (p:Pg):AV:= .agg p.row
mutual
def Ex.sz:Ex→Nat
 | .mk _ _ _ _ l=>1+jA l
def jA:List Ex→Nat
 |[]=>0
 |e::l=>e.sz+jA l
end
mutual
def Sm.sz:Sm→Nat
 | .mk _ _ l t u=>1+jA l+gH t+gH u
def gH:List Sm→Nat
 |[]=>0
 |e::l=>e.sz+gH l
end
theorem Ex.sz_eq (e:Ex):e.sz=1+jA e.kids:=by cases e;simp only[Ex.sz,Ex.kids]
theorem Sm.sz_eq (s:Sm):s.sz=1+jA s.es+gH s.thn+gH s.els:=by cases s;simp only[Sm.sz,Sm.es,Sm.thn,Sm.els]
theorem fH: ∀{l:List Ex} {e:Ex},e∈l→e.sz≤jA l
 |e::l,x,h=>by
  simp only[jA];rcases List.mem_cons.1 h with rfl|h
  ·omega
  have:=fH h;omega
theorem eS: ∀{l:List Sm} {e:Sm},e∈l→e.sz≤gH l
 |e::l,x,h=>by
  simp only[gH];rcases List.mem_cons.1 h with rfl|h
  ·omega
  have:=eS h;omega
def cQ {α:Type} (l:List α):Prop:=l.length≤9223372036854775807
def iN (n:Int):Prop:=0≤n∧n<4294967296
def eK (n:Int):Prop:= -9223372036854775808≤n∧n<9223372036854775808
inductive Ex.ok:Ex→Prop where
 |mk (k o n:Int) (s:cN) (l:List Ex) (hk:eK k) (ho:eK o) (hn:iN n) (hs:cQ s) (hl:cQ l) (h: ∀e∈l,Ex.ok e):Ex.ok (.mk k o n s l)
structure rT (l:List Ex):Prop where
 fit:cQ l
 all: ∀e∈l,e.ok
inductive Sm.ok:Sm→Prop where
 |mk (k:Int) (s:cN) (l:List Ex) (t u:List Sm) (hk:eK k) (hs:cQ s) (hl:rT l) (ht:cQ t) (hta: ∀e∈t,Sm.ok e) (hu:cQ u) (hua: ∀e∈u,Sm.ok e):Sm.ok (.mk k s l t u)
structure rI (l:List Sm):Prop where
 fit:cQ l
 all: ∀e∈l,e.ok
structure X8 (l:List cN):Prop where
 fit:cQ l
 all: ∀s∈l,cQ s
structure Fu.ok (f:Fu):Prop where
 name:cQ f.name
 params:X8 f.params
 locs:X8 f.locs
 body:rI f.body
structure Pg.ok (p:Pg):Prop where
 vars:X8 p.vars
 afit:cQ p.arrs
 arrs: ∀a∈p.arrs,cQ a.name∧eK a.size
 ffit:cQ p.funs
 funs: ∀f∈p.funs,f.ok
theorem Ex.ok.kids {e:Ex} (h:e.ok):rT e.kids:=by cases h;exact⟨by assumption,by assumption⟩
theorem Ex.ok.name {e:Ex} (h:e.ok):cQ e.name:=by cases h;assumption
theorem Ex.ok.num {e:Ex} (h:e.ok):iN e.num:=by cases h;assumption
theorem Ex.ok.kind {e:Ex} (h:e.ok):eK e.kind:=by cases h;assumption
theorem Ex.ok.op {e:Ex} (h:e.ok):eK e.op:=by cases h;assumption
theorem Sm.ok.es {s:Sm} (h:s.ok):rT s.es:=by cases h;assumption
theorem Sm.ok.thn {s:Sm} (h:s.ok):rI s.thn:=by cases h;exact⟨by assumption,by assumption⟩
theorem Sm.ok.els {s:Sm} (h:s.ok):rI s.els:=by cases h;exact⟨by assumption,by assumption⟩
theorem Sm.ok.name {s:Sm} (h:s.ok):cQ s.name:=by cases h;assumption
theorem Sm.ok.kind {s:Sm} (h:s.ok):eK s.kind:=by cases h;assumption
theorem nL {α:Type} (f:α→List AV) {l:List α} {i:Nat} {x:α} (h:l[i]?=some x):(l.map f)[i]?=some (f x):=by
 rw[cE,h];rfl
theorem nM {l:List Ex} {i:Nat} {e:Ex} (h:l[i]?=some e):(l.map Ex.row)[i]?=some [.int .i64 e.kind, .int .i64 e.op, .int .u32 e.num, .str e.name, .isl 5 (e.kids.map Ex.row)]:=by
 rw[nL _ h,e.row_eq]
theorem sC {l:List Sm} {i:Nat} {s:Sm} (h:l[i]?=some s):(l.map Sm.row)[i]?=some [.int .i64 s.kind, .str s.name, .isl 5 (s.es.map Ex.row), .isl 5 (s.thn.map Sm.row), .isl 5 (s.els.map Sm.row)]:=by
 rw[nL _ h,s.row_eq]
theorem vH {l:List cN} {i:Nat} {s:cN} (h:l[i]?=some s):(l.map bG)[i]?=some [.str s]:=nL _ h
theorem jK {l:List Fu} {i:Nat} {f:Fu} (h:l[i]?=some f):(l.map Fu.row)[i]?=some [.str f.name, .isl 1 (f.params.map bG), .isl 1 (f.locs.map bG), .bool f.word, .isl 5 (f.body.map Sm.row)]:=nL _ h
theorem Ip {l:List Ar} {i:Nat} {a:Ar} (h:l[i]?=some a):(l.map Ar.row)[i]?=some [.str a.name, .int .i64 a.size]:=nL _ h
end Go.Al
namespace Go.Al
open Go.ChangeShapes Go.WideShapes
section
variable {H : Type} {enc : TypeId × Value → H} {P : Program} {w : World} {sp : Nat → Bool} {held : Bool}
theorem nJ {α:Type} {Q:Nat→α→Prop}: ∀n:Nat,(∀i,i<n→ ∃a,Q i a)→ ∃l:List α,l.length=n∧ ∀(i:Nat) a,l[i]?=some a→Q i a
 |0,_=>⟨[],rfl,fun i a h=>by simp at h⟩
 |n+1,h=>by
  obtain⟨l,h1,h2⟩:=nJ n fun i hi=>h i (by omega);obtain⟨a,ha⟩:=h n (by omega);refine⟨l++[a],by simp [h1],fun i b hb=>?_⟩;by_cases hi:i<n
  ·rw[List.getElem?_append_left (by omega)]at hb;exact h2 i b hb
  rw[List.getElem?_append_right (by omega)]at hb
  have :i-l.length=0:=by
   by_cases e:i-l.length=0
   ·exact e
   rw[List.getElem?_eq_none (by simp;omega)]at hb;cases hb
  rw[this]at hb;simp at hb;subst hb;rw[show i=n by omega];exact ha
theorem wJ {α:Type} {row:α→List AV} {ok:α→Prop} {t e:TypeId} {sz fuel:Nat} {cs:List Value} {x:DataW H×List MemPlace} (ht:P.underlying t=some (.slice e)) (hc:P.cellsOf e=sz) (hz:0<sz)
  (hlen: ∀a,(row a).length=sz) (h:DataW.trod enc P w 0 sp held fuel t cs=some x)
  (each: ∀n cs y,n<fuel→DataW.trod enc P w 0 sp held n e cs=some y→ ∃a:α,ok a∧bW (old w) w (row a) cs):
  ∃l:List α,cQ l∧(∀a∈l,ok a)∧ ∃v,cs=[v]∧bO (old w) w (.isl sz (l.map row)) v:=by
 rcases DataW.trod_slice ht h with⟨rfl,_⟩|⟨a,len,cap,elems,rest,n,rfl,rfl,_,_,hl,hm,hel,hi,_,_⟩
 ·refine⟨[],by simp [cQ],by simp,_,rfl, ?_⟩
  simp only[bO,List.map_nil];exact⟨none,0,rfl,bF _,by simp [maxLen], .inl trivial⟩
 have key: ∀i,i<len→ ∃b:α,ok b∧ ∃ds:List Value,ds.length=sz∧bW (old w) w (row b) ds∧ ∀j,j<sz→w.cell? ((a.add (i *sz)).add j)=ds[j]?:=by
  intro i hil;have h1:=hi i hil;rw[hc,aG (by omega),bU]at h1;obtain⟨ds,hds,hy⟩:=h1;obtain⟨_,h3,h4⟩:=World.cells?_some hds;obtain⟨b,hb,hr⟩:=each n ds _ (by omega) hy;exact⟨b,hb,ds,h3,hr,h4⟩
 obtain⟨l,hll,hget⟩:=nJ len key;refine⟨l,by simp only[cQ,hll];simp only[maxLen]at hm;omega,fun b hb=>?_,_,rfl, ?_⟩
 ·obtain⟨i,hi2⟩:=List.getElem?_of_mem hb
  exact(hget i b hi2).1
 simp only[bO,aC,List.map_eq_nil_iff];refine⟨some a,cap,by rw[hll],by omega,hm, ?_⟩;by_cases hnil:l=[]
 ·exact .inl hnil
 right;obtain⟨b0,l0,rfl⟩: ∃b0 l0,l=b0::l0:=by cases l with |nil=>exact absurd rfl hnil|cons b l=>exact⟨b,l,rfl⟩
 obtain⟨_,ds,hd1,_,hd3⟩:=hget 0 b0 rfl;have h0:=hd3 0 hz;rw[aG (by omega)]at h0;simp only[Nat.zero_mul,Addr.add,if_true]at h0
 have hspot:a.spot=none:=by
  unfold World.cell? at h0;split at h0
  ·split at h0
   ·cases h0
   rename_i hs;cases hh:a.spot with |none=>rfl|some y=>rw[hh]at hs;simp at hs
  cases h0
 have hblk:a.block<w.heap.size:=by
  unfold World.cell? at h0;split at h0
  ·rename_i e;exact(Array.getElem?_eq_some_iff.1 e).1
  cases h0
 obtain⟨ab,ao,asp⟩:=a;simp only at hspot hblk;subst hspot;refine⟨ab,ao,rfl,hblk,bZ.of_get fun i r hr=>?_⟩;rw[cE,bH]at hr;obtain⟨b,hb,rfl⟩:=hr;obtain⟨_,ds,h1,h2,h3⟩:=hget i b hb;refine⟨hlen b,cL.of_vals h2 fun j v hj=>?_⟩;have hjl:j<sz:=by have:=(bV.1 hj).1;omega
 rw[←hj,←h3 j hjl];congr 1;simp only[Addr.add];by_cases e1:i *sz=0<;>by_cases e2:j=0<;>simp [e1,e2]
def gS (P:Program) (t:TypeId):Option (List (TypeId×Nat)):=match P.underlying t with
 |some (.struct fs)=>some (fs.toList.map fun f=>(f.type,f.offset))
 |_=>none
theorem Lj {t:TypeId} {fs:List (TypeId×Nat)} {fuel:Nat} {cs:List Value} {x:DataW H×List MemPlace} (ht:gS P t=some fs) (h:DataW.trod enc P w 0 sp held fuel t cs=some x):
  ∃n,fuel=n+1∧cs.length=P.cellsOf t∧ ∀(i:Nat) ty off,fs[i]?=some (ty,off)→ ∃y,DataW.trod enc P w 0 sp held n ty ((cs.drop off).take (P.cellsOf ty))=some y:=by
 unfold gS at ht;split at ht
 ·rename_i fa hu
  cases ht;obtain⟨xs,n,h1,_,h3,h4,h5⟩:=DataW.trod_struct hu h;refine⟨n,h1,h3,fun i ty off hi=>?_⟩;rw[cE,bH]at hi;obtain⟨f,hf,e⟩:=hi;simp only[Prod.mk.injEq]at e;have h6:=h5 i f (by simpa using hf);rw[e.1,e.2]at h6
  have hlt:i<xs.length:=by
   have:=(bV.1 hf).1;rw[h4];simpa using this
  exact⟨xs[i],by rw[h6,aG hlt]⟩
 cases ht
theorem pB {t:TypeId} {k:IntKind} {fuel:Nat} {cs:List Value} {x:DataW H×List MemPlace} (ht:P.underlying t=some (.int k)) (h:DataW.trod enc P w 0 sp held fuel t cs=some x): ∃n,cs=[.int k n]∧(Lit.int k n).wf=true:=by
 obtain⟨n,h1,_,h3⟩:=DataW.trod_int ht h;exact⟨n,h1,h3⟩
theorem mD {t:TypeId} {fuel:Nat} {cs:List Value} {x:DataW H×List MemPlace} (ht:P.underlying t=some .string) (h:DataW.trod enc P w 0 sp held fuel t cs=some x): ∃s:cN,cs=[.string ⟨s.toArray⟩]∧cQ s:=by
 obtain⟨s,h1,_,h3⟩:=DataW.trod_string ht h;refine⟨s.data.toList,h1, ?_⟩;simp only[cQ,Array.length_toList];simp only[maxLen,ByteArray.size]at h3;omega
theorem Df {n:Int} (h:(Lit.int .i64 n).wf=true):eK n:=by
 have:=Go.bounds_i64 h;simp only[eK];omega
theorem X0 {n:Int} (h:(Lit.int .u32 n).wf=true):iN n:=by
 have:=Go.bounds_u32 h;simp only[iN];omega
end
structure BQ (P:Program) where
 int:TypeId
 u32:TypeId
 str:TypeId
 bool:TypeId
 strs:TypeId
 ex:TypeId
 exs:TypeId
 sm:TypeId
 sms:TypeId
 ar:TypeId
 ars:TypeId
 fu:TypeId
 fus:TypeId
 pg:TypeId
 uInt:P.underlying int=some (.int .i64)
 uU32:P.underlying u32=some (.int .u32)
 uStr:P.underlying str=some .string
 uBool:P.underlying bool=some .bool
 uStrs:P.underlying strs=some (.slice str)
 uEx:gS P ex=some [(int,0),(int,1),(u32,2),(str,3),(exs,4)]
 uExs:P.underlying exs=some (.slice ex)
 uSm:gS P sm=some [(int,0),(str,1),(exs,2),(sms,3),(sms,4)]
 uSms:P.underlying sms=some (.slice sm)
 uAr:gS P ar=some [(str,0),(int,1)]
 uArs:P.underlying ars=some (.slice ar)
 uFu:gS P fu=some [(str,0),(strs,1),(strs,2),(bool,3),(sms,4)]
 uFus:P.underlying fus=some (.slice fu)
 uPg:gS P pg=some [(strs,0),(ars,1),(fus,2)]
 c1:[int,u32,str,bool,strs,exs,sms,ars,fus].all (fun t=>P.cellsOf t==1)=true
 cEx:P.cellsOf ex=5
 cSm:P.cellsOf sm=5
 cAr:P.cellsOf ar=2
 cFu:P.cellsOf fu=5
 cPg:P.cellsOf pg=3
section
variable {H : Type} {enc : TypeId × Value → H} {P : Program} {w : World} {sp : Nat → Bool} {held : Bool} (T : BQ P)
theorem BQ.one1 {t:TypeId} (h:t∈[T.int,T.u32,T.str,T.bool,T.strs,T.exs,T.sms,T.ars,T.fus]):P.cellsOf t=1:=by
 have:=List.all_eq_true.1 T.c1 t h;simpa using this
theorem Y5 {cs:List Value} (h:cs.length=5): ∃a b c d e,cs=[a,b,c,d,e]:=by
 match cs,h with
 |[a,b,c,d,e],_=>exact⟨a,b,c,d,e,rfl⟩
theorem AG {cs:List Value} (h:cs.length=3): ∃a b c,cs=[a,b,c]:=by
 match cs,h with
 |[a,b,c],_=>exact⟨a,b,c,rfl⟩
theorem BW {cs:List Value} (h:cs.length=2): ∃a b,cs=[a,b]:=by
 match cs,h with
 |[a,b],_=>exact⟨a,b,rfl⟩
theorem Pi {S:dL} {w:World} (s:cN):bW S w (bG s) [.string ⟨s.toArray⟩]:=by
 simp only[bG,bW,bO];exact⟨_,_,rfl,rfl,rfl⟩
theorem Ro {fuel:Nat} {cs:List Value} {x:DataW H×List MemPlace} (h:DataW.trod enc P w 0 sp held fuel T.strs cs=some x): ∃l:List cN,X8 l∧ ∃v,cs=[v]∧bO (old w) w (strs l) v:=by
 obtain⟨l,h1,h2,h3⟩:=wJ (row:=bG) (ok:=cQ) T.uStrs (T.one1 (by simp)) (by decide) (fun _=>rfl) h fun n cs y _ hy=>by
  obtain⟨s,rfl,hs⟩:=mD T.uStr hy;exact⟨s,hs,Pi s⟩
 exact⟨l,⟨h1,h2⟩,h3⟩
theorem Ex.row_len (e:Ex):e.row.length=5:=by rw[e.row_eq];rfl
theorem Sm.row_len (s:Sm):s.row.length=5:=by rw[s.row_eq];rfl
theorem Q6 (fuel:Nat) (cs:List Value) (x:DataW H×List MemPlace) (h:DataW.trod enc P w 0 sp held fuel T.ar cs=some x): ∃a:Ar,(cQ a.name∧eK a.size)∧bW (old w) w a.row cs:=by
 obtain⟨n,rfl,hl,hf⟩:=Lj T.uAr h;rw[T.cAr]at hl;obtain⟨a,b,rfl⟩:=BW hl;obtain⟨y0,h0⟩:=hf 0 _ _ rfl;obtain⟨y1,h1⟩:=hf 1 _ _ rfl;rw[T.one1 (by simp)]at h0 h1;obtain⟨s,e0,w0⟩:=mD T.uStr h0;obtain⟨k,e1,w1⟩:=pB T.uInt h1;simp at e0 e1;subst e0;subst e1;refine⟨⟨s,k⟩,⟨w0,Df w1⟩, ?_⟩;simp only[Ar.row,bW,bO];exact⟨_,_,rfl,rfl,_,_,rfl,rfl,rfl⟩
end
end Go.Al
namespace Go.Al
theorem eI.get {x y:List AV} (h:eI x y): ∀(j:Nat) a b,x[j]?=some a→y[j]?=some b→dQ a b:=by
 induction h with
 |nil=>intro j a b ha;simp at ha
 |cons h _ ih=>
  intro j a b ha hb
  cases j with
  |zero=>simp at ha hb;subst ha;subst hb;exact h
  |succ j=>exact ih j a b (by simpa using ha) (by simpa using hb)
theorem Ut {E:fR} {N:Nat} {Q:dN} {c:Code} {fr:Fr} {H:Hp} {b sz:Nat} {r r':List AV} (hb:H b=some (.rows sz [r])) (hs:eI r r') (h:jV E N c Q fr (upd H b (some (.rows sz [r'])))):jV E N c Q fr H:=
 Es (l':=[r']) hb rfl (fun i x x' hx hx'=>by
  cases i with
  |zero=>simp at hx hx';subst hx;subst hx';exact⟨hs.len,hs.get⟩
  |succ i=>simp at hx) h
def Bg:AV→Bool
 | .osl _ _ _=>false
 |_=>true
theorem Zw {α:Type} {f:α→List AV} (hf: ∀a,(f a).all one=true) (xs:List α):(xs.map f).all (fun r=>r.all one)=true:=by
 simp only[List.all_map,List.all_eq_true];exact fun x _=>hf x
end Go.Al
