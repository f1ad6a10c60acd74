/- Chapter 19: programs without names, as plain Lean data, and the rows of cells that they stand for. No program in sight. Chapter 19: may a core be? How a core runs: a run that is cut at a depth. In plain Lean. Chapter 19, in plain Lean: a core's run that is cut deeper goes on the same; the run of a core that may be comes to an end. Chapter 19, in plain Lean: the run of a core that may be comes to an end, and all words are words. Chapter 19, in plain Lean: a core that may be runs to an end. Chapter 19, in plain Lean: what a core's run puts out and counts grows; what more fuel does; where nothing is got the input plays no part. -/
import Derived.Test.YtnfbbjhdflhmjaaGreatDoorSy1
import Derived.Test.YtnfbbjhdflhmjaaGreatDoorMa
import Derived.Test.YtnfbbjhdflhmjaaGreatDoorMb
set_option linter.unusedSimpArgs false
set_option linter.unusedVariables false
set_option maxRecDepth 10000
namespace Go.Al
inductive CE where
 |mk (kind op num slot size:Int) (kids:List CE)
inductive CS where
 |mk (kind slot size:Int) (es:List CE) (thn els:List CS)
structure CF where
 params:Int
 slots:Int
 first:Int
 word:Bool
 body:List CS
structure Co where
 words:Int
 funs:List CF
def CE.kind:CE→Int| .mk k _ _ _ _ _=>k
def CE.op:CE→Int| .mk _ o _ _ _ _=>o
def CE.num:CE→Int| .mk _ _ n _ _ _=>n
def CE.slot:CE→Int| .mk _ _ _ a _ _=>a
def CE.size:CE→Int| .mk _ _ _ _ z _=>z
def CE.kids:CE→List CE| .mk _ _ _ _ _ l=>l
def CS.kind:CS→Int| .mk k _ _ _ _ _=>k
def CS.slot:CS→Int| .mk _ a _ _ _ _=>a
def CS.size:CS→Int| .mk _ _ z _ _ _=>z
def CS.es:CS→List CE| .mk _ _ _ l _ _=>l
def CS.thn:CS→List CS| .mk _ _ _ _ l _=>l
def CS.els:CS→List CS| .mk _ _ _ _ _ l=>l
mutual
def CE.row:CE→List AV
 | .mk k o n a z l=>[.int .i64 k, .int .i64 o, .int .u32 n, .int .i64 a, .int .i64 z, .isl 6 (xE l)]
def xE:List CE→List (List AV)
 |[]=>[]
 |e::l=>e.row::xE l
end
theorem xD: ∀l:List CE,xE l=l.map CE.row
 |[]=>by simp only[xE,List.map_nil]
 |e::l=>by simp only[xE,List.map_cons,xD l]
theorem CE.row_eq (e:CE):e.row=[.int .i64 e.kind, .int .i64 e.op, .int .u32 e.num, .int .i64 e.slot, .int .i64 e.size, .isl 6 (e.kids.map CE.row)]:=by
 cases e;simp only[CE.row,xD,CE.kind,CE.op,CE.num,CE.slot,CE.size,CE.kids]
mutual
def CS.row:CS→List AV
 | .mk k a z l t u=>[.int .i64 k, .int .i64 a, .int .i64 z, .isl 6 (l.map CE.row), .isl 6 (tZ t), .isl 6 (tZ u)]
def tZ:List CS→List (List AV)
 |[]=>[]
 |e::l=>e.row::tZ l
end
theorem xB: ∀l:List CS,tZ l=l.map CS.row
 |[]=>by simp only[tZ,List.map_nil]
 |e::l=>by simp only[tZ,List.map_cons,xB l]
theorem CS.row_eq (s:CS):s.row=[.int .i64 s.kind, .int .i64 s.slot, .int .i64 s.size, .isl 6 (s.es.map CE.row), .isl 6 (s.thn.map CS.row), .isl 6 (s.els.map CS.row)]:=by
 cases s;simp only[CS.row,xB,CS.kind,CS.slot,CS.size,CS.es,CS.thn,CS.els]
def CF.row (f:CF):List AV:=[.int .i64 f.params, .int .i64 f.slots, .int .i64 f.first, .bool f.word, .isl 6 (f.body.map CS.row)]
def Co.row (c:Co):List AV:=[.int .i64 c.words, .isl 5 (c.funs.map CF.row)]
def Co.av (c:Co):AV:= .agg c.row
mutual
def CE.sz:CE→Nat
 | .mk _ _ _ _ _ l=>1+dR l
def dR:List CE→Nat
 |[]=>0
 |e::l=>e.sz+dR l
end
mutual
def CS.sz:CS→Nat
 | .mk _ _ _ l t u=>1+dR l+dB t+dB u
def dB:List CS→Nat
 |[]=>0
 |e::l=>e.sz+dB l
end
theorem CE.sz_eq (e:CE):e.sz=1+dR e.kids:=by cases e;simp only[CE.sz,CE.kids]
theorem CS.sz_eq (s:CS):s.sz=1+dR s.es+dB s.thn+dB s.els:=by cases s;simp only[CS.sz,CS.es,CS.thn,CS.els]
theorem mU: ∀{l:List CE} {e:CE},e∈l→e.sz≤dR l
 |e::l,x,h=>by
  simp only[dR];rcases List.mem_cons.1 h with rfl|h
  ·omega
  have:=mU h;omega
theorem mT: ∀{l:List CS} {e:CS},e∈l→e.sz≤dB l
 |e::l,x,h=>by
  simp only[dB];rcases List.mem_cons.1 h with rfl|h
  ·omega
  have:=mT h;omega
theorem pC: ∀l:List CE,l.length≤dR l
 |[]=>aY _
 |e::l=>by have:=pC l;have:=e.sz_eq;simp only[dR,bU];omega
theorem sN: ∀l:List CS,l.length≤dB l
 |[]=>aY _
 |e::l=>by have:=sN l;have:=e.sz_eq;simp only[dB,bU];omega
inductive CE.ok:CE→Prop where
 |mk (k o n a z:Int) (l:List CE) (hk:dC k) (ho:dC o) (hn:dI n) (ha:dC a) (hz:dC z) (hl:cI l) (h: ∀e∈l,CE.ok e):CE.ok (.mk k o n a z l)
structure pH (l:List CE):Prop where
 fit:cI l
 all: ∀e∈l,e.ok
inductive CS.ok:CS→Prop where
 |mk (k a z:Int) (l:List CE) (t u:List CS) (hk:dC k) (ha:dC a) (hz:dC z) (hl:pH l) (ht:cI t) (hta: ∀e∈t,CS.ok e) (hu:cI u) (hua: ∀e∈u,CS.ok e):CS.ok (.mk k a z l t u)
structure uE (l:List CS):Prop where
 fit:cI l
 all: ∀e∈l,e.ok
structure CF.ok (f:CF):Prop where
 params:dC f.params
 slots:dC f.slots
 first:dC f.first
 body:uE f.body
structure Co.ok (c:Co):Prop where
 words:dC c.words
 fit:cI c.funs
 funs: ∀f∈c.funs,f.ok
theorem CE.ok.kids {e:CE} (h:e.ok):pH e.kids:=by cases h;exact⟨by assumption,by assumption⟩
theorem CE.ok.num {e:CE} (h:e.ok):dI e.num:=by cases h;assumption
theorem CE.ok.kind {e:CE} (h:e.ok):dC e.kind:=by cases h;assumption
theorem CE.ok.op {e:CE} (h:e.ok):dC e.op:=by cases h;assumption
theorem CE.ok.slot {e:CE} (h:e.ok):dC e.slot:=by cases h;assumption
theorem CE.ok.size {e:CE} (h:e.ok):dC e.size:=by cases h;assumption
theorem CS.ok.es {s:CS} (h:s.ok):pH s.es:=by cases h;assumption
theorem CS.ok.thn {s:CS} (h:s.ok):uE s.thn:=by cases h;exact⟨by assumption,by assumption⟩
theorem CS.ok.els {s:CS} (h:s.ok):uE s.els:=by cases h;exact⟨by assumption,by assumption⟩
theorem CS.ok.kind {s:CS} (h:s.ok):dC s.kind:=by cases h;assumption
theorem CS.ok.slot {s:CS} (h:s.ok):dC s.slot:=by cases h;assumption
theorem CS.ok.size {s:CS} (h:s.ok):dC s.size:=by cases h;assumption
theorem yG {l:List CE} {i:Nat} {e:CE} (h:l[i]?=some e):(l.map CE.row)[i]?=some [.int .i64 e.kind, .int .i64 e.op, .int .u32 e.num, .int .i64 e.slot, .int .i64 e.size, .isl 6 (e.kids.map CE.row)]:=by
 rw[kB _ h,e.row_eq]
theorem yF {l:List CS} {i:Nat} {s:CS} (h:l[i]?=some s):(l.map CS.row)[i]?=some [.int .i64 s.kind, .int .i64 s.slot, .int .i64 s.size, .isl 6 (s.es.map CE.row), .isl 6 (s.thn.map CS.row), .isl 6 (s.els.map CS.row)]:=by
 rw[kB _ h,s.row_eq]
theorem rQ {l:List CF} {i:Nat} {f:CF} (h:l[i]?=some f):(l.map CF.row)[i]?=some [.int .i64 f.params, .int .i64 f.slots, .int .i64 f.first, .bool f.word, .isl 6 (f.body.map CS.row)]:=kB _ h
end Go.Al
namespace Go.Al
def cN (words at' n:Int):Bool:=decide (0≤at')&&decide (0≤n)&&decide (at'≤words)&&decide (n≤words-at')
def gD (below:List CF) (g:Int) (args:Nat) (word:Bool):Bool:=decide (0≤g)&&match below[g.toNat]? with
 |some f=>decide (f.word=word)&&decide (f.params=args)
 |none=>false
def pQ (words:Int) (below:List CF) (e:CE):Bool:=
 (decide (e.kind=1)||decide (e.num=0))&&(decide (e.kind=6)||decide (e.op=0))&&(decide (e.kind=3)||decide (e.size=0))&&(decide (e.kind=2)||decide (e.kind=3)||decide (e.kind=4)||decide (e.slot=0))&&
 (if e.kind=1∨e.kind=5 then decide (e.kids.length=0)
  else if e.kind=2 then cN words e.slot 1&&decide (e.kids.length=0)
  else if e.kind=3 then decide (1≤e.size)&&decide (e.size≤4096)&&cN words e.slot e.size&&decide (e.kids.length=1)
  else if e.kind=4 then gD below e.slot e.kids.length true
  else if e.kind=6 then decide (4≤e.op)&&decide (e.op≤15)&&decide (e.kids.length=2)
  else if e.kind=7 then decide (e.kids.length=1)
  else if e.kind=8∨e.kind=9 then decide (e.kids.length=2)else false)
mutual
def jQ (words:Int) (below:List CF):CE→Int→Bool
 | .mk k o n a z l,lv=>decide (lv≤24)&&pQ words below (.mk k o n a z l)&&eK words below l (lv+1)
def eK (words:Int) (below:List CF):List CE→Int→Bool
 |[],_=>true
 |e::l,lv=>jQ words below e lv&&eK words below l lv
end
def pP (words:Int) (below:List CF) (word:Bool) (s:CS):Bool:=
 (decide (s.kind=2)||decide (s.size=0))&&(decide (s.kind=1)||decide (s.kind=2)||decide (s.kind=6)||decide (s.slot=0))&&(decide (s.kind=4)||decide (s.els.length=0))&&(decide (s.kind=4)||decide (s.kind=5)||decide (s.thn.length=0))&&
 (if s.kind=1 then cN words s.slot 1&&decide (s.es.length=1)
  else if s.kind=2 then decide (1≤s.size)&&decide (s.size≤4096)&&cN words s.slot s.size&&decide (s.es.length=2)
  else if s.kind=3∨s.kind=4∨s.kind=5 then decide (s.es.length=1)
  else if s.kind=6 then gD below s.slot s.es.length false
  else if s.kind=7 then decide (s.es.length=0)||word&&decide (s.es.length=1)else false)
mutual
def jP (words:Int) (below:List CF) (word:Bool):CS→Int→Bool
 | .mk k a z l t u,lv=>decide (lv≤24)&&pP words below word (.mk k a z l t u)&&eK words below l (lv+1)&&dO words below word t (lv+1)&&dO words below word u (lv+1)
def dO (words:Int) (below:List CF) (word:Bool):List CS→Int→Bool
 |[],_=>true
 |s::l,lv=>jP words below word s lv&&dO words below word l lv
end
def jS (words:Int) (f:CF):Bool:=decide (0≤f.params)&&decide (f.params≤6)&&decide (f.params≤f.slots)&&cN words f.first f.slots
def iY (words:Int):List CF→List CF→Bool
 |_,[]=>true
 |below,f::l=>dO words below f.word f.body 1&&iY words (below++[f]) l
def lZ (c:Co):Bool:=decide (0≤c.words)&&decide (c.words≤32768)&&decide (1≤c.funs.length)&&decide (c.funs.length≤64)&&c.funs.all (jS c.words)&&iY c.words [] c.funs&&
 match c.funs.getLast? with
 |some f=>decide (f.params=0)&& !f.word
 |none=>false
def sR (c:Co):Nat:=(c.funs.map fun f=>dB f.body).sum
structure Kx where
 funs:List CF
 inp:dD
 fuel:Nat
def Kx.cx (k:Kx):Cx:=⟨[],k.inp,k.fuel⟩
def mB (f:CF) (vs:List Int) (s:RS):Option RS:=if 0≤f.first∧0≤f.slots∧f.first+f.slots≤s.vars.length∧vs.length≤f.slots then
    some {s with vars:=s.vars.take f.first.toNat++(vs++List.replicate (f.slots.toNat-vs.length) 0)++s.vars.drop (f.first+f.slots).toNat}else none
def pK (a:Int) (s:RS):Option Int:=if 0≤a then s.vars[a.toNat]? else none
def xN (a v:Int) (s:RS):Option RS:=if 0≤a∧a<s.vars.length then some {s with vars:=s.vars.set a.toNat v}else none
def Qc (z i:Int) (s:RS):Rz Unit:=if i<z then .val () s else .fin 3 s
mutual
def iX (cx:Kx):Nat→CE→RS→Option (Rz Int)
 |0,_,_=>none
 |n+1, .mk k o m a z l,st=>
  if k=1 then some (.val m st)
  else if k=2 then(pK a st).map fun v=> .val v st
  else if k=3 then match l[0]? with
   |none=>none
   |some e=>bindR (iX cx n e st) fun i st=>bindR (some (Qc z i st)) fun _ st=>(pK (a+i) st).map fun v=> .val v st
  else if k=4 then rN cx n a l st
  else if k=5 then some (oE cx.cx st)
  else match l[0]? with
   |none=>none
   |some e=>
    if k=7 then bindR (iX cx n e st) fun x st=>some (.val (if x=0 then 1 else 0) st)
    else match l[1]? with
    |none=>none
    |some b=>
     if k=6 then bindR (iX cx n e st) fun x st=>bindR (iX cx n b st) fun y st=>if(eI o x y).2=0 then some (.val (eI o x y).1 st)else some (.fin 2 st)
     else bindR (iX cx n e st) fun x st=>if decide (x=0)=decide (k=8)then some (.val (if x=0 then 0 else 1) st)else bindR (iX cx n b st) fun y st=>some (.val (if y=0 then 0 else 1) st)
def lW (cx:Kx):Nat→List CE→RS→Option (Rz (List Int))
 |0,_,_=>none
 |_+1,[],st=>some (.val [] st)
 |n+1,e::l,st=>bindR (iX cx n e st) fun v st=>bindR (lW cx n l st) fun vs st=>some (.val (v::vs) st)
def rN (cx:Kx):Nat→Int→List CE→RS→Option (Rz Int)
 |0,_,_,_=>none
 |n+1,i,l,st=>if i<0 then none else match cx.funs[i.toNat]? with
  |none=>none
  |some f=>bindR (lW cx n l st) fun vs st=>bindR (some (fN cx.cx st)) fun _ st=>
   (mB f vs st).bind fun st=>bindR (kH cx n f.body st) fun r st=>some (.val (r.getD 0) st)
def rG (cx:Kx):Nat→CS→RS→Option (Rz (Option Int))
 |0,_,_=>none
 |n+1, .mk k a z l t u,st=>
  if k=1 then match l[0]? with
   |none=>none
   |some e=>bindR (iX cx n e st) fun v st=>(xN a v st).map fun st=> .val none st
  else if k=2 then match l[0]?,l[1]? with
   |some e,some b=>bindR (iX cx n e st) fun i st=>bindR (iX cx n b st) fun v st=>bindR (some (Qc z i st)) fun _ st=>(xN (a+i) v st).map fun st=> .val none st
   |_,_=>none
  else if k=3 then match l[0]? with
   |none=>none
   |some e=>bindR (iX cx n e st) fun v st=>bindR (some (oV v st)) fun _ st=>some (.val none st)
  else if k=4 then match l[0]? with
   |none=>none
   |some e=>bindR (iX cx n e st) fun v st=>if v=0 then kH cx n u st else kH cx n t st
  else if k=5 then match l[0]? with
   |none=>none
   |some e=>rM cx n e t st
  else if k=6 then bindR (rN cx n a l st) fun _ st=>some (.val none st)
  else if k=7 then match l[0]? with
   |none=>some (.val (some 0) st)
   |some e=>bindR (iX cx n e st) fun v st=>some (.val (some v) st)
  else some (.val none st)
def kH (cx:Kx):Nat→List CS→RS→Option (Rz (Option Int))
 |0,_,_=>none
 |_+1,[],st=>some (.val none st)
 |n+1,s::l,st=>bindR (rG cx n s st) fun r st=>match r with
  |some v=>some (.val (some v) st)
  |none=>kH cx n l st
def rM (cx:Kx):Nat→CE→List CS→RS→Option (Rz (Option Int))
 |0,_,_,_=>none
 |n+1,c,t,st=>bindR (some (fN cx.cx st)) fun _ st=>bindR (iX cx n c st) fun x st=>if x=0 then some (.val none st)else
  bindR (kH cx n t st) fun r st=>match r with
  |some v=>some (.val (some v) st)
  |none=>rM cx n c t st
end
end Go.Al
namespace Go.Al
structure L0 (cx:Kx) (n:Nat):Prop where
 E: ∀e st,dF (iX cx n e st) (iX cx (n+1) e st)
 A: ∀l st,dF (lW cx n l st) (lW cx (n+1) l st)
 C: ∀i l st,dF (rN cx n i l st) (rN cx (n+1) i l st)
 S: ∀e st,dF (rG cx n e st) (rG cx (n+1) e st)
 L: ∀l st,dF (kH cx n l st) (kH cx (n+1) l st)
 W: ∀c t st,dF (rM cx n c t st) (rM cx (n+1) c t st)
theorem dF.bind {α β:Type} {x:Option α} {f g:α→Option β} (hf: ∀a,dF (f a) (g a)):dF (x.bind f) (x.bind g):=by
 cases x with
 |none=>exact dF.refl _
 |some a=>exact hf a
theorem oP (cx:Kx) (n:Nat):L0 cx n:=by
 induction n with
 |zero=>
  constructor
  all_goals
   intros
   intro o h;simp [iX,lW,rN,rG,kH,rM]at h
 |succ n ih=>
  obtain⟨hE,hA,hC,hS,hL,hW⟩:=ih;constructor
  ·rintro⟨k,o,m,a,z,l⟩ st
   simp only[iX];refine dF.ite (dF.refl _) (dF.ite (dF.refl _) (dF.ite ?_ (dF.ite (hC _ _ _) (dF.ite (dF.refl _) ?_))))
   ·cases l[0]? with
    |none=>exact dF.refl _
    |some a=>exact dF.bindR (hE _ _) fun _ _=>dF.refl _
   cases l[0]? with
   |none=>exact dF.refl _
   |some a=>
    refine dF.ite (dF.bindR (hE _ _) fun _ _=>dF.refl _) ?_
    cases l[1]? with
    |none=>exact dF.refl _
    |some b=>
     refine dF.ite (dF.bindR (hE _ _) fun _ _=>dF.bindR (hE _ _) fun _ _=>dF.refl _) ?_;exact dF.bindR (hE _ _) fun _ _=>dF.ite (dF.refl _) (dF.bindR (hE _ _) fun _ _=>dF.refl _)
  ·intro l st
   cases l with
   |nil=>simp only[lW];exact dF.refl _
   |cons e l=>
    simp only[lW];exact dF.bindR (hE _ _) fun _ _=>dF.bindR (hA _ _) fun _ _=>dF.refl _
  ·intro i l st
   simp only[rN];refine dF.ite (dF.refl _) ?_
   cases cx.funs[i.toNat]? with
   |none=>exact dF.refl _
   |some f=>exact dF.bindR (hA _ _) fun _ _=>dF.bindR (dF.refl _) fun _ _=>dF.bind fun _=>dF.bindR (hL _ _) fun _ _=>dF.refl _
  ·rintro⟨k,a,z,l,t,u⟩ st
   simp only[rG];refine dF.ite ?_ (dF.ite ?_ (dF.ite ?_ (dF.ite ?_ (dF.ite ?_ (dF.ite ?_ (dF.ite ?_ (dF.refl _)))))))
   ·cases l[0]? with
    |none=>exact dF.refl _
    |some a=>exact dF.bindR (hE _ _) fun _ _=>dF.refl _
   ·cases l[0]? with
    |none=>exact dF.refl _
    |some a=>
     cases l[1]? with
     |none=>exact dF.refl _
     |some b=>exact dF.bindR (hE _ _) fun _ _=>dF.bindR (hE _ _) fun _ _=>dF.refl _
   ·cases l[0]? with
    |none=>exact dF.refl _
    |some a=>exact dF.bindR (hE _ _) fun _ _=>dF.refl _
   ·cases l[0]? with
    |none=>exact dF.refl _
    |some a=>exact dF.bindR (hE _ _) fun _ _=>dF.ite (hL _ _) (hL _ _)
   ·cases l[0]? with
    |none=>exact dF.refl _
    |some a=>exact hW _ _ _
   ·exact dF.bindR (hC _ _ _) fun _ _=>dF.refl _
   cases l[0]? with
   |none=>exact dF.refl _
   |some a=>exact dF.bindR (hE _ _) fun _ _=>dF.refl _
  ·intro l st
   cases l with
   |nil=>simp only[kH];exact dF.refl _
   |cons s l=>
    simp only[kH];refine dF.bindR (hS _ _) fun r st=>?_
    cases r with
    |some v=>exact dF.refl _
    |none=>exact hL _ _
  intro c t st;simp only[rM];refine dF.bindR (dF.refl _) fun _ st=>dF.bindR (hE _ _) fun x st=>dF.ite (dF.refl _) (dF.bindR (hL _ _) fun r st=>?_)
  cases r with
  |some v=>exact dF.refl _
  |none=>exact hW _ _ _
theorem Gq {cx:Kx} {n m:Nat} (hm:n≤m) {e st o} (h:iX cx n e st=some o):iX cx m e st=some o:=iQ (f:=fun n=>iX cx n e st) (fun n=>(oP cx n).E _ _) hm o h
theorem G0 {cx:Kx} {n m:Nat} (hm:n≤m) {e st o} (h:lW cx n e st=some o):lW cx m e st=some o:=iQ (f:=fun n=>lW cx n e st) (fun n=>(oP cx n).A _ _) hm o h
theorem F9 {cx:Kx} {n m:Nat} (hm:n≤m) {i e st o} (h:rN cx n i e st=some o):rN cx m i e st=some o:=iQ (f:=fun n=>rN cx n i e st) (fun n=>(oP cx n).C _ _ _) hm o h
theorem Tj {cx:Kx} {n m:Nat} (hm:n≤m) {e st o} (h:rG cx n e st=some o):rG cx m e st=some o:=iQ (f:=fun n=>rG cx n e st) (fun n=>(oP cx n).S _ _) hm o h
theorem Gp {cx:Kx} {n m:Nat} (hm:n≤m) {e st o} (h:kH cx n e st=some o):kH cx m e st=some o:=iQ (f:=fun n=>kH cx n e st) (fun n=>(oP cx n).L _ _) hm o h
theorem F0 {cx:Kx} {n m:Nat} (hm:n≤m) {c e st o} (h:rM cx n c e st=some o):rM cx m c e st=some o:=iQ (f:=fun n=>rM cx n c e st) (fun n=>(oP cx n).W _ _ _) hm o h
theorem nE (cx:Kx) (e st):cG fun n=>iX cx n e st:=fun n=>(oP cx n).E _ _
theorem nA (cx:Kx) (e st):cG fun n=>lW cx n e st:=fun n=>(oP cx n).A _ _
theorem nC (cx:Kx) (i e st):cG fun n=>rN cx n i e st:=fun n=>(oP cx n).C _ _ _
theorem nS (cx:Kx) (e st):cG fun n=>rG cx n e st:=fun n=>(oP cx n).S _ _
theorem nL (cx:Kx) (e st):cG fun n=>kH cx n e st:=fun n=>(oP cx n).L _ _
theorem nW (cx:Kx) (c e st):cG fun n=>rM cx n c e st:=fun n=>(oP cx n).W _ _ _
theorem cG.obind {α β:Type} {x:Option α} {g:α→Nat→Option β} (hg: ∀a,cG (g a)):cG fun n=>x.bind fun a=>g a n:=fun n=>dF.bind fun a=>hg a n
mutual
def Qn (words:Int) (fs:List CF) (i:Nat):CE→Prop
 | .mk k _ m a z l=>dI m∧(k=2→0≤a∧a<words)∧(k=3→0≤a∧a+z≤words∧z≤4096∧1≤l.length∧1≤z)∧(k=4→0≤a∧a<i∧ ∃f,fs[a.toNat]?=some f∧f.params=l.length)∧(k=7→1≤l.length)∧(k≠1→k≠2→k≠3→k≠4→k≠5→k≠7→2≤l.length∧(k=6∨k=8∨k=9))∧mN words fs i l
def mN (words:Int) (fs:List CF) (i:Nat):List CE→Prop
 |[]=>True
 |e::l=>Qn words fs i e∧mN words fs i l
end
mutual
def Mc (words:Int) (fs:List CF) (i:Nat):CS→Prop
 | .mk k a z l t u=>(k=1→0≤a∧a<words)∧(k=2→0≤a∧a+z≤words∧z≤4096∧2≤l.length∧1≤z)∧(k=6→0≤a∧a<i∧ ∃f,fs[a.toNat]?=some f∧f.params=l.length)∧(k=1∨k=3∨k=4∨k=5→1≤l.length)∧mN words fs i l∧nU words fs i t∧nU words fs i u
def nU (words:Int) (fs:List CF) (i:Nat):List CS→Prop
 |[]=>True
 |e::l=>Mc words fs i e∧nU words fs i l
end
theorem jK {words:Int} {fs:List CF} {i:Nat}: ∀{l:List CE},mN words fs i l→ ∀{j:Nat} {e:CE},l[j]?=some e→Qn words fs i e∧e.sz≤dR l
 |[],_,j,e,h=>by simp at h
 |x::l,hw,0,e,h=>by
  simp only[mN]at hw;simp only[List.getElem?_cons_zero,Option.some.injEq]at h;subst h;exact⟨hw.1,by simp only[dR];omega⟩
 |x::l,hw,j+1,e,h=>by
  simp only[mN]at hw;simp only[List.getElem?_cons_succ]at h;have:=jK hw.2 h;exact⟨this.1,by simp only[dR];omega⟩
theorem Em {words:Int} {fs:List CF} {i:Nat}: ∀{l:List CS},nU words fs i l→ ∀{j:Nat} {e:CS},l[j]?=some e→Mc words fs i e∧e.sz≤dB l
 |[],_,j,e,h=>by simp at h
 |x::l,hw,0,e,h=>by
  simp only[nU]at hw;simp only[List.getElem?_cons_zero,Option.some.injEq]at h;subst h;exact⟨hw.1,by simp only[dB];omega⟩
 |x::l,hw,j+1,e,h=>by
  simp only[nU]at hw;simp only[List.getElem?_cons_succ]at h;have:=Em hw.2 h;exact⟨this.1,by simp only[dB];omega⟩
structure vD (words:Int) (fs:List CF):Prop where
 head: ∀(i:Nat) f,fs[i]?=some f→0≤f.params∧f.params≤6∧f.params≤f.slots∧0≤f.first∧f.first+f.slots≤words
 body: ∀(i:Nat) f,fs[i]?=some f→nU words fs i f.body
structure Km (words:Int) (t:Nat) (s:RS):Prop where
 v:(s.vars.length:Int)=words
 t:t≤s.ticks
 u: ∀x∈s.vars,dI x
theorem Km.self {words:Int} {t:Nat} {s:RS} (h:Km words t s):Km words s.ticks s:=⟨h.v,aY _,h.u⟩
theorem Km.trans {words:Int} {t t':Nat} {s:RS} (ht:t≤t') (h:Km words t' s):Km words t s:=⟨h.v,Nat.le_trans ht h.t,h.u⟩
end Go.Al
namespace Go.Al
def Ym (cx:Kx) (words:Int) (j:Nat):Prop:= ∀f,cx.funs[j]?=some f→ ∀st:RS,Km words st.ticks st→cZ (fun n=>kH cx n f.body st) (fun r s=>(∀v,r=some v→dI v)∧Km words st.ticks s)
theorem rI:dI 0:=by simp [dI]
theorem Qw:dI 1:=by simp [dI]
theorem Mm {words a:Int} {t:Nat} {s:RS} (h:Km words t s) (h1:0≤a) (h2:a<words): ∃v,pK a s=some v∧dI v:=by
 unfold pK;rw[if_pos h1];have hl:a.toNat<s.vars.length:=by have:=h.v;omega
 exact⟨_,aG hl,h.u _ (bA hl)⟩
theorem Sw {words a v:Int} {t:Nat} {s:RS} (h:Km words t s) (h1:0≤a) (h2:a<words) (hv:dI v): ∃s',xN a v s=some s'∧Km words t s':=by
 unfold xN;rw[if_pos ⟨h1,by have:=h.v;omega⟩];refine⟨_,rfl,by simp only[List.length_set];exact h.v,h.t,fun x hx=>?_⟩;rcases List.mem_or_eq_of_mem_set hx with hx|rfl
 ·exact h.u x hx
 exact hv
theorem Hh {words:Int} {t:Nat} {s:RS} (h:Km words t s) {f:CF} (h1:0≤f.first) (h2:0≤f.slots) (h3:f.first+f.slots≤words) {vs:List Int} (h4:(vs.length:Int)≤f.slots) (hu: ∀v∈vs,dI v): ∃s',mB f vs s=some s'∧Km words t s':=by
 have hv:=h.v;unfold mB;rw[if_pos ⟨h1,h2,by omega,h4⟩];refine⟨_,rfl, ?_,h.t,fun x hx=>?_⟩
 ·simp only[bP,cU,fB,List.length_drop]
  omega
 simp only[List.mem_append]at hx;rcases hx with(hx|hx|hx)|hx
 ·exact h.u x (List.mem_of_mem_take hx)
 ·exact hu x hx
 ·rw[List.eq_of_mem_replicate hx];exact rI
 exact h.u x (List.mem_of_mem_drop hx)
theorem Dd {cx:Cx} {words:Int} {t:Nat} {s s':RS} (h:Km words t s) (e:fN cx s= .val () s'):Km words t s'∧s.ticks<s'.ticks∧s.ticks<cx.fuel:=by
 unfold fN at e;split at e
 ·cases e
 rename_i hf;cases e;exact⟨⟨h.v,by have:=h.t;simp only;omega,h.u⟩,by simp,by omega⟩
section
variable {cx : Kx} {words : Int} {i : Nat} (hfs : vD words cx.funs) (hb : ∀ j, j < i → Ym cx words j)
include hfs hb
theorem Yd (N:Nat): ∀e:CE,e.sz≤N→Qn words cx.funs i e→ ∀(st:RS) (t:Nat),Km words t st→cZ (fun n=>iX cx n e st) (fun v s=>dI v∧Km words t s):=by
 induction N with
 |zero=>intro e he;have:=e.sz_eq;omega
 |succ N ih=>
  have ihA: ∀l:List CE,dR l≤N→mN words cx.funs i l→ ∀(st:RS) (t:Nat),Km words t st→cZ (fun n=>lW cx n l st) (fun vs s=>Km words t s∧vs.length=l.length∧ ∀v∈vs,dI v):=by
   intro l
   induction l with
   |nil=>intro _ _ st t hF;exact cZ.succ (f:=fun _=>some (.val [] st)) (cZ.const fun a s e=>by cases e;exact⟨hF,rfl,fun v hv=>by cases hv⟩) fun n=>by simp only[lW]
   |cons e l ihl=>
    intro hs hw st t hF;simp only[dR]at hs;simp only[mN]at hw;refine cZ.succ (f:=fun n=>bindR (iX cx n e st) fun v st=>bindR (lW cx n l st) fun vs st=>some (.val (v::vs) st)) ?_ fun n=>by simp only[lW]
    refine cZ.bind (ih e (by omega) hw.1 st t hF) (nE _ _ _) (fun a s=>cG.bind (nA _ _ _) fun _ _=>cG.const _) fun a s h1=>?_;refine cZ.bind (ihl (by omega) hw.2 s t h1.2) (nA _ _ _) (fun _ _=>cG.const _) fun vs s2 h2=>?_
    refine cZ.const fun a' s e=>by
     cases e;refine⟨h2.1,by simp [h2.2.1],fun v hv=>?_⟩;rcases List.mem_cons.1 hv with rfl|hv
     ·exact h1.1
     exact h2.2.2 v hv
  rintro⟨k,o,m,a,z,l⟩ he hw st t hF;simp only[Qn]at hw;obtain⟨wm,w2,w3,w4,w7,w6,wl⟩:=hw;simp only[CE.sz]at he
  have kid: ∀{j:Nat} {a:CE},l[j]?=some a→ ∀(st:RS) (t:Nat),Km words t st→cZ (fun n=>iX cx n a st) (fun v s=>dI v∧Km words t s):=fun {j a} hj st t hF=>by
   have:=jK wl hj;exact ih a (by omega) this.1 st t hF
  have get: ∀{j:Nat},j<l.length→ ∃a,l[j]?=some a:=fun {j} h=>⟨l[j],aG h⟩;refine cZ.succ (f:=fun n=>iX cx (n+1) (.mk k o m a z l) st) ?_ fun n=>rfl;simp only[iX];refine cZ.ite (fun h1=>cZ.const fun a s e=>by cases e;exact⟨wm,hF⟩) fun h1=>cZ.ite (fun h2=>?_) fun h2=>cZ.ite (fun h3=>?_) fun h3=>cZ.ite (fun h4=>?_) fun h4=>cZ.ite (fun h5=>cZ.const fun a s e=>?_) fun h5=>?_
  ·obtain⟨q1,q2⟩:=w2 h2
   obtain⟨v,hv,hu⟩:=Mm hF q1 q2;rw[hv];exact cZ.const fun a s e=>by cases e;exact⟨hu,hF⟩
  ·obtain⟨q1,q2,q3,q4⟩:=w3 h3
   obtain⟨b,hb'⟩:=get (j:=0) (by omega);simp only[hb'];refine cZ.bind (kid hb' st t hF) (nE _ _ _) (fun _ _=>cG.const _) fun x s1 h6=>?_;unfold Qc;have hx0:=h6.1.1;by_cases hx:x<z
   ·rw[if_pos hx]
    simp only[bindR];obtain⟨v,hv,hu⟩:=Mm (a:=a+x) h6.2 (by omega) (by omega);rw[hv];exact cZ.const fun a s e=>by cases e;exact⟨hu,h6.2⟩
   rw[if_neg hx];simp only[bindR];exact cZ.const fun a s e=>by cases e
  ·obtain⟨q1,q2,g,hg,q3⟩:=w4 h4
   obtain⟨g1,g2,g3,g4,g5⟩:=hfs.head _ _ hg;refine cZ.succ (f:=fun n=>rN cx (n+1) a l st) ?_ fun n=>rfl;simp only[rN,if_neg (show ¬a<0 by omega),hg];refine cZ.bind (ihA l (by omega) wl st t hF) (nA _ _ _) (fun a s=>cG.bind (cG.const _) fun _ _=>cG.obind fun _=>cG.bind (nL _ _ _) fun _ _=>cG.const _) fun vs s1 h6=>?_;refine cZ.bind (P:=fun _ s=>Km words t s) (cZ.const fun a s e=>(Dd h6.1 e).1) (cG.const _) (fun _ _=>cG.obind fun _=>cG.bind (nL _ _ _) fun _ _=>cG.const _) fun _ s2 h7=>?_;obtain⟨s3,e3,k3⟩:=Hh h7.self (vs:=vs) g4 (by omega) g5 (by rw[h6.2.1];omega) h6.2.2;rw[e3];simp only[Option.bind_some];refine cZ.bind (hb _ (by omega) g hg s3 k3.self) (nL _ _ _) (fun _ _=>cG.const _) fun r s4 h8=>?_
   refine cZ.const fun v s e=>by
    cases e;refine⟨?_,h8.2.trans (by have:=h7.t;have:=k3.t;omega)⟩
    cases r with
    |none=>exact rI
    |some v=>exact h8.1 v rfl
  ·unfold oE at e
   split at e
   ·rename_i c _
    cases e;exact⟨by have:=UInt8.toNat_lt c;unfold dI;omega,hF.v,hF.t,hF.u⟩
   cases e;exact⟨by simp [dI],hF⟩
  have h0:1≤l.length:=by
   by_cases h7:k=7
   ·exact w7 h7
   have:=w6 h1 h2 h3 h4 h5 h7;omega
  obtain⟨b,hb'⟩:=get (j:=0) (by omega);simp only[hb'];refine cZ.ite (fun h7=>?_) fun h7=>?_
  ·refine cZ.bind (kid hb' st t hF) (nE _ _ _) (fun _ _=>cG.const _) fun x s1 h6=>?_
   exact cZ.const fun a s e=>by
    cases e;exact⟨by split;exact Qw;exact rI,h6.2⟩
  obtain⟨d,hd⟩:=get (j:=1) (by have:=w6 h1 h2 h3 h4 h5 h7;omega);simp only[hd];refine cZ.ite (fun h6=>?_) fun h6=>?_
  ·refine cZ.bind (kid hb' st t hF) (nE _ _ _) (fun _ _=>cG.bind (nE _ _ _) fun _ _=>cG.const _) fun x s1 h8=>?_
   refine cZ.bind (kid hd s1 t h8.2) (nE _ _ _) (fun _ _=>cG.const _) fun y s2 h9=>?_;split
   ·exact cZ.const fun a s e=>by cases e;exact⟨Im o h8.1 h9.1,h9.2⟩
   exact cZ.const fun a s e=>by cases e
  refine cZ.bind (kid hb' st t hF) (nE _ _ _) (fun _ _=>cG.ite (cG.const _) (cG.bind (nE _ _ _) fun _ _=>cG.const _)) fun x s1 h8=>?_;refine cZ.ite (fun _=>cZ.const fun a s e=>?_) fun _=>?_
  ·cases e
   exact⟨by split;exact rI;exact Qw,h8.2⟩
  refine cZ.bind (kid hd s1 t h8.2) (nE _ _ _) (fun _ _=>cG.const _) fun y s2 h9=>?_
  exact cZ.const fun a s e=>by
   cases e;exact⟨by split;exact rI;exact Qw,h9.2⟩
theorem G3: ∀l:List CE,mN words cx.funs i l→ ∀(st:RS) (t:Nat),Km words t st→cZ (fun n=>lW cx n l st) (fun vs s=>Km words t s∧vs.length=l.length∧ ∀v∈vs,dI v):=by
 intro l
 induction l with
 |nil=>intro _ st t hF;exact cZ.succ (f:=fun _=>some (.val [] st)) (cZ.const fun a s e=>by cases e;exact⟨hF,rfl,fun v hv=>by cases hv⟩) fun n=>by simp only[lW]
 |cons e l ihl=>
  intro hw st t hF;simp only[mN]at hw;refine cZ.succ (f:=fun n=>bindR (iX cx n e st) fun v st=>bindR (lW cx n l st) fun vs st=>some (.val (v::vs) st)) ?_ fun n=>by simp only[lW]
  refine cZ.bind (Yd hfs hb e.sz e (aY _) hw.1 st t hF) (nE _ _ _) (fun a s=>cG.bind (nA _ _ _) fun _ _=>cG.const _) fun a s h1=>?_;refine cZ.bind (ihl hw.2 s t h1.2) (nA _ _ _) (fun _ _=>cG.const _) fun vs s2 h2=>?_
  refine cZ.const fun a' s e=>by
   cases e;refine⟨h2.1,by simp [h2.2.1],fun v hv=>?_⟩;rcases List.mem_cons.1 hv with rfl|hv
   ·exact h1.1
   exact h2.2.2 v hv
theorem G2 (l:List CE) (wl:mN words cx.funs i l) {a:Int} (hc:0≤a∧a<i∧ ∃f,cx.funs[a.toNat]?=some f∧f.params=l.length) (st:RS) (t:Nat) (hF:Km words t st):cZ (fun n=>rN cx n a l st) (fun v s=>dI v∧Km words t s):=by
 obtain⟨q1,q2,g,hg,q3⟩:=hc;obtain⟨g1,g2,g3,g4,g5⟩:=hfs.head _ _ hg;refine cZ.succ (f:=fun n=>rN cx (n+1) a l st) ?_ fun n=>rfl;simp only[rN,if_neg (show ¬a<0 by omega),hg];refine cZ.bind (G3 hfs hb l wl st t hF) (nA _ _ _) (fun a s=>cG.bind (cG.const _) fun _ _=>cG.obind fun _=>cG.bind (nL _ _ _) fun _ _=>cG.const _) fun vs s1 h6=>?_;refine cZ.bind (P:=fun _ s=>Km words t s) (cZ.const fun a s e=>(Dd h6.1 e).1) (cG.const _) (fun _ _=>cG.obind fun _=>cG.bind (nL _ _ _) fun _ _=>cG.const _) fun _ s2 h7=>?_;obtain⟨s3,e3,k3⟩:=Hh h7.self (vs:=vs) g4 (by omega) g5 (by rw[h6.2.1];omega) h6.2.2;rw[e3];simp only[Option.bind_some];refine cZ.bind (hb _ (by omega) g hg s3 k3.self) (nL _ _ _) (fun _ _=>cG.const _) fun r s4 h8=>?_
 refine cZ.const fun v s e=>by
  cases e;refine⟨?_,h8.2.trans (by have:=h7.t;have:=k3.t;omega)⟩
  cases r with
  |none=>exact rI
  |some v=>exact h8.1 v rfl
def Kn (words:Int) (t:Nat) (r:Option Int) (s:RS):Prop:=(∀v,r=some v→dI v)∧Km words t s
theorem G1 (M:Nat): ∀N:Nat,(∀e:CS,e.sz≤N→Mc words cx.funs i e→ ∀st:RS,Km words st.ticks st→cx.fuel-st.ticks≤M→cZ (fun n=>rG cx n e st) (Kn words st.ticks))∧
  (∀l:List CS,dB l<N→nU words cx.funs i l→ ∀st:RS,Km words st.ticks st→cx.fuel-st.ticks≤M→cZ (fun n=>kH cx n l st) (Kn words st.ticks)):=by
 induction M using Nat.strongRecOn with
 |_ M ihM=>
 intro N
 induction N with
 |zero=>exact⟨fun e he=>by have:=e.sz_eq;omega,fun l hl=>by omega⟩
 |succ N ih=>
  obtain⟨ihS,ihL⟩:=ih
  have one: ∀e:CS,e.sz≤N+1→Mc words cx.funs i e→ ∀st:RS,Km words st.ticks st→cx.fuel-st.ticks≤M→cZ (fun n=>rG cx n e st) (Kn words st.ticks):=by
   rintro⟨k,a,z,l,t,u⟩ he hw st hF hM;simp only[Mc]at hw;obtain⟨w1,w2,w6,wk,wl,wt,wu⟩:=hw;simp only[CS.sz]at he
   have kid: ∀{j:Nat} {a:CE},l[j]?=some a→ ∀(st:RS) (t:Nat),Km words t st→cZ (fun n=>iX cx n a st) (fun v s=>dI v∧Km words t s):=fun {j a} hj st t hF=>by
    have:=jK wl hj;exact Yd hfs hb a.sz a (aY _) this.1 st t hF
   have get: ∀{j:Nat},j<l.length→ ∃a,l[j]?=some a:=fun {j} h=>⟨l[j],aG h⟩;have kn0: ∀{t:Nat} {s:RS},Km words t s→Kn words t none s:=fun h=>⟨(fun v e=>by cases e),h⟩;refine cZ.succ (f:=fun n=>rG cx (n+1) (.mk k a z l t u) st) ?_ fun n=>rfl;simp only[rG];refine cZ.ite (fun h1=>?_) fun h1=>cZ.ite (fun h2=>?_) fun h2=>cZ.ite (fun h3=>?_) fun h3=>cZ.ite (fun h4=>?_) fun h4=>cZ.ite (fun h5=>?_) fun h5=>cZ.ite (fun h6=>?_) fun h6=>cZ.ite (fun h7=>?_) fun h7=>cZ.const fun a s e=>by cases e;exact kn0 hF
   ·obtain⟨b,hb'⟩:=get (j:=0) (by have:=wk (.inl h1);omega)
    simp only[hb'];refine cZ.bind (kid hb' st st.ticks hF) (nE _ _ _) (fun _ _=>cG.const _) fun v s1 h8=>?_;obtain⟨q1,q2⟩:=w1 h1;obtain⟨s2,e2,k2⟩:=Sw h8.2 q1 q2 h8.1;rw[e2];exact cZ.const fun a s e=>by cases e;exact kn0 k2
   ·obtain⟨q1,q2,q3,q4⟩:=w2 h2
    obtain⟨b,hb'⟩:=get (j:=0) (by omega);obtain⟨d,hd⟩:=get (j:=1) (by omega);simp only[hb',hd];refine cZ.bind (kid hb' st st.ticks hF) (nE _ _ _) (fun _ _=>cG.bind (nE _ _ _) fun _ _=>cG.const _) fun x s1 h8=>?_;refine cZ.bind (kid hd s1 st.ticks h8.2) (nE _ _ _) (fun _ _=>cG.const _) fun v s2 h9=>?_;have hx0:=h8.1.1;unfold Qc;by_cases hx:x<z
    ·rw[if_pos hx]
     simp only[bindR];obtain⟨s3,e3,k3⟩:=Sw (a:=a+x) h9.2 (by omega) (by omega) h9.1;rw[e3];exact cZ.const fun a s e=>by cases e;exact kn0 k3
    rw[if_neg hx];simp only[bindR];exact cZ.const fun a s e=>by cases e
   ·obtain⟨b,hb'⟩:=get (j:=0) (by have:=wk (.inr (.inl h3));omega)
    simp only[hb'];refine cZ.bind (kid hb' st st.ticks hF) (nE _ _ _) (fun _ _=>cG.const _) fun v s1 h8=>?_;unfold oV;split
    ·simp only[bindR]
     exact cZ.const fun a s e=>by cases e
    simp only[bindR];exact cZ.const fun a s e=>by cases e;exact kn0 ⟨h8.2.v,h8.2.t,h8.2.u⟩
   ·obtain⟨b,hb'⟩:=get (j:=0) (by have:=wk (.inr (.inr (.inl h4)));omega)
    simp only[hb'];refine cZ.bind (kid hb' st st.ticks hF) (nE _ _ _) (fun _ _=>cG.ite (nL _ _ _) (nL _ _ _)) fun v s1 h8=>?_;have q0:=h8.2.t;have q1:=(jK wl hb').2;have q2:=b.sz_eq;exact cZ.ite (fun _=>(ihL u (by clear w1 w2 w6;omega) wu s1 h8.2.self (by clear w1 w2 w6;omega)).mono fun r s h=>⟨h.1,h.2.trans q0⟩) fun _=>(ihL t (by clear w1 w2 w6;omega) wt s1 h8.2.self (by clear w1 w2 w6;omega)).mono fun r s h=>⟨h.1,h.2.trans q0⟩
   ·obtain⟨b,hb'⟩:=get (j:=0) (by have:=wk (.inr (.inr (.inr h5)));omega)
    simp only[hb'];refine cZ.succ (f:=fun n=>rM cx (n+1) b t st) ?_ fun n=>rfl;simp only[rM];refine cZ.bind (P:=fun _ s=>Km words st.ticks s∧st.ticks<s.ticks∧cx.fuel-s.ticks<M) (cZ.const fun a s e=>?_) (cG.const _) (fun _ _=>cG.bind (nE _ _ _) fun _ _=>cG.ite (cG.const _) (cG.bind (nL _ _ _) fun r _=>?_)) fun _ s1 ⟨g1,g2,g3⟩=>?_
    ·obtain⟨k1,k2,k3⟩:=Dd hF e
     have k3:st.ticks<cx.fuel:=k3;exact⟨k1,k2,by clear w1 w2 w6;omega⟩
    ·cases r with
     |some v=>exact cG.const _
     |none=>exact nW _ _ _ _
    refine cZ.bind (kid hb' s1 s1.ticks g1.self) (nE _ _ _) (fun _ _=>cG.ite (cG.const _) (cG.bind (nL _ _ _) fun r _=>?_)) fun x s2 h8=>?_
    ·cases r with
     |some v=>exact cG.const _
     |none=>exact nW _ _ _ _
    have h8t:=h8.2.t;refine cZ.ite (fun _=>cZ.const fun a s e=>by cases e;exact kn0 (h8.2.trans (by omega))) fun _=>?_;refine cZ.bind ((ihM (cx.fuel-s2.ticks) (by omega) (dB t+1)).2 t (by omega) wt s2 h8.2.self (aY _)) (nL _ _ _) (fun r _=>?_) fun r s3 h9=>?_
    ·cases r with
     |some v=>exact cG.const _
     |none=>exact nW _ _ _ _
    have h9t:=h9.2.t
    cases hr:r with
    |some v=>exact cZ.const fun a s e=>by cases e;exact⟨fun w hw=>by cases hw;exact h9.1 _ hr,h9.2.trans (by omega)⟩
    |none=>
     have:=(ihM (cx.fuel-s3.ticks) (by omega) (CS.mk 5 0 0 [b] t []).sz).1 (.mk 5 0 0 [b] t []) (aY _) (by
      simp only[Mc,mN,nU]
      exact⟨fun e=>absurd e (by decide),fun e=>absurd e (by decide),fun e=>absurd e (by decide),fun _=>by simp,⟨(jK wl hb').1,trivial⟩,wt,trivial⟩) s3 h9.2.self (aY _)
     obtain⟨n,o,e1,e2⟩:=this
     cases n with
     |zero=>simp [rG]at e1
     |succ n=>
      simp [rG]at e1;exact⟨n,o,e1,fun r' s' e=>by have:=e2 r' s' e;exact⟨this.1,this.2.trans (by omega)⟩⟩
   ·refine cZ.bind (G2 hfs hb l wl (w6 h6) st st.ticks hF) (nC _ _ _ _) (fun _ _=>cG.const _) fun v s1 h8=>?_
    exact cZ.const fun a s e=>by cases e;exact kn0 h8.2
   cases hl:l[0]? with
   |none=>exact cZ.const fun a s e=>by cases e;exact⟨fun v e=>by cases e;exact rI,hF⟩
   |some b=>
    simp only;refine cZ.bind (kid hl st st.ticks hF) (nE _ _ _) (fun _ _=>cG.const _) fun v s1 h8=>?_;exact cZ.const fun a s e=>by cases e;exact⟨fun v e=>by cases e;exact h8.1,h8.2⟩
  refine⟨one, ?_⟩;intro l
  induction l with
  |nil=>
   intro _ _ st hF _;exact cZ.succ (f:=fun _=>some (.val none st)) (cZ.const fun a s e=>by cases e;exact⟨(fun v e=>by cases e),hF⟩) fun n=>by simp only[kH]
  |cons e l ihl=>
   intro hs hw st hF hM;simp only[dB]at hs;simp only[nU]at hw;refine cZ.succ (f:=fun n=>kH cx (n+1) (e::l) st) ?_ fun n=>rfl;simp only[kH];refine cZ.bind (one e (by omega) hw.1 st hF hM) (nS _ _ _) (fun r _=>?_) fun r s1 h1=>?_
   ·cases r with
    |some v=>exact cG.const _
    |none=>exact nL _ _ _
   have h1t:=h1.2.t
   cases hr:r with
   |some v=>exact cZ.const fun a s e=>by cases e;exact⟨fun w hw=>by cases hw;exact h1.1 _ hr,h1.2⟩
   |none=>exact(ihl (by omega) hw.2 s1 h1.2.self (by omega)).mono fun r s h=>⟨h.1,h.2.trans h1t⟩
end
theorem Vs {cx:Kx} {words:Int} (h:vD words cx.funs) (j:Nat):Ym cx words j:=by
 induction j using Nat.strongRecOn with
 |_ j ih=>
  intro f hf st hF;exact(G1 h ih (cx.fuel-st.ticks) (dB f.body+1)).2 f.body (by omega) (h.body j f hf) st hF (aY _)
def pF (cx:Kx) (n:Nat) (words:Nat):Option (Int×dD×Nat):=(cx.funs.getLast?).bind fun f=>(kH cx n f.body ⟨List.replicate words 0,[],0,[],0⟩).map sG
theorem Kc {cx:Kx} {words:Nat} (h0:cx.funs≠[]) (h:vD (words:Int) cx.funs): ∃n r,pF cx n words=some r:=by
 have hl:cx.funs.length- 1<cx.funs.length:=by
  cases hc:cx.funs with
  |nil=>exact absurd hc h0
  |cons a l=>simp
 have hg:cx.funs.getLast?=some cx.funs[cx.funs.length- 1]:=by rw[List.getLast?_eq_getElem?,aG hl]
 obtain⟨n,r,hr,_⟩:=Vs h (cx.funs.length- 1) _ (aG hl) ⟨List.replicate words 0,[],0,[],0⟩ ⟨by simp,aY _,fun x hx=>by rw[List.eq_of_mem_replicate hx];exact rI⟩;refine⟨n,sG r, ?_⟩;unfold pF;rw[hg];simp only[Option.bind_some];rw[show kH cx n _ _=some r from hr];rfl
theorem qV {cx:Kx} {n m words:Nat} (hm:n≤m) {r} (h:pF cx n words=some r):pF cx m words=some r:=by
 unfold pF at *
 cases hc:cx.funs.getLast? with
 |none=>rw[hc]at h;cases h
 |some f=>
  rw[hc]at h;simp only[Option.bind_some,bE]at h⊢;obtain⟨x,hx,e⟩:=h;exact⟨x,Gp hm hx,e⟩
theorem G4 {cx:Kx} {n m words:Nat} {r r'} (h:pF cx n words=some r) (h':pF cx m words=some r'):r=r':=by
 have a:=qV (Nat.le_max_left n m) h;have b:=qV (Nat.le_max_right n m) h';rw[a]at b;exact Option.some.inj b
end Go.Al
namespace Go.Al
theorem cT {w a n:Int}:cN w a n=true↔0≤a∧0≤n∧a≤w∧n≤w-a:=by
 simp only[cN,aS,aW];omega
theorem Ch {below:List CF} {g:Int} {n:Nat} {w:Bool} (h:gD below g n w=true):0≤g∧ ∃f,below[g.toNat]?=some f∧f.params=n∧f.word=w:=by
 unfold gD at h;rw[aS]at h;obtain⟨h1,h2⟩:=h;split at h2
 ·rename_i f hf
  simp only[aS,aW]at h2;exact⟨aC h1,f,hf,h2.2,h2.1⟩
 cases h2
theorem Fb {α:Type} {l:List α} {i j:Nat} {a:α} (h:(l.take i)[j]?=some a):j<i∧l[j]?=some a:=by
 rw[List.getElem?_take]at h;split at h
 ·exact⟨by assumption,h⟩
 cases h
section
variable {words : Int} {fs : List CF} {i : Nat}
theorem C7 (N:Nat): ∀(e:CE) (lv:Int),e.sz≤N→e.ok→jQ words (fs.take i) e lv=true→Qn words fs i e:=by
 induction N with
 |zero=>intro e _ he;have:=e.sz_eq;omega
 |succ N ih=>
  rintro⟨k,o,m,a,z,l⟩ lv he hok hr;have hkids:pH l:=hok.kids;have hnum:dI m:=hok.num;simp only[CE.sz]at he;simp only[jQ,aS]at hr;obtain⟨⟨_,hf⟩,hl⟩:=hr
  have hF:pQ words (fs.take i) (.mk k o m a z l)=((decide (k=1)||decide (m=0))&&(decide (k=6)||decide (o=0))&&(decide (k=3)||decide (z=0))&&(decide (k=2)||decide (k=3)||decide (k=4)||decide (a=0))&&
   (if k=1∨k=5 then decide (l.length=0)else if k=2 then cN words a 1&&decide (l.length=0)else if k=3 then decide (1≤z)&&decide (z≤4096)&&cN words a z&&decide (l.length=1)
    else if k=4 then gD (fs.take i) a l.length true else if k=6 then decide (4≤o)&&decide (o≤15)&&decide (l.length=2)else if k=7 then decide (l.length=1)else if k=8∨k=9 then decide (l.length=2)else false)):=rfl
  rw[hF,aS]at hf;have hf:=hf.2
  have kids: ∀l:List CE,dR l≤N→(∀e∈l,e.ok)→eK words (fs.take i) l (lv+1)=true→mN words fs i l:=by
   intro l
   induction l with
   |nil=>intro _ _ _;simp only[mN]
   |cons e l ihl=>
    intro hs ho hr;simp only[dR]at hs;simp only[eK,aS]at hr;simp only[mN];exact⟨ih e _ (by omega) (ho e (List.mem_cons_self)) hr.1,ihl (by omega) (fun x hx=>ho x (List.mem_cons_of_mem _ hx)) hr.2⟩
  simp only[Qn];refine⟨hnum,fun h=>?_,fun h=>?_,fun h=>?_,fun h=>?_,fun h1 h2 h3 h4 h5 h7=>?_,kids l (by omega) hkids.all hl⟩
  ·subst h
   simp only[Int.reduceEq,or_self,if_false,if_true,aS]at hf;have:=cT.1 hf.1;omega
  ·subst h
   simp only[Int.reduceEq,or_self,if_false,if_true,aS,aW]at hf;obtain⟨⟨⟨q1,q2⟩,q3⟩,q4⟩:=hf;have:=cT.1 q3;omega
  ·subst h
   simp only[Int.reduceEq,or_self,if_false,if_true]at hf;obtain⟨q1,f,q2,q3,_⟩:=Ch hf;obtain⟨r1,r2⟩:=Fb q2;exact⟨q1,by omega,f,r2,q3⟩
  ·subst h
   simp only[Int.reduceEq,or_self,if_false,if_true,aW]at hf;omega
  rw[if_neg (by omega),if_neg h2,if_neg h3,if_neg h4]at hf;split at hf
  ·simp only[aS,aW]at hf;omega
  split at hf
  ·have:=aC hf;omega
  cases hf
theorem Qs: ∀(l:List CE) (lv:Int),(∀e∈l,e.ok)→eK words (fs.take i) l lv=true→mN words fs i l
 |[],_,_,_=>by simp only[mN]
 |e::l,lv,ho,hr=>by
  simp only[eK,aS]at hr;simp only[mN];exact⟨C7 e.sz e lv (aY _) (ho e (List.mem_cons_self)) hr.1,Qs l lv (fun x hx=>ho x (List.mem_cons_of_mem _ hx)) hr.2⟩
theorem Yp {word:Bool} (N:Nat): ∀(e:CS) (lv:Int),e.sz≤N→e.ok→jP words (fs.take i) word e lv=true→Mc words fs i e:=by
 induction N with
 |zero=>intro e _ he;have:=e.sz_eq;omega
 |succ N ih=>
  rintro⟨k,a,z,l,t,u⟩ lv he hok hr;have hes:pH l:=hok.es;have hth:uE t:=hok.thn;have hel:uE u:=hok.els;simp only[CS.sz]at he;simp only[jP,aS]at hr;obtain⟨⟨⟨⟨_,hf⟩,hl⟩,ht⟩,hu⟩:=hr
  have hF:pP words (fs.take i) word (.mk k a z l t u)=((decide (k=2)||decide (z=0))&&(decide (k=1)||decide (k=2)||decide (k=6)||decide (a=0))&&(decide (k=4)||decide (u.length=0))&&(decide (k=4)||decide (k=5)||decide (t.length=0))&&
   (if k=1 then cN words a 1&&decide (l.length=1)else if k=2 then decide (1≤z)&&decide (z≤4096)&&cN words a z&&decide (l.length=2)else if k=3∨k=4∨k=5 then decide (l.length=1)
    else if k=6 then gD (fs.take i) a l.length false else if k=7 then decide (l.length=0)||word&&decide (l.length=1)else false)):=rfl
  rw[hF,aS]at hf;have hf:=hf.2
  have body: ∀l:List CS,dB l≤N→(∀e∈l,e.ok)→dO words (fs.take i) word l (lv+1)=true→nU words fs i l:=by
   intro l
   induction l with
   |nil=>intro _ _ _;simp only[nU]
   |cons e l ihl=>
    intro hs ho hr;simp only[dB]at hs;simp only[dO,aS]at hr;simp only[nU];exact⟨ih e _ (by omega) (ho e (List.mem_cons_self)) hr.1,ihl (by omega) (fun x hx=>ho x (List.mem_cons_of_mem _ hx)) hr.2⟩
  simp only[Mc];refine⟨fun h=>?_,fun h=>?_,fun h=>?_,fun h=>?_,Qs l _ hes.all hl,body t (by omega) hth.all ht,body u (by omega) hel.all hu⟩
  ·subst h
   simp only[if_true,aS]at hf;have:=cT.1 hf.1;omega
  ·subst h
   simp only[Int.reduceEq,or_self,if_false,if_true,aS,aW]at hf;obtain⟨⟨⟨q1,q2⟩,q3⟩,q4⟩:=hf;have:=cT.1 q3;omega
  ·subst h
   simp only[Int.reduceEq,or_self,if_false,if_true]at hf;obtain⟨q1,f,q2,q3,_⟩:=Ch hf;obtain⟨r1,r2⟩:=Fb q2;exact⟨q1,by omega,f,r2,q3⟩
  rcases h with rfl|rfl|rfl|rfl<;>simp only[Int.reduceEq,or_self,or_true,true_or,if_false,if_true,aS,aW]at hf<;>omega
theorem Mb {word:Bool}: ∀(l:List CS) (lv:Int),(∀e∈l,e.ok)→dO words (fs.take i) word l lv=true→nU words fs i l
 |[],_,_,_=>by simp only[nU]
 |e::l,lv,ho,hr=>by
  simp only[dO,aS]at hr;simp only[nU];exact⟨Yp e.sz e lv (aY _) (ho e (List.mem_cons_self)) hr.1,Mb l lv (fun x hx=>ho x (List.mem_cons_of_mem _ hx)) hr.2⟩
end
theorem sH {words:Int} {fs:List CF}: ∀(l:List CF) (k:Nat),fs.drop k=l→iY words (fs.take k) l=true→ ∀(j:Nat) f,l[j]?=some f→dO words (fs.take (k+j)) f.word f.body 1=true
 |[],_,_,_,j,f,h=>by simp at h
 |g::l,k,hd,hb,j,f,h=>by
  rw[iY,aS]at hb
  have hk:k<fs.length:=by
   rcases Nat.lt_or_ge k fs.length with h|h
   ·exact h
   rw[List.drop_eq_nil_of_le h]at hd;cases hd
  rw[bD hk]at hd;injection hd with h1 h2
  cases j with
  |zero=>simp only[List.getElem?_cons_zero,Option.some.injEq]at h;subst h;exact hb.1
  |succ j=>
   rw[List.getElem?_cons_succ]at h;have hb2:=hb.2;rw[←h1,←bR hk]at hb2;have:=sH l (k+1) h2 hb2 j f h;rwa [show k+1+j=k+(j+1)by omega]at this
structure Uw (c:Co):Prop where
 ok:c.ok
 words:0≤c.words∧c.words≤32768
 len:1≤c.funs.length∧c.funs.length≤64
 funs:vD c.words c.funs
theorem Yj {c:Co} (ho:c.ok) (h:lZ c=true):Uw c:=by
 simp only[lZ,aS,aW,List.all_eq_true]at h;obtain⟨⟨⟨⟨⟨⟨h1,h2⟩,h3⟩,h4⟩,h5⟩,h6⟩,_⟩:=h;refine⟨ho,⟨h1,h2⟩,⟨h3,h4⟩,⟨fun i f hf=>?_,fun i f hf=>?_⟩⟩
 ·have:=h5 f (bN hf)
  simp only[jS,aS,aW]at this;obtain⟨⟨⟨q1,q2⟩,q3⟩,q4⟩:=this;have:=cT.1 q4;omega
 have:=sH (words:=c.words) (fs:=c.funs) c.funs 0 (by simp) (by simpa using h6) i f hf;rw[Nat.zero_add]at this;exact Mb f.body 1 (ho.funs f (bN hf)).body.all this
end Go.Al
namespace Go.Al
theorem cA.obind {α β:Type} {fuel:Nat} {s:RS} {x:Option α} {f:α→Option (Rz β)} (hf: ∀a,x=some a→cA fuel s (f a)):cA fuel s (x.bind f):=by
 cases x with
 |none=>exact cA.none _ _
 |some a=>exact hf a rfl
theorem wI (fuel:Nat) (a:Int) (st:RS):cA fuel st ((pK a st).map fun v=>Rz.val v st):=by
 cases pK a st with
 |none=>exact cA.none _ _
 |some v=>exact cA.val (Gw.refl _ _) _
theorem qT (fuel:Nat) (a v:Int) (st:RS):cA fuel st ((xN a v st).map fun st=>Rz.val (none:Option Int) st):=by
 unfold xN;split
 ·exact cA.val (by exact⟨List.prefix_refl _,aY _,fun h=>h⟩) _
 exact cA.none _ _
theorem zO (fuel:Nat) (z i:Int) (st:RS):cA fuel st (some (Qc z i st)):=by
 unfold Qc;split
 ·exact cA.val (Gw.refl _ _) _
 exact cA.fin (Gw.refl _ _) _
theorem cA.of {α:Type} {fuel:Nat} {s s':RS} {x:Option (Rz α)} (h:Gw fuel s s') (hx:cA fuel s' x):cA fuel s x:=fun o ho=>h.trans (hx o ho)
theorem Hi {fuel:Nat} {f:CF} {vs:List Int} {s s':RS} (h:mB f vs s=some s'):Gw fuel s s':=by
 unfold mB at h;split at h
 ·cases h;exact⟨List.prefix_refl _,aY _,fun h=>h⟩
 cases h
structure K9 (cx:Kx) (n:Nat):Prop where
 E: ∀e st,cA cx.fuel st (iX cx n e st)
 A: ∀l st,cA cx.fuel st (lW cx n l st)
 C: ∀i l st,cA cx.fuel st (rN cx n i l st)
 S: ∀e st,cA cx.fuel st (rG cx n e st)
 L: ∀l st,cA cx.fuel st (kH cx n l st)
 W: ∀c t st,cA cx.fuel st (rM cx n c t st)
theorem Ye (cx:Kx) (n:Nat):K9 cx n:=by
 induction n with
 |zero=>
  constructor
  all_goals
   intros
   intro o h;simp [iX,lW,rN,rG,kH,rM]at h
 |succ n ih=>
  obtain⟨hE,hA,hC,hS,hL,hW⟩:=ih;have tk: ∀st,cA cx.fuel st (some (fN cx.cx st)):=fun st=>qP cx.cx st;constructor
  ·rintro⟨k,o,m,a,z,l⟩ st
   simp only[iX];refine cA.ite (cA.val (Gw.refl _ _) _) (cA.ite (wI _ _ _) (cA.ite ?_ (cA.ite (hC _ _ _) (cA.ite (Tr _ _ _) ?_))))
   ·cases l[0]? with
    |none=>exact cA.none _ _
    |some a=>exact cA.bind (hE _ _) fun x st=>cA.bind (zO _ _ _ _) fun _ st=>wI _ _ _
   cases l[0]? with
   |none=>exact cA.none _ _
   |some a=>
    refine cA.ite (cA.bind (hE _ _) fun _ _=>cA.val (Gw.refl _ _) _) ?_
    cases l[1]? with
    |none=>exact cA.none _ _
    |some b=>
     refine cA.ite (cA.bind (hE _ _) fun _ _=>cA.bind (hE _ _) fun _ _=>cA.ite (cA.val (Gw.refl _ _) _) (cA.fin (Gw.refl _ _) _)) ?_;exact cA.bind (hE _ _) fun _ _=>cA.ite (cA.val (Gw.refl _ _) _) (cA.bind (hE _ _) fun _ _=>cA.val (Gw.refl _ _) _)
  ·intro l st
   cases l with
   |nil=>simp only[lW];exact cA.val (Gw.refl _ _) _
   |cons e l=>
    simp only[lW];exact cA.bind (hE _ _) fun _ _=>cA.bind (hA _ _) fun _ _=>cA.val (Gw.refl _ _) _
  ·intro i l st
   simp only[rN];refine cA.ite (cA.none _ _) ?_
   cases cx.funs[i.toNat]? with
   |none=>exact cA.none _ _
   |some f=>exact cA.bind (hA _ _) fun _ _=>cA.bind (tk _) fun _ _=>cA.obind fun _ h=>cA.of (Hi h) (cA.bind (hL _ _) fun _ _=>cA.val (Gw.refl _ _) _)
  ·rintro⟨k,a,z,l,t,u⟩ st
   simp only[rG];refine cA.ite ?_ (cA.ite ?_ (cA.ite ?_ (cA.ite ?_ (cA.ite ?_ (cA.ite ?_ (cA.ite ?_ (cA.val (Gw.refl _ _) _)))))))
   ·cases l[0]? with
    |none=>exact cA.none _ _
    |some a=>exact cA.bind (hE _ _) fun _ _=>qT _ _ _ _
   ·cases l[0]? with
    |none=>exact cA.none _ _
    |some a=>
     cases l[1]? with
     |none=>exact cA.none _ _
     |some b=>exact cA.bind (hE _ _) fun _ _=>cA.bind (hE _ _) fun _ st=>cA.bind (zO _ _ _ _) fun _ _=>qT _ _ _ _
   ·cases l[0]? with
    |none=>exact cA.none _ _
    |some a=>exact cA.bind (hE _ _) fun _ _=>cA.bind (Dn _ _ _) fun _ _=>cA.val (Gw.refl _ _) _
   ·cases l[0]? with
    |none=>exact cA.none _ _
    |some a=>exact cA.bind (hE _ _) fun _ _=>cA.ite (hL _ _) (hL _ _)
   ·cases l[0]? with
    |none=>exact cA.none _ _
    |some a=>exact hW _ _ _
   ·exact cA.bind (hC _ _ _) fun _ _=>cA.val (Gw.refl _ _) _
   cases l[0]? with
   |none=>exact cA.val (Gw.refl _ _) _
   |some a=>exact cA.bind (hE _ _) fun _ _=>cA.val (Gw.refl _ _) _
  ·intro l st
   cases l with
   |nil=>simp only[kH];exact cA.val (Gw.refl _ _) _
   |cons s l=>
    simp only[kH];refine cA.bind (hS _ _) fun r st=>?_
    cases r with
    |some v=>exact cA.val (Gw.refl _ _) _
    |none=>exact hL _ _
  intro c t st;simp only[rM];refine cA.bind (tk _) fun _ st=>cA.bind (hE _ _) fun x st=>cA.ite (cA.val (Gw.refl _ _) _) (cA.bind (hL _ _) fun r st=>?_)
  cases r with
  |some v=>exact cA.val (Gw.refl _ _) _
  |none=>exact hW _ _ _
structure J9 (cx cx':Kx) (n:Nat):Prop where
 E: ∀e st,dA cx.fuel (iX cx n e st) (iX cx' n e st)
 A: ∀l st,dA cx.fuel (lW cx n l st) (lW cx' n l st)
 C: ∀i l st,dA cx.fuel (rN cx n i l st) (rN cx' n i l st)
 S: ∀e st,dA cx.fuel (rG cx n e st) (rG cx' n e st)
 L: ∀l st,dA cx.fuel (kH cx n l st) (kH cx' n l st)
 W: ∀c t st,dA cx.fuel (rM cx n c t st) (rM cx' n c t st)
theorem dA.obind {α β:Type} {F:Nat} {x:Option α} {f g:α→Option (Rz β)} (hf: ∀a,x=some a→dA F (f a) (g a)):dA F (x.bind f) (x.bind g):=by
 cases x with
 |none=>exact dA.none _
 |some a=>exact hf a rfl
theorem Mn (F:Nat) (a:Int) (st:RS):dA F ((pK a st).map fun v=>Rz.val v st) ((pK a st).map fun v=>Rz.val v st):=by
 cases pK a st with
 |none=>exact dA.none _
 |some v=>exact dA.val _ _
theorem Mk (F:Nat) (a v:Int) (st:RS):dA F ((xN a v st).map fun st=>Rz.val (none:Option Int) st) ((xN a v st).map fun st=>Rz.val (none:Option Int) st):=by
 cases xN a v st with
 |none=>exact dA.none _
 |some v=>exact dA.val _ _
theorem G5 {cx cx':Kx} (hf:cx.fuel≤cx'.fuel) (hfun:cx'.funs=cx.funs) (hi:cx'.inp=cx.inp) (n:Nat):J9 cx cx' n:=by
 induction n with
 |zero=>
  constructor
  all_goals
   intros
   intro o h;simp [iX,lW,rN,rG,kH,rM]at h
 |succ n ih=>
  obtain⟨hE,hA,hC,hS,hL,hW⟩:=ih;obtain⟨gE,gA,gC,gS,gL,gW⟩:=Ye cx' n;have tk: ∀st,cA cx'.fuel st (some (fN cx'.cx st)):=fun st=>qP cx'.cx st;have tf: ∀st,dA cx.fuel (some (fN cx.cx st)) (some (fN cx'.cx st)):=fun st=>De (cx:=cx.cx) (cx':=cx'.cx) hf st;have hget: ∀st,oE cx'.cx st=oE cx.cx st:=fun st=>by simp only[oE,Kx.cx,hi]
  have hat: ∀z x st,dA cx.fuel (some (Qc z x st)) (some (Qc z x st)):=fun z x st=>dA.same fun s h=>by
   unfold Qc at h;split at h<;>cases h
  have hput: ∀v st,dA cx.fuel (some (oV v st)) (some (oV v st)):=fun v st=>dA.same fun s h=>by
   unfold oV at h;split at h<;>cases h
  constructor
  ·rintro⟨k,o,m,a,z,l⟩ st
   simp only[iX,hget];refine dA.ite (dA.val _ _) (dA.ite (Mn _ _ _) (dA.ite ?_ (dA.ite (hC _ _ _) (dA.ite ?_ ?_))))
   ·cases l[0]? with
    |none=>exact dA.none _
    |some a=>
     exact dA.bind (F':=cx'.fuel) (hE _ _) (fun x st=>dA.bind (F':=cx'.fuel) (hat _ _ _) (fun _ st=>Mn _ _ _) fun _ st=>wI _ _ _) fun x st=>cA.bind (zO _ _ _ _) fun _ st=>wI _ _ _
   ·exact dA.same fun s h=>by
     unfold oE at h;split at h<;>cases h
   cases l[0]? with
   |none=>exact dA.none _
   |some a=>
    refine dA.ite (dA.bind (F':=cx'.fuel) (hE _ _) (fun _ _=>dA.val _ _) fun _ _=>cA.val (Gw.refl _ _) _) ?_
    cases l[1]? with
    |none=>exact dA.none _
    |some b=>
     refine dA.ite (dA.bind (F':=cx'.fuel) (hE _ _) (fun _ _=>dA.bind (F':=cx'.fuel) (hE _ _) (fun _ _=>dA.ite (dA.val _ _) (dA.fin (by decide) _)) fun _ _=>cA.ite (cA.val (Gw.refl _ _) _) (cA.fin (Gw.refl _ _) _)) fun _ _=>cA.bind (gE _ _) fun _ _=>cA.ite (cA.val (Gw.refl _ _) _) (cA.fin (Gw.refl _ _) _)) ?_;exact dA.bind (F':=cx'.fuel) (hE _ _) (fun _ _=>dA.ite (dA.val _ _) (dA.bind (F':=cx'.fuel) (hE _ _) (fun _ _=>dA.val _ _) fun _ _=>cA.val (Gw.refl _ _) _)) fun _ _=>cA.ite (cA.val (Gw.refl _ _) _) (cA.bind (gE _ _) fun _ _=>cA.val (Gw.refl _ _) _)
  ·intro l st
   cases l with
   |nil=>simp only[lW];exact dA.val _ _
   |cons e l=>
    simp only[lW];exact dA.bind (F':=cx'.fuel) (hE _ _) (fun _ _=>dA.bind (F':=cx'.fuel) (hA _ _) (fun _ _=>dA.val _ _) fun _ _=>cA.val (Gw.refl _ _) _) fun _ _=>cA.bind (gA _ _) fun _ _=>cA.val (Gw.refl _ _) _
  ·intro i l st
   simp only[rN,hfun];refine dA.ite (dA.none _) ?_
   cases cx.funs[i.toNat]? with
   |none=>exact dA.none _
   |some f=>
    have g3: ∀vs st,cA cx'.fuel st ((mB f vs st).bind fun st=>bindR (kH cx' n f.body st) fun r st=>some (.val (r.getD 0) st)):=fun vs st=>cA.obind fun _ h=>cA.of (Hi h) (cA.bind (gL _ _) fun _ _=>cA.val (Gw.refl _ _) _);exact dA.bind (F':=cx'.fuel) (hA _ _) (fun vs _=>dA.bind (F':=cx'.fuel) (tf _) (fun _ _=>dA.obind fun _ _=>dA.bind (F':=cx'.fuel) (hL _ _) (fun _ _=>dA.val _ _) fun _ _=>cA.val (Gw.refl _ _) _) fun _ _=>g3 vs _) fun vs _=>cA.bind (tk _) fun _ _=>g3 vs _
  ·rintro⟨k,a,z,l,t,u⟩ st
   simp only[rG];refine dA.ite ?_ (dA.ite ?_ (dA.ite ?_ (dA.ite ?_ (dA.ite ?_ (dA.ite ?_ (dA.ite ?_ (dA.val _ _)))))))
   ·cases l[0]? with
    |none=>exact dA.none _
    |some a=>exact dA.bind (F':=cx'.fuel) (hE _ _) (fun v st=>Mk _ _ _ _) fun _ _=>qT _ _ _ _
   ·cases l[0]? with
    |none=>exact dA.none _
    |some a=>
     cases l[1]? with
     |none=>exact dA.none _
     |some b=>exact dA.bind (F':=cx'.fuel) (hE _ _) (fun _ _=>dA.bind (F':=cx'.fuel) (hE _ _) (fun _ st=>dA.bind (F':=cx'.fuel) (hat _ _ _) (fun _ _=>Mk _ _ _ _) fun _ _=>qT _ _ _ _) fun _ _=>cA.bind (zO _ _ _ _) fun _ _=>qT _ _ _ _) fun _ _=>cA.bind (gE _ _) fun _ _=>cA.bind (zO _ _ _ _) fun _ _=>qT _ _ _ _
   ·cases l[0]? with
    |none=>exact dA.none _
    |some a=>exact dA.bind (F':=cx'.fuel) (hE _ _) (fun _ _=>dA.bind (F':=cx'.fuel) (hput _ _) (fun _ _=>dA.val _ _) fun _ _=>cA.val (Gw.refl _ _) _) fun _ _=>cA.bind (Dn _ _ _) fun _ _=>cA.val (Gw.refl _ _) _
   ·cases l[0]? with
    |none=>exact dA.none _
    |some a=>exact dA.bind (F':=cx'.fuel) (hE _ _) (fun _ _=>dA.ite (hL _ _) (hL _ _)) fun _ _=>cA.ite (gL _ _) (gL _ _)
   ·cases l[0]? with
    |none=>exact dA.none _
    |some a=>exact hW _ _ _
   ·exact dA.bind (F':=cx'.fuel) (hC _ _ _) (fun _ _=>dA.val _ _) fun _ _=>cA.val (Gw.refl _ _) _
   cases l[0]? with
   |none=>exact dA.val _ _
   |some a=>exact dA.bind (F':=cx'.fuel) (hE _ _) (fun _ _=>dA.val _ _) fun _ _=>cA.val (Gw.refl _ _) _
  ·intro l st
   cases l with
   |nil=>simp only[kH];exact dA.val _ _
   |cons s l=>
    simp only[kH];refine dA.bind (F':=cx'.fuel) (hS _ _) (fun r st=>?_) fun r st=>?_
    ·cases r with
     |some v=>exact dA.val _ _
     |none=>exact hL _ _
    cases r with
    |some v=>exact cA.val (Gw.refl _ _) _
    |none=>exact gL _ _
  intro c t st
  have g3: ∀(r:Option Int) st,cA cx'.fuel st (match r with |some v=>some (.val (some v) st)|none=>rM cx' n c t st):=fun r st=>by
   cases r with
   |some v=>exact cA.val (Gw.refl _ _) _
   |none=>exact gW _ _ _
  simp only[rM];refine dA.bind (F':=cx'.fuel) (tf _) (fun _ st=>dA.bind (F':=cx'.fuel) (hE _ _) (fun x st=>dA.ite (dA.val _ _) (dA.bind (F':=cx'.fuel) (hL _ _) (fun r st=>?_) fun r st=>g3 r st)) fun _ _=>cA.ite (cA.val (Gw.refl _ _) _) (cA.bind (gL _ _) g3)) fun _ _=>cA.bind (gE _ _) fun _ _=>cA.ite (cA.val (Gw.refl _ _) _) (cA.bind (gL _ _) g3)
  cases r with
  |some v=>exact dA.val _ _
  |none=>exact hW _ _ _
theorem A7 {cx cx':Kx} (hf:cx.fuel≤cx'.fuel) (hfun:cx'.funs=cx.funs) (hi:cx'.inp=cx.inp) {n m words:Nat} {r r':Int×dD×Nat} (h:pF cx n words=some r) (h':pF cx' m words=some r'):
  r.2.2≤cx.fuel∧(r.1≠5→r'=r)∧(r.1=5→r.2.2=cx.fuel∧r.2.1<+:r'.2.1∧cx.fuel≤r'.2.2):=by
 have h1:=qV (Nat.le_max_left n m) h;have h2:=qV (Nat.le_max_right n m) h';unfold pF at h1 h2;rw[hfun]at h2
 cases hc:cx.funs.getLast? with
 |none=>rw[hc]at h1;cases h1
 |some f=>
  rw[hc]at h1 h2;simp only[Option.bind_some,bE]at h1 h2;obtain⟨x,hx,rfl⟩:=h1;obtain⟨y,hy,rfl⟩:=h2;have g:=(Ye cx (max n m)).L _ _ x hx;have g2:=g.f (Nat.zero_le _);have e:=(G5 hf hfun hi (max n m)).L _ _ x hx
  cases x with
  |val a s=>
   simp only at e;rw[hy]at e;cases e;exact⟨g2,fun _=>rfl,fun c=>by simp [sG]at c⟩
  |fin k s=>
   simp only at e;rcases e with⟨hk,e⟩|⟨rfl,ht,e⟩
   ·rw[hy]at e
    cases e;exact⟨g2,fun _=>rfl,fun c=>absurd c hk⟩
   have e2:=e y hy;simp only[Rz.st]at g2;refine⟨g2,fun c=>absurd rfl c,fun _=>⟨by simp only[sG];omega, ?_⟩⟩
   cases y with
   |val a s'=>exact⟨e2.1,by simp only[Rz.st]at e2;simp only[sG];omega⟩
   |fin k s'=>exact⟨e2.1,by simp only[Rz.st]at e2;simp only[sG];omega⟩
mutual
def vJ:CE→Nat
 | .mk k _ _ _ _ l=>(if k=5 then 1 else 0)+gP l
def gP:List CE→Nat
 |[]=>0
 |e::l=>vJ e+gP l
end
mutual
def Bw:CS→Nat
 | .mk _ _ _ l t u=>gP l+gO t+gO u
def gO:List CS→Nat
 |[]=>0
 |s::l=>Bw s+gO l
end
theorem lH: ∀{l:List CE} {j:Nat} {e:CE},l[j]?=some e→gP l=0→vJ e=0
 |[],j,e,h,_=>by simp at h
 |x::l,0,e,h,h0=>by simp only[List.getElem?_cons_zero,Option.some.injEq]at h;subst h;simp only[gP]at h0;omega
 |x::l,j+1,e,h,h0=>by simp only[List.getElem?_cons_succ]at h;simp only[gP]at h0;exact lH h (by omega)
structure T1 (cx cx':Kx) (n:Nat):Prop where
 E: ∀e st,vJ e=0→iX cx n e st=iX cx' n e st
 A: ∀l st,gP l=0→lW cx n l st=lW cx' n l st
 C: ∀i l st,gP l=0→rN cx n i l st=rN cx' n i l st
 S: ∀e st,Bw e=0→rG cx n e st=rG cx' n e st
 L: ∀l st,gO l=0→kH cx n l st=kH cx' n l st
 W: ∀c t st,vJ c=0→gO t=0→rM cx n c t st=rM cx' n c t st
theorem fU {α β:Type} {x y:Option (Rz α)} {f g:α→RS→Option (Rz β)} (h:x=y) (hf: ∀a s,f a s=g a s):bindR x f=bindR y g:=by
 subst h
 cases x with
 |none=>rfl
 |some r=>cases r with
  |val a s=>exact hf a s
  |fin e s=>rfl
theorem S6 {cx cx':Kx} (hfuel:cx'.fuel=cx.fuel) (hfun:cx'.funs=cx.funs) (hg: ∀f∈cx.funs,gO f.body=0) (n:Nat):T1 cx cx' n:=by
 have tk: ∀st,fN cx.cx st=fN cx'.cx st:=fun st=>by
  have e:cx.cx.fuel=cx'.cx.fuel:=hfuel.symm;unfold fN;rw[e]
 induction n with
 |zero=>exact⟨fun e st _=>by rw[iX,iX],fun e st _=>by rw[lW,lW],fun i e st _=>by rw[rN,rN],fun e st _=>by rw[rG,rG],fun e st _=>by rw[kH,kH],fun c t st _ _=>by rw[rM,rM]⟩
 |succ n ih=>
  obtain⟨hE,hA,hC,hS,hL,hW⟩:=ih;constructor
  ·rintro⟨k,o,m,a,z,l⟩ st h0
   simp only[vJ]at h0;have hk:k≠5:=fun e=>by rw[if_pos e]at h0;omega
   have hl:gP l=0:=by omega
   simp only[iX];rw[hC a l st hl,if_neg (c:=k=5) hk,if_neg (c:=k=5) hk]
   cases e0:l[0]? with
   |none=>rfl
   |some b=>
    have hb:=lH e0 hl;simp only;rw[hE b st hb]
    cases e1:l[1]? with
    |none=>rfl
    |some d=>
     have hd:=lH e1 hl;simp only;simp only[hE d _ hd]
  ·intro l st h0
   cases l with
   |nil=>rw[lW,lW]
   |cons e l=>
    simp only[gP]at h0;simp only[lW];exact fU (hE _ _ (by omega)) fun _ _=>fU (hA _ _ (by omega)) fun _ _=>rfl
  ·intro i l st h0
   simp only[rN,hfun];split
   ·rfl
   cases hf:cx.funs[i.toNat]? with
   |none=>rfl
   |some f=>
    simp only;refine fU (hA _ _ h0) fun _ st=>fU (by rw[tk]) fun _ st=>?_;congr 1;funext st;exact fU (hL _ _ (hg f (bN hf))) fun _ _=>rfl
  ·rintro⟨k,a,z,l,t,u⟩ st h0
   simp only[Bw]at h0;have hl:gP l=0:=by omega
   have ht:gO t=0:=by omega
   have hu:gO u=0:=by omega
   simp only[rG];rw[hC a l st hl];simp only[hL t _ ht,hL u _ hu]
   cases e0:l[0]? with
   |none=>rfl
   |some b=>
    have hb:=lH e0 hl;simp only;rw[hE b st hb,hW b t st hb ht]
    cases e1:l[1]? with
    |none=>rfl
    |some d=>
     have hd:=lH e1 hl;simp only[hE d _ hd,hE b _ hb]
  ·intro l st h0
   cases l with
   |nil=>rw[kH,kH]
   |cons s l=>
    simp only[gO]at h0;simp only[kH];refine fU (hS _ _ (by omega)) fun r st=>?_
    cases r with
    |some v=>rfl
    |none=>exact hL _ _ (by omega)
  intro c t st hc ht;simp only[rM];refine fU (by rw[tk]) fun _ st=>fU (hE _ _ hc) fun x st=>?_;split
  ·rfl
  refine fU (hL _ _ ht) fun r st=>?_
  cases r with
  |some v=>rfl
  |none=>exact hW _ _ _ hc ht
theorem N1 {cx cx':Kx} (hfuel:cx'.fuel=cx.fuel) (hfun:cx'.funs=cx.funs) (hg: ∀f∈cx.funs,gO f.body=0) (n words:Nat):pF cx n words=pF cx' n words:=by
 unfold pF;rw[hfun]
 cases hc:cx.funs.getLast? with
 |none=>rfl
 |some f=>
  simp only[Option.bind_some];rw[(S6 hfuel hfun hg n).L f.body _ (hg f (List.mem_of_getLast? hc))]
end Go.Al
