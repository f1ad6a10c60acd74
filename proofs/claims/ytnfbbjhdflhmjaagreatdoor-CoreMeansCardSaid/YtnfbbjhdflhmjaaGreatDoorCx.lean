/- Chapter 19: programs without names, as plain Lean data, and the rows of cells that they stand for. No program in sight. Chapter 19: may a core be? How a core runs: a run that is cut at a depth. In plain Lean. Chapter 19, in plain Lean: a core's run that is cut deeper goes on the same; the run of a core that may be comes to an end. Chapter 19, in plain Lean: the run of a core that may be comes to an end, and all words are words. Chapter 19, in plain Lean: a core that may be runs to an end. Chapter 19, in plain Lean: what a core's run puts out and counts grows; what more fuel does; where nothing is got the input plays no part. -/
import Derived.Test.YtnfbbjhdflhmjaaGreatDoorSy1
import Derived.Test.YtnfbbjhdflhmjaaGreatDoorMa
import Derived.Test.YtnfbbjhdflhmjaaGreatDoorMb
set_option linter.unusedSimpArgs false
set_option linter.unusedVariables false
set_option maxRecDepth 10000
namespace Go.Al
inductive CE where
 |mk (kind op num slot size:Int) (kids:List CE)
inductive CS where
 |mk (kind slot size:Int) (es:List CE) (thn els:List CS)
structure CF where
 params:Int
 slots:Int
 first:Int
 word:Bool
 body:List CS
structure Co where
 words:Int
 funs:List CF
def CE.kind:CE→Int| .mk k _ _ _ _ _=>k
def CE.op:CE→Int| .mk _ o _ _ _ _=>o
def CE.num:CE→Int| .mk _ _ n _ _ _=>n
def CE.slot:CE→Int| .mk _ _ _ a _ _=>a
def CE.size:CE→Int| .mk _ _ _ _ z _=>z
def CE.kids:CE→List CE| .mk _ _ _ _ _ l=>l
def CS.kind:CS→Int| .mk k _ _ _ _ _=>k
def CS.slot:CS→Int| .mk _ a _ _ _ _=>a
def CS.size:CS→Int| .mk _ _ z _ _ _=>z
def CS.es:CS→List CE| .mk _ _ _ l _ _=>l
def CS.thn:CS→List CS| .mk _ _ _ _ l _=>l
def CS.els:CS→List CS| .mk _ _ _ _ _ l=>l
mutual
def CE.row:CE→List AV
 | .mk k o n a z l=>[.int .i64 k, .int .i64 o, .int .u32 n, .int .i64 a, .int .i64 z, .isl 6 (wC l)]
def wC:List CE→List (List AV)
 |[]=>[]
 |e::l=>e.row::wC l
end
theorem wB: ∀l:List CE,wC l=l.map CE.row
 |[]=>by simp only[wC,List.map_nil]
 |e::l=>by simp only[wC,List.map_cons,wB l]
theorem CE.row_eq (e:CE):e.row=[.int .i64 e.kind, .int .i64 e.op, .int .u32 e.num, .int .i64 e.slot, .int .i64 e.size, .isl 6 (e.kids.map CE.row)]:=by
 cases e;simp only[CE.row,wB,CE.kind,CE.op,CE.num,CE.slot,CE.size,CE.kids]
mutual
def CS.row:CS→List AV
 | .mk k a z l t u=>[.int .i64 k, .int .i64 a, .int .i64 z, .isl 6 (l.map CE.row), .isl 6 (tC t), .isl 6 (tC u)]
def tC:List CS→List (List AV)
 |[]=>[]
 |e::l=>e.row::tC l
end
theorem wA: ∀l:List CS,tC l=l.map CS.row
 |[]=>by simp only[tC,List.map_nil]
 |e::l=>by simp only[tC,List.map_cons,wA l]
theorem CS.row_eq (s:CS):s.row=[.int .i64 s.kind, .int .i64 s.slot, .int .i64 s.size, .isl 6 (s.es.map CE.row), .isl 6 (s.thn.map CS.row), .isl 6 (s.els.map CS.row)]:=by
 cases s;simp only[CS.row,wA,CS.kind,CS.slot,CS.size,CS.es,CS.thn,CS.els]
def CF.row (f:CF):List AV:=[.int .i64 f.params, .int .i64 f.slots, .int .i64 f.first, .bool f.word, .isl 6 (f.body.map CS.row)]
def Co.row (c:Co):List AV:=[.int .i64 c.words, .isl 5 (c.funs.map CF.row)]
def Co.av (c:Co):AV:= .agg c.row
mutual
def CE.sz:CE→Nat
 | .mk _ _ _ _ _ l=>1+fU l
def fU:List CE→Nat
 |[]=>0
 |e::l=>e.sz+fU l
end
mutual
def CS.sz:CS→Nat
 | .mk _ _ _ l t u=>1+fU l+eZ t+eZ u
def eZ:List CS→Nat
 |[]=>0
 |e::l=>e.sz+eZ l
end
theorem CE.sz_eq (e:CE):e.sz=1+fU e.kids:=by cases e;simp only[CE.sz,CE.kids]
theorem CS.sz_eq (s:CS):s.sz=1+fU s.es+eZ s.thn+eZ s.els:=by cases s;simp only[CS.sz,CS.es,CS.thn,CS.els]
theorem Do: ∀{l:List CE} {e:CE},e∈l→e.sz≤fU l
 |e::l,x,h=>by
  simp only[fU];rcases List.mem_cons.1 h with rfl|h
  ·omega
  have:=Do h;omega
theorem Dm: ∀{l:List CS} {e:CS},e∈l→e.sz≤eZ l
 |e::l,x,h=>by
  simp only[eZ];rcases List.mem_cons.1 h with rfl|h
  ·omega
  have:=Dm h;omega
theorem Dp: ∀l:List CE,l.length≤fU l
 |[]=>aY _
 |e::l=>by have:=Dp l;have:=e.sz_eq;simp only[fU,bP];omega
theorem Dn: ∀l:List CS,l.length≤eZ l
 |[]=>aY _
 |e::l=>by have:=Dn l;have:=e.sz_eq;simp only[eZ,bP];omega
inductive CE.ok:CE→Prop where
 |mk (k o n a z:Int) (l:List CE) (hk:dA k) (ho:dA o) (hn:cC n) (ha:dA a) (hz:dA z) (hl:cY l) (h: ∀e∈l,CE.ok e):CE.ok (.mk k o n a z l)
structure vE (l:List CE):Prop where
 fit:cY l
 all: ∀e∈l,e.ok
inductive CS.ok:CS→Prop where
 |mk (k a z:Int) (l:List CE) (t u:List CS) (hk:dA k) (ha:dA a) (hz:dA z) (hl:vE l) (ht:cY t) (hta: ∀e∈t,CS.ok e) (hu:cY u) (hua: ∀e∈u,CS.ok e):CS.ok (.mk k a z l t u)
structure Es (l:List CS):Prop where
 fit:cY l
 all: ∀e∈l,e.ok
structure CF.ok (f:CF):Prop where
 params:dA f.params
 slots:dA f.slots
 first:dA f.first
 body:Es f.body
structure Co.ok (c:Co):Prop where
 words:dA c.words
 fit:cY c.funs
 funs: ∀f∈c.funs,f.ok
theorem CE.ok.kids {e:CE} (h:e.ok):vE e.kids:=by cases h;exact⟨by assumption,by assumption⟩
theorem CE.ok.num {e:CE} (h:e.ok):cC e.num:=by cases h;assumption
theorem CE.ok.kind {e:CE} (h:e.ok):dA e.kind:=by cases h;assumption
theorem CE.ok.op {e:CE} (h:e.ok):dA e.op:=by cases h;assumption
theorem CE.ok.slot {e:CE} (h:e.ok):dA e.slot:=by cases h;assumption
theorem CE.ok.size {e:CE} (h:e.ok):dA e.size:=by cases h;assumption
theorem CS.ok.es {s:CS} (h:s.ok):vE s.es:=by cases h;assumption
theorem CS.ok.thn {s:CS} (h:s.ok):Es s.thn:=by cases h;exact⟨by assumption,by assumption⟩
theorem CS.ok.els {s:CS} (h:s.ok):Es s.els:=by cases h;exact⟨by assumption,by assumption⟩
theorem CS.ok.kind {s:CS} (h:s.ok):dA s.kind:=by cases h;assumption
theorem CS.ok.slot {s:CS} (h:s.ok):dA s.slot:=by cases h;assumption
theorem CS.ok.size {s:CS} (h:s.ok):dA s.size:=by cases h;assumption
theorem D9 {l:List CE} {i:Nat} {e:CE} (h:l[i]?=some e):(l.map CE.row)[i]?=some [.int .i64 e.kind, .int .i64 e.op, .int .u32 e.num, .int .i64 e.slot, .int .i64 e.size, .isl 6 (e.kids.map CE.row)]:=by
 rw[mM _ h,e.row_eq]
theorem D8 {l:List CS} {i:Nat} {s:CS} (h:l[i]?=some s):(l.map CS.row)[i]?=some [.int .i64 s.kind, .int .i64 s.slot, .int .i64 s.size, .isl 6 (s.es.map CE.row), .isl 6 (s.thn.map CS.row), .isl 6 (s.els.map CS.row)]:=by
 rw[mM _ h,s.row_eq]
theorem Xp {l:List CF} {i:Nat} {f:CF} (h:l[i]?=some f):(l.map CF.row)[i]?=some [.int .i64 f.params, .int .i64 f.slots, .int .i64 f.first, .bool f.word, .isl 6 (f.body.map CS.row)]:=mM _ h
end Go.Al
namespace Go.Al
def fK (words at' n:Int):Bool:=decide (0≤at')&&decide (0≤n)&&decide (at'≤words)&&decide (n≤words-at')
def jS (below:List CF) (g:Int) (args:Nat) (word:Bool):Bool:=decide (0≤g)&&match below[g.toNat]? with
 |some f=>decide (f.word=word)&&decide (f.params=args)
 |none=>false
def Iw (words:Int) (below:List CF) (e:CE):Bool:=
 (decide (e.kind=1)||decide (e.num=0))&&(decide (e.kind=6)||decide (e.op=0))&&(decide (e.kind=3)||decide (e.size=0))&&(decide (e.kind=2)||decide (e.kind=3)||decide (e.kind=4)||decide (e.slot=0))&&
 (if e.kind=1∨e.kind=5 then decide (e.kids.length=0)
  else if e.kind=2 then fK words e.slot 1&&decide (e.kids.length=0)
  else if e.kind=3 then decide (1≤e.size)&&decide (e.size≤4096)&&fK words e.slot e.size&&decide (e.kids.length=1)
  else if e.kind=4 then jS below e.slot e.kids.length true
  else if e.kind=6 then decide (4≤e.op)&&decide (e.op≤15)&&decide (e.kids.length=2)
  else if e.kind=7 then decide (e.kids.length=1)
  else if e.kind=8∨e.kind=9 then decide (e.kids.length=2)else false)
mutual
def rU (words:Int) (below:List CF):CE→Int→Bool
 | .mk k o n a z l,lv=>decide (lv≤24)&&Iw words below (.mk k o n a z l)&&gN words below l (lv+1)
def gN (words:Int) (below:List CF):List CE→Int→Bool
 |[],_=>true
 |e::l,lv=>rU words below e lv&&gN words below l lv
end
def Iv (words:Int) (below:List CF) (word:Bool) (s:CS):Bool:=
 (decide (s.kind=2)||decide (s.size=0))&&(decide (s.kind=1)||decide (s.kind=2)||decide (s.kind=6)||decide (s.slot=0))&&(decide (s.kind=4)||decide (s.els.length=0))&&(decide (s.kind=4)||decide (s.kind=5)||decide (s.thn.length=0))&&
 (if s.kind=1 then fK words s.slot 1&&decide (s.es.length=1)
  else if s.kind=2 then decide (1≤s.size)&&decide (s.size≤4096)&&fK words s.slot s.size&&decide (s.es.length=2)
  else if s.kind=3∨s.kind=4∨s.kind=5 then decide (s.es.length=1)
  else if s.kind=6 then jS below s.slot s.es.length false
  else if s.kind=7 then decide (s.es.length=0)||word&&decide (s.es.length=1)else false)
mutual
def rT (words:Int) (below:List CF) (word:Bool):CS→Int→Bool
 | .mk k a z l t u,lv=>decide (lv≤24)&&Iv words below word (.mk k a z l t u)&&gN words below l (lv+1)&&fT words below word t (lv+1)&&fT words below word u (lv+1)
def fT (words:Int) (below:List CF) (word:Bool):List CS→Int→Bool
 |[],_=>true
 |s::l,lv=>rT words below word s lv&&fT words below word l lv
end
def wY (words:Int) (f:CF):Bool:=decide (0≤f.params)&&decide (f.params≤6)&&decide (f.params≤f.slots)&&fK words f.first f.slots
def jT (words:Int):List CF→List CF→Bool
 |_,[]=>true
 |below,f::l=>fT words below f.word f.body 1&&jT words (below++[f]) l
def tE (c:Co):Bool:=decide (0≤c.words)&&decide (c.words≤32768)&&decide (1≤c.funs.length)&&decide (c.funs.length≤64)&&c.funs.all (wY c.words)&&jT c.words [] c.funs&&
 match c.funs.getLast? with
 |some f=>decide (f.params=0)&& !f.word
 |none=>false
def Mm (c:Co):Nat:=(c.funs.map fun f=>eZ f.body).sum
structure Kx where
 funs:List CF
 inp:cR
 fuel:Nat
def Kx.cx (k:Kx):Cx:=⟨[],k.inp,k.fuel⟩
def rH (f:CF) (vs:List Int) (s:RS):Option RS:=if 0≤f.first∧0≤f.slots∧f.first+f.slots≤s.vars.length∧vs.length≤f.slots then
    some {s with vars:=s.vars.take f.first.toNat++(vs++List.replicate (f.slots.toNat-vs.length) 0)++s.vars.drop (f.first+f.slots).toNat}else none
def qM (a:Int) (s:RS):Option Int:=if 0≤a then s.vars[a.toNat]? else none
def yY (a v:Int) (s:RS):Option RS:=if 0≤a∧a<s.vars.length then some {s with vars:=s.vars.set a.toNat v}else none
def Xw (z i:Int) (s:RS):Rz Unit:=if i<z then .val () s else .fin 3 s
mutual
def lU (cx:Kx):Nat→CE→RS→Option (Rz Int)
 |0,_,_=>none
 |n+1, .mk k o m a z l,st=>
  if k=1 then some (.val m st)
  else if k=2 then(qM a st).map fun v=> .val v st
  else if k=3 then match l[0]? with
   |none=>none
   |some e=>bindR (lU cx n e st) fun i st=>bindR (some (Xw z i st)) fun _ st=>(qM (a+i) st).map fun v=> .val v st
  else if k=4 then Mz cx n a l st
  else if k=5 then some (lW cx.cx st)
  else match l[0]? with
   |none=>none
   |some e=>
    if k=7 then bindR (lU cx n e st) fun x st=>some (.val (if x=0 then 1 else 0) st)
    else match l[1]? with
    |none=>none
    |some b=>
     if k=6 then bindR (lU cx n e st) fun x st=>bindR (lU cx n b st) fun y st=>if(cU o x y).2=0 then some (.val (cU o x y).1 st)else some (.fin 2 st)
     else bindR (lU cx n e st) fun x st=>if decide (x=0)=decide (k=8)then some (.val (if x=0 then 0 else 1) st)else bindR (lU cx n b st) fun y st=>some (.val (if y=0 then 0 else 1) st)
def Bv (cx:Kx):Nat→List CE→RS→Option (Rz (List Int))
 |0,_,_=>none
 |_+1,[],st=>some (.val [] st)
 |n+1,e::l,st=>bindR (lU cx n e st) fun v st=>bindR (Bv cx n l st) fun vs st=>some (.val (v::vs) st)
def Mz (cx:Kx):Nat→Int→List CE→RS→Option (Rz Int)
 |0,_,_,_=>none
 |n+1,i,l,st=>if i<0 then none else match cx.funs[i.toNat]? with
  |none=>none
  |some f=>bindR (Bv cx n l st) fun vs st=>bindR (some (eQ cx.cx st)) fun _ st=>
   (rH f vs st).bind fun st=>bindR (pE cx n f.body st) fun r st=>some (.val (r.getD 0) st)
def Hh (cx:Kx):Nat→CS→RS→Option (Rz (Option Int))
 |0,_,_=>none
 |n+1, .mk k a z l t u,st=>
  if k=1 then match l[0]? with
   |none=>none
   |some e=>bindR (lU cx n e st) fun v st=>(yY a v st).map fun st=> .val none st
  else if k=2 then match l[0]?,l[1]? with
   |some e,some b=>bindR (lU cx n e st) fun i st=>bindR (lU cx n b st) fun v st=>bindR (some (Xw z i st)) fun _ st=>(yY (a+i) v st).map fun st=> .val none st
   |_,_=>none
  else if k=3 then match l[0]? with
   |none=>none
   |some e=>bindR (lU cx n e st) fun v st=>bindR (some (kX v st)) fun _ st=>some (.val none st)
  else if k=4 then match l[0]? with
   |none=>none
   |some e=>bindR (lU cx n e st) fun v st=>if v=0 then pE cx n u st else pE cx n t st
  else if k=5 then match l[0]? with
   |none=>none
   |some e=>Ij cx n e t st
  else if k=6 then bindR (Mz cx n a l st) fun _ st=>some (.val none st)
  else if k=7 then match l[0]? with
   |none=>some (.val (some 0) st)
   |some e=>bindR (lU cx n e st) fun v st=>some (.val (some v) st)
  else some (.val none st)
def pE (cx:Kx):Nat→List CS→RS→Option (Rz (Option Int))
 |0,_,_=>none
 |_+1,[],st=>some (.val none st)
 |n+1,s::l,st=>bindR (Hh cx n s st) fun r st=>match r with
  |some v=>some (.val (some v) st)
  |none=>pE cx n l st
def Ij (cx:Kx):Nat→CE→List CS→RS→Option (Rz (Option Int))
 |0,_,_,_=>none
 |n+1,c,t,st=>bindR (some (eQ cx.cx st)) fun _ st=>bindR (lU cx n c st) fun x st=>if x=0 then some (.val none st)else
  bindR (pE cx n t st) fun r st=>match r with
  |some v=>some (.val (some v) st)
  |none=>Ij cx n c t st
end
end Go.Al
namespace Go.Al
structure F0 (cx:Kx) (n:Nat):Prop where
 E: ∀e st,dF (lU cx n e st) (lU cx (n+1) e st)
 A: ∀l st,dF (Bv cx n l st) (Bv cx (n+1) l st)
 C: ∀i l st,dF (Mz cx n i l st) (Mz cx (n+1) i l st)
 S: ∀e st,dF (Hh cx n e st) (Hh cx (n+1) e st)
 L: ∀l st,dF (pE cx n l st) (pE cx (n+1) l st)
 W: ∀c t st,dF (Ij cx n c t st) (Ij cx (n+1) c t st)
theorem dF.bind {α β:Type} {x:Option α} {f g:α→Option β} (hf: ∀a,dF (f a) (g a)):dF (x.bind f) (x.bind g):=by
 cases x with
 |none=>exact dF.refl _
 |some a=>exact hf a
theorem Sb (cx:Kx) (n:Nat):F0 cx n:=by
 induction n with
 |zero=>
  constructor
  all_goals
   intros
   intro o h;simp [lU,Bv,Mz,Hh,pE,Ij]at h
 |succ n ih=>
  obtain⟨hE,hA,hC,hS,hL,hW⟩:=ih;constructor
  ·rintro⟨k,o,m,a,z,l⟩ st
   simp only[lU];refine dF.ite (dF.refl _) (dF.ite (dF.refl _) (dF.ite ?_ (dF.ite (hC _ _ _) (dF.ite (dF.refl _) ?_))))
   ·cases l[0]? with
    |none=>exact dF.refl _
    |some a=>exact dF.bindR (hE _ _) fun _ _=>dF.refl _
   cases l[0]? with
   |none=>exact dF.refl _
   |some a=>
    refine dF.ite (dF.bindR (hE _ _) fun _ _=>dF.refl _) ?_
    cases l[1]? with
    |none=>exact dF.refl _
    |some b=>
     refine dF.ite (dF.bindR (hE _ _) fun _ _=>dF.bindR (hE _ _) fun _ _=>dF.refl _) ?_;exact dF.bindR (hE _ _) fun _ _=>dF.ite (dF.refl _) (dF.bindR (hE _ _) fun _ _=>dF.refl _)
  ·intro l st
   cases l with
   |nil=>simp only[Bv];exact dF.refl _
   |cons e l=>
    simp only[Bv];exact dF.bindR (hE _ _) fun _ _=>dF.bindR (hA _ _) fun _ _=>dF.refl _
  ·intro i l st
   simp only[Mz];refine dF.ite (dF.refl _) ?_
   cases cx.funs[i.toNat]? with
   |none=>exact dF.refl _
   |some f=>exact dF.bindR (hA _ _) fun _ _=>dF.bindR (dF.refl _) fun _ _=>dF.bind fun _=>dF.bindR (hL _ _) fun _ _=>dF.refl _
  ·rintro⟨k,a,z,l,t,u⟩ st
   simp only[Hh];refine dF.ite ?_ (dF.ite ?_ (dF.ite ?_ (dF.ite ?_ (dF.ite ?_ (dF.ite ?_ (dF.ite ?_ (dF.refl _)))))))
   ·cases l[0]? with
    |none=>exact dF.refl _
    |some a=>exact dF.bindR (hE _ _) fun _ _=>dF.refl _
   ·cases l[0]? with
    |none=>exact dF.refl _
    |some a=>
     cases l[1]? with
     |none=>exact dF.refl _
     |some b=>exact dF.bindR (hE _ _) fun _ _=>dF.bindR (hE _ _) fun _ _=>dF.refl _
   ·cases l[0]? with
    |none=>exact dF.refl _
    |some a=>exact dF.bindR (hE _ _) fun _ _=>dF.refl _
   ·cases l[0]? with
    |none=>exact dF.refl _
    |some a=>exact dF.bindR (hE _ _) fun _ _=>dF.ite (hL _ _) (hL _ _)
   ·cases l[0]? with
    |none=>exact dF.refl _
    |some a=>exact hW _ _ _
   ·exact dF.bindR (hC _ _ _) fun _ _=>dF.refl _
   cases l[0]? with
   |none=>exact dF.refl _
   |some a=>exact dF.bindR (hE _ _) fun _ _=>dF.refl _
  ·intro l st
   cases l with
   |nil=>simp only[pE];exact dF.refl _
   |cons s l=>
    simp only[pE];refine dF.bindR (hS _ _) fun r st=>?_
    cases r with
    |some v=>exact dF.refl _
    |none=>exact hL _ _
  intro c t st;simp only[Ij];refine dF.bindR (dF.refl _) fun _ st=>dF.bindR (hE _ _) fun x st=>dF.ite (dF.refl _) (dF.bindR (hL _ _) fun r st=>?_)
  cases r with
  |some v=>exact dF.refl _
  |none=>exact hW _ _ _
theorem Fa {cx:Kx} {n m:Nat} (hm:n≤m) {e st o} (h:lU cx n e st=some o):lU cx m e st=some o:=mN (f:=fun n=>lU cx n e st) (fun n=>(Sb cx n).E _ _) hm o h
theorem Rx {cx:Kx} {n m:Nat} (hm:n≤m) {e st o} (h:Hh cx n e st=some o):Hh cx m e st=some o:=mN (f:=fun n=>Hh cx n e st) (fun n=>(Sb cx n).S _ _) hm o h
theorem Ry {cx:Kx} {n m:Nat} (hm:n≤m) {e st o} (h:pE cx n e st=some o):pE cx m e st=some o:=mN (f:=fun n=>pE cx n e st) (fun n=>(Sb cx n).L _ _) hm o h
mutual
def Ub (words:Int) (fs:List CF) (i:Nat):CE→Prop
 | .mk k _ m a z l=>cC m∧(k=2→0≤a∧a<words)∧(k=3→0≤a∧a+z≤words∧z≤4096∧1≤l.length∧1≤z)∧(k=4→0≤a∧a<i∧ ∃f,fs[a.toNat]?=some f∧f.params=l.length)∧(k=7→1≤l.length)∧(k≠1→k≠2→k≠3→k≠4→k≠5→k≠7→2≤l.length∧(k=6∨k=8∨k=9))∧rN words fs i l
def rN (words:Int) (fs:List CF) (i:Nat):List CE→Prop
 |[]=>True
 |e::l=>Ub words fs i e∧rN words fs i l
end
mutual
def Ua (words:Int) (fs:List CF) (i:Nat):CS→Prop
 | .mk k a z l t u=>(k=1→0≤a∧a<words)∧(k=2→0≤a∧a+z≤words∧z≤4096∧2≤l.length∧1≤z)∧(k=6→0≤a∧a<i∧ ∃f,fs[a.toNat]?=some f∧f.params=l.length)∧(k=1∨k=3∨k=4∨k=5→1≤l.length)∧rN words fs i l∧qF words fs i t∧qF words fs i u
def qF (words:Int) (fs:List CF) (i:Nat):List CS→Prop
 |[]=>True
 |e::l=>Ua words fs i e∧qF words fs i l
end
theorem oX {words:Int} {fs:List CF} {i:Nat}: ∀{l:List CE},rN words fs i l→ ∀{j:Nat} {e:CE},l[j]?=some e→Ub words fs i e∧e.sz≤fU l
 |[],_,j,e,h=>by simp at h
 |x::l,hw,0,e,h=>by
  simp only[rN]at hw;simp only[List.getElem?_cons_zero,Option.some.injEq]at h;subst h;exact⟨hw.1,by simp only[fU];omega⟩
 |x::l,hw,j+1,e,h=>by
  simp only[rN]at hw;simp only[List.getElem?_cons_succ]at h;have:=oX hw.2 h;exact⟨this.1,by simp only[fU];omega⟩
theorem Cz {words:Int} {fs:List CF} {i:Nat}: ∀{l:List CS},qF words fs i l→ ∀{j:Nat} {e:CS},l[j]?=some e→Ua words fs i e∧e.sz≤eZ l
 |[],_,j,e,h=>by simp at h
 |x::l,hw,0,e,h=>by
  simp only[qF]at hw;simp only[List.getElem?_cons_zero,Option.some.injEq]at h;subst h;exact⟨hw.1,by simp only[eZ];omega⟩
 |x::l,hw,j+1,e,h=>by
  simp only[qF]at hw;simp only[List.getElem?_cons_succ]at h;have:=Cz hw.2 h;exact⟨this.1,by simp only[eZ];omega⟩
structure Kb (words:Int) (fs:List CF):Prop where
 head: ∀(i:Nat) f,fs[i]?=some f→0≤f.params∧f.params≤6∧f.params≤f.slots∧0≤f.first∧f.first+f.slots≤words
 body: ∀(i:Nat) f,fs[i]?=some f→qF words fs i f.body
structure Km (words:Int) (t:Nat) (s:RS):Prop where
 v:(s.vars.length:Int)=words
 t:t≤s.ticks
 u: ∀x∈s.vars,cC x
theorem Km.self {words:Int} {t:Nat} {s:RS} (h:Km words t s):Km words s.ticks s:=⟨h.v,aY _,h.u⟩
theorem Km.trans {words:Int} {t t':Nat} {s:RS} (ht:t≤t') (h:Km words t' s):Km words t s:=⟨h.v,Nat.le_trans ht h.t,h.u⟩
end Go.Al
namespace Go.Al
def E6 (cx:Kx) (words:Int) (j:Nat):Prop:= ∀f,cx.funs[j]?=some f→ ∀st:RS,Km words st.ticks st→eY (fun n=>pE cx n f.body st) (fun r s=>(∀v,r=some v→cC v)∧Km words st.ticks s)
theorem Vz:cC 0:=by simp [cC]
section
variable {cx : Kx} {words : Int} {i : Nat} (hfs : Kb words cx.funs) (hb : ∀ j, j < i → E6 cx words j)
include hfs hb
end
def Qv (cx:Kx) (n:Nat) (words:Nat):Option (Int×cR×Nat):=(cx.funs.getLast?).bind fun f=>(pE cx n f.body ⟨List.replicate words 0,[],0,[],0⟩).map sF
end Go.Al
namespace Go.Al
theorem fR {w a n:Int}:fK w a n=true↔0≤a∧0≤n∧a≤w∧n≤w-a:=by
 simp only[fK,aK,aP];omega
theorem Au {below:List CF} {g:Int} {n:Nat} {w:Bool} (h:jS below g n w=true):0≤g∧ ∃f,below[g.toNat]?=some f∧f.params=n∧f.word=w:=by
 unfold jS at h;rw[aK]at h;obtain⟨h1,h2⟩:=h;split at h2
 ·rename_i f hf
  simp only[aK,aP]at h2;exact⟨aC h1,f,hf,h2.2,h2.1⟩
 cases h2
theorem Dk {α:Type} {l:List α} {i j:Nat} {a:α} (h:(l.take i)[j]?=some a):j<i∧l[j]?=some a:=by
 rw[List.getElem?_take]at h;split at h
 ·exact⟨by assumption,h⟩
 cases h
section
variable {words : Int} {fs : List CF} {i : Nat}
theorem A4 (N:Nat): ∀(e:CE) (lv:Int),e.sz≤N→e.ok→rU words (fs.take i) e lv=true→Ub words fs i e:=by
 induction N with
 |zero=>intro e _ he;have:=e.sz_eq;omega
 |succ N ih=>
  rintro⟨k,o,m,a,z,l⟩ lv he hok hr;have hkids:vE l:=hok.kids;have hnum:cC m:=hok.num;simp only[CE.sz]at he;simp only[rU,aK]at hr;obtain⟨⟨_,hf⟩,hl⟩:=hr
  have hF:Iw words (fs.take i) (.mk k o m a z l)=((decide (k=1)||decide (m=0))&&(decide (k=6)||decide (o=0))&&(decide (k=3)||decide (z=0))&&(decide (k=2)||decide (k=3)||decide (k=4)||decide (a=0))&&
   (if k=1∨k=5 then decide (l.length=0)else if k=2 then fK words a 1&&decide (l.length=0)else if k=3 then decide (1≤z)&&decide (z≤4096)&&fK words a z&&decide (l.length=1)
    else if k=4 then jS (fs.take i) a l.length true else if k=6 then decide (4≤o)&&decide (o≤15)&&decide (l.length=2)else if k=7 then decide (l.length=1)else if k=8∨k=9 then decide (l.length=2)else false)):=rfl
  rw[hF,aK]at hf;have hf:=hf.2
  have kids: ∀l:List CE,fU l≤N→(∀e∈l,e.ok)→gN words (fs.take i) l (lv+1)=true→rN words fs i l:=by
   intro l
   induction l with
   |nil=>intro _ _ _;simp only[rN]
   |cons e l ihl=>
    intro hs ho hr;simp only[fU]at hs;simp only[gN,aK]at hr;simp only[rN];exact⟨ih e _ (by omega) (ho e (List.mem_cons_self)) hr.1,ihl (by omega) (fun x hx=>ho x (List.mem_cons_of_mem _ hx)) hr.2⟩
  simp only[Ub];refine⟨hnum,fun h=>?_,fun h=>?_,fun h=>?_,fun h=>?_,fun h1 h2 h3 h4 h5 h7=>?_,kids l (by omega) hkids.all hl⟩
  ·subst h
   simp only[Int.reduceEq,or_self,if_false,if_true,aK]at hf;have:=fR.1 hf.1;omega
  ·subst h
   simp only[Int.reduceEq,or_self,if_false,if_true,aK,aP]at hf;obtain⟨⟨⟨q1,q2⟩,q3⟩,q4⟩:=hf;have:=fR.1 q3;omega
  ·subst h
   simp only[Int.reduceEq,or_self,if_false,if_true]at hf;obtain⟨q1,f,q2,q3,_⟩:=Au hf;obtain⟨r1,r2⟩:=Dk q2;exact⟨q1,by omega,f,r2,q3⟩
  ·subst h
   simp only[Int.reduceEq,or_self,if_false,if_true,aP]at hf;omega
  rw[if_neg (by omega),if_neg h2,if_neg h3,if_neg h4]at hf;split at hf
  ·simp only[aK,aP]at hf;omega
  split at hf
  ·have:=aC hf;omega
  cases hf
theorem Ow: ∀(l:List CE) (lv:Int),(∀e∈l,e.ok)→gN words (fs.take i) l lv=true→rN words fs i l
 |[],_,_,_=>by simp only[rN]
 |e::l,lv,ho,hr=>by
  simp only[gN,aK]at hr;simp only[rN];exact⟨A4 e.sz e lv (aY _) (ho e (List.mem_cons_self)) hr.1,Ow l lv (fun x hx=>ho x (List.mem_cons_of_mem _ hx)) hr.2⟩
theorem Xz {word:Bool} (N:Nat): ∀(e:CS) (lv:Int),e.sz≤N→e.ok→rT words (fs.take i) word e lv=true→Ua words fs i e:=by
 induction N with
 |zero=>intro e _ he;have:=e.sz_eq;omega
 |succ N ih=>
  rintro⟨k,a,z,l,t,u⟩ lv he hok hr;have hes:vE l:=hok.es;have hth:Es t:=hok.thn;have hel:Es u:=hok.els;simp only[CS.sz]at he;simp only[rT,aK]at hr;obtain⟨⟨⟨⟨_,hf⟩,hl⟩,ht⟩,hu⟩:=hr
  have hF:Iv words (fs.take i) word (.mk k a z l t u)=((decide (k=2)||decide (z=0))&&(decide (k=1)||decide (k=2)||decide (k=6)||decide (a=0))&&(decide (k=4)||decide (u.length=0))&&(decide (k=4)||decide (k=5)||decide (t.length=0))&&
   (if k=1 then fK words a 1&&decide (l.length=1)else if k=2 then decide (1≤z)&&decide (z≤4096)&&fK words a z&&decide (l.length=2)else if k=3∨k=4∨k=5 then decide (l.length=1)
    else if k=6 then jS (fs.take i) a l.length false else if k=7 then decide (l.length=0)||word&&decide (l.length=1)else false)):=rfl
  rw[hF,aK]at hf;have hf:=hf.2
  have body: ∀l:List CS,eZ l≤N→(∀e∈l,e.ok)→fT words (fs.take i) word l (lv+1)=true→qF words fs i l:=by
   intro l
   induction l with
   |nil=>intro _ _ _;simp only[qF]
   |cons e l ihl=>
    intro hs ho hr;simp only[eZ]at hs;simp only[fT,aK]at hr;simp only[qF];exact⟨ih e _ (by omega) (ho e (List.mem_cons_self)) hr.1,ihl (by omega) (fun x hx=>ho x (List.mem_cons_of_mem _ hx)) hr.2⟩
  simp only[Ua];refine⟨fun h=>?_,fun h=>?_,fun h=>?_,fun h=>?_,Ow l _ hes.all hl,body t (by omega) hth.all ht,body u (by omega) hel.all hu⟩
  ·subst h
   simp only[if_true,aK]at hf;have:=fR.1 hf.1;omega
  ·subst h
   simp only[Int.reduceEq,or_self,if_false,if_true,aK,aP]at hf;obtain⟨⟨⟨q1,q2⟩,q3⟩,q4⟩:=hf;have:=fR.1 q3;omega
  ·subst h
   simp only[Int.reduceEq,or_self,if_false,if_true]at hf;obtain⟨q1,f,q2,q3,_⟩:=Au hf;obtain⟨r1,r2⟩:=Dk q2;exact⟨q1,by omega,f,r2,q3⟩
  rcases h with rfl|rfl|rfl|rfl<;>simp only[Int.reduceEq,or_self,or_true,true_or,if_false,if_true,aK,aP]at hf<;>omega
theorem Kd {word:Bool}: ∀(l:List CS) (lv:Int),(∀e∈l,e.ok)→fT words (fs.take i) word l lv=true→qF words fs i l
 |[],_,_,_=>by simp only[qF]
 |e::l,lv,ho,hr=>by
  simp only[fT,aK]at hr;simp only[qF];exact⟨Xz e.sz e lv (aY _) (ho e (List.mem_cons_self)) hr.1,Kd l lv (fun x hx=>ho x (List.mem_cons_of_mem _ hx)) hr.2⟩
end
theorem xR {words:Int} {fs:List CF}: ∀(l:List CF) (k:Nat),fs.drop k=l→jT words (fs.take k) l=true→ ∀(j:Nat) f,l[j]?=some f→fT words (fs.take (k+j)) f.word f.body 1=true
 |[],_,_,_,j,f,h=>by simp at h
 |g::l,k,hd,hb,j,f,h=>by
  rw[jT,aK]at hb
  have hk:k<fs.length:=by
   rcases Nat.lt_or_ge k fs.length with h|h
   ·exact h
   rw[List.drop_eq_nil_of_le h]at hd;cases hd
  rw[bC hk]at hd;injection hd with h1 h2
  cases j with
  |zero=>simp only[List.getElem?_cons_zero,Option.some.injEq]at h;subst h;exact hb.1
  |succ j=>
   rw[List.getElem?_cons_succ]at h;have hb2:=hb.2;rw[←h1,←bQ hk]at hb2;have:=xR l (k+1) h2 hb2 j f h;rwa [show k+1+j=k+(j+1)by omega]at this
structure Zu (c:Co):Prop where
 ok:c.ok
 words:0≤c.words∧c.words≤32768
 len:1≤c.funs.length∧c.funs.length≤64
 funs:Kb c.words c.funs
theorem Xu {c:Co} (ho:c.ok) (h:tE c=true):Zu c:=by
 simp only[tE,aK,aP,List.all_eq_true]at h;obtain⟨⟨⟨⟨⟨⟨h1,h2⟩,h3⟩,h4⟩,h5⟩,h6⟩,_⟩:=h;refine⟨ho,⟨h1,h2⟩,⟨h3,h4⟩,⟨fun i f hf=>?_,fun i f hf=>?_⟩⟩
 ·have:=h5 f (aL hf)
  simp only[wY,aK,aP]at this;obtain⟨⟨⟨q1,q2⟩,q3⟩,q4⟩:=this;have:=fR.1 q4;omega
 have:=xR (words:=c.words) (fs:=c.funs) c.funs 0 (by simp) (by simpa using h6) i f hf;rw[Nat.zero_add]at this;exact Kd f.body 1 (ho.funs f (aL hf)).body.all this
end Go.Al
namespace Go.Al
end Go.Al
