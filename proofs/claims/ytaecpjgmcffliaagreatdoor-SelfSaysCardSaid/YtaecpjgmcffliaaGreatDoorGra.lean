/- Gra -/
import Derived.Test.YtaecpjgmcffliaaGreatDoorBd2
import Derived.Test.YtaecpjgmcffliaaGreatDoorAl3
import Derived.Test.YtaecpjgmcffliaaGreatDoorSy2
import Derived.Defers
import Derived.Recover
import Derived.Test.YtaecpjgmcffliaaGreatDoorSy3
set_option linter.unusedSimpArgs false
set_option linter.unusedVariables false
set_option maxRecDepth 10000
set_option maxHeartbeats 4000000
namespace Go.Al
theorem eB.offsz {sz c:Nat} {v:AV} {rows j:List (List AV)} {H:Hp} (h:eB sz v rows H) {b:Nat} (f:H b=some (.rows c j)) (i:c≠sz):Al.off v b:=fun s n e=>by
 rcases h with⟨rfl,_⟩|⟨k,rfl,a⟩
 ·cases e
 cases e;rw[f]at a;cases a;exact i rfl
theorem eB.cells {sz:Nat} {v:AV} {rows:List (List AV)} {H:Hp} (h:eB sz v rows H):cellsOf v=some [v]:=by rcases h with⟨rfl,_⟩|⟨b,rfl,_⟩<;>rfl
theorem eB.one1 {sz:Nat} {v:AV} {rows:List (List AV)} {H:Hp} (h:eB sz v rows H):one v=true:=by rcases h with⟨rfl,_⟩|⟨b,rfl,_⟩<;>rfl
theorem iW {E:kC} {F:Nat→Prop} {ds:List (Option Nat)} {Q:fN} {d:Option Nat} {rest:List Oper} {fr:Fr} {H:Hp} {sz y:Nat} {v:AV} {rows u:List (List AV)} (I:eB sz v rows H) (i:(rows.length+u.length) *y≤140737488355328) (D: ∀b,v= .osl sz b rows.length→F b)
  (h: ∀t k,eB sz t (rows++u) k→(∀b o,H b=some o→v≠ .osl sz b rows.length→k b=some o)→(∀b,off v b→H b≠none→off t b)→eI E F ds Q rest (eW fr d t) k):Uu E F ds Q d rest fr H (some (sz,y,v,u)):=by
 rcases I with⟨rfl,rfl⟩|⟨b,rfl,G⟩
 ·simp only[cQ,aV,bT]at h i
  refine⟨i,fun e=>h _ _ (.inl ⟨rfl,e⟩) (fun _ _ i _=>i) (fun b a _=>a),fun e b z=>h _ _ (.inr ⟨b,rfl,by simp [upd]⟩) (fun j o f _=>?_) fun B _ p s n l=>?_⟩
  ·have :j≠b:=fun c=>by rw[c,z]at f;cases f
   simp [upd,this,f]
  cases l;exact p z
 simp only[Uu,G];refine⟨trivial,trivial,trivial,i,D b rfl,fun j f=>?_⟩;refine h _ _ (.inr ⟨j,by simp,by simp [upd]⟩) (fun x o a C=>?_) fun B a p s n l=>?_
 ·have A:x≠b:=fun c=>C (by rw[c])
  have J:x≠j:=fun c=>by
   rcases f with e|e
   ·exact A (c.trans e)
   rw[←c,a]at e;cases e
  simp [upd,A,J,a]
 cases l;rcases f with e|e
 ·exact a _ _ (by rw[e])
 exact p e
section
variable {E : kC} {F : Nat → Prop} {ds : List (Option Nat)} {Q : fN} {d : Option Nat} {rest : List Oper} {fr : Fr} {H : Hp} {g : FuncId} {args : List AV}
theorem jT {R:xE→Hp→Prop} (f:oN E g args H R) (e: ∀b,F b)
  (h: ∀c a,R c a→(match c with | .ret v=>eI E F ds Q rest (eW fr d v) a| .pan v=>Q (.pan v) V8 a)):qU E F ds Q d rest fr H g args:=by
 refine nG f (fF.refl _) (fun b o h=>h) (fun b _=>e b) fun c a i _=>?_;rw[Je];exact h c a i
end
theorem oN.mono {E:kC} {g:FuncId} {args:List AV} {H:Hp} {R c:xE→Hp→Prop} (h:oN E g args H R) (o: ∀b a,R b a→c b a):oN E g args H c:=
 ⟨h.1,fun p f vs l n=>(h.2 p f vs l n).mono fun _ _ ⟨b,a,e,i,j,k⟩=>⟨b,a,e,i,j,o _ _ k⟩⟩
theorem aY.run {R:xE→Hp→Prop} {v:AV} {H:Hp} (h:R (.ret v) H):aY R v H:=aY.self h
section
open Go
section
variable {E : kC} {N : Nat} {Φ : lS → Exit → Act → World → Prop} {fr : Fr} {H : Hp}
end
end
section
open Go
section
variable {E : kC} {R : xE → Hp → Prop}
end
end
def DJ (v x:AV):Prop:= ∀s b n,x= .osl s b n→off v b
theorem bS {v x:AV} (h:tK x=true):DJ v x:=fun s b n e=>by subst e;cases h
theorem V7 {b sz n:Nat} {l:List (List AV)} {x:AV} (h:DJ (.osl sz b n) x):frz b sz l x=x:=by
 cases x<;>try rfl
 rename_i e a c;rw[xR,aL];rintro⟨rfl,_,_⟩;exact h _ _ _ rfl _ _ rfl
theorem Am {b sz n:Nat} {l:List (List AV)}: ∀{a:List AV},(∀x∈a,DJ (.osl sz b n) x)→a.map (frz b sz l)=a
 |[],_=>rfl
 |x::a,h=>by rw[cN,V7 (h x (by simp)),Am fun y c=>h y (by simp [c])]
theorem Qe {b sz n:Nat} {l:List (List AV)}: ∀{a:List (List AV)},(∀r∈a, ∀x∈r,DJ (.osl sz b n) x)→a.map (fun x=>x.map (frz b sz l))=a
 |[],_=>rfl
 |x::a,h=>by rw[cN,Am (h x (by simp)),Qe fun y c=>h y (by simp [c])]
theorem iY.mid {v w:AV} (h:hP v w) (a:List AV): ∀l:List AV,iY (l++v::a) (l++w::a)
 |[]=>iY.cons h (SubR_self a)
 |x::l=>iY.cons (hP.refl x) (iY.mid h a l)
where SubR_self: ∀l:List AV,iY l l
 |[]=> .nil
 |x::l=> .cons (hP.refl x) (SubR_self l)
theorem iF {E:kC} {N:Nat} {Q:fN} {c:Code} {fr:Fr} {H:Hp} {a sz u:Nat} {yB f:List AV} {v:AV} {rows:List (List AV)} (I:eB sz v rows H) (p:H a=some (.rows u [yB++v::f])) (D: ∀x∈yB,DJ v x) (G: ∀x∈f,DJ v x) (B:off v a)
  (h: ∀o i,(∀j,DJ v (fr j)→o j=fr j)→i a=some (.rows u [yB++ .isl sz rows::f])→(∀b s l,b≠a→off v b→(∀r∈l, ∀x∈r,DJ v x)→H b=some (.rows s l)→i b=some (.rows s l))→mD E N c Q o i):mD E N c Q fr H:=by
 rcases I with⟨rfl,rfl⟩|⟨b,rfl,k⟩
 ·exact CB p (iY.mid (hP.nsl sz) f yB) (h fr _ (fun _ _=>rfl) (bE _ _ _) (fun b s l t _ _ k=>by rw[cI _ _ t];exact k))
 refine oC k (h _ _ (fun j A=>V7 A) ?_ fun n s l t C z y=>?_)
 ·show(if a=b then none else(H a).map (BI b sz rows))=_
  rw[aL (fun e=>B _ _ (by rw[e])),p];simp only[dY,tJ,cN,dO,cO,Yt,Am D,Am G]
 show(if n=b then none else(H n).map (BI b sz rows))=_;rw[aL (fun e=>C _ _ (by rw[e])),y];simp only[dY,tJ,Qe z]
section
variable {E : kC} {F : Nat → Prop} {ops : Array Oper} {Q : fN} {fr : Fr} {H : Hp}
theorem lK (F:Nat→Prop) {N id:Nat} {l:List Oper} (c:E.P.follows .mixedOrders=true) (hd:l.all (kY N)=true) (h:l.toArray.toList.all (kY N)=true→nQ E (fun _=>F) l.toArray Q l.length (Array.replicate l.length false) fr H):mD E N (.region id l.toArray true) Q fr H:=fun f a w e=>by
 have b:l.toArray.toList.all (kY N)=true:=by simpa using hd
 have:=wp_region_any c (xF (G:=fun _=>F) b l.length (Array.replicate l.length false) fr H a _ e.drew (h b)) (id:=id);simpa using this
theorem hI {N n m:Nat} {L b:Array Bool} {l':List Oper} (a:List (Nat×Nat)) (hd:ops.toList.all (kY N)=true) (k:n=a.length+m) (i:BW ops [] L a=true) (f:qM L a=b) (j:dR ops.toList a=l')
  (h:eI E F (ops.toList.map (·.dst)) (bK (fun e c=>nQ E (fun _=>F) ops Q m b e c) Q) l' fr H):nQ E (fun _=>F) ops Q n L fr H:=by
 subst k;subst f;subst j;exact rV (T:=[]) (fun _ _=>rfl) hd a L fr H i h
def XY (E:kC) (F:Nat→Prop) (ops:Array Oper) (Q:fN) (n:Nat) (L:Array Bool) (fr:Fr) (H:Hp):List Nat→Prop
 |[]=>True
 |i::r=>(match ops[i]? with |some o=>eI E F (ops.toList.map (·.dst)) (bK (fun fr' H'=>nQ E (fun _=>F) ops Q n (L.setIfInBounds i true) fr' H') Q) [o] fr H|none=>True)∧XY E F ops Q n L fr H r
theorem W5 {n:Nat} {L:Array Bool}: ∀{l:List Nat},XY E F ops Q n L fr H l→ ∀i∈l, ∀o,ops[i]?=some o→eI E F (ops.toList.map (·.dst)) (bK (fun b a=>nQ E (fun _=>F) ops Q n (L.setIfInBounds i true) b a) Q) [o] fr H
 |j::l,h,i,hi,o,ho=>by
  simp only[XY]at h;rcases bP.1 hi with rfl|hi
  ·rw[ho]at h;exact h.1
  exact W5 h.2 i hi o ho
theorem lB {N n:Nat} {L:Array Bool} {a:List Nat} (hd:ops.toList.all (kY N)=true) (c:Region.ready .any ops L=a) (k:a≠[]) (h:XY E F ops Q n L fr H a):nQ E (fun _=>F) ops Q (n+1) L fr H:=by
 refine⟨fun e=>absurd (c.symm.trans e) k,fun i j o b=>?_⟩;have:=W5 h i (by rw[←c];exact j) o b
 have f:kY N o=true:=by
  rw[dB]at hd;exact hd o (Vh.2 (tV b))
 rw[tO f]at this;exact this
theorem jG {L:Array Bool} (a:Region.ready .any ops L=[]) (h:Q .normal fr H):nQ E (fun _=>F) ops Q 0 L fr H:=⟨a,h⟩
end
end Go.Al
namespace Go.Proofs.YtaecpjgmcffliaaGreatDoor
open Go.Al Go.Proofs.Tryz
inductive PR (α:Type) where
 |ok (a:α) (n:Nat)
 |bad (n:Nat)
def PR.bind {α β:Type}:PR α→(α→Nat→PR β)→PR β
 | .ok a n,f=>f a n
 | .bad n,_=> .bad n
@[simp] theorem PR.bind_ok {α β : Type} (a : α) (n : Nat) (f : α → Nat → PR β) : (PR.ok a n).bind f = f a n := rfl
@[simp] theorem PR.bind_bad {α β : Type} (n : Nat) (f : α → Nat → PR β) : (PR.bad n : PR α).bind f = .bad n := rfl
theorem PR.bind_eq_ok {c d:Type} {x:PR c} {f:c→Nat→PR d} {b:d} {m:Nat} (h:x.bind f= .ok b m): ∃a n,x= .ok a n∧f a n= .ok b m:=by
 cases x with
 |ok a n=>exact⟨a,n,rfl,h⟩
 |bad n=>cases h
section
variable (T : List gA)
def eD (n:Nat):dC:=match T[n]? with
 |some t=>if t.kind=3∨t.kind=4 then t.text else []
 |none=>[]
def nP (n:Nat):Int:=match T[n]? with
 |some t=>t.kind
 |none=>0
def fE (s:dC) (n:Nat):PR Unit:=if eD T n=s then .ok () (n+1)else .bad n
def kG (k:Int) (n:Nat):PR gA:=match T[n]? with
 |some t=>if t.kind=k then .ok t (n+1)else .bad n
 |none=> .bad n
def Np:List (dC×Int×Int×Nat)→dC→Int×Int×Nat
 |[],_=>(0,0,0)
 |(w,r)::l,s=>if s=w then r else Np l s
def VA:List (dC×Int×Int×Nat):=[([124,124],9,0,1),([38,38],8,0,2),([61,61],6,15,3),([60],6,14,4),([124],6,10,5),([94],6,11,5),([38],6,9,6),([60,60],6,12,7),([62,62],6,13,7),
 ([43],6,4,8),([45],6,5,8),([42],6,6,9),([47],6,7,9),([37],6,8,9)]
def Ei (s:dC):Int×Int×Nat:=Np VA s
def Ja (s:dC) (a b:Ex):Ex:= .mk (Ei s).1 (Ei s).2.1 0 [] [a,b]
mutual
def rP:Nat→Nat→PR Ex
 |0,n=> .bad n
 |f+1,n=>
  if nP T n=2 then(kG T 2 n).bind fun t m=> .ok (.mk 1 0 t.num [] []) m
  else if eD T n=[103,101,116]then(fE T [40] (n+1)).bind fun _ m=>(fE T [41] m).bind fun _ m=> .ok (.mk 5 0 0 [] []) m
  else if eD T n=[40]then(pI f 1 (n+1)).bind fun e m=>(fE T [41] m).bind fun _ m=> .ok e m
  else if eD T n=[33]then(rP f (n+1)).bind fun e m=> .ok (.mk 7 0 0 [] [e]) m
  else(kG T 1 n).bind fun t m=>
   if eD T m=[91]then(pI f 1 (m+1)).bind fun e m=>(fE T [93] m).bind fun _ m=> .ok (.mk 3 0 0 t.text [e]) m
   else if eD T m=[40]then(sK f (m+1)).bind fun l m=> .ok (.mk 4 0 0 t.text l) m
   else .ok (.mk 2 0 0 t.text []) m
def pI:Nat→Nat→Nat→PR Ex
 |0,_,n=> .bad n
 |f+1,lo,n=>(rP f n).bind fun e m=>sH f lo e m
def sH:Nat→Nat→Ex→Nat→PR Ex
 |0,_,_,n=> .bad n
 |f+1,lo,e,n=>if(Ei (eD T n)).2.2<lo then .ok e n
  else(pI f ((Ei (eD T n)).2.2+1) (n+1)).bind fun e2 m=>sH f lo (Ja (eD T n) e e2) m
def sK:Nat→Nat→PR (List Ex)
 |0,n=> .bad n
 |f+1,n=>if eD T n=[41]then .ok [] (n+1)else(pI f 1 n).bind fun e m=>sL f [e] m
def sL:Nat→List Ex→Nat→PR (List Ex)
 |0,_,n=> .bad n
 |f+1,acc,n=>if eD T n=[44]then(pI f 1 (n+1)).bind fun e m=>sL f (acc++[e]) m
  else(fE T [41] n).bind fun _ m=> .ok acc m
end
end
variable {T : List gA}
theorem oG {n:Nat} {s:dC} (h:eD T n=s) (b:s≠[]):n<T.length:=by
 by_cases a:n<T.length
 ·exact a
 rw[eD,dS (by omega)]at h;exact absurd h.symm b
theorem OH {n:Nat} {k:Int} (h:nP T n=k) (a:k≠0):n<T.length:=by
 by_cases b:n<T.length
 ·exact b
 rw[nP,dS (by omega)]at h;exact absurd h.symm a
theorem TC:Ei []=(0,0,0):=by decide
theorem IH (k:Nat) (s:dC): ∀l:List (dC×Int×Int×Nat),(∀x∈l,x.2.2.2≤k)→(Np l s).2.2≤k
 |[],_=>cJ _
 |x::l,h=>by
  obtain⟨w,r⟩:=x;rw[Np];split
  ·exact h _ (fK)
  exact IH k s l fun y a=>h y (eZ _ a)
theorem VX (s:dC):(Ei s).2.2≤9:=IH 9 s VA (by decide)
theorem S4 {n lo:Nat} (h: ¬(Ei (eD T n)).2.2<lo) (a:1≤lo):n<T.length:=by
 refine oG rfl fun e=>h ?_;rw[e,TC];exact a
theorem fG {s:dC} {n m:Nat} {u:Unit} (h:fE T s n= .ok u m) (a:s≠[]):m=n+1∧n<T.length∧eD T n=s:=by
 unfold fE at h;split at h
 ·rename_i e;cases h;exact⟨rfl,oG e a,e⟩
 cases h
theorem kK {k:Int} {n m:Nat} {t:gA} (h:kG T k n= .ok t m):m=n+1∧n<T.length∧T[n]?=some t∧t.kind=k:=by
 unfold kG at h;split at h
 ·rename_i b e
  split at h
  ·rename_i a;cases h;exact⟨rfl,(bF.1 e).1,e,a⟩
  cases h
 cases h
theorem far (f:Nat):(∀n e m,rP T f n= .ok e m→n<m∧m≤T.length)∧(∀o n e m,pI T f o n= .ok e m→n<m∧m≤T.length)∧
  (∀o u n e m,n≤T.length→sH T f o u n= .ok e m→n≤m∧m≤T.length)∧(∀n l m,sK T f n= .ok l m→n<m∧m≤T.length)∧
  (∀p n l m,sL T f p n= .ok l m→n<m∧m≤T.length):=by
 induction f with
 |zero=>exact⟨fun _ _ _ h=>by simp [rP]at h,fun _ _ _ _ h=>by simp [pI]at h,fun _ _ _ _ _ _ h=>by simp [sH]at h,fun _ _ _ h=>by simp [sK]at h,fun _ _ _ _ h=>by simp [sL]at h⟩
 |succ f ih=>
  obtain⟨v,k,y,D,z⟩:=ih;refine⟨fun n e m h=>?_,fun o n e m h=>?_,fun o u n e m E h=>?_,fun n l m h=>?_,fun p n l m h=>?_⟩
  ·rw[rP]at h
   split at h
   ·obtain⟨t,a,g,b⟩:=PR.bind_eq_ok h
    have:=kK g;cases b;omega
   split at h
   ·obtain⟨_,a,g,b⟩:=PR.bind_eq_ok h
    obtain⟨_,c,i,j⟩:=PR.bind_eq_ok b;have:=fG g (by decide);have:=fG i (by decide);cases j;omega
   split at h
   ·obtain⟨x,a,g,b⟩:=PR.bind_eq_ok h
    obtain⟨_,c,i,j⟩:=PR.bind_eq_ok b;have:=k _ _ _ _ g;have:=fG i (by decide);cases j;omega
   split at h
   ·obtain⟨x,a,g,b⟩:=PR.bind_eq_ok h
    have:=v _ _ _ g;cases b;omega
   obtain⟨t,a,g,b⟩:=PR.bind_eq_ok h;have:=kK g;split at b
   ·obtain⟨x,c,i,j⟩:=PR.bind_eq_ok b
    obtain⟨_,d,A,B⟩:=PR.bind_eq_ok j;have:=k _ _ _ _ i;have:=fG A (by decide);cases B;omega
   split at b
   ·obtain⟨x,c,i,j⟩:=PR.bind_eq_ok b
    have:=D _ _ _ i;cases j;omega
   cases b;omega
  ·rw[pI]at h
   obtain⟨x,a,g,b⟩:=PR.bind_eq_ok h;have:=v _ _ _ g;have:=y _ _ _ _ _ this.2 b;omega
  ·rw[sH]at h
   split at h
   ·cases h;omega
   obtain⟨x,a,g,b⟩:=PR.bind_eq_ok h;have:=k _ _ _ _ g;have:=y _ _ _ _ _ this.2 b;omega
  ·rw[sK]at h
   split at h
   ·rename_i C
    have:=oG C (by decide);cases h;omega
   obtain⟨x,a,g,b⟩:=PR.bind_eq_ok h;have:=k _ _ _ _ g;have:=z _ _ _ _ b;omega
  rw[sL]at h;split at h
  ·obtain⟨x,a,g,b⟩:=PR.bind_eq_ok h
   have:=k _ _ _ _ g;have:=z _ _ _ _ b;omega
  obtain⟨_,a,g,b⟩:=PR.bind_eq_ok h;have:=fG g (by decide);cases b;omega
theorem PR.bind_congr {b d:Type} {x y:PR b} {f g:b→Nat→PR d} (h:x=y) (c: ∀a n,x= .ok a n→f a n=g a n):x.bind f=y.bind g:=by
 subst h
 cases x with
 |ok a n=>exact c a n rfl
 |bad n=>rfl
theorem AE (f:Nat):(∀n,4 *(T.length-n)+1≤f→rP T f n=rP T (f+1) n)∧(∀b n,1≤b→4 *(T.length-n)+2≤f→pI T f b n=pI T (f+1) b n)∧
  (∀b k n,1≤b→n≤T.length→4 *(T.length-n)+1≤f→sH T f b k n=sH T (f+1) b k n)∧(∀n,4 *(T.length-n)+3≤f→sK T f n=sK T (f+1) n)∧
  (∀j n,4 *(T.length-n)+1≤f→sL T f j n=sL T (f+1) j n):=by
 induction f with
 |zero=>exact⟨fun _ h=>by omega,fun _ _ _ h=>by omega,fun _ _ _ _ _ h=>by omega,fun _ h=>by omega,fun _ _ h=>by omega⟩
 |succ f ih=>
  obtain⟨o,e,p,z,u⟩:=ih;obtain⟨v,l,A,B,C⟩:=far (T:=T) f;refine⟨fun n i=>?_,fun b n g i=>?_,fun b k n g D i=>?_,fun n i=>?_,fun j n i=>?_⟩
  ·rw[rP,rP]
   split
   ·rfl
   split
   ·rfl
   split
   ·rename_i d
    have:=oG d (by decide);rw[e 1 (n+1) (by omega) (by omega)]
   split
   ·rename_i d
    have:=oG d (by decide);rw[o (n+1) (by omega)]
   refine PR.bind_congr rfl fun t a c=>?_;have:=kK c;split
   ·rename_i d
    have:=oG d (by decide);rw[e 1 (a+1) (by omega) (by omega)]
   split
   ·rename_i d
    have:=oG d (by decide);rw[z (a+1) (by omega)]
   rfl
  ·rw[pI,pI]
   refine PR.bind_congr (o n (by omega)) fun x a c=>?_;have:=v _ _ _ c;exact p b x a g (by omega) (by omega)
  ·rw[sH,sH]
   split
   ·rfl
   rename_i y;have:=S4 y g;refine PR.bind_congr (e _ (n+1) (by omega) (by omega)) fun x a c=>?_;have:=l _ _ _ _ c;exact p b _ a g (by omega) (by omega)
  ·rw[sK,sK]
   split
   ·rfl
   refine PR.bind_congr (e 1 n (by omega) (by omega)) fun x a c=>?_;have:=l _ _ _ _ c;exact u _ a (by omega)
  rw[sL,sL];split
  ·rename_i d
   have:=oG d (by decide);refine PR.bind_congr (e 1 (n+1) (by omega) (by omega)) fun x a c=>?_;have:=l _ _ _ _ c;exact u _ a (by omega)
  rfl
variable (T)
def tQ (n:Nat):PR Ex:=rP T (4 *T.length+5) n
def kP (lo n:Nat):PR Ex:=pI T (4 *T.length+5) lo n
def wH (lo:Nat) (e:Ex) (n:Nat):PR Ex:=sH T (4 *T.length+5) lo e n
def vK (n:Nat):PR (List Ex):=sK T (4 *T.length+5) n
def Zx (acc:List Ex) (n:Nat):PR (List Ex):=sL T (4 *T.length+5) acc n
theorem LQ (n:Nat):tQ T n=
  if nP T n=2 then(kG T 2 n).bind fun t m=> .ok (.mk 1 0 t.num [] []) m
  else if eD T n=[103,101,116]then(fE T [40] (n+1)).bind fun _ m=>(fE T [41] m).bind fun _ m=> .ok (.mk 5 0 0 [] []) m
  else if eD T n=[40]then(kP T 1 (n+1)).bind fun e m=>(fE T [41] m).bind fun _ m=> .ok e m
  else if eD T n=[33]then(tQ T (n+1)).bind fun e m=> .ok (.mk 7 0 0 [] [e]) m
  else(kG T 1 n).bind fun t m=>
   if eD T m=[91]then(kP T 1 (m+1)).bind fun e m=>(fE T [93] m).bind fun _ m=> .ok (.mk 3 0 0 t.text [e]) m
   else if eD T m=[40]then(vK T (m+1)).bind fun l m=> .ok (.mk 4 0 0 t.text l) m
   else .ok (.mk 2 0 0 t.text []) m:=by
 obtain⟨d,f,i,g,j⟩:=AE (T:=T) (4 *T.length+4);rw[tQ,rP];have a: ∀n,rP T (4 *T.length+4) n=tQ T n:=fun n=>d n (by omega);have b: ∀n,pI T (4 *T.length+4) 1 n=kP T 1 n:=fun n=>f 1 n (bI 1) (by omega);have c: ∀n,sK T (4 *T.length+4) n=vK T n:=fun n=>g n (by omega);simp only[a,b,c]
theorem Aq (lo n:Nat) (c:1≤lo):kP T lo n=(tQ T n).bind fun e m=>wH T lo e m:=by
 obtain⟨d,g,f,i,j⟩:=AE (T:=T) (4 *T.length+4);obtain⟨b,_⟩:=far (T:=T) (4 *T.length+4);rw[kP,pI];refine PR.bind_congr (d n (by omega)) fun x a h=>?_;exact f lo x a c (b _ _ _ h).2 (by omega)
theorem tC (lo:Nat) (e:Ex) (n:Nat) (d:1≤lo):wH T lo e n=if(Ei (eD T n)).2.2<lo then .ok e n
  else(kP T ((Ei (eD T n)).2.2+1) (n+1)).bind fun b m=>wH T lo (Ja (eD T n) e b) m:=by
 obtain⟨i,f,g,j,k⟩:=AE (T:=T) (4 *T.length+4);obtain⟨_,c,_⟩:=far (T:=T) (4 *T.length+4);rw[wH,sH];split
 ·rfl
 refine PR.bind_congr (f _ _ (by omega) (by omega)) fun x a h=>?_;exact g lo _ a d (c _ _ _ _ h).2 (by omega)
theorem LS (n:Nat):vK T n=if eD T n=[41]then .ok [] (n+1)else(kP T 1 n).bind fun e m=>Zx T [e] m:=by
 obtain⟨d,b,f,g,c⟩:=AE (T:=T) (4 *T.length+4);rw[vK,sK];split
 ·rfl
 exact PR.bind_congr (b _ _ (by omega) (by omega)) fun x a h=>c _ a (by omega)
theorem LU (b:List Ex) (n:Nat):Zx T b n=if eD T n=[44]then(kP T 1 (n+1)).bind fun e m=>Zx T (b++[e]) m
  else(fE T [41] n).bind fun _ m=> .ok b m:=by
 obtain⟨f,c,g,i,d⟩:=AE (T:=T) (4 *T.length+4);rw[Zx,sL];split
 ·exact PR.bind_congr (c _ _ (by omega) (by omega)) fun x a h=>d _ a (by omega)
 rfl
variable {T}
theorem Qy {n m:Nat} {e:Ex} (h:tQ T n= .ok e m):n<m∧m≤T.length:=(far _).1 _ _ _ h
theorem pM {lo n m:Nat} {e:Ex} (h:kP T lo n= .ok e m):n<m∧m≤T.length:=(far _).2.1 _ _ _ _ h
theorem CO {n m:Nat} {e:List Ex} (h:vK T n= .ok e m):n<m∧m≤T.length:=(far _).2.2.2.1 _ _ _ h
def Y1:dC:=[118,97,114]
def E0:dC:=[97,114,114,97,121]
def zR:dC:=[102,117,110,99]
def sU:dC:=[119,111,114,100]
def YB:dC:=[105,102]
def DU:dC:=[101,108,115,101]
def D9:dC:=[119,104,105,108,101]
def Rj:dC:=[114,101,116,117,114,110]
def SO:dC:=[112,117,116]
section
variable (T : List gA)
def pL (n:Nat):PR (List Ex):=(fE T [40] n).bind fun _ m=>(kP T 1 m).bind fun e m=>(fE T [41] m).bind fun _ m=> .ok [e] m
def wG (n:Nat):PR Sm:=(kG T 1 n).bind fun t m=>
 (if eD T m=[61]then(kP T 1 (m+1)).bind fun e m=> .ok (.mk 1 t.text [e] [] []) m
  else if eD T m=[91]then(kP T 1 (m+1)).bind fun a m=>(fE T [93] m).bind fun _ m=>(fE T [61] m).bind fun _ m=>(kP T 1 m).bind fun e m=> .ok (.mk 2 t.text [a,e] [] []) m
  else if eD T m=[40]then(vK T (m+1)).bind fun l m=> .ok (.mk 6 t.text l [] []) m
  else .bad m:PR Sm).bind fun s m=>(fE T [59] m).bind fun _ m=> .ok s m
mutual
def sX:Nat→Nat→PR Sm
 |0,n=> .bad n
 |f+1,n=>
  if eD T n=SO then(pL T (n+1)).bind fun l m=>(fE T [59] m).bind fun _ m=> .ok (.mk 3 [] l [] []) m
  else if eD T n=Rj then(if eD T (n+1)=[59]then .ok (.mk 7 [] [] [] []) (n+2)else(kP T 1 (n+1)).bind fun e m=>(fE T [59] m).bind fun _ m=> .ok (.mk 7 [] [e] [] []) m)
  else if eD T n=YB then(pL T (n+1)).bind fun l m=>(qN f m).bind fun t m=>if eD T m=DU then(qN f (m+1)).bind fun u m=> .ok (.mk 4 [] l t u) m else .ok (.mk 4 [] l t []) m
  else if eD T n=D9 then(pL T (n+1)).bind fun l m=>(qN f m).bind fun t m=> .ok (.mk 5 [] l t []) m
  else wG T n
def qN:Nat→Nat→PR (List Sm)
 |0,n=> .bad n
 |f+1,n=>(fE T [123] n).bind fun _ m=>pA f [] m
def pA:Nat→List Sm→Nat→PR (List Sm)
 |0,_,n=> .bad n
 |f+1,acc,n=>if eD T n=[125]then .ok acc (n+1)else(sX f n).bind fun s m=>pA f (acc++[s]) m
end
def D1:Nat→List dC→Nat→PR (List dC)
 |0,_,n=> .bad n
 |f+1,acc,n=>if eD T n=[44]then(kG T 1 (n+1)).bind fun t m=>D1 f (acc++[t.text]) m else .ok acc n
end
variable {T : List gA}
theorem sZ {n m:Nat} {l:List Ex} (h:pL T n= .ok l m):n<m∧m≤T.length:=by
 unfold pL at h;obtain⟨_,a,b,f⟩:=PR.bind_eq_ok h;obtain⟨e,c,g,i⟩:=PR.bind_eq_ok f;obtain⟨_,d,j,k⟩:=PR.bind_eq_ok i;have:=fG b (by decide);have:=pM g;have:=fG j (by decide);cases k;omega
theorem AA {n m:Nat} {s:Sm} (h:wG T n= .ok s m):n<m∧m≤T.length:=by
 unfold wG at h;obtain⟨t,a,u,v⟩:=PR.bind_eq_ok h;obtain⟨x,c,e,A⟩:=PR.bind_eq_ok v;obtain⟨_,d,B,C⟩:=PR.bind_eq_ok A;have:=kK u;have:=fG B (by decide)
 have :a<c:=by
  split at e
  ·obtain⟨y,b,f,g⟩:=PR.bind_eq_ok e
   have:=pM f;cases g;omega
  split at e
  ·obtain⟨y,b,f,g⟩:=PR.bind_eq_ok e
   obtain⟨_,D,i,j⟩:=PR.bind_eq_ok g;obtain⟨_,E,k,l⟩:=PR.bind_eq_ok j;obtain⟨z,F,o,p⟩:=PR.bind_eq_ok l;have:=pM f;have:=fG i (by decide);have:=fG k (by decide);have:=pM o;cases p;omega
  split at e
  ·obtain⟨y,b,f,g⟩:=PR.bind_eq_ok e
   have:=CO f;cases g;omega
  cases e
 cases C;omega
theorem PH (f:Nat):(∀n e m,sX T f n= .ok e m→n<m∧m≤T.length)∧(∀n l m,qN T f n= .ok l m→n<m∧m≤T.length)∧(∀p n l m,pA T f p n= .ok l m→n<m∧m≤T.length):=by
 induction f with
 |zero=>exact⟨fun _ _ _ h=>by simp [sX]at h,fun _ _ _ h=>by simp [qN]at h,fun _ _ _ _ h=>by simp [pA]at h⟩
 |succ f ih=>
  obtain⟨z,o,v⟩:=ih;refine⟨fun n e m h=>?_,fun n l m h=>?_,fun p n l m h=>?_⟩
  ·rw[sX]at h
   split at h
   ·obtain⟨l,a,b,g⟩:=PR.bind_eq_ok h
    obtain⟨_,c,j,i⟩:=PR.bind_eq_ok g;have:=sZ b;have:=fG j (by decide);cases i;omega
   split at h
   ·split at h
    ·rename_i k
     have:=oG k (by decide);cases h;omega
    obtain⟨l,a,b,g⟩:=PR.bind_eq_ok h;obtain⟨_,c,j,i⟩:=PR.bind_eq_ok g;have:=pM b;have:=fG j (by decide);cases i;omega
   split at h
   ·obtain⟨l,a,b,g⟩:=PR.bind_eq_ok h
    obtain⟨t,c,j,i⟩:=PR.bind_eq_ok g;have:=sZ b;have:=o _ _ _ j;split at i
    ·obtain⟨u,d,x,y⟩:=PR.bind_eq_ok i
     have:=o _ _ _ x;cases y;omega
    cases i;omega
   split at h
   ·obtain⟨l,a,b,g⟩:=PR.bind_eq_ok h
    obtain⟨t,c,j,i⟩:=PR.bind_eq_ok g;have:=sZ b;have:=o _ _ _ j;cases i;omega
   exact AA h
  ·rw[qN]at h
   obtain⟨_,a,b,g⟩:=PR.bind_eq_ok h;have:=fG b (by decide);have:=v _ _ _ _ g;omega
  rw[pA]at h;split at h
  ·rename_i k
   have:=oG k (by decide);cases h;omega
  obtain⟨s,a,b,g⟩:=PR.bind_eq_ok h;have:=z _ _ _ b;have:=v _ _ _ _ g;omega
theorem JK (f:Nat):(∀n,4 *(T.length-n)+1≤f→sX T f n=sX T (f+1) n)∧(∀n,4 *(T.length-n)+1≤f→qN T f n=qN T (f+1) n)∧(∀d n,4 *(T.length-n)+2≤f→pA T f d n=pA T (f+1) d n):=by
 induction f with
 |zero=>exact⟨fun _ h=>by omega,fun _ h=>by omega,fun _ _ h=>by omega⟩
 |succ f ih=>
  obtain⟨u,e,i⟩:=ih;obtain⟨j,k,v⟩:=PH (T:=T) f;refine⟨fun n g=>?_,fun n g=>?_,fun d n g=>?_⟩
  ·rw[sX,sX]
   split
   ·rfl
   split
   ·rfl
   split
   ·refine PR.bind_congr rfl fun l a b=>?_
    have:=sZ b;refine PR.bind_congr (e a (by omega)) fun t c o=>?_;have:=k _ _ _ o;split
    ·rename_i p
     have:=oG p (by decide);rw[e (c+1) (by omega)]
    rfl
   split
   ·refine PR.bind_congr rfl fun l a b=>?_
    have:=sZ b;rw[e a (by omega)]
   rfl
  ·rw[qN,qN]
   refine PR.bind_congr rfl fun l a b=>?_;have:=fG b (by decide);exact i _ a (by omega)
  rw[pA,pA];split
  ·rfl
  refine PR.bind_congr (u n (by omega)) fun s a b=>?_;have:=j _ _ _ b;exact i _ a (by omega)
theorem YR (f:Nat): ∀b n l m,n≤T.length→D1 T f b n= .ok l m→n≤m∧m≤T.length:=by
 induction f with
 |zero=>intro _ _ _ _ _ h;simp [D1]at h
 |succ f ih=>
  intro b n l m e h;rw[D1]at h;split at h
  ·obtain⟨s,a,c,d⟩:=PR.bind_eq_ok h
   have:=kK c;have:=ih _ _ _ _ (by omega) d;omega
  cases h;omega
theorem WO (f:Nat): ∀b n,n≤T.length→(T.length-n)+1≤f→D1 T f b n=D1 T (f+1) b n:=by
 induction f with
 |zero=>intro _ _ _ h;omega
 |succ f ih=>
  intro b n d h;rw[D1,D1];split
  ·refine PR.bind_congr rfl fun t a c=>?_
   have:=kK c;exact ih _ _ (by omega) (by omega)
  rfl
variable (T)
def Hq (n:Nat):PR Sm:=sX T (4 *T.length+5) n
def Ff (n:Nat):PR (List Sm):=qN T (4 *T.length+5) n
def sO (acc:List Sm) (n:Nat):PR (List Sm):=pA T (4 *T.length+5) acc n
def VE (acc:List dC) (n:Nat):PR (List dC):=D1 T (T.length+2) acc n
def pD (n:Nat):PR (List dC):=(kG T 1 n).bind fun t m=>VE T [t.text] m
theorem HU (n:Nat):Hq T n=
  if eD T n=SO then(pL T (n+1)).bind fun l m=>(fE T [59] m).bind fun _ m=> .ok (.mk 3 [] l [] []) m
  else if eD T n=Rj then(if eD T (n+1)=[59]then .ok (.mk 7 [] [] [] []) (n+2)else(kP T 1 (n+1)).bind fun e m=>(fE T [59] m).bind fun _ m=> .ok (.mk 7 [] [e] [] []) m)
  else if eD T n=YB then(pL T (n+1)).bind fun l m=>(Ff T m).bind fun t m=>if eD T m=DU then(Ff T (m+1)).bind fun u m=> .ok (.mk 4 [] l t u) m else .ok (.mk 4 [] l t []) m
  else if eD T n=D9 then(pL T (n+1)).bind fun l m=>(Ff T m).bind fun t m=> .ok (.mk 5 [] l t []) m
  else wG T n:=by
 obtain⟨_,b,_⟩:=JK (T:=T) (4 *T.length+4);have a: ∀n,qN T (4 *T.length+4) n=Ff T n:=fun n=>b n (by omega);rw[Hq,sX];simp only[a]
theorem LL (n:Nat):Ff T n=(fE T [123] n).bind fun _ m=>sO T [] m:=by
 obtain⟨_,_,b⟩:=JK (T:=T) (4 *T.length+4);rw[Ff,qN];exact PR.bind_congr rfl fun x a h=>b _ a (by omega)
theorem Oj (b:List Sm) (n:Nat):sO T b n=if eD T n=[125]then .ok b (n+1)else(Hq T n).bind fun s m=>sO T (b++[s]) m:=by
 obtain⟨c,_,d⟩:=JK (T:=T) (4 *T.length+4);rw[sO,pA];split
 ·rfl
 exact PR.bind_congr (c n (by omega)) fun x a h=>d _ a (by omega)
theorem TP (b:List dC) (n:Nat):VE T b n=if eD T n=[44]then(kG T 1 (n+1)).bind fun t m=>VE T (b++[t.text]) m else .ok b n:=by
 rw[VE,D1];split
 ·refine PR.bind_congr rfl fun x a h=>?_
  have:=kK h;exact WO _ _ a (by omega) (by omega)
 rfl
variable {T}
theorem xL {n m:Nat} {e:Sm} (h:Hq T n= .ok e m):n<m∧m≤T.length:=(PH _).1 _ _ _ h
theorem G0 {n m:Nat} {e a:List Sm} (h:sO T a n= .ok e m):n<m∧m≤T.length:=(PH _).2.2 _ _ _ _ h
theorem NW {n m:Nat} {e a:List dC} (b:n≤T.length) (h:VE T a n= .ok e m):n≤m∧m≤T.length:=YR _ _ _ _ _ b h
theorem rG {n m:Nat} {e:List dC} (h:pD T n= .ok e m):n<m∧m≤T.length:=by
 obtain⟨t,a,b,c⟩:=PR.bind_eq_ok h;have:=kK b;have:=NW (by omega) c;omega
def Dh (T:List gA):Nat→List dC→Nat→PR (List dC)
 |0,_,n=> .bad n
 |f+1,acc,n=>if eD T n=Y1 then(pD T (n+1)).bind fun l m=>(fE T [59] m).bind fun _ m=>Dh T f (acc++l) m else .ok acc n
theorem YS (f:Nat): ∀b n l m,n≤T.length→Dh T f b n= .ok l m→n≤m∧m≤T.length:=by
 induction f with
 |zero=>intro _ _ _ _ _ h;simp [Dh]at h
 |succ f ih=>
  intro b n l m j h;rw[Dh]at h;split at h
  ·obtain⟨s,a,d,e⟩:=PR.bind_eq_ok h
   obtain⟨_,c,g,i⟩:=PR.bind_eq_ok e;have:=rG d;have:=fG g (by decide);have:=ih _ _ _ _ (by omega) i;omega
  cases h;omega
theorem WP (f:Nat): ∀b n,n≤T.length→(T.length-n)+1≤f→Dh T f b n=Dh T (f+1) b n:=by
 induction f with
 |zero=>intro _ _ _ h;omega
 |succ f ih=>
  intro b n g h;rw[Dh,Dh];split
  ·refine PR.bind_congr rfl fun t a d=>PR.bind_congr rfl fun _ c e=>?_
   have:=rG d;have:=fG e (by decide);exact ih _ _ (by omega) (by omega)
  rfl
def Yc (T:List gA) (acc:List dC) (n:Nat):PR (List dC):=Dh T (T.length+2) acc n
theorem OA (T:List gA) (b:List dC) (n:Nat):Yc T b n=if eD T n=Y1 then(pD T (n+1)).bind fun l m=>(fE T [59] m).bind fun _ m=>Yc T (b++l) m else .ok b n:=by
 rw[Yc,Dh];split
 ·refine PR.bind_congr rfl fun x a h=>PR.bind_congr rfl fun _ c d=>?_
  have:=fG d (by decide);exact WP _ _ c (by omega) (by omega)
 rfl
theorem JM {n m:Nat} {e a:List dC} (b:n≤T.length) (h:Yc T a n= .ok e m):n≤m∧m≤T.length:=YS _ _ _ _ _ b h
def Nw (T:List gA) (n:Nat):PR Fu:=(fE T zR n).bind fun _ m=>(kG T 1 m).bind fun t m=>(fE T [40] m).bind fun _ m=>
 (if nP T m=1 then pD T m else .ok [] m:PR (List dC)).bind fun ps m=>(fE T [41] m).bind fun _ m=>
  (fE T [123] (if eD T m=sU then m+1 else m)).bind fun _ c=>(Yc T [] c).bind fun ls c=>(sO T [] c).bind fun b c=> .ok ⟨t.text,ps,ls,decide (eD T m=sU),b⟩ c
theorem Ak {n m:Nat} {g:Fu} (h:Nw T n= .ok g m):n<m∧m≤T.length:=by
 unfold Nw at h;obtain⟨_,x,i,h⟩:=PR.bind_eq_ok h;obtain⟨t,y,j,h⟩:=PR.bind_eq_ok h;obtain⟨_,c,k,h⟩:=PR.bind_eq_ok h;obtain⟨C,d,a,h⟩:=PR.bind_eq_ok h;obtain⟨_,e,l,h⟩:=PR.bind_eq_ok h;obtain⟨_,f,o,h⟩:=PR.bind_eq_ok h;obtain⟨B,z,u,h⟩:=PR.bind_eq_ok h;obtain⟨b,A,v,h⟩:=PR.bind_eq_ok h;have:=fG i (by decide);have:=kK j;have:=fG k (by decide)
 have :c≤d:=by
  split at a
  ·have:=rG a;omega
  cases a;omega
 have:=fG l (by decide);have p:=fG o (by decide);have :e<f:=by have:=p.1;split at this<;>omega
 have:=JM (by omega) u;have:=G0 v;cases h;omega
def wO (T:List gA):Nat→List dC→List Ar→Nat→PR (List dC×List Ar)
 |0,_,_,n=> .bad n
 |f+1,vs,as',n=>
  if eD T n=Y1 then(pD T (n+1)).bind fun l m=>(fE T [59] m).bind fun _ m=>wO T f (vs++l) as' m
  else if eD T n=E0 then(kG T 1 (n+1)).bind fun t m=>(fE T [91] m).bind fun _ m=>(kG T 2 m).bind fun u m=>(fE T [93] m).bind fun _ m=>(fE T [59] m).bind fun _ m=>wO T f vs (as'++[⟨t.text,u.num⟩]) m
  else .ok (vs,as') n
theorem RU (f:Nat): ∀vs b n,n≤T.length→(T.length-n)+1≤f→wO T f vs b n=wO T (f+1) vs b n:=by
 induction f with
 |zero=>intro _ _ _ _ h;omega
 |succ f ih=>
  intro vs b n x h;rw[wO,wO];split
  ·refine PR.bind_congr rfl fun t a d=>PR.bind_congr rfl fun _ c e=>?_
   have:=rG d;have:=fG e (by decide);exact ih _ _ _ (by omega) (by omega)
  split
  ·refine PR.bind_congr rfl fun t k d=>PR.bind_congr rfl fun _ l e=>PR.bind_congr rfl fun u o g=>PR.bind_congr rfl fun _ p i=>PR.bind_congr rfl fun _ v j=>?_
   have:=kK d;have:=fG e (by decide);have:=kK g;have:=fG i (by decide);have:=fG j (by decide);exact ih _ _ _ (by omega) (by omega)
  rfl
def Eu (T:List gA) (vs:List dC) (as':List Ar) (n:Nat):PR (List dC×List Ar):=wO T (T.length+2) vs as' n
theorem KF (T:List gA) (vs:List dC) (b:List Ar) (n:Nat):Eu T vs b n=
  if eD T n=Y1 then(pD T (n+1)).bind fun l m=>(fE T [59] m).bind fun _ m=>Eu T (vs++l) b m
  else if eD T n=E0 then(kG T 1 (n+1)).bind fun t m=>(fE T [91] m).bind fun _ m=>(kG T 2 m).bind fun u m=>(fE T [93] m).bind fun _ m=>(fE T [59] m).bind fun _ m=>Eu T vs (b++[⟨t.text,u.num⟩]) m
  else .ok (vs,b) n:=by
 rw[Eu,wO];split
 ·refine PR.bind_congr rfl fun x a h=>PR.bind_congr rfl fun _ c d=>?_
  have:=fG d (by decide);exact RU _ _ _ c (by omega) (by omega)
 split
 ·refine PR.bind_congr rfl fun t g o=>PR.bind_congr rfl fun _ i d=>PR.bind_congr rfl fun u j p=>PR.bind_congr rfl fun _ k v=>PR.bind_congr rfl fun _ e f=>?_
  have:=fG f (by decide);exact RU _ _ _ e (by omega) (by omega)
 rfl
def yO (T:List gA):Nat→List Fu→Nat→PR (List Fu)
 |0,_,n=> .bad n
 |f+1,acc,n=>if n<T.length then(Nw T n).bind fun g m=>yO T f (acc++[g]) m else .ok acc n
theorem WQ (f:Nat): ∀b n,n≤T.length→(T.length-n)+1≤f→yO T f b n=yO T (f+1) b n:=by
 induction f with
 |zero=>intro _ _ _ h;omega
 |succ f ih=>
  intro b n d h;rw[yO,yO];split
  ·refine PR.bind_congr rfl fun t a c=>?_
   have:=Ak c;exact ih _ _ (by omega) (by omega)
  rfl
def Jj (T:List gA) (acc:List Fu) (n:Nat):PR (List Fu):=yO T (T.length+2) acc n
theorem Ji (T:List gA) (b:List Fu) (n:Nat):Jj T b n=if n<T.length then(Nw T n).bind fun g m=>Jj T (b++[g]) m else .ok b n:=by
 rw[Jj,yO];split
 ·refine PR.bind_congr rfl fun x a h=>?_
  have:=Ak h;exact WQ _ _ a (by omega) (by omega)
 rfl
def Em (T:List gA) (n:Nat):PR Pg:=(Eu T [] [] n).bind fun va m=>(Nw T m).bind fun g m=>(Jj T [g] m).bind fun fs m=> .ok ⟨va.1,va.2,fs⟩ m
def SC (T:List gA) (e n:Nat):Int:=match T[n]? with
 |some t=>t.pos
 |none=>e
def TJ:Pg:=⟨[],[],[]⟩
def G2 (s:dC):Pg×Int×Int:=match Di s with
 | .error (i,e)=>(TJ,i,e)
 | .ok T=>match Em T 0 with
   | .bad m=>(TJ,SC T s.length m,3)
   | .ok p m=>if m<T.length then(TJ,SC T s.length m,3)else if gD p=true then(p,0,0)else(TJ,0,2)
section
structure Sz (T:List gA):Prop where
 len:T.length≤1000000
 tok: ∀t∈T,dX t.num∧t.text.length≤1000000
variable {T : List gA}
theorem Is (k o:Int) (b:jH k) (d:jH o) {n:Int} (c:dX n) {s:dC} (e:fC s) {l:List Ex} (a:Bt l):(Ex.mk k o n s l).ok:= .mk _ _ _ _ _ b d c e a.fit a.all
theorem u0:dX 0:=by simp [dX]
theorem DK {a:Type}:fC ([]:List a):=by simp [fC]
theorem JE:Bt []:=⟨DK,fun e h=>by cases h⟩
theorem Z9 {e:Ex} (h:e.ok):Bt [e]:=⟨by simp [fC],fun x a=>by rw[bD]at a;rw[a];exact h⟩
theorem WJ {e f:Ex} (h:e.ok) (a:f.ok):Bt [e,f]:=⟨by simp [fC],fun x hx=>by
 rcases bP.1 hx with rfl|hx
 ·exact h
 rw[bD]at hx;rw[hx];exact a⟩
theorem JD {l:List Ex} {e:Ex} (b:l.length≤1000000) (h:Bt l) (a:e.ok):Bt (l++[e]):=⟨by unfold fC;simp only[aH,bV];omega,fun x hx=>by
 rcases eV.1 hx with hx|hx
 ·exact h.all x hx
 rw[bD]at hx;rw[hx];exact a⟩
theorem sE (b:Sz T) {k:Int} {n m:Nat} {t:gA} (h:kG T k n= .ok t m):dX t.num∧fC t.text∧t.text.length≤1000000:=by
 have:=kK h;have a:=b.tok t (aZ this.2.2.1);exact⟨a.1,by unfold fC;omega,a.2⟩
theorem OI (s:dC) {a b:Ex} (c:a.ok) (d:b.ok):(Ja s a b).ok:=by
 have f: ∀(l:List (dC×Int×Int×Nat)),(∀x∈l,jH x.2.1∧jH x.2.2.1)→jH (Np l s).1∧jH (Np l s).2.1:=by
  intro l
  induction l with
  |nil=>intro _;simp [Np,jH]
  |cons x l ih=>
   intro h;obtain⟨w,r⟩:=x;rw[Np];split
   ·exact h _ (fK)
   exact ih fun y e=>h y (eZ _ e)
 have h:=f VA (by simp [VA,jH]);exact Is _ _ h.1 h.2 u0 DK (WJ c d)
theorem ZC (v:Sz T) (f:Nat):(∀n e m,rP T f n= .ok e m→e.ok)∧(∀o n e m,pI T f o n= .ok e m→e.ok)∧
  (∀o u n e m,u.ok→sH T f o u n= .ok e m→e.ok)∧(∀n l m,sK T f n= .ok l m→Bt l)∧
  (∀p n l m,Bt p→p.length≤n→sL T f p n= .ok l m→Bt l):=by
 induction f with
 |zero=>exact⟨fun _ _ _ h=>by simp [rP]at h,fun _ _ _ _ h=>by simp [pI]at h,fun _ _ _ _ _ _ h=>by simp [sH]at h,fun _ _ _ h=>by simp [sK]at h,fun _ _ _ _ _ _ h=>by simp [sL]at h⟩
 |succ f ih=>
  obtain⟨C,k,D,G,E⟩:=ih;obtain⟨H,z,I,J,K⟩:=far (T:=T) f;have N:=v.len;refine⟨fun n e m h=>?_,fun o n e m h=>?_,fun o u n e m A h=>?_,fun n l m h=>?_,fun p n l m B M h=>?_⟩
  ·rw[rP]at h
   split at h
   ·obtain⟨t,a,g,b⟩:=PR.bind_eq_ok h
    cases b;exact Is _ _ (by simp [jH]) (by simp [jH]) (sE v g).1 DK JE
   split at h
   ·obtain⟨_,a,g,b⟩:=PR.bind_eq_ok h
    obtain⟨_,c,j,i⟩:=PR.bind_eq_ok b;cases i;exact Is _ _ (by simp [jH]) (by simp [jH]) u0 DK JE
   split at h
   ·obtain⟨x,a,g,b⟩:=PR.bind_eq_ok h
    obtain⟨_,c,j,i⟩:=PR.bind_eq_ok b;cases i;exact k _ _ _ _ g
   split at h
   ·obtain⟨x,a,g,b⟩:=PR.bind_eq_ok h
    cases b;exact Is _ _ (by simp [jH]) (by simp [jH]) u0 DK (Z9 (C _ _ _ g))
   obtain⟨t,a,g,b⟩:=PR.bind_eq_ok h;have y:=(sE v g).2.1;split at b
   ·obtain⟨x,c,j,i⟩:=PR.bind_eq_ok b
    obtain⟨_,d,L,F⟩:=PR.bind_eq_ok i;cases F;exact Is _ _ (by simp [jH]) (by simp [jH]) u0 y (Z9 (k _ _ _ _ j))
   split at b
   ·obtain⟨x,c,j,i⟩:=PR.bind_eq_ok b
    cases i;exact Is _ _ (by simp [jH]) (by simp [jH]) u0 y (G _ _ _ j)
   cases b;exact Is _ _ (by simp [jH]) (by simp [jH]) u0 y JE
  ·rw[pI]at h
   obtain⟨x,a,g,b⟩:=PR.bind_eq_ok h;exact D _ _ _ _ _ (C _ _ _ g) b
  ·rw[sH]at h
   split at h
   ·cases h;exact A
   obtain⟨x,a,g,b⟩:=PR.bind_eq_ok h;exact D _ _ _ _ _ (OI _ A (k _ _ _ _ g)) b
  ·rw[sK]at h
   split at h
   ·cases h;exact JE
   obtain⟨x,a,g,b⟩:=PR.bind_eq_ok h;have:=z _ _ _ _ g;exact E _ _ _ _ (Z9 (k _ _ _ _ g)) (by simp;omega) b
  rw[sL]at h;split at h
  ·obtain⟨x,a,g,b⟩:=PR.bind_eq_ok h
   have:=z _ _ _ _ g;exact E _ _ _ _ (JD (by omega) B (k _ _ _ _ g)) (by simp only[aH,bV];omega) b
  obtain⟨_,a,g,b⟩:=PR.bind_eq_ok h;cases b;exact B
theorem wQ (a:Sz T) {lo n m:Nat} {e:Ex} (h:kP T lo n= .ok e m):e.ok:=(ZC a _).2.1 _ _ _ _ h
theorem LR (a:Sz T) {n m:Nat} {l:List Ex} (h:vK T n= .ok l m):Bt l:=(ZC a _).2.2.2.1 _ _ _ h
theorem Aa (j:Sz T) {n m:Nat} {l:List Ex} (h:pL T n= .ok l m):Bt l:=by
 unfold pL at h;obtain⟨_,a,k,b⟩:=PR.bind_eq_ok h;obtain⟨e,c,f,g⟩:=PR.bind_eq_ok b;obtain⟨_,d,o,i⟩:=PR.bind_eq_ok g;cases i;exact Z9 (wQ j f)
theorem yC:yM []:=⟨DK,fun e h=>by cases h⟩
theorem JC {l:List Sm} {e:Sm} (b:l.length≤1000000) (h:yM l) (a:e.ok):yM (l++[e]):=⟨by unfold fC;simp only[aH,bV];omega,fun x hx=>by
 rcases eV.1 hx with hx|hx
 ·exact h.all x hx
 rw[bD]at hx;rw[hx];exact a⟩
theorem zV (k:Int) (c:jH k) {s:dC} (e:fC s) {l:List Ex} (d:Bt l) {t u:List Sm} (a:yM t) (b:yM u):(Sm.mk k s l t u).ok:= .mk _ _ _ _ _ c e d a.fit a.all b.fit b.all
theorem JI (i:Sz T) {n m:Nat} {s:Sm} (h:wG T n= .ok s m):s.ok:=by
 unfold wG at h;obtain⟨t,a,u,v⟩:=PR.bind_eq_ok h;obtain⟨x,c,e,A⟩:=PR.bind_eq_ok v;obtain⟨_,d,H,B⟩:=PR.bind_eq_ok A;have j:=(sE i u).2.1;cases B;split at e
 ·obtain⟨y,b,f,g⟩:=PR.bind_eq_ok e
  cases g;exact zV _ (by simp [jH]) j (Z9 (wQ i f)) yC yC
 split at e
 ·obtain⟨y,b,f,g⟩:=PR.bind_eq_ok e
  obtain⟨_,C,F,k⟩:=PR.bind_eq_ok g;obtain⟨_,D,G,l⟩:=PR.bind_eq_ok k;obtain⟨z,E,o,p⟩:=PR.bind_eq_ok l;cases p;exact zV _ (by simp [jH]) j (WJ (wQ i f) (wQ i o)) yC yC
 split at e
 ·obtain⟨y,b,f,g⟩:=PR.bind_eq_ok e
  cases g;exact zV _ (by simp [jH]) j (LR i f) yC yC
 cases e
theorem YN (j:Sz T) (f:Nat):(∀n e m,sX T f n= .ok e m→e.ok)∧(∀n l m,qN T f n= .ok l m→yM l)∧(∀o n l m,yM o→o.length≤n→pA T f o n= .ok l m→yM l):=by
 induction f with
 |zero=>exact⟨fun _ _ _ h=>by simp [sX]at h,fun _ _ _ h=>by simp [qN]at h,fun _ _ _ _ _ _ h=>by simp [pA]at h⟩
 |succ f ih=>
  obtain⟨B,p,x⟩:=ih;obtain⟨y,C,D⟩:=PH (T:=T) f;have F:=j.len;refine⟨fun n e m h=>?_,fun n l m h=>?_,fun o n l m v E h=>?_⟩
  ·rw[sX]at h
   split at h
   ·obtain⟨l,a,b,g⟩:=PR.bind_eq_ok h
    obtain⟨_,c,k,i⟩:=PR.bind_eq_ok g;cases i;exact zV _ (by simp [jH]) DK (Aa j b) yC yC
   split at h
   ·split at h
    ·cases h;exact zV _ (by simp [jH]) DK JE yC yC
    obtain⟨l,a,b,g⟩:=PR.bind_eq_ok h;obtain⟨_,c,k,i⟩:=PR.bind_eq_ok g;cases i;exact zV _ (by simp [jH]) DK (Z9 (wQ j b)) yC yC
   split at h
   ·obtain⟨l,a,b,g⟩:=PR.bind_eq_ok h
    obtain⟨t,c,k,i⟩:=PR.bind_eq_ok g;split at i
    ·obtain⟨u,d,z,A⟩:=PR.bind_eq_ok i
     cases A;exact zV _ (by simp [jH]) DK (Aa j b) (p _ _ _ k) (p _ _ _ z)
    cases i;exact zV _ (by simp [jH]) DK (Aa j b) (p _ _ _ k) yC
   split at h
   ·obtain⟨l,a,b,g⟩:=PR.bind_eq_ok h
    obtain⟨t,c,k,i⟩:=PR.bind_eq_ok g;cases i;exact zV _ (by simp [jH]) DK (Aa j b) (p _ _ _ k) yC
   exact JI j h
  ·rw[qN]at h
   obtain⟨_,a,b,g⟩:=PR.bind_eq_ok h;exact x _ _ _ _ yC (cJ _) g
  rw[pA]at h;split at h
  ·cases h;exact v
  obtain⟨s,a,b,g⟩:=PR.bind_eq_ok h;have:=y _ _ _ b;exact x _ _ _ _ (JC (by omega) v (B _ _ _ b)) (by simp only[aH,bV];omega) g
theorem Y9 (a:Sz T) {n m:Nat} {l:List Sm} (h:sO T [] n= .ok l m):yM l:=(YN a _).2.2 _ _ _ _ yC (cJ _) h
def tZ (l:List dC):Prop:= ∀s∈l,s.length≤1000000
theorem I6 {l:List dC} (b:l.length≤2000000) (h:tZ l):WI l:=⟨by unfold fC;omega,fun s a=>by have:=h s a;unfold fC;omega⟩
theorem WL (g:Sz T) (f:Nat): ∀b n l m,tZ b→b.length≤n→n≤T.length→D1 T f b n= .ok l m→tZ l∧l.length≤m:=by
 induction f with
 |zero=>intro _ _ _ _ _ _ _ h;simp [D1]at h
 |succ f ih=>
  intro b n l m d i k h;rw[D1]at h;split at h
  ·obtain⟨t,a,c,e⟩:=PR.bind_eq_ok h
   have:=kK c;have j:=(sE g c).2.2;refine ih _ _ _ _ (fun s hs=>?_) (by simp only[aH,bV];omega) (by omega) e;rcases eV.1 hs with hs|hs
   ·exact d s hs
   rw[bD]at hs;rw[hs];exact j
  cases h;exact⟨d,i⟩
theorem Dc (g:Sz T) {n m:Nat} {l:List dC} (h:pD T n= .ok l m):tZ l∧l.length+n≤m:=by
 obtain⟨t,a,b,c⟩:=PR.bind_eq_ok h;have:=kK b;have i:=(sE g b).2.2;have d:=(WL g _ _ _ _ _ (fun s d=>by rw[bD]at d;rw[d];exact i) (by simp;omega) (by omega) c).1
 have j: ∀(f:Nat) e n l m,D1 T f e n= .ok l m→l.length+n≤e.length+m:=by
  intro f
  induction f with
  |zero=>intro _ _ _ _ h;simp [D1]at h
  |succ f ih=>
   intro e n l m h;rw[D1]at h;split at h
   ·obtain⟨s,a,b,c⟩:=PR.bind_eq_ok h
    have:=kK b;have:=ih _ _ _ _ c;simp only[aH,aQ,aV]at this;omega
   cases h;omega
 have:=j _ _ _ _ _ c;simp only[bV]at this;exact⟨d,by omega⟩
theorem TS (o:Sz T) (f:Nat): ∀b n l m,tZ b→b.length≤n→Dh T f b n= .ok l m→tZ l∧(n≤T.length→l.length≤T.length):=by
 induction f with
 |zero=>intro _ _ _ _ _ _ h;simp [Dh]at h
 |succ f ih=>
  intro b n l m d t h;rw[Dh]at h;split at h
  ·obtain⟨s,a,g,i⟩:=PR.bind_eq_ok h
   obtain⟨_,c,j,k⟩:=PR.bind_eq_ok i;have p:=Dc o g;have:=fG j (by decide)
   have e:=ih _ _ _ _ (fun x hx=>by
    rcases eV.1 hx with hx|hx
    ·exact d x hx
    exact p.1 x hx) (by simp only[aH];omega) k
   exact⟨e.1,fun _=>e.2 (by omega)⟩
  cases h;exact⟨d,fun u=>by omega⟩
theorem V5 (a:Sz T) {n m:Nat} {g:Fu} (h:Nw T n= .ok g m):g.ok∧g.params.length≤1000000∧g.locs.length≤1000000:=by
 unfold Nw at h;obtain⟨_,y,G,h⟩:=PR.bind_eq_ok h;obtain⟨t,z,i,h⟩:=PR.bind_eq_ok h;obtain⟨_,A,j,h⟩:=PR.bind_eq_ok h;obtain⟨d,B,c,h⟩:=PR.bind_eq_ok h;obtain⟨_,C,H,h⟩:=PR.bind_eq_ok h;obtain⟨_,D,k,h⟩:=PR.bind_eq_ok h;obtain⟨x,E,o,h⟩:=PR.bind_eq_ok h;obtain⟨b,F,p,h⟩:=PR.bind_eq_ok h;cases h;have J:=a.len;have v:=sE a i;have:=fG j (by decide)
 have u:tZ d∧d.length≤T.length:=by
  split at c
  ·have f:=Dc a c
   have:=rG c;exact⟨f.1,by have:=f.2;omega⟩
  cases c;exact⟨(fun s h=>by cases h),cJ _⟩
 have I:=fG k (by decide);have e:=TS a _ _ _ _ _ (fun s h=>by cases h) (cJ _) o;have K:=e.2 (by omega);exact⟨⟨v.2.1,I6 (l:=d) (by omega) u.1,I6 (l:=x) (by omega) e.1,Y9 a p⟩,by simp only;omega,by simp only;omega⟩
def IC (l:List Ar):Prop:= ∀a∈l,a.name.length≤1000000∧dX a.size
theorem OO (j:Sz T) (f:Nat): ∀vs b n l m,tZ vs→IC b→vs.length≤n→b.length≤n→n≤T.length→wO T f vs b n= .ok l m→tZ l.1∧IC l.2∧l.1.length≤T.length∧l.2.length≤T.length:=by
 induction f with
 |zero=>intro _ _ _ _ _ _ _ _ _ _ h;simp [wO]at h
 |succ f ih=>
  intro vs b n l m o k H F G h;rw[wO]at h;split at h
  ·obtain⟨s,a,d,g⟩:=PR.bind_eq_ok h
   obtain⟨_,c,e,i⟩:=PR.bind_eq_ok g;have v:=Dc j d;have:=fG e (by decide)
   exact ih _ _ _ _ _ (fun x hx=>by
    rcases eV.1 hx with hx|hx
    ·exact o x hx
    exact v.1 x hx) k (by simp only[aH];omega) (by omega) (by omega) i
  split at h
  ·obtain⟨t,A,d,h⟩:=PR.bind_eq_ok h
   obtain⟨_,B,g,h⟩:=PR.bind_eq_ok h;obtain⟨u,C,e,h⟩:=PR.bind_eq_ok h;obtain⟨_,D,i,h⟩:=PR.bind_eq_ok h;obtain⟨_,E,p,h⟩:=PR.bind_eq_ok h;have:=kK d;have:=fG g (by decide);have:=kK e;have:=fG i (by decide);have:=fG p (by decide);have y:=sE j d;have z:=sE j e
   exact ih _ _ _ _ _ o (fun x hx=>by
    rcases eV.1 hx with hx|hx
    ·exact k x hx
    rw[bD]at hx;rw[hx];exact⟨y.2.2,z.1⟩) (by omega) (by simp only[aH,bV];omega) (by omega) h
  cases h;exact⟨o,k,by simp only;omega,by simp only;omega⟩
theorem OV (i:Sz T) (f:Nat): ∀b n l m,(∀g∈b,g.ok∧g.params.length≤1000000∧g.locs.length≤1000000)→b.length≤n→n≤T.length→yO T f b n= .ok l m→(∀g∈l,g.ok∧g.params.length≤1000000∧g.locs.length≤1000000)∧l.length≤T.length:=by
 induction f with
 |zero=>intro _ _ _ _ _ _ _ h;simp [yO]at h
 |succ f ih=>
  intro b n l m d k o h;rw[yO]at h;split at h
  ·obtain⟨s,a,c,e⟩:=PR.bind_eq_ok h
   have j:=V5 i c;have:=Ak c
   exact ih _ _ _ _ (fun x hx=>by
    rcases eV.1 hx with hx|hx
    ·exact d x hx
    rw[bD]at hx;rw[hx];exact j) (by simp only[aH,bV];omega) (by omega) e
  cases h;exact⟨d,by omega⟩
theorem IT (d:Sz T) {n m:Nat} {p:Pg} (u:n≤T.length) (h:Em T n= .ok p m):p.ok∧(∀g∈p.funs,g.params.length≤1000000∧g.locs.length≤1000000):=by
 unfold Em at h;obtain⟨i,v,k,h⟩:=PR.bind_eq_ok h;obtain⟨g,y,c,h⟩:=PR.bind_eq_ok h;obtain⟨j,z,l,h⟩:=PR.bind_eq_ok h;cases h;have B:=d.len;have f:=OO d _ _ _ _ _ _ (fun s h=>by cases h) (fun s h=>by cases h) (cJ _) (cJ _) u k;have t:=V5 d c;have A:=Ak c;have e:=OV d _ _ _ _ _ (fun x b=>by rw[bD]at b;rw[b];exact t) (by simp;omega) (by omega) l;refine⟨⟨I6 (by show i.1.length≤_;omega) f.1,by show i.2.length≤_;omega,fun a o=>?_,by show j.length≤_;omega,fun x b=>(e.1 x b).1⟩,fun x b=>(e.1 x b).2⟩;have:=f.2.1 a o;have c:=this.2;unfold dX at c;exact⟨by unfold fC;omega,by unfold jH;omega⟩
theorem BK (s:List UInt8):dX (iC s).1.num:=by
 cases s with
 |nil=>simp [iC,kD,dX]
 |cons c r=>
  simp only[iC];split
  ·simp only[zE]
   split
   ·rename_i m b
    have:=zF _ 0 m (by omega) (by omega) (sS _ _) b;exact⟨by simp only;omega,by simp only;omega⟩
   simp [kD,dX]
  split
  ·rw[uO]
   split
   ·rename_i a _ _ _
    split
    ·have:=UInt8.toNat_lt a
     exact⟨by simp only;omega,by simp only;omega⟩
    simp [kD,dX]
   simp [kD,dX]
  split
  ·simp only[Pn]
   split
   ·simp [kD,dX]
   split<;>simp [dX]
  split<;>simp [kD,dX]
theorem OG (N:Nat): ∀(s:dC) (k i:Nat) (l:List gA),s.length≤N→oL s k i= .ok l→l.length≤s.length∧ ∀t∈l,dX t.num∧t.text.length≤N:=by
 intro s
 induction s with
 |nil=>intro k i l _ h;cases k<;>simp [oL]at h<;>subst h<;>simp
 |cons c r ih=>
  intro k i l d h;have a:r.length≤N:=by simp only[aQ]at d;omega
  cases k with
  |succ k=>
   rw[oL]at h;have:=ih k (i+1) l a h;exact⟨by simp only[aQ];omega,this.2⟩
  |zero=>
   rw[oL]at h;split at h
   ·have:=ih 0 (i+1) l a h
    exact⟨by simp only[aQ];omega,this.2⟩
   split at h
   ·have:=ih _ (i+1) l a h
    exact⟨by simp only[aQ];omega,this.2⟩
   split at h
   ·cases hl:oL r ((iC (c::r)).1.text.length - 1) (i+1)with
    |error y=>rw[hl]at h;cases h
    |ok l'=>
     rw[hl]at h;cases h;have:=ih _ (i+1) l' a hl;refine⟨by simp only[aQ];omega,fun t ht=>?_⟩;rcases bP.1 ht with rfl|ht
     ·have b:=BK (c::r)
      have e:=Qf (c::r);exact⟨b,by simp only;omega⟩
     exact this.2 t ht
   cases h
theorem OF {s:dC} {T:List gA} (h:Di s= .ok T):Sz T:=by
 unfold Di at h;split at h
 ·cases h
 have:=OG 20000 s 0 0 T (by omega) h;exact⟨by omega,fun t a=>⟨(this.2 t a).1,by have:=(this.2 t a).2;omega⟩⟩
end
section
variable {T : List gA}
theorem lZ {b c d:Type} (x:PR b) (f:b→Nat→PR c) (g:c→Nat→PR d):(x.bind f).bind g=x.bind fun a m=>(f a m).bind g:=by cases x<;>rfl
theorem NZ (lo:Nat) (b:1≤lo) (k:Nat): ∀n e,n≤T.length→T.length-n≤k→wH T lo e n=(wH T (lo+1) e n).bind fun a m=>wH T lo a m:=by
 induction k using Nat.strongRecOn with
 |_ k ih=>
  intro n e g d;rw[tC T (lo+1) e n (by omega)];by_cases h:(Ei (eD T n)).2.2<lo+1
  ·rw[bH h];rfl
  have f:=S4 h (by omega);rw[tC T lo e n b,aL (by omega),aL h,lZ];refine PR.bind_congr rfl fun x m c=>?_;have:=pM c;exact ih (T.length-m) (by omega) m _ this.2 (bI _)
theorem KX (lo n:Nat) (a:1≤lo):kP T lo n=(kP T (lo+1) n).bind fun e m=>wH T lo e m:=by
 rw[Aq T lo n a,Aq T (lo+1) n (by omega),lZ];refine PR.bind_congr rfl fun x m b=>?_;exact NZ lo a _ m x (Qy b).2 (bI _)
theorem BP (n:Nat):kP T 10 n=tQ T n:=by
 rw[Aq T 10 n (by decide)]
 cases h:tQ T n with
 |bad m=>rfl
 |ok e m=>
  show wH T 10 e m=_;rw[tC T 10 e m (by decide),bH (by have:=VX (eD T m);omega)]
theorem AH (lo:Nat) (d:1≤lo) (k:Nat): ∀n e c m,n≤T.length→T.length-n≤k→wH T lo e n= .ok c m→(Ei (eD T m)).2.2<lo:=by
 induction k using Nat.strongRecOn with
 |_ k ih=>
  intro n e c m l i h;rw[tC T lo e n d]at h;by_cases b:(Ei (eD T n)).2.2<lo
  ·rw[bH b]at h;cases h;exact b
  have j:=S4 b d;rw[aL b]at h;obtain⟨x,a,f,g⟩:=PR.bind_eq_ok h;have:=pM f;exact ih (T.length-a) (by omega) a _ _ _ this.2 (bI _) g
theorem Qi {lo n m:Nat} {e:Ex} (b:1≤lo) (h:kP T lo n= .ok e m):(Ei (eD T m)).2.2<lo:=by
 rw[Aq T lo n b]at h;obtain⟨x,a,c,d⟩:=PR.bind_eq_ok h;exact AH lo b _ a x e m (Qy c).2 (bI _) d
theorem CM (n:Nat):tQ T n=
  if nP T n=2 then(kG T 2 n).bind fun t m=> .ok (.mk 1 0 t.num [] []) m
  else if eD T n=[103,101,116]then(fE T [40] (n+1)).bind fun _ m=>(fE T [41] m).bind fun _ m=> .ok (.mk 5 0 0 [] []) m
  else if eD T n=[33]then(tQ T (n+1)).bind fun e m=> .ok (.mk 7 0 0 [] [e]) m
  else if eD T n=[40]then(kP T 1 (n+1)).bind fun e m=>(fE T [41] m).bind fun _ m=> .ok e m
  else(kG T 1 n).bind fun t m=>
   if eD T m=[91]then(kP T 1 (m+1)).bind fun e m=>(fE T [93] m).bind fun _ m=> .ok (.mk 3 0 0 t.text [e]) m
   else if eD T m=[40]then(vK T (m+1)).bind fun l m=> .ok (.mk 4 0 0 t.text l) m
   else .ok (.mk 2 0 0 t.text []) m:=by
 rw[LQ];by_cases a:eD T n=[33]
 ·rw[a];simp
 simp only[aL a]
end
theorem UO {H:Hp} {b c sz d:Nat} {l l':List (List AV)} (h:H b=some (.rows sz l)) (a:H c=some (.rows d l')) (f:sz≠d):b≠c:=fun e=>by subst e;rw[h]at a;cases a;exact f rfl
theorem eB.kp {sz d:Nat} {v:AV} {rows r:List (List AV)} {H H2:Hp} {b:Nat} (h:eB sz v rows H) (f:H b=some (.rows d r)) (i:d≠sz) (g: ∀x o,x≠b→H x=some o→H2 x=some o):eB sz v rows H2:=by
 rcases h with h|⟨c,e,a⟩
 ·exact .inl h
 exact .inr ⟨c,e,g c _ (fun e=>UO f a i e.symm) a⟩
theorem OS {T:List gA} {n:Nat} {t:gA} (h:T[n]?=some t):(T.map gA.row)[n]?=some [.int .i64 t.kind, .str t.text, .int .u32 t.num, .int .i64 t.pos]:=uK _ h
theorem IY {T:List gA} {n:Nat} {t:gA} (h:T[n]?=some t):eD T n=if t.kind=3∨t.kind=4 then t.text else []:=by rw[eD,h]
theorem Z7 {T:List gA} {n:Nat} (h: ¬n<T.length):eD T n=[]:=by rw[eD,dS (by omega)]
theorem Tu {n:Nat} (h:n≤1000000):IntKind.wrap .i64 ((n:Int)+1)=((n+1:Nat):Int):=by rw[aS _ (by omega)];omega
def oI (x:Ex):AV:= .agg [.int .i64 x.kind, .int .i64 x.op, .int .u32 x.num, .str x.name, .isl 5 (x.kids.map Ex.row)]
def Gk (l:List Ex):AV:= .isl 5 (l.map Ex.row)
theorem KY (b:List Ex) (a:Ex):(b++[a]).map Ex.row=b.map Ex.row++[[.int .i64 a.kind, .int .i64 a.op, .int .u32 a.num, .str a.name, .isl 5 (a.kids.map Ex.row)]]:=by
 rw[cO,cN,dO,Ex.row_eq]
def sF (s:Sm):AV:= .agg [.int .i64 s.kind, .str s.name, .isl 5 (s.es.map Ex.row), .isl 5 (s.thn.map Sm.row), .isl 5 (s.els.map Sm.row)]
def XQ (l:List Sm):AV:= .isl 5 (l.map Sm.row)
theorem Xe (a:List Sm) (s:Sm):(a++[s]).map Sm.row=a.map Sm.row++[[.int .i64 s.kind, .str s.name, .isl 5 (s.es.map Ex.row), .isl 5 (s.thn.map Sm.row), .isl 5 (s.els.map Sm.row)]]:=by
 rw[cO,cN,dO,Sm.row_eq]
def OY (T:List gA) (nm:dC) (ps:List dC) (w:Bool) (ls:List dC) (c:Nat):PR Fu:=(sO T [] c).bind fun b c=> .ok ⟨nm,ps,ls,w,b⟩ c
def UC (T:List gA) (nm:dC) (ps:List dC) (m:Nat):PR Fu:=(fE T [41] m).bind fun _ m=>(fE T [123] (if eD T m=sU then m+1 else m)).bind fun _ c=>(Yc T [] c).bind fun ls c=>OY T nm ps (decide (eD T m=sU)) ls c
theorem OW (T:List gA) (n:Nat):Nw T n=(fE T zR n).bind fun _ m=>(kG T 1 m).bind fun t m=>(fE T [40] m).bind fun _ m=>(if nP T m=1 then pD T m else .ok [] m:PR (List dC)).bind fun a m=>UC T t.text a m:=rfl
theorem Iq (l:List dC):((l.map bQ).all fun r=>r.all one)=true:=JB (fun _=>rfl) l
def XW (f:Fu):AV:= .agg [.str f.name, .isl 1 (f.params.map bQ), .isl 1 (f.locs.map bQ), .bool f.word, .isl 5 (f.body.map Sm.row)]
end Go.Proofs.YtaecpjgmcffliaaGreatDoor
namespace Go.Al
theorem eB.app2 {sz a:Nat} {v v':AV} {rows f:List (List AV)} {H H':Hp} (i:eB a v' f H) (g:eB sz v rows H) (k:a≠sz) (j: ∀b o,H b=some o→v≠ .osl sz b rows.length→H' b=some o):eB a v' f H':=by
 rcases i with h|⟨c,e,d⟩
 ·exact .inl h
 exact .inr ⟨c,e,j c _ d (g.nb' d k)⟩
theorem U4 {sz a:Nat} {v x:AV} {rows i:List (List AV)} {H:Hp} (h:eB sz v rows H) (g:eB a x i H) (f:a≠sz):DJ v x:=fun s b n e=>by
 subst e;rcases g with⟨e,_⟩|⟨c,e,d⟩
 ·cases e
 cases e;exact h.offsz d f
theorem eB.nil (sz:Nat) (H:Hp):eB sz .nsl [] H:= .inl ⟨rfl,rfl⟩
theorem eB.thru {sz d j:Nat} {v v':AV} {rows f r:List (List AV)} {H H':Hp} {g:Nat} (o:eB d v' f H) (n:eB sz v rows H) (u:d≠sz) (k:H g=some (.rows j r)) (y:d≠j) (i:(f.all fun r=>r.all tK)=true)
  (p: ∀b s l,b≠g→Al.off v b→(∀r∈l, ∀x∈r,DJ v x)→H b=some (.rows s l)→H' b=some (.rows s l)):eB d v' f H':=by
 rcases o with h|⟨c,e,a⟩
 ·exact .inl h
 refine .inr ⟨c,e,p c _ _ (fun e=>?_) (n.offsz a u) (fun r t x z=>?_) a⟩
 ·subst e;rw[k]at a;cases a;exact y rfl
 simp only[dB]at i;exact bS (i r t x z)
theorem Yu (l:List Ar):((l.map Ar.row).all fun r=>r.all tK)=true:=by
 simp only[List.all_map,dB];exact fun x _=>rfl
end Go.Al
namespace Go.Proofs.YtaecpjgmcffliaaGreatDoor
open Go.Al Go.Proofs.Tryz
def Pj (T:List gA) (va:List dC×List Ar) (m:Nat):PR Pg:=(Nw T m).bind fun g m=>(Jj T [g] m).bind fun fs m=> .ok ⟨va.1,va.2,fs⟩ m
theorem IU (T:List gA) (n:Nat):Em T n=(Eu T [] [] n).bind (Pj T):=rfl
def ZB (p:Pg):AV:= .agg [.isl 1 (p.vars.map bQ), .isl 2 (p.arrs.map Ar.row), .isl 5 (p.funs.map Fu.row)]
theorem MZ (sz:Nat) (rows:List (List AV)):Al.hP (XR sz rows) (.isl sz rows):=by
 cases rows with
 |nil=>exact hP.nsl sz
 |cons=>exact hP.refl _
theorem rI: ∀(s:dC) (k i:Nat) (x:Nat×Int),oL s k i= .error x→x.2≠0
 |[],k,i,x,h=>by cases k<;>simp [oL]at h
 |c::r,k+1,i,x,h=>by
  rw[oL]at h;exact rI r k (i+1) x h
 |c::r,0,i,x,h=>by
  rw[oL]at h;split at h
  ·exact rI r 0 (i+1) x h
  split at h
  ·exact rI r _ (i+1) x h
  split at h
  ·cases hl:oL r ((iC (c::r)).1.text.length - 1) (i+1)with
   |ok l=>rw[hl]at h;cases h
   |error y=>rw[hl]at h;cases h;exact rI r _ _ _ hl
  rename_i a;cases h;exact a
theorem JO {s:dC} {i:Nat} {e:Int} (h:Di s= .error (i,e)):e≠0:=by
 unfold Di at h;split at h
 ·cases h;decide
 exact rI _ _ _ _ h
def G9 (r:Pg×Int×Int):AV:= .tup [r.1.av, .int .i64 r.2.1, .int .i64 r.2.2]
theorem NT:fF [.nsl, .nsl, .nsl] TJ.row:=fF.cons (hP.nsl 1) (fF.cons (hP.nsl 2) (fF.cons (hP.nsl 5) (fF.refl _)))
theorem IK {s:dC} (a:s.length≤1000000) {i:Nat} {e:Int} (h:Di s= .error (i,e)):eN dV 64 [.str s] (.tup [.nsl, .int .i64 (i:Nat), .int .i64 e]):=by
 have:=Xr s a;rw[h]at this;exact this
theorem NK {s:dC} (a:s.length≤1000000) {T:List gA} (h:Di s= .ok T):eN dV 64 [.str s] (.tup [.isl 4 (T.map gA.row), .int .i64 0, .int .i64 0]):=by
 have:=Xr s a;rw[h]at this;exact Z8 this (hP.tup (fF.cons (MZ 4 _) (fF.refl _)))
def kW {α:Type} (w:Bool) (n:Nat) (r:PR α):PR α:=if w=true then .bad n else r
theorem nF {a:Type} (n:Nat) (r:PR a):kW false n r=r:=rfl
theorem HV {a:Type} (n:Nat) (r:PR a):kW true n r= .bad n:=rfl
theorem Wl {a b:Type} (w:Bool) (n:Nat) (r:PR a) (K:a→Nat→PR b):kW w n (r.bind K)=(kW w n r).bind K:=by cases w<;>rfl
theorem dH {b e:Type} {w d:Bool} {n a:Nat} {X:PR b} {K:b→Nat→PR e} {x:b} {c:PR e} (g:kW w n (X.bind K)=c) (f:kW d a (PR.ok x a)=kW w n X):kW d a (K x a)=c:=by
 rw[←g,Wl,←f,←Wl];rfl
def Pz (T:List gA) (w:Bool) (n:Nat) (s:dC):Bool:= !w&&decide (eD T n=s)
def D3 (T:List gA) (w:Bool) (n:Nat) (k:Int):Bool:= !w&&decide (nP T n=k)
theorem KC {T:List gA} {w:Bool} {n:Nat} {s:dC} (h:Pz T w n s=true):w=false∧eD T n=s:=by
 simpa [Pz]using h
theorem jP {T:List gA} {w:Bool} {n:Nat} {s:dC} (h:Pz T w n s=true) (a:s≠[]):n<T.length:=oG (KC h).2 a
theorem RV {T:List gA} {w:Bool} {n:Nat} {k:Int} (h:D3 T w n k=true):w=false∧nP T n=k:=by
 simpa [D3]using h
theorem rL {e:Type} {T:List gA} {w:Bool} {n:Nat} {s:dC} {A B b:PR e} (h:Pz T w n s=true) (a:kW w n (if eD T n=s then A else B)=b):kW w (n+1) A=b:=by
 obtain⟨c,d⟩:=KC h;subst c;rw[bH d]at a;exact a
theorem rM {c:Type} {T:List gA} {w:Bool} {n:Nat} {s:dC} {A B b:PR c} (h:Pz T w n s=false) (a:kW w n (if eD T n=s then A else B)=b):kW w n B=b:=by
 cases w with
 |true=>exact a
 |false=>
  have : ¬eD T n=s:=by simpa [Pz]using h
  rw[aL this]at a;exact a
theorem YP {e:Type} {T:List gA} {w:Bool} {n:Nat} {k:Int} {A B b:PR e} (h:D3 T w n k=true) (a:kW w n (if nP T n=k then A else B)=b):kW w n A=b:=by
 obtain⟨c,d⟩:=RV h;subst c;rw[bH d]at a;exact a
theorem YQ {c:Type} {T:List gA} {w:Bool} {n:Nat} {k:Int} {A B b:PR c} (h:D3 T w n k=false) (a:kW w n (if nP T n=k then A else B)=b):kW w n B=b:=by
 cases w with
 |true=>exact a
 |false=>
  have : ¬nP T n=k:=by simpa [D3]using h
  rw[aL this]at a;exact a
def Dm (b:Nat) (T:List gA) (n:Nat) (w:Bool):Hp:=upd qZ b (some (.rows 3 [[.isl 4 (T.map gA.row), .int .i64 (n:Nat), .bool w]]))
theorem mM (b:Nat) (T:List gA) (n:Nat) (w:Bool):Dm b T n w b=some (.rows 3 [[.isl 4 (T.map gA.row), .int .i64 (n:Nat), .bool w]]):=bE _ _ _
theorem qR {b:Nat} {T:List gA} {n:Nat} {w:Bool} {H:Hp} (h:H b=some (.rows 3 [[.isl 4 (T.map gA.row), .int .i64 (n:Nat), .bool w]])):sR (Dm b T n w) H:=fun x o a=>by
 by_cases c:x=b
 ·subst c;rw[mM]at a;rw[h];exact a
 rw[Dm,cI _ _ c]at a;cases a
def pU {α:Type} (g:FuncId) (args:List AV) (b:Nat) (T:List gA) (n:Nat) (w:Bool) (f:α→AV) (r:PR α):Prop:=
 oN dV g (.ptr 3 b 0 0::args) (Dm b T n w) (fun ae H'=> ∃x n' w',ae= .ret (f x)∧H'=Dm b T n' w'∧kW w' n' (PR.ok x n')=r∧n≤n'∧n'≤T.length)
def Ob (g:FuncId) (args:List AV) (b:Nat) (T:List gA) (n:Nat) (w:Bool) (v:AV) (n':Nat) (w':Bool):Prop:=
 oN dV g (.ptr 3 b 0 0::args) (Dm b T n w) (fun ae H'=>ae= .ret v∧H'=Dm b T n' w')
theorem iN {d:Type} {b:Nat} {T:List gA} {e n:Nat} {w:Bool} {f:d→AV} {r:PR d} {v:AV} {H:Hp} {a:d} (o:H b=some (.rows 3 [[.isl 4 (T.map gA.row), .int .i64 (n:Nat), .bool w]])) (p:kW w n (PR.ok a n)=r) (t:Al.hP v (f a)) (k:e≤n) (l:n≤T.length):
  aY (fun j i=> ∃x c g,j= .ret (f x)∧i=Dm b T c g∧kW g c (PR.ok x c)=r∧e≤c∧c≤T.length) v H:=
 ⟨f a,Dm b T n w,(lN.sub t).trans (lN.drop (qR o)),a,n,w,rfl,rfl,p,k,l⟩
theorem V1 {j:Type} {b:Nat} {T:List gA} {t n:Nat} {w:Bool} {f:j→AV} {r:PR j} {v:AV} {H:Hp} {a:j} {sz:Nat} {rows:List (List AV)} (B:eB sz v rows H) (C:sz≠3) (g:H b=some (.rows 3 [[.isl 4 (T.map gA.row), .int .i64 (n:Nat), .bool w]])) (o:kW w n (PR.ok a n)=r) (p:Al.hP (.isl sz rows) (f a)) (k:t≤n) (l:n≤T.length):
  aY (fun z y=> ∃x d u,z= .ret (f x)∧y=Dm b T d u∧kW u d (PR.ok x d)=r∧t≤d∧d≤T.length) v H:=by
 rcases B with⟨rfl,rfl⟩|⟨c,rfl,i⟩
 ·exact iN g o (fun S w x h=>p _ _ _ (hP.nsl sz _ _ _ h)) k l
 have A:b≠c:=fun e=>by subst e;rw[g]at i;cases i;exact C rfl
 refine aY.turn (lN.freeze i (rU.osl c sz rows)) (iN (n:=n) ?_ o p k l);rw[cI _ _ A];exact g
theorem oH {b:Nat} {T:List gA} {a:Nat} {c:Bool} {v v':AV} {H:Hp} (f:H b=some (.rows 3 [[.isl 4 (T.map gA.row), .int .i64 (a:Nat), .bool c]])) (g:v=v'):aY (fun e d=>e= .ret v'∧d=Dm b T a c) v H:=by
 subst g;exact⟨v,_,lN.drop (qR f),rfl,rfl⟩
theorem xP (b:Nat) (T:List gA) (n a:Nat) (w c:Bool) (H:Hp):(lJ (Dm b T a c) (Dm b T n w) H) b=some (.rows 3 [[.isl 4 (T.map gA.row), .int .i64 (a:Nat), .bool c]])∧ ∀x o,x≠b→H x=some o→lJ (Dm b T a c) (Dm b T n w) H x=some o:=by
 refine⟨by simp only[lJ,mM],fun x o d h=>?_⟩;simp only[lJ,Dm,cI _ _ d,qZ,h,eQ,cH,dK]
theorem gO {F:Nat→Prop} {j:List (Option Nat)} {Q:fN} {d:Option Nat} {l:List Oper} {fr:Fr} {H:Hp} {g:FuncId} {i:List AV} {b:Nat} {T:List gA} {n a:Nat} {w e:Bool} {v:AV}
  (u:Ob g i b T n w v a e) (t:H b=some (.rows 3 [[.isl 4 (T.map gA.row), .int .i64 (n:Nat), .bool w]])) (p:F b)
  (y: ∀f,f b=some (.rows 3 [[.isl 4 (T.map gA.row), .int .i64 (a:Nat), .bool e]])→(∀x o,x≠b→H x=some o→f x=some o)→eI dV F j Q l (eW fr d v) f):qU dV F j Q d l fr H g (.ptr 3 b 0 0::i):=by
 refine nG u (fF.refl _) (qR t) (fun x k=>?_) fun B A z _=>?_
 ·by_cases c:x=b
  ·subst c;exact p
  rw[Dm,cI _ _ c]at k;exact absurd rfl k
 obtain⟨rfl,rfl⟩:=z;exact y _ (xP b T n a w e H).1 (xP b T n a w e H).2
theorem dW {u:Type} {F:Nat→Prop} {l:List (Option Nat)} {Q:fN} {d:Option Nat} {t:List Oper} {fr:Fr} {H:Hp} {g:FuncId} {k:List AV} {b:Nat} {T:List gA} {n:Nat} {w:Bool} {f:u→AV} {r:PR u}
  (C:pU g k b T n w f r) (B:H b=some (.rows 3 [[.isl 4 (T.map gA.row), .int .i64 (n:Nat), .bool w]])) (A:F b)
  (D: ∀a e i j,kW i e (PR.ok a e)=r→n≤e→e≤T.length→j b=some (.rows 3 [[.isl 4 (T.map gA.row), .int .i64 (e:Nat), .bool i]])→(∀x o,x≠b→H x=some o→j x=some o)→eI dV F l Q t (eW fr d (f a)) j):qU dV F l Q d t fr H g (.ptr 3 b 0 0::k):=by
 refine nG C (fF.refl _) (qR B) (fun x p=>?_) fun I G E _=>?_
 ·by_cases c:x=b
  ·subst c;exact A
  rw[Dm,cI _ _ c]at p;exact absurd rfl p
 obtain⟨x,e,i,rfl,rfl,v,y,z⟩:=E;exact D x e i _ v y z (xP b T n e w i H).1 (xP b T n e w i H).2
theorem Yo (c:Nat) (T:List gA) (n:Nat) (w:Bool) (j:n≤T.length):Ob 150 [] c T n w (.str (eD T n)) n w:=by
 unfold Ob;have b:=mM c T n w;by_cases g:n<T.length
 ·have d:=aF g
  generalize T[n]=t at d;have i:=IY d;have e:=OS d;have hd:decide ((n:Int)<(T.length:Int))=true:=cD (by omega);rw[i];refine bX 52 [.tmp 2] func150 ?_;refine aA fun K a=>?_;simp only[RR,seval];refine a _ _ (aI (aC fun K a=>?_));refine bB (fun x=>x≠c) [(0,3),(1,3),(2,3),(3,1),(4,3),(5,3),(6,3),(7,1),(8,3),(9,3),(10,3),(11,3),(12,3),(13,3),(14,1),(15,3),(16,3),(17,3),(18,1),(19,3),(20,3),(21,1),(22,3),(23,3),(24,3),(25,3),(26,3),(27,1),(28,3),(29,3),(30,3),(31,1),(32,3),(33,3),(34,1),(35,3),(36,3),(37,3)] [] eF (by kernel_rfl) rfl rfl ?_;simp only[dR,b,aE,e,hd,RR,seval]
  repeat' ((refine bZ (fun h=>?_) (fun h=>?_))<;>simp only[h,b,e,RR,seval])
  all_goals
   refine a _ _ (aU ?_ ?_)<;>intro f
   ·try (cases f;done)
    all_goals
     refine aC fun K a=>?_;refine bB (fun x=>x≠c) [(0,3),(1,3),(2,3),(3,1),(4,3),(5,3),(6,3),(7,1),(8,3),(9,3),(10,1),(11,3)] [] eF (by kernel_rfl) rfl rfl ?_;simp only[dR,b,e,RR,seval];apply a;refine aN ?_;simp only[aW,aJ,bN,RR,seval];refine oH b ?_;simp_all
   try (cases f;done)
   all_goals
    refine aK ?_;simp only[RR];refine aA fun K a=>?_;simp only[RR,seval];apply a;refine aN ?_;simp only[aW,aJ,bN,RR,seval];refine oH b ?_;simp_all
 have hd:decide ((n:Int)<(T.length:Int))=false:=bA (by omega);rw[Z7 g];refine bX 52 [.tmp 2] func150 ?_;refine aA fun K a=>?_;simp only[RR,seval];refine a _ _ (aI (aC fun K a=>?_));refine bB (fun x=>x≠c) [(0,3),(1,3),(2,3),(3,1),(4,3),(5,3),(6,3),(7,1),(8,3),(9,3),(10,3),(11,3),(12,3),(13,3),(14,1),(15,3),(16,3),(17,3),(18,1),(19,3),(20,3),(21,1),(22,3),(23,3),(24,3),(25,3),(26,3),(27,1),(28,3),(29,3),(30,3),(31,1),(32,3),(33,3),(34,1),(35,3),(36,3),(37,3)] [] eF (by kernel_rfl) rfl rfl ?_;simp only[dR,b,aE,hd,RR,seval]
 repeat' ((refine bZ (fun h=>?_) (fun h=>?_))<;>simp only[h,b,aE,hd,RR,seval])
 all_goals
  refine a _ _ (bL ?_);refine aK ?_;simp only[RR];refine aA fun K a=>?_;simp only[RR,seval];apply a;refine aN ?_;simp only[aW,aJ,bN,RR,seval];refine oH b ?_;rfl
theorem jZ (g:Nat) {T:List gA} (j:Sz T) (n:Nat) (w:Bool) (l:n≤T.length) (s:dC) (t:s≠[]):Ob 99 [.str s] g T n w (.bool (Pz T w n s)) (if Pz T w n s=true then n+1 else n) w:=by
 have d:=Yo g T n w l;have p:=j.len;unfold Ob;have b:=mM g T n w;have o:=Tu (n:=n) (by omega);by_cases c:Pz T w n s=true
 ·obtain⟨rfl,f⟩:=KC c
  rw[bH c,c];rw[f]at d;refine bX 23 [.tmp 4] func99 ?_;refine aA fun K a=>?_;simp only[RR,seval];refine a _ _ (aI (aA fun K a=>?_));simp only[b,RR,seval];refine gO (d) b trivial fun i e k=>?_;have b:=e;simp only[RR,seval];refine a _ _ (cR (aA fun K a=>?_));simp only[b,o,RR,seval];refine a _ _ (aA fun K a=>?_);simp only[RR,seval];apply a;refine aN ?_;simp only[aW,aJ,bN,RR,seval];refine oH (by(simp only[aT,seval];done)) ?_;rfl
 have c:=dQ.2 c;rw[aL (dQ.1 c),c]
 cases w with
 |true=>
  refine bX 23 [.tmp 4] func99 ?_;refine aA fun K a=>?_;simp only[RR,seval];refine a _ _ (aI (aA fun K a=>?_));simp only[b,RR,seval];refine a _ _ (bL ?_);refine aK ?_;simp only[RR];refine aA fun K a=>?_;simp only[RR,seval];apply a;refine aN ?_;simp only[aW,aJ,bN,RR,seval];refine oH b ?_;rfl
 |false=>
  have f:decide (eD T n=s)=false:=by simpa [Pz]using c
  refine bX 23 [.tmp 4] func99 ?_;refine aA fun K a=>?_;simp only[RR,seval];refine a _ _ (aI (aA fun K a=>?_));simp only[b,RR,seval];refine gO (d) b trivial fun i e k=>?_;have b:=e;simp only[f,RR,seval];refine a _ _ (bL ?_);refine aK ?_;simp only[RR];refine aA fun K a=>?_;simp only[RR,seval];apply a;refine aN ?_;simp only[aW,aJ,bN,RR,seval];refine oH b ?_;rfl
theorem fM (e:Nat) {T:List gA} (j:Sz T) (n:Nat) (w:Bool) (f:n≤T.length) (s:dC) (g:s≠[]):pU 101 [.str s] e T n w (fun _=> .tup []) (kW w n (fE T s n)):=by
 have k:=jZ e j n w f s g;unfold pU;generalize b:kW w n (fE T s n)=o;unfold fE at b;have d:=mM e T n w;refine bX 11 [] func101 ?_;refine aA fun K i=>?_;simp only[RR,seval];refine gO (k) d trivial fun p l t=>?_;have d:=l;simp only[RR,seval];refine i _ _ (aU ?_ ?_)<;>intro c
 ·simp only[dE]at c
  have b:=rM c b;rw[aL (dQ.1 c)]at d
  have b:kW true n (PR.ok () n)=o:=by
   rw[←b];cases w<;>rfl
  refine aG ?_;simp only[d,RR,seval];simp only[aW,aJ,bN,seval];exact iN (a:=()) (n:=n) (by(simp only[aT,seval];done)) b (hP.refl _) (bI _) f
 simp only[Br]at c;have b:=rL c b;rw[bH c]at d;have u:=jP c (by assumption);have v:=jP c g;refine aK ?_;simp only[];simp only[aW,aJ,bN,seval];exact iN (a:=()) (n:=n+1) d b (hP.refl _) (by omega) (by omega)
theorem Py (c:Nat) (T:List gA) (n:Nat) (w:Bool) (j:n≤T.length) (k:Int) (g:k≠0):Ob 151 [.int .i64 k] c T n w (.bool (D3 T w n k)) n w:=by
 unfold Ob;have b:=mM c T n w
 cases w with
 |true=>
  have e:D3 T true n k=false:=rfl;rw[e];refine bX 37 [.tmp 4] func151 ?_;refine aA fun K a=>?_;simp only[RR,seval];refine a _ _ (aC fun K a=>?_);refine bB (fun x=>x≠c) [(0,3),(1,3),(2,3),(3,1),(4,3),(5,3),(6,3),(7,3),(8,3),(9,1),(10,3),(11,3),(12,3),(13,1),(14,3),(15,3),(16,3),(17,3),(18,3),(19,3),(20,3),(21,1),(22,3),(23,3),(24,3),(25,1),(26,3),(27,3),(28,1),(29,3),(30,3),(31,3),(32,3)] [] eF (by kernel_rfl) rfl rfl ?_;simp only[dR,b,RR,seval];apply a;refine aN ?_;simp only[aW,aJ,bN,RR,seval];refine oH b ?_;rfl
 |false=>
  by_cases i:n<T.length
  ·have d:=aF i
   generalize T[n]=t at d;have f:=OS d;have hd:decide ((n:Int)<(T.length:Int))=true:=cD (by omega);have e:D3 T false n k=decide (t.kind=k):=by simp [D3,nP,d]
   rw[e];refine bX 37 [.tmp 4] func151 ?_;refine aA fun K a=>?_;simp only[RR,seval];refine a _ _ (aC fun K a=>?_);refine bB (fun x=>x≠c) [(0,3),(1,3),(2,3),(3,1),(4,3),(5,3),(6,3),(7,3),(8,3),(9,1),(10,3),(11,3),(12,3),(13,1),(14,3),(15,3),(16,3),(17,3),(18,3),(19,3),(20,3),(21,1),(22,3),(23,3),(24,3),(25,1),(26,3),(27,3),(28,1),(29,3),(30,3),(31,3),(32,3)] [] eF (by kernel_rfl) rfl rfl ?_;simp only[dR,b,aE,f,hd,RR,seval];apply a;refine aN ?_;simp only[aW,aJ,bN,RR,seval];refine oH b ?_;rfl
  have hd:decide ((n:Int)<(T.length:Int))=false:=bA (by omega)
  have e:D3 T false n k=false:=by
   have :nP T n=0:=by rw[nP,dS (by omega)]
   simp [D3,this,Ne.symm g]
  rw[e];refine bX 37 [.tmp 4] func151 ?_;refine aA fun K a=>?_;simp only[RR,seval];refine a _ _ (aC fun K a=>?_);refine bB (fun x=>x≠c) [(0,3),(1,3),(2,3),(3,1),(4,3),(5,3),(6,3),(7,3),(8,3),(9,1),(10,3),(11,3),(12,3),(13,1),(14,3),(15,3),(16,3),(17,3),(18,3),(19,3),(20,3),(21,1),(22,3),(23,3),(24,3),(25,1),(26,3),(27,3),(28,1),(29,3),(30,3),(31,3),(32,3)] [] eF (by kernel_rfl) rfl rfl ?_;simp only[dR,b,aE,hd,RR,seval];apply a;refine aN ?_;simp only[aW,aJ,bN,RR,seval];refine oH b ?_;rfl
theorem oO (v:Nat) {T:List gA} (D:Sz T) (n:Nat) (w:Bool) (A:n≤T.length) (k:Int) (z:k≠0):pU 102 [.int .i64 k] v T n w (fun t:gA=> .agg [.int .i64 t.kind, .str t.text, .int .u32 t.num, .int .i64 t.pos]) (kW w n (kG T k n)):=by
 have i:=Py v T n w A k z;have H:=D.len;unfold pU;have c:=mM v T n w
 cases hik:D3 T w n k with
 |false=>
  rw[hik]at i
  have u:kW true n (PR.ok kD n)=kW w n (kG T k n):=by
   cases w with
   |true=>rfl
   |false=>
    have B: ¬nP T n=k:=by simpa [D3]using hik
    show PR.bad n=kG T k n;rw[kG]
    cases d:T[n]? with
    |none=>rfl
    |some t=>
     rw[nP,d]at B;exact(aL B).symm
  refine bX 31 [.cell 4 159] func102 ?_;refine aA fun K b=>?_;simp only[RR,seval];refine aM fun g o=>?_;have e:=cY o c;have f:=e.symm;simp only[RR,seval];refine b _ _ (aI (aA fun K b=>?_));simp only[RR,seval];refine gO (i) (by(simp only[c,f,aT,seval];done)) trivial fun C p j=>?_;have y:=j g _ e (bE _ _ _);have c:=p;simp only[RR,seval];refine b _ _ (cR (aA fun K b=>?_));simp only[c,RR,seval];refine b _ _ (aA fun K b=>?_);simp only[y,e,RR,seval];apply b;refine aN ?_;simp only[aW,aJ,bN,RR,seval];refine iN (a:=kD) (n:=n) (by(simp only[f,aT,seval];done)) u ?_ (bI _) A;exact hP.refl _
 |true=>
  obtain⟨rfl,l⟩:=RV hik;rw[hik]at i;have E:=OH l z;have d:=aF E;generalize T[n]=t at d;have G:=OS d
  have u:kW false (n+1) (PR.ok t (n+1))=kW false n (kG T k n):=by
   show PR.ok t (n+1)=kG T k n;rw[kG,d];rw[nP,d]at l;exact(bH l).symm
  have F:=Tu (n:=n) (by omega);have J:IntKind.wrap .i64 (((n+1:Nat):Int)- 1)=(n:Int):=by rw[aS _ (by omega)];omega
  have I:(n:Int)<(T.length:Int):=by omega
  refine bX 31 [.cell 4 159] func102 ?_;refine aA fun K b=>?_;simp only[RR,seval];refine aM fun g o=>?_;have e:=cY o c;have f:=e.symm;simp only[RR,seval];refine b _ _ (aI (aA fun K b=>?_));simp only[RR,seval];refine gO (i) (by(simp only[c,f,aT,seval];done)) trivial fun C p j=>?_;have y:=j g _ e (bE _ _ _);have c:=p;simp only[RR,seval];refine b _ _ (bL ?_);refine aK ?_;simp only[RR];refine aA fun K b=>?_;simp only[c,F,RR,seval];refine b _ _ (aC fun K b=>?_);refine bB (fun x=>x≠g) [(0,3),(1,3),(2,3),(3,1),(4,3),(5,3),(6,3),(7,1),(8,3),(9,3),(10,1)] [(11,1)] eF (by kernel_rfl) rfl rfl ?_;simp only[*,dR,RR,seval];apply b;refine aN ?_;simp only[aW,aJ,bN,RR,seval];refine iN (a:=t) (n:=n+1) (by(simp only[f,aT,seval];done)) u ?_ (by omega) (by omega);exact hP.refl _
def B5 {α:Type} (g:FuncId) (args:List AV) (b:Nat) (T:List gA) (n:Nat) (w:Bool) (f:α→AV) (r:PR α) (G:α→Nat→Prop):Prop:=
 oN dV g (.ptr 3 b 0 0::args) (Dm b T n w) (fun ae H'=> ∃x n' w',ae= .ret (f x)∧H'=Dm b T n' w'∧kW w' n' (PR.ok x n')=r∧n≤n'∧n'≤T.length∧G x n')
theorem B5.jcon {a:Type} {g:FuncId} {c:List AV} {b:Nat} {T:List gA} {n:Nat} {w:Bool} {f:a→AV} {r:PR a} {G:a→Nat→Prop} (h:B5 g c b T n w f r G):pU g c b T n w f r:=
 oN.mono h fun _ _ ⟨x,l,o,d,e,i,j,k,_⟩=>⟨x,l,o,d,e,i,j,k⟩
theorem W8 {k:Type} {F:Nat→Prop} {p:List (Option Nat)} {Q:fN} {d:Option Nat} {u:List Oper} {fr:Fr} {H:Hp} {g:FuncId} {l:List AV} {b:Nat} {T:List gA} {n:Nat} {w:Bool} {f:k→AV} {r:PR k} {G:k→Nat→Prop}
  (D:B5 g l b T n w f r G) (C:H b=some (.rows 3 [[.isl 4 (T.map gA.row), .int .i64 (n:Nat), .bool w]])) (B:F b)
  (E: ∀a e i j,kW i e (PR.ok a e)=r→n≤e→e≤T.length→G a e→j b=some (.rows 3 [[.isl 4 (T.map gA.row), .int .i64 (e:Nat), .bool i]])→(∀x o,x≠b→H x=some o→j x=some o)→eI dV F p Q u (eW fr d (f a)) j):qU dV F p Q d u fr H g (.ptr 3 b 0 0::l):=by
 refine nG D (fF.refl _) (qR C) (fun x t=>?_) fun K J I _=>?_
 ·by_cases c:x=b
  ·subst c;exact B
  rw[Dm,cI _ _ c]at t;exact absurd rfl t
 obtain⟨x,e,i,rfl,rfl,v,y,z,A⟩:=I;exact E x e i _ v y z A (xP b T n e w i H).1 (xP b T n e w i H).2
theorem OJ {g:Type} {b:Nat} {T:List gA} {u n:Nat} {w:Bool} {f:g→AV} {r:PR g} {v:AV} {H:Hp} {a:g} {sz:Nat} {rows:List (List AV)} {G:g→Nat→Prop} (C:eB sz v rows H) (D:sz≠3) (i:H b=some (.rows 3 [[.isl 4 (T.map gA.row), .int .i64 (n:Nat), .bool w]])) (p:kW w n (PR.ok a n)=r) (t:Al.hP (.isl sz rows) (f a)) (k:u≤n) (l:n≤T.length) (o:G a n):
  aY (fun A z=> ∃x d y,A= .ret (f x)∧z=Dm b T d y∧kW y d (PR.ok x d)=r∧u≤d∧d≤T.length∧G x d) v H:=by
 rcases C with⟨rfl,rfl⟩|⟨c,rfl,j⟩
 ·exact⟨f a,Dm b T n w,(lN.sub (fun S w x h=>t _ _ _ (hP.nsl sz _ _ _ h))).trans (lN.drop (qR i)),a,n,w,rfl,rfl,p,k,l,o⟩
 have B:b≠c:=fun e=>by subst e;rw[i]at j;cases j;exact D rfl
 refine aY.turn (lN.freeze j (rU.osl c sz rows)) ⟨f a,Dm b T n w,(lN.sub t).trans (lN.drop (qR ?_)),a,n,w,rfl,rfl,p,k,l,o⟩;rw[cI _ _ B];exact i
theorem wL (e:Nat) {T:List gA} (t:Sz T) (n:Nat) (w:Bool) (hn:n≤T.length):B5 100 [] e T n w strs (kW w n (pD T n)) (fun l m=>l.length≤m+1):=by
 unfold B5;generalize c:kW w n (pD T n)=b0;have b4:=t.len;unfold pD at c;have b:=mM e T n w;refine bX 17 [.tmp 2] func100 ?_;refine aA fun K f=>?_;simp only[RR,seval];refine f _ _ (aA fun K f=>?_);simp only[RR,seval];refine dW (oO e t n w hn 1 (by decide)) b trivial fun A H w5 M1 U Y a0 a2 b2=>?_;have c:=dH c U;have b:=a2;simp only[RR,seval];refine wW fun B a3=>?_;have a8:=cY a3 b;have a9:=a8.symm;simp only[RR,seval];refine f _ _ (aI (bM fun J L y C=>?_));have o:=y 0;have x:=y 2;have i:=y 3;have p:=C e;have D:=C B;simp only[b,a9,RR,seval]at o x i p D;have b:=p;have d:eB 1 (J 3) ([A.text].map bQ) L:= .inr ⟨B,i,D⟩;refine aP (iV [0,2] (T.length-H) (fun k P M=>(∃(m:Nat) (w:Bool) (g:List dC),k=T.length-m∧n≤m∧m≤T.length∧g.length≤m+1∧kW w m (VE T g m)=b0∧eB 1 (P 3) (g.map bQ) M∧M e=some (.rows 3 [[.isl 4 (T.map gA.row), .int .i64 (m:Nat), .bool w]]))) ⟨H,w5,[A.text],rfl,Y,a0,by simp,c,d,b⟩ ?_);rintro k z M3 ⟨m,I,g,rfl,a6,F,R,c,d,b⟩ u K0 Q;have o:=(u 0 rfl).trans o;have x:=(u 2 rfl).trans x;have O:=aX.refl [0,2] z;clear u;obtain⟨v3,i⟩: ∃v,z 3=v:=⟨_,rfl⟩;rw[i]at d;rw[TP]at c;refine aI (aA fun K f=>?_);simp only[o,RR,seval];refine gO (jZ e t m I F [44] (by decide)) b trivial fun M4 a4 X=>?_;have d:=eB.kp d b (by decide) X;have b:=a4;simp only[RR,seval];refine f _ _ (aU ?_ ?_)<;>intro E
 ·have j:=E
  have c:=rL j c;rw[bH j]at b;have b5:=jP j (by decide);refine aK ?_;simp only[RR];refine aP (aG ?_);simp only[o,i,RR,seval];refine dW (oO e t (m+1) I (by omega) 1 (by decide)) b trivial fun N G b1 M5 S b3 Z a1 W=>?_;have c:=dH c S;have d:=eB.kp d b (by decide) W;have b:=a1;simp only[RR,seval];refine eG ?_;simp only[RR,seval];refine jF d (by simp only[aE,aQ,aV];omega) (fun _=>trivial) fun v3 M6 a7 V=>?_;simp only[RR,seval];have p:=V e _ b (by exact(d).nb' b (by decide));have b:=p;refine Q (T.length-G) _ _ (by omega) ⟨G,b1,g++[N.text],rfl,by omega,Z,by simp only[aH,aQ,aV];omega,c,by rw[cO];exact a7,by exact b⟩ (by repeat (first|exact O|refine aX.upd rfl ?_))
 have j:=E;have c:=rM j c;rw[aL (dQ.1 j)]at b;refine cF ?_;simp only[RR,seval];refine aA fun K f=>?_;simp only[i,RR,seval];apply f;refine aN ?_;simp only[aW,aJ,bN,RR,seval];refine OJ (a:=g) d (by decide) b c ?_ a6 F R;exact hP.refl _
theorem J6 (a:Nat) {T:List gA} (b:Sz T) (n:Nat) (w:Bool) (c:n≤T.length):pU 100 [] a T n w strs (kW w n (pD T n)):=(wL a b n w c).jcon
theorem Rr (s:dC):eN dV 226 [.str s] (.int .i64 ((Ei s).2.2:Nat)):=by
 generalize b:Ei s=r;unfold Ei VA at b;simp only[Np]at b;refine bX 27 [.tmp 2] func226 ?_;refine aA fun K a=>?_;simp only[RR,seval];refine a _ _ (aI (aA fun K a=>?_));simp only[RR,seval];refine a _ _ (aP (aA fun K a=>?_));simp only[RR,seval];refine a _ _ (aU ?_ ?_)<;>intro O
 ·rw[bH (aB O)]at b
  refine aA fun K a=>?_;simp only[RR,seval];apply a;refine aN ?_;simp only[aW,aJ,bN,RR,seval];refine aY.pure ?_
  (subst b;rfl)
 rw[aL (aD O)]at b;refine aA fun K a=>?_;simp only[RR,seval];refine a _ _ (aU ?_ ?_)<;>intro P
 ·rw[bH (aB P)]at b
  refine aA fun K a=>?_;simp only[RR,seval];apply a;refine aN ?_;simp only[aW,aJ,bN,RR,seval];refine aY.pure ?_
  (subst b;rfl)
 rw[aL (aD P)]at b;refine aA fun K a=>?_;simp only[RR,seval];refine a _ _ (aU ?_ ?_)<;>intro Q
 ·rw[bH (aB Q)]at b
  refine aA fun K a=>?_;simp only[RR,seval];apply a;refine aN ?_;simp only[aW,aJ,bN,RR,seval];refine aY.pure ?_
  (subst b;rfl)
 rw[aL (aD Q)]at b;refine aA fun K a=>?_;simp only[RR,seval];refine a _ _ (aU ?_ ?_)<;>intro R
 ·rw[bH (aB R)]at b
  refine aA fun K a=>?_;simp only[RR,seval];apply a;refine aN ?_;simp only[aW,aJ,bN,RR,seval];refine aY.pure ?_
  (subst b;rfl)
 rw[aL (aD R)]at b;refine aI (aA fun K a=>?_);simp only[RR,seval];refine a _ _ (bM fun B M1 f u=>?_);have e:=f 2;have d:=f 3;have l:=f 12;simp only[RR,seval]at e d l;refine fQ (fun i M=>aX [2,3] B i∧i 12= .bool (decide (s=[124]∨s=[94]))) (fun a0 I=>?_) ?_
 ·have F:=aX.refl [2,3] B
  refine dN _ l (fun S=>?_) (fun S=>?_)
  ·refine aK ?_;try simp only[RR]
   refine I _ _ ⟨(by repeat (exact F)), ?_⟩;simp_all
  refine aG ?_;simp only[d,RR,seval];refine I _ _ ⟨(by repeat (first|exact F|refine aX.upd rfl ?_)), ?_⟩
  (simp only[aT,seval];simp_all;done)
 rintro X M2 ⟨g,l⟩;have e:=(g 2 rfl).trans e;have d:=(g 3 rfl).trans d;clear g;simp only[RR,seval];refine dN _ l (fun x=>?_) (fun x=>?_)
 ·have c:=aB x
  refine aA fun K a=>?_;simp only[RR,seval];apply a;refine aN ?_;simp only[aW,aJ,bN,RR,seval];refine aY.pure ?_
  (rcases c with rfl|rfl<;>(simp at b;subst b;rfl))
 have c:=aD x;simp only[not_or]at c;rw[aL c.1,aL c.2]at b;refine aA fun K a=>?_;simp only[d,RR,seval];refine a _ _ (aU ?_ ?_)<;>intro N
 ·rw[bH (aB N)]at b
  refine aA fun K a=>?_;simp only[RR,seval];apply a;refine aN ?_;simp only[aW,aJ,bN,RR,seval];refine aY.pure ?_
  (subst b;rfl)
 rw[aL (aD N)]at b;refine aI (aA fun K a=>?_);simp only[d,RR,seval];refine a _ _ (bM fun C M3 f u=>?_);have j:=f 2;have k:=f 3;have n:=f 17;simp only[e,d,RR,seval]at j k n;have e:=j;have d:=k;refine fQ (fun i M=>aX [2,3] C i∧i 17= .bool (decide (s=[60,60]∨s=[62,62]))) (fun a1 J=>?_) ?_
 ·have G:=aX.refl [2,3] C
  refine dN _ n (fun T=>?_) (fun T=>?_)
  ·refine aK ?_;try simp only[RR]
   refine J _ _ ⟨(by repeat (exact G)), ?_⟩;simp_all
  refine aG ?_;simp only[d,RR,seval];refine J _ _ ⟨(by repeat (first|exact G|refine aX.upd rfl ?_)), ?_⟩
  (simp only[aT,seval];simp_all;done)
 rintro Y M4 ⟨g,n⟩;have e:=(g 2 rfl).trans e;have d:=(g 3 rfl).trans d;clear g;simp only[RR,seval];refine dN _ n (fun y=>?_) (fun y=>?_)
 ·have c:=aB y
  refine aA fun K a=>?_;simp only[RR,seval];apply a;refine aN ?_;simp only[aW,aJ,bN,RR,seval];refine aY.pure ?_
  (rcases c with rfl|rfl<;>(simp at b;subst b;rfl))
 have c:=aD y;simp only[not_or]at c;rw[aL c.1,aL c.2]at b;refine aI (aA fun K a=>?_);simp only[d,RR,seval];refine a _ _ (bM fun D M5 f u=>?_);have j:=f 2;have k:=f 3;have o:=f 20;simp only[e,d,RR,seval]at j k o;have e:=j;have d:=k;refine fQ (fun i M=>aX [2,3] D i∧i 20= .bool (decide (s=[43]∨s=[45]))) (fun a2 L=>?_) ?_
 ·have H:=aX.refl [2,3] D
  refine dN _ o (fun U=>?_) (fun U=>?_)
  ·refine aK ?_;try simp only[RR]
   refine L _ _ ⟨(by repeat (exact H)), ?_⟩;simp_all
  refine aG ?_;simp only[d,RR,seval];refine L _ _ ⟨(by repeat (first|exact H|refine aX.upd rfl ?_)), ?_⟩
  (simp only[aT,seval];simp_all;done)
 rintro Z M6 ⟨g,o⟩;have e:=(g 2 rfl).trans e;have d:=(g 3 rfl).trans d;clear g;simp only[RR,seval];refine dN _ o (fun z=>?_) (fun z=>?_)
 ·have c:=aB z
  refine aA fun K a=>?_;simp only[RR,seval];apply a;refine aN ?_;simp only[aW,aJ,bN,RR,seval];refine aY.pure ?_
  (rcases c with rfl|rfl<;>(simp at b;subst b;rfl))
 have c:=aD z;simp only[not_or]at c;rw[aL c.1,aL c.2]at b;refine aI (aA fun K a=>?_);simp only[d,RR,seval];refine a _ _ (bM fun E M7 f u=>?_);have j:=f 2;have k:=f 3;have p:=f 23;simp only[e,d,RR,seval]at j k p;have e:=j;have d:=k;refine fQ (fun i M=>aX [2] E i∧i 23= .bool (decide (s=[42]∨s=[47]∨s=[37]))) (fun a3 v=>?_) ?_
 ·have t:=aX.refl [2] E
  refine dN _ p (fun V=>?_) (fun V=>?_)
  ·refine aK ?_;try simp only[RR]
   refine v _ _ ⟨(by repeat (exact t)), ?_⟩;simp_all
  refine aA fun K a=>?_;simp only[d,RR,seval];refine a _ _ (dN _ (by rfl) (fun W=>?_) (fun W=>?_))
  ·refine aK ?_;try simp only[RR]
   refine v _ _ ⟨(by repeat (first|exact t|refine aX.upd rfl ?_)), ?_⟩
   (simp only[aT,seval];simp_all;done)
  refine aG ?_;simp only[d,RR,seval];refine v _ _ ⟨(by repeat (first|exact t|refine aX.upd rfl ?_)), ?_⟩
  (simp only[aT,seval];simp_all;done)
 rintro F8 M8 ⟨g,p⟩;have e:=(g 2 rfl).trans e;clear g;simp only[RR,seval];refine dN _ p (fun A=>?_) (fun A=>?_)
 ·have c:=aB A
  refine aA fun K a=>?_;simp only[RR,seval];apply a;refine aN ?_;simp only[aW,aJ,bN,RR,seval];refine aY.pure ?_
  (rcases c with rfl|rfl|rfl<;>(simp at b;subst b;rfl))
 have c:=aD A;simp only[not_or]at c;rw[aL c.1,aL c.2.1,aL c.2.2]at b;refine aK ?_;simp only[RR];refine aA fun K a=>?_;simp only[RR,seval];apply a;refine aN ?_;simp only[aW,aJ,bN,RR,seval];refine aY.pure ?_
 (subst b;rfl)
theorem KA (s:dC) (a b:Ex) (hs:(Ei s).2.2≠0):eN dV 227 [.str s,oI a,oI b] (oI (Ja s a b)):=by
 have hj:oI (Ja s a b)= .agg [.int .i64 (Ei s).1, .int .i64 (Ei s).2.1, .int .u32 0, .str [], .isl 5 [[.int .i64 a.kind, .int .i64 a.op, .int .u32 a.num, .str a.name, .isl 5 (a.kids.map Ex.row)],[.int .i64 b.kind, .int .i64 b.op, .int .u32 b.num, .str b.name, .isl 5 (b.kids.map Ex.row)]]]:=by
  simp only[oI,Ja,Ex.kind,Ex.op,Ex.num,Ex.name,Ex.kids,cN,dO,Ex.row_eq]
 rw[hj];generalize d:Ei s=r at hs⊢;unfold Ei VA at d;simp only[Np]at d;simp only[oI];refine bX 54 [.cell 6 62] func227 ?_;refine aA fun K f=>?_;simp only[RR,seval];refine aM fun u c0=>?_;simp only[RR,seval];refine aM fun v a1=>?_;have a6:v≠u:=fun e=>by rw[e]at a1;simp only[RR,seval,reduceCtorEq]at a1
 have E:=a6.symm;simp only[RR,seval];refine aM fun x D=>?_;have a7:x≠u:=fun e=>by rw[e]at D;simp only[E,RR,seval,reduceCtorEq]at D
 have J:=a7.symm;have a8:x≠v:=fun e=>by rw[e]at D;simp only[RR,seval,reduceCtorEq]at D
 have L:=a8.symm;simp only[RR,seval];refine f _ _ (aA fun K f=>?_);simp only[E,J,L,RR,seval];refine eG ?_;simp only[RR,seval];refine aM fun z y=>?_;have a9:z≠u:=fun e=>by rw[e]at y;simp only[E,J,RR,seval,reduceCtorEq]at y
 have j:=a9.symm;have b0:z≠v:=fun e=>by rw[e]at y;simp only[L,RR,seval,reduceCtorEq]at y
 have k:=b0.symm;have b1:z≠x:=fun e=>by rw[e]at y;simp only[RR,seval,reduceCtorEq]at y
 have l:=b1.symm;simp only[RR,seval];refine f _ _ (aI (aA fun K f=>?_));simp only[RR,seval];refine f _ _ (bM fun N t I B=>?_);have A:=I 6;have g:=I 7;have o:=I 12;have G:=B u;have H:=B v;have C:=B x;have i:=B z;simp only[E,J,L,j,k,l,RR,seval]at A g o G H C i;refine fQ (fun fr M=>aX [6,7] N fr∧M u=t u∧M v=t v∧M x=t x∧M z=some (.rows 5 [[.int .i64 r.1, .int .i64 r.2.1, .int .u32 0, .str [], .isl 5 [[.int .i64 a.kind, .int .i64 a.op, .int .u32 a.num, .str a.name, .isl 5 (a.kids.map Ex.row)],[.int .i64 b.kind, .int .i64 b.op, .int .u32 b.num, .str b.name, .isl 5 (b.kids.map Ex.row)]]]])) (fun b2 p=>?_) ?_
 ·have n:=aX.refl [6,7] N
  have b3:t u=t u:=rfl;have b8:t v=t v:=rfl;have b9:t x=t x:=rfl;refine aP (aA fun K f=>?_);simp only[o,RR,seval];refine f _ _ (aU ?_ ?_)<;>intro Y
  ·rw[bH (aB Y)]at d
   refine aG ?_;simp only[g,i,RR,seval];refine p _ _ ⟨(by repeat (first|exact n|refine aX.upd rfl ?_)),(by(simp only[j,aT,seval];done)),(by(simp only[k,aT,seval];done)),(by(simp only[l,aT,seval];done)), ?_⟩;subst d;exact bE _ _ _
  rw[aL (aD Y)]at d;refine aA fun K f=>?_;simp only[o,RR,seval];refine f _ _ (aU ?_ ?_)<;>intro Z
  ·rw[bH (aB Z)]at d
   refine aG ?_;simp only[g,i,RR,seval];refine p _ _ ⟨(by repeat (first|exact n|refine aX.upd rfl ?_)),(by(simp only[j,aT,seval];done)),(by(simp only[k,aT,seval];done)),(by(simp only[l,aT,seval];done)), ?_⟩;subst d;exact bE _ _ _
  rw[aL (aD Z)]at d;refine aA fun K f=>?_;simp only[o,RR,seval];refine f _ _ (aU ?_ ?_)<;>intro a0
  ·rw[bH (aB a0)]at d
   refine aG ?_;simp only[g,i,RR,seval];refine p _ _ ⟨(by repeat (first|exact n|refine aX.upd rfl ?_)),(by(simp only[j,aT,seval];done)),(by(simp only[k,aT,seval];done)),(by(simp only[l,aT,seval];done)), ?_⟩;subst d;exact bE _ _ _
  rw[aL (aD a0)]at d;refine aA fun K f=>?_;simp only[o,RR,seval];refine f _ _ (aU ?_ ?_)<;>intro O
  ·rw[bH (aB O)]at d
   refine aG ?_;simp only[g,i,RR,seval];refine p _ _ ⟨(by repeat (first|exact n|refine aX.upd rfl ?_)),(by(simp only[j,aT,seval];done)),(by(simp only[k,aT,seval];done)),(by(simp only[l,aT,seval];done)), ?_⟩;subst d;exact bE _ _ _
  rw[aL (aD O)]at d;refine aA fun K f=>?_;simp only[o,RR,seval];refine f _ _ (aU ?_ ?_)<;>intro P
  ·rw[bH (aB P)]at d
   refine aG ?_;simp only[g,i,RR,seval];refine p _ _ ⟨(by repeat (first|exact n|refine aX.upd rfl ?_)),(by(simp only[j,aT,seval];done)),(by(simp only[k,aT,seval];done)),(by(simp only[l,aT,seval];done)), ?_⟩;subst d;exact bE _ _ _
  rw[aL (aD P)]at d;refine aA fun K f=>?_;simp only[o,RR,seval];refine f _ _ (aU ?_ ?_)<;>intro Q
  ·rw[bH (aB Q)]at d
   refine aG ?_;simp only[g,i,RR,seval];refine p _ _ ⟨(by repeat (first|exact n|refine aX.upd rfl ?_)),(by(simp only[j,aT,seval];done)),(by(simp only[k,aT,seval];done)),(by(simp only[l,aT,seval];done)), ?_⟩;subst d;exact bE _ _ _
  rw[aL (aD Q)]at d;refine aA fun K f=>?_;simp only[o,RR,seval];refine f _ _ (aU ?_ ?_)<;>intro R
  ·rw[bH (aB R)]at d
   refine aG ?_;simp only[g,i,RR,seval];refine p _ _ ⟨(by repeat (first|exact n|refine aX.upd rfl ?_)),(by(simp only[j,aT,seval];done)),(by(simp only[k,aT,seval];done)),(by(simp only[l,aT,seval];done)), ?_⟩;subst d;exact bE _ _ _
  rw[aL (aD R)]at d;refine aA fun K f=>?_;simp only[o,RR,seval];refine f _ _ (aU ?_ ?_)<;>intro S
  ·rw[bH (aB S)]at d
   refine aG ?_;simp only[g,i,RR,seval];refine p _ _ ⟨(by repeat (first|exact n|refine aX.upd rfl ?_)),(by(simp only[j,aT,seval];done)),(by(simp only[k,aT,seval];done)),(by(simp only[l,aT,seval];done)), ?_⟩;subst d;exact bE _ _ _
  rw[aL (aD S)]at d;refine aA fun K f=>?_;simp only[o,RR,seval];refine f _ _ (aU ?_ ?_)<;>intro T
  ·rw[bH (aB T)]at d
   refine aG ?_;simp only[g,i,RR,seval];refine p _ _ ⟨(by repeat (first|exact n|refine aX.upd rfl ?_)),(by(simp only[j,aT,seval];done)),(by(simp only[k,aT,seval];done)),(by(simp only[l,aT,seval];done)), ?_⟩;subst d;exact bE _ _ _
  rw[aL (aD T)]at d;refine aA fun K f=>?_;simp only[o,RR,seval];refine f _ _ (aU ?_ ?_)<;>intro U
  ·rw[bH (aB U)]at d
   refine aG ?_;simp only[g,i,RR,seval];refine p _ _ ⟨(by repeat (first|exact n|refine aX.upd rfl ?_)),(by(simp only[j,aT,seval];done)),(by(simp only[k,aT,seval];done)),(by(simp only[l,aT,seval];done)), ?_⟩;subst d;exact bE _ _ _
  rw[aL (aD U)]at d;refine aA fun K f=>?_;simp only[o,RR,seval];refine f _ _ (aU ?_ ?_)<;>intro V
  ·rw[bH (aB V)]at d
   refine aG ?_;simp only[g,i,RR,seval];refine p _ _ ⟨(by repeat (first|exact n|refine aX.upd rfl ?_)),(by(simp only[j,aT,seval];done)),(by(simp only[k,aT,seval];done)),(by(simp only[l,aT,seval];done)), ?_⟩;subst d;exact bE _ _ _
  rw[aL (aD V)]at d;refine aA fun K f=>?_;simp only[o,RR,seval];refine f _ _ (aU ?_ ?_)<;>intro W
  ·rw[bH (aB W)]at d
   refine aG ?_;simp only[g,i,RR,seval];refine p _ _ ⟨(by repeat (first|exact n|refine aX.upd rfl ?_)),(by(simp only[j,aT,seval];done)),(by(simp only[k,aT,seval];done)),(by(simp only[l,aT,seval];done)), ?_⟩;subst d;exact bE _ _ _
  rw[aL (aD W)]at d;refine aA fun K f=>?_;simp only[o,RR,seval];refine f _ _ (aU ?_ ?_)<;>intro X
  ·rw[bH (aB X)]at d
   refine aG ?_;simp only[g,i,RR,seval];refine p _ _ ⟨(by repeat (first|exact n|refine aX.upd rfl ?_)),(by(simp only[j,aT,seval];done)),(by(simp only[k,aT,seval];done)),(by(simp only[l,aT,seval];done)), ?_⟩;subst d;exact bE _ _ _
  rw[aL (aD X)]at d
  have a5:s=[37]:=by
   by_cases c:s=[37]
   ·exact c
   rw[aL c]at d;subst d;exact absurd rfl hs
  rw[bH a5]at d;refine aG ?_;simp only[g,i,RR,seval];refine p _ _ ⟨(by repeat (first|exact n|refine aX.upd rfl ?_)),(by(simp only[j,aT,seval];done)),(by(simp only[k,aT,seval];done)),(by(simp only[l,aT,seval];done)), ?_⟩;subst d;exact bE _ _ _
 rintro F2 M2 ⟨F,a2,a3,a4,i⟩;have A:=(F 6 rfl).trans A;have g:=(F 7 rfl).trans g;have G:=a2.trans G;have H:=a3.trans H;have C:=a4.trans C;clear F;simp only[RR,seval];refine aA fun K f=>?_;simp only[A,g,C,i,RR,seval];apply f;refine aN ?_;simp only[aW,aJ,bN,A,RR,seval];refine aY.pure ?_;rfl
theorem Ut {F:Nat→Prop} {e:List (Option Nat)} {Q:fN} {d:Option Nat} {j:List Oper} {fr:Fr} {H:Hp} {g:FuncId} {a:List AV} {b:Nat} {T:List gA} {n:Nat} {w:Bool} {v:AV}
  (l:Ob g a b T n w v n w) (f:H b=some (.rows 3 [[.isl 4 (T.map gA.row), .int .i64 (n:Nat), .bool w]])) (k:F b)
  (o:eI dV F e Q j (eW fr d v) H):qU dV F e Q d j fr H g (.ptr 3 b 0 0::a):=by
 refine nG l (fF.refl _) (qR f) (fun x i=>?_) fun u t p _=>?_
 ·by_cases c:x=b
  ·subst c;exact k
  rw[Dm,cI _ _ c]at i;exact absurd rfl i
 obtain⟨rfl,rfl⟩:=p;have :lJ (Dm b T n w) (Dm b T n w) H=H:=Qc (qR f);simp only[this];exact o
def Dp (r0:Nat) (T:List gA) (n:Nat) (w:Bool):Prop:=pU 225 [] r0 T n w oI (kW w n (tQ T n))
def qE (r0:Nat) (T:List gA) (lo n:Nat) (w:Bool):Prop:=pU 194 [.int .i64 (lo:Nat)] r0 T n w oI (kW w n (kP T lo n))
def Tt (r0:Nat) (T:List gA) (n:Nat) (w:Bool):Prop:=pU 196 [] r0 T n w Gk (kW w n (vK T n))
structure QC (r0:Nat) (T:List gA) (n:Nat):Prop where
 atom: ∀m w,n<m→m≤T.length→Dp r0 T m w
 expr: ∀lo m w,1≤lo→lo≤10→n<m→m≤T.length→qE r0 T lo m w
 args: ∀m w,n<m→m≤T.length→Tt r0 T m w
theorem K9 (i:Nat) {T:List gA} (j:Sz T) (n:Nat) (w:Bool) (l:n≤T.length) (x:QC i T n):Dp i T n w:=by
 have b1:=Py i T n w l 2 (by decide);unfold Dp pU;generalize a:kW w n (tQ T n)=i9;rw[CM]at a;have h1:=j.len;have b:=mM i T n w;refine bX 59 [.cell 2 62] func225 ?_;refine aA fun K c=>?_;simp only[oI,RR,seval];refine aM fun g c2=>?_;have f:=cY c2 b;have k:=f.symm;simp only[RR,seval];refine c _ _ (aI (aP (aA fun K c=>?_)));simp only[oI,RR,seval];refine Ut b1 (by(simp only[b,k,aT,seval];done)) trivial ?_;simp only[RR,seval];refine c _ _ (aU ?_ ?_)<;>intro A
 ·have a:=YP A a
  refine aA fun K c=>?_;simp only[oI,RR,seval];refine dW (oO i j n w l 2 (by decide)) (by(simp only[b,k,aT,seval];done)) trivial fun f1 i3 j0 M1 N g1 h2 b8 Y=>?_;have a:=dH a N;have d:=Y g _ f (bE _ _ _);have b:=b8;simp only[d,RR,seval];apply c;refine aN ?_;simp only[aW,aJ,bN,oI,RR,seval];refine iN (by(simp only[b,k,aT,seval];done)) a ?_ (by omega) (by omega);simp only[Ex.kind,Ex.op,Ex.num,Ex.name,Ex.kids,dO];exact hP.aggR (by repeat' (first|exact iY.nil|exact hP.refl _|exact hP.nsl _|refine iY.cons ?_ ?_))
 have a:=YQ A a;refine aA fun K c=>?_;simp only[oI,RR,seval];refine gO (jZ i j n w l [103,101,116] (by decide)) (by(simp only[b,k,aT,seval];done)) trivial fun M2 b9 Z=>?_;have d:=Z g _ f (bE _ _ _);have b:=b9;simp only[RR,seval];refine c _ _ (aU ?_ ?_)<;>intro t
 ·have a:=rL t a
  rw[bH t]at b;have h7:=jP t (by decide);refine aA fun K c=>?_;simp only[oI,RR,seval];refine dW (fM i j (n+1) w (by omega) [40] (by decide)) b trivial fun f2 d4 e3 M3 O g2 b4 c0 a0=>?_;have a:=dH a O;have e:=a0 g _ f d;have d:=e;have b:=c0;simp only[RR,seval];refine c _ _ (aA fun K c=>?_);simp only[oI,RR,seval];refine dW (fM i j d4 e3 b4 [41] (by decide)) b trivial fun f3 i4 j1 M4 P g3 h5 c1 a1=>?_;have a:=dH a P;have e:=a1 g _ f d;have d:=e;have b:=c1;simp only[RR,seval];refine c _ _ (aA fun K c=>?_);simp only[d,oI,RR,seval];apply c;refine aN ?_;simp only[aW,aJ,bN,oI,RR,seval];refine iN (by(simp only[b,k,aT,seval];done)) a ?_ (by omega) (by omega);simp only[Ex.kind,Ex.op,Ex.num,Ex.name,Ex.kids,dO];exact hP.aggR (by repeat' (first|exact iY.nil|exact hP.refl _|exact hP.nsl _|refine iY.cons ?_ ?_))
 have a:=rM t a;rw[aL (dQ.1 t)]at b;refine aA fun K c=>?_;simp only[oI,RR,seval];refine gO (jZ i j n w l [33] (by decide)) b trivial fun M5 c3 a2=>?_;have e:=a2 g _ f d;have d:=e;have b:=c3;simp only[RR,seval];refine c _ _ (aU ?_ ?_)<;>intro u
 ·have a:=rL u a
  rw[bH u]at b;have i1:=jP u (by decide);refine aA fun K c=>?_;simp only[oI,RR,seval];refine dW (x.atom (n+1) w (by omega) (by omega)) b trivial fun f4 i5 j2 M6 Q g4 h6 c4 a3=>?_;have a:=dH a Q;have e:=a3 g _ f d;have d:=e;have b:=c4;simp only[oI,RR,seval];refine eG ?_;simp only[d,RR,seval];apply c;refine aN ?_;simp only[aW,aJ,bN,oI,RR,seval];refine iN (by(simp only[b,k,aT,seval];done)) a ?_ (by omega) (by omega);simp only[Ex.row_eq,Ex.kind,Ex.op,Ex.num,Ex.name,Ex.kids,cN,dO];exact hP.aggR (by repeat' (first|exact iY.nil|exact hP.refl _|refine iY.cons ?_ ?_))
 have a:=rM u a;rw[aL (dQ.1 u)]at b;refine aA fun K c=>?_;simp only[oI,RR,seval];refine gO (jZ i j n w l [40] (by decide)) b trivial fun M7 c5 a4=>?_;have e:=a4 g _ f d;have d:=e;have b:=c5;simp only[RR,seval];refine c _ _ (aU ?_ ?_)<;>intro v
 ·have a:=rL v a
  rw[bH v]at b;have i2:=jP v (by decide);refine aA fun K c=>?_;simp only[oI,RR,seval];refine dW (x.expr 1 (n+1) w (by decide) (by decide) (by omega) (by omega)) b trivial fun f5 d5 E1 M8 R g5 b6 c6 a5=>?_;have a:=dH a R;have e:=a5 g _ f d;have d:=e;have b:=c6;simp only[oI,RR,seval];refine aM fun I E=>?_;have G:=cY E b;have e1:=G.symm;have d9:=cY E d;have d7:=d9.symm;simp only[RR,seval];refine c _ _ (aA fun K c=>?_);simp only[oI,RR,seval];refine dW (fM i j d5 E1 b6 [41] (by decide)) (by(simp only[b,e1,aT,seval];done)) trivial fun f6 i6 j3 M9 S g6 h8 c7 B=>?_;have a:=dH a S;have e:=B g _ f (by(simp only[d,d7,aT,seval];rfl));have L:=B I _ G (bE _ _ _);have d:=e;have b:=c7;simp only[RR,seval];refine c _ _ (aA fun K c=>?_);simp only[d,L,oI,RR,seval];apply c;refine aN ?_;simp only[aW,aJ,bN,oI,RR,seval];refine iN (by(simp only[b,k,aT,seval];done)) a ?_ (by omega) (by omega);simp only[Ex.kind,Ex.op,Ex.num,Ex.name,Ex.kids];exact hP.aggR (by repeat' (first|exact iY.nil|exact hP.refl _|refine iY.cons ?_ ?_))
 have a:=rM v a;rw[aL (dQ.1 v)]at b;refine aK ?_;simp only[RR];refine aA fun K c=>?_;simp only[oI,RR,seval];refine dW (oO i j n w l 1 (by decide)) b trivial fun f7 y z e5 U g7 D c8 a6=>?_;have a:=dH a U;have e:=a6 g _ f d;have d:=e;have b:=c8;simp only[RR,seval];refine c _ _ (aI (aP (aA fun K c=>?_)));simp only[oI,RR,seval];refine gO (jZ i j y z D [91] (by decide)) b trivial fun e6 c9 a7=>?_;have e:=a7 g _ f d;have d:=e;have b:=c9;simp only[RR,seval];refine c _ _ (aU ?_ ?_)<;>intro o
 ·have a:=rL o a
  rw[bH o]at b;have h3:=jP o (by decide);refine aA fun K c=>?_;simp only[oI,RR,seval];refine dW (x.expr 1 (y+1) z (by decide) (by decide) (by omega) (by omega)) b trivial fun f8 d6 e4 e7 V g8 b7 d0 a8=>?_;have a:=dH a V;have e:=a8 g _ f d;have d:=e;have b:=d0;simp only[oI,RR,seval];refine aM fun J F=>?_;have H:=cY F b;have e2:=H.symm;have e0:=cY F d;have d8:=e0.symm;simp only[RR,seval];refine c _ _ (aA fun K c=>?_);simp only[oI,RR,seval];refine dW (fM i j d6 e4 b7 [93] (by decide)) (by(simp only[b,e2,aT,seval];done)) trivial fun f9 i7 j4 e8 W g9 h9 d1 C=>?_;have a:=dH a W;have e:=C g _ f (by(simp only[d,d8,aT,seval];rfl));have M:=C J _ H (bE _ _ _);have d:=e;have b:=d1;simp only[RR,seval];refine c _ _ (aA fun K c=>?_);simp only[M,oI,RR,seval];refine eG ?_;simp only[d,RR,seval];apply c;refine aN ?_;simp only[aW,aJ,bN,oI,RR,seval];refine iN (by(simp only[b,k,aT,seval];done)) a ?_ (by omega) (by omega);simp only[Ex.row_eq,Ex.kind,Ex.op,Ex.num,Ex.name,Ex.kids,cN,dO];exact hP.aggR (by repeat' (first|exact iY.nil|exact hP.refl _|refine iY.cons ?_ ?_))
 have a:=rM o a;rw[aL (dQ.1 o)]at b;refine aA fun K c=>?_;simp only[oI,RR,seval];refine gO (jZ i j y z D [40] (by decide)) b trivial fun e9 d2 a9=>?_;have e:=a9 g _ f d;have d:=e;have b:=d2;simp only[RR,seval];refine c _ _ (aU ?_ ?_)<;>intro p
 ·have a:=rL p a
  rw[bH p]at b;have h4:=jP p (by decide);refine aA fun K c=>?_;simp only[oI,RR,seval];refine dW (x.args (y+1) z (by omega) (by omega)) b trivial fun g0 i8 j5 f0 X h0 i0 d3 b0=>?_;have a:=dH a X;have e:=b0 g _ f d;have d:=e;have b:=d3;simp only[d,Gk,RR,seval];apply c;refine aN ?_;simp only[aW,aJ,bN,oI,RR,seval];refine iN (by(simp only[b,k,aT,seval];done)) a ?_ (by omega) (by omega);simp only[Ex.kind,Ex.op,Ex.num,Ex.name,Ex.kids];exact hP.aggR (by repeat' (first|exact iY.nil|exact hP.refl _|refine iY.cons ?_ ?_))
 have a:=rM p a;rw[aL (dQ.1 p)]at b;refine aK ?_;simp only[RR];refine aA fun K c=>?_;simp only[d,oI,RR,seval];apply c;refine aN ?_;simp only[aW,aJ,bN,oI,RR,seval];refine iN (by(simp only[b,k,aT,seval];done)) a ?_ (by omega) (by omega);simp only[Ex.kind,Ex.op,Ex.num,Ex.name,Ex.kids,dO];exact hP.aggR (by repeat' (first|exact iY.nil|exact hP.refl _|exact hP.nsl _|refine iY.cons ?_ ?_))
theorem J7 (t:Nat) {T:List gA} (hT:Sz T) (lo n:Nat) (w:Bool) (F:1≤lo) (c9:lo≤9) (hn:n≤T.length) (hx:qE t T (lo+1) n w) (ih:QC t T n):qE t T lo n w:=by
 unfold qE pU;generalize c:kW w n (kP T lo n)=a6
 have c2: ∀a m d,kW d m (PR.ok a m)=kW w n (kP T (lo+1) n)→d=false→(Ei (eD T m)).2.2≤lo:=fun a m d h H=>by
  subst H
  cases w with
  |true=>rw[HV,nF]at h;cases h
  |false=>
   rw[nF,nF]at h;have:=Qi (by omega) h.symm;omega
 have c3: ∀I L a m d,kW d m (PR.ok a m)=kW L I (kP T (lo+1) I)→d=false→(Ei (eD T m)).2.2≤lo:=fun I L a m d h H=>by
  subst H
  cases L with
  |true=>rw[HV,nF]at h;cases h
  |false=>
   rw[nF,nF]at h;have:=Qi (by omega) h.symm;omega
 rw[KX lo n F]at c;have d1:=hT.len;have b:=mM t T n w;have z1:decide ((9:Int)<(lo:Int))=false:=bA (by omega);have z2:IntKind.wrap .i64 ((lo:Int)+1)=((lo+1:Nat):Int):=by rw[aS _ (by omega)];omega
 unfold qE at hx;refine bX 44 [.cell 4 62] func194 ?_;refine aA fun K e=>?_;simp only[oI,RR,seval];refine aM fun l b7=>?_;have D:=cY b7 b;have a4:=D.symm;simp only[RR,seval];refine e _ _ (aI (aA fun K e=>?_));simp only[oI,z1,RR,seval];refine e _ _ (bL ?_);refine aK ?_;simp only[RR];refine aA fun K e=>?_;simp only[oI,z2,RR,seval];refine dW (hx) (by(simp only[b,a4,aT,seval];done)) trivial fun a7 a1 c7 M1 W b0 b2 b6 a9=>?_;have c:=dH c W;have i:=a9 l _ D (bE _ _ _);have b:=b6;simp only[oI,RR,seval];refine aM fun A Z=>?_;have J:=cY Z b;have a5:=J.symm;have c6:=cY Z i;have a3:=c6.symm;simp only[RR,seval];refine e _ _ (aI (bM fun F2 M2 g o=>?_));have j:=g 0;have u:=g 1;have v:=g 4;have y:=g 5;have U:=o t;have f:=o l;have p:=o A;simp only[b,i,a5,a3,RR,seval]at j u v y U f p;have b:=U;have i:=f;refine aP (iV [0,1,4,5] (T.length-a1) (fun k fr M=>M l=M2 l∧(∃(m:Nat) (d:Bool) (x:Ex),k=T.length-m∧n≤m∧m≤T.length∧kW d m (wH T lo x m)=a6∧(d=false→(Ei (eD T m)).2.2≤lo)∧M A=some (.rows 5 [[.int .i64 x.kind, .int .i64 x.op, .int .u32 x.num, .str x.name, .isl 5 (x.kids.map Ex.row)]])∧M t=some (.rows 3 [[.isl 4 (T.map gA.row), .int .i64 (m:Nat), .bool d]]))) ⟨rfl,a1,c7,a7,rfl,b0,b2,c,c2 _ _ _ W,p,b⟩ ?_);rintro k N M3 ⟨f,m,d,x,rfl,d3,hm,c,c1,p,b⟩ z K0 a8;have j:=(z 0 rfl).trans j;have u:=(z 1 rfl).trans u;have v:=(z 4 rfl).trans v;have y:=(z 5 rfl).trans y;have i:=f.trans i;have G:=aX.refl [0,1,4,5] N;have B:=f;clear z;have V:=Yo t T m d hm;have b9:=Rr (eD T m)
 all_goals
  refine aI (aA fun K e=>?_);simp only[j,b,oI,RR,seval]
  all_goals ((refine bZ (fun h=>?_) (fun h=>?_))<;>simp only[h,j,RR,seval])
  all_goals try (refine Ut V b trivial ?_;simp only[RR,seval])
  all_goals try (refine aO (b9) ?_;simp only[u,RR,seval])
  all_goals
   refine e _ _ (aU ?_ ?_)<;>intro C
   ·try (cases C;done)
    all_goals
     have a0:=C;clear C;have c5:d=false:=by simpa using h
     have c0:(Ei (eD T m)).2.2=lo:=by have:=aB a0;omega
     subst c5;rw[nF,tC T lo x m F,aL (by omega),c0]at c;have d2:m<T.length:=S4 (lo:=lo) (by omega) F;have c:=(nF (m+1) _).trans c;have c4:=Tu (n:=m) (by omega);refine aK ?_;simp only[RR];refine aP (aA fun K e=>?_);simp only[j,oI,RR,seval];refine Ut V b trivial ?_;simp only[RR,seval];refine e _ _ (aA fun K e=>?_);simp only[j,b,oI,c4,RR,seval];refine e _ _ (bM fun F4 M4 g o=>?_);have P:=g 0;have Q:=g 1;have R:=g 4;have S:=g 5;have f6:=g 6;have f:=o l;have b:=o t;have E:=o A;simp only[j,u,v,y,i,p,D,J,RR,seval]at P Q R S f6 f b E;have G:aX [0,1,4,5] N F4:=aX.same g (by repeat (first|exact G|refine aX.upd rfl ?_));have B:=(o l).trans (by(simp only[D,aT,seval];exact B));have j:=P;have u:=Q;have v:=R;have y:=S;have i:=f;have p:=E;refine bB (fun x=>x≠l∧x≠A) [(0,3),(1,0),(2,3),(3,3),(4,3),(5,1),(6,1)] [(7,1)] eF (by kernel_rfl) rfl rfl ?_;simp only[*,dR,fX,oI,z2,RR,seval];refine dW (ih.expr (lo+1) (m+1) false (by omega) (by omega) (by omega) (by omega)) b (by trivial) fun O a2 c8 M5 X d0 b3 b8 Y=>?_;have c:=dH c X;have f:=Y l _ D i;have B:=(f.trans i.symm).trans B;have E:=Y A _ J p;have i:=f;have p:=E;have b:=b8;simp only[oI,RR,seval];refine aO (KA (eD T m) x O (by omega)) ?_;simp only[y,p,oI,RR,seval];refine a8 (T.length-a2) _ _ (by omega) ⟨(by(simp only[a3,aT,seval];exact B)),a2,c8,Ja (eD T m) x O,rfl,by omega,b3,c,c3 _ _ _ _ _ X,by exact bE _ _ _,by(simp only[b,a5,aT,seval];done)⟩ (by repeat (first|exact G|refine aX.upd rfl ?_))
   try (cases C;done)
   all_goals
    have a0:=C
    have c:kW d m (PR.ok x m)=a6:=by
     cases d with
     |true=>exact c
     |false=>
      have b1:(Ei (eD T m)).2.2<lo:=by
       have:=c1 rfl;rcases Nat.lt_or_eq_of_le this with h1|h1
       ·exact h1
       exfalso;simp_all
      rw[tC T lo x m F,bH b1]at c;exact c
    refine cF ?_;simp only[RR,seval];refine aA fun K e=>?_;simp only[*,oI,RR,seval];apply e;refine aN ?_;simp only[aW,aJ,bN,v,oI,RR,seval];refine iN (by(simp only[b,a4,aT,seval];done)) c ?_ (by omega) (by omega);exact hP.refl _
theorem BB (d:Nat) {T:List gA} (n:Nat) (w:Bool) (e:Dp d T n w):qE d T 10 n w:=by
 unfold qE pU;rw[BP];generalize c:kW w n (tQ T n)=z;have b:=mM d T n w;have B:decide ((9:Int)<((10:Nat):Int))=true:=rfl;unfold Dp at e;refine bX 44 [.cell 4 62] func194 ?_;refine aA fun K a=>?_;simp only[oI,RR,seval];refine aM fun i p=>?_;have f:=cY p b;have g:=f.symm;simp only[RR,seval];refine a _ _ (aI (aA fun K a=>?_));simp only[oI,RR,seval];refine a _ _ (cR (aA fun K a=>?_));simp only[oI,RR,seval];refine dW (e) (by(simp only[b,g,aT,seval];done)) trivial fun u y A t k v x o l=>?_;have c:=k.trans c;have j:=l i _ f (bE _ _ _);have b:=o;simp only[j,oI,RR,seval];apply a;refine aN ?_;simp only[aW,aJ,bN,oI,RR,seval];refine iN (by(simp only[b,g,aT,seval];done)) c ?_ (by omega) (by omega);exact hP.refl _
theorem L0 (f:Nat) {T:List gA} (z:Sz T) (n:Nat) (w:Bool) (hn:n≤T.length) (J:qE f T 1 n w) (ih:QC f T n):Tt f T n w:=by
 unfold Tt pU;generalize c:kW w n (vK T n)=a9;rw[LS]at c;have b8:=z.len;have b:=mM f T n w;unfold qE at J;refine bX 21 [.tmp 2] func196 ?_;refine aA fun K d=>?_;simp only[Gk,RR,seval];refine d _ _ (aA fun K d=>?_);simp only[Gk,RR,seval];refine d _ _ (aI (aA fun K d=>?_));simp only[Gk,RR,seval];refine gO (jZ f z n w hn [41] (by decide)) b trivial fun M1 a6 b4=>?_;have b:=a6;simp only[RR,seval];refine d _ _ (aU ?_ ?_)<;>intro x
 ·have c:=rL x c
  rw[bH x]at b;have c1:=jP x (by decide);refine aA fun K d=>?_;simp only[Gk,RR,seval];apply d;refine aN ?_;simp only[aW,aJ,bN,Gk,RR,seval];exact iN b c (hP.nsl _) (by omega) (by omega)
 have c:=rM x c;rw[aL (dQ.1 x)]at b;refine aK ?_;simp only[RR];refine bM fun F2 M2 l y=>?_;have g:=l 0;have u:=l 2;have i:=l 3;have j:=y f;simp only[b,RR,seval]at g u i j;have b:=j;refine aA fun K d=>?_;simp only[g,i,Gk,RR,seval];refine dW (J) b trivial fun F N w8 M3 W a0 a2 a7 b5=>?_;have c:=dH c W;have b:=a7;simp only[oI,RR,seval];refine eG ?_;simp only[RR,seval];refine jF (eB.nil 5 _) (by simp only[aQ,aV];omega) (fun _=>trivial) fun v4 M4 D C=>?_;simp only[RR,seval];have j:=C f _ b (by exact((eB.nil 5 _)).nb' b (by decide));have b:=j;refine d _ _ (aI (bM fun F5 O l y=>?_));have G:=l 0;have H:=l 2;have i:=l 3;have j:=y f;simp only[g,u,b,RR,seval]at G H i j
 have e:eB 5 v4 ([F].map Ex.row) O:=by
  rw[cN,dO,Ex.row_eq];exact D.same y
 have g:=G;have u:=H;have b:=j;refine aP ?_;refine iV [0,2] (T.length-N) (fun k R M=>(∃(m:Nat) (t:Bool) (o:List Ex),k=T.length-m∧n≤m∧m≤T.length∧o.length≤m+1∧kW t m (Zx T o m)=a9∧eB 5 (R 3) (o.map Ex.row) M∧M f=some (.rows 3 [[.isl 4 (T.map gA.row), .int .i64 (m:Nat), .bool t]]))) ⟨N,w8,[F],rfl,a0,a2,by simp,c,by rw[i];exact e,b⟩ ?_;rintro k E M6 ⟨m,t,o,rfl,c2,I,b3,c,e,b⟩ A K0 S;have g:=(A 0 rfl).trans g;have u:=(A 2 rfl).trans u;have Q:=aX.refl [0,2] E;clear A;obtain⟨v3,i⟩: ∃v,E 3=v:=⟨_,rfl⟩;rw[i]at e;rw[LU]at c;refine aI (aA fun K d=>?_);simp only[g,Gk,RR,seval];refine gO (jZ f z m t I [44] (by decide)) b trivial fun M7 a3 X=>?_;have e:=eB.kp e b (by decide) X;have b:=a3;simp only[RR,seval];refine d _ _ (aU ?_ ?_)<;>intro B
 ·have p:=B;clear B
  have c:=rL p c;rw[bH p]at b;have b9:=jP p (by decide);refine aK ?_;simp only[RR];refine aP (aG ?_);simp only[g,i,Gk,RR,seval];refine dW (ih.expr 1 (m+1) t (by decide) (by decide) (by omega) (by omega)) b trivial fun P L b0 M8 U b6 a1 a4 Y=>?_;have c:=dH c U;have e:=eB.kp e b (by decide) Y;have b:=a4;simp only[oI,RR,seval];refine eG ?_;simp only[RR,seval];refine jF e (by simp only[aE,aQ,aV];omega) (fun _=>trivial) fun v6 M9 D C=>?_;simp only[RR,seval];have j:=C f _ b (by exact(e).nb' b (by decide));have b:=j;refine S (T.length-L) _ _ (by omega) ⟨L,b0,o++[P],rfl,by omega,a1,by simp only[aH,aQ,aV];omega,c,by rw[KY];exact D,by exact b⟩ (by repeat (first|exact Q|refine aX.upd rfl ?_))
 have p:=B;have c:=rM p c;rw[aL (dQ.1 p)]at b;refine cF ?_;simp only[RR,seval];refine aA fun K d=>?_;simp only[g,Gk,RR,seval];refine dW (fM f z m t I [41] (by decide)) b trivial fun b2 c3 c4 b1 V b7 c0 a5 Z=>?_;have c:=dH c V;have e:=eB.kp e b (by decide) Z;have b:=a5;simp only[RR,seval];refine d _ _ (aA fun K d=>?_);simp only[i,Gk,RR,seval];apply d;refine aN ?_;simp only[aW,aJ,bN,Gk,RR,seval];refine V1 (a:=o) e (by decide) b c ?_ (by omega) (by omega);exact hP.refl _
theorem Jb (b:Nat) {T:List gA} (g:Sz T) (k:Nat): ∀n w,n≤T.length→T.length-n≤k→Dp b T n w∧(∀a,1≤a→a≤10→qE b T a n w)∧Tt b T n w:=by
 induction k using Nat.strongRecOn with
 |_ k ih=>
  intro n w j v;have i:QC b T n:=⟨fun m f e c=>(ih (T.length-m) (by omega) m f c (bI _)).1,fun a m f t u e c=>(ih (T.length-m) (by omega) m f c (bI _)).2.1 a t u,fun m f e c=>(ih (T.length-m) (by omega) m f c (bI _)).2.2⟩;have l:=K9 b g n w j i
  have p: ∀d a,1≤a→a+d=10→qE b T a n w:=by
   intro d
   induction d with
   |zero=>intro a _ h;obtain rfl:a=10:=by omega
          exact BB b n w l
   |succ d ihd=>intro a e c;exact J7 b g a n w e (by omega) j (ihd (a+1) (by omega) (by omega)) i
  have o: ∀a,1≤a→a≤10→qE b T a n w:=fun a e c=>p (10 -a) a e (by omega);exact⟨l,o,L0 b g n w j (o 1 (by decide) (by decide)) i⟩
theorem tH (a:Nat) {T:List gA} (b:Sz T) (n:Nat) (w:Bool) (c:n≤T.length):pU 194 [.int .i64 1] a T n w oI (kW w n (kP T 1 n)):=(Jb a b _ n w c (bI _)).2.1 1 (by decide) (by decide)
theorem BD (a:Nat) {T:List gA} (b:Sz T) (n:Nat) (w:Bool) (c:n≤T.length):pU 196 [] a T n w Gk (kW w n (vK T n)):=(Jb a b _ n w c (bI _)).2.2
end Go.Proofs.YtaecpjgmcffliaaGreatDoor
