/- Wb -/
import Derived.Test.YtaecpjgmcffliaaGreatDoorT2
import Derived.Test.YtaecpjgmcffliaaGreatDoorSc1
import Derived.Test.YtaecpjgmcffliaaGreatDoorAl3
import Derived.Defers
import Derived.Recover
import Derived.Test.YtaecpjgmcffliaaGreatDoorSy2
set_option linter.unusedSimpArgs false
set_option linter.unusedVariables false
set_option maxRecDepth 10000
set_option maxHeartbeats 16000000
namespace Go.Al
theorem eB.offsz {sz c:Nat} {v:AV} {rows j:List (List AV)} {H:Hp} (h:eB sz v rows H) {b:Nat} (f:H b=some (.rows c j)) (i:c≠sz):Al.off v b:=fun s n e=>by
 rcases h with⟨rfl,_⟩|⟨k,rfl,a⟩
 ·cases e
 cases e;rw[f]at a;cases a;exact i rfl
theorem eB.cells {sz:Nat} {v:AV} {rows:List (List AV)} {H:Hp} (h:eB sz v rows H):cellsOf v=some [v]:=by rcases h with⟨rfl,_⟩|⟨b,rfl,_⟩<;>rfl
theorem eB.one1 {sz:Nat} {v:AV} {rows:List (List AV)} {H:Hp} (h:eB sz v rows H):one v=true:=by rcases h with⟨rfl,_⟩|⟨b,rfl,_⟩<;>rfl
theorem iZ {E:kB} {F:Nat→Prop} {ds:List (Option Nat)} {Q:fJ} {d:Option Nat} {rest:List Oper} {fr:Fr} {H:Hp} {sz y:Nat} {v:AV} {rows u:List (List AV)} (I:eB sz v rows H) (i:(rows.length+u.length) *y≤140737488355328) (D: ∀b,v= .osl sz b rows.length→F b)
  (h: ∀t k,eB sz t (rows++u) k→(∀b o,H b=some o→v≠ .osl sz b rows.length→k b=some o)→(∀b,off v b→H b≠none→off t b)→eF E F ds Q rest (fP fr d t) k):Un E F ds Q d rest fr H (some (sz,y,v,u)):=by
 rcases I with⟨rfl,rfl⟩|⟨b,rfl,G⟩
 ·simp only[cC,aU,bV]at h i
  refine⟨i,fun e=>h _ _ (.inl ⟨rfl,e⟩) (fun _ _ i _=>i) (fun b a _=>a),fun e b z=>h _ _ (.inr ⟨b,rfl,by simp [upd]⟩) (fun j o f _=>?_) fun B _ p s n l=>?_⟩
  ·have :j≠b:=fun c=>by rw[c,z]at f;cases f
   simp [upd,this,f]
  cases l;exact p z
 simp only[Un,G];refine⟨trivial,trivial,trivial,i,D b rfl,fun j f=>?_⟩;refine h _ _ (.inr ⟨j,by simp,by simp [upd]⟩) (fun x o a C=>?_) fun B a p s n l=>?_
 ·have A:x≠b:=fun c=>C (by rw[c])
  have J:x≠j:=fun c=>by
   rcases f with e|e
   ·exact A (c.trans e)
   rw[←c,a]at e;cases e
  simp [upd,A,J,a]
 cases l;rcases f with e|e
 ·exact a _ _ (by rw[e])
 exact p e
section
variable {E : kB} {F : Nat → Prop} {ds : List (Option Nat)} {Q : fJ} {d : Option Nat} {rest : List Oper} {fr : Fr} {H : Hp} {g : FuncId} {args : List AV}
theorem jT {R:vI→Hp→Prop} (f:oM E g args H R) (e: ∀b,F b)
  (h: ∀c a,R c a→(match c with | .ret v=>eF E F ds Q rest (fP fr d v) a| .pan v=>Q (.pan v) R1 a)):qL E F ds Q d rest fr H g args:=by
 refine mK f (fN.refl _) (fun b o h=>h) (fun b _=>e b) fun c a i _=>?_;rw[Is];exact h c a i
end
theorem oM.mono {E:kB} {g:FuncId} {args:List AV} {H:Hp} {R c:vI→Hp→Prop} (h:oM E g args H R) (o: ∀b a,R b a→c b a):oM E g args H c:=
 ⟨h.1,fun p f vs l n=>(h.2 p f vs l n).mono fun _ _ ⟨b,a,e,i,j,k⟩=>⟨b,a,e,i,j,o _ _ k⟩⟩
theorem aZ.run {R:vI→Hp→Prop} {v:AV} {H:Hp} (h:R (.ret v) H):aZ R v H:=aZ.self h
section
open Go
section
variable {E : kB} {N : Nat} {Φ : lY → Exit → Act → World → Prop} {fr : Fr} {H : Hp}
end
end
section
open Go
section
variable {E : kB} {R : vI → Hp → Prop}
end
end
def BS (v x:AV):Prop:= ∀s b n,x= .osl s b n→off v b
theorem bU {v x:AV} (h:tQ x=true):BS v x:=fun s b n e=>by subst e;cases h
theorem Q9 {b sz n:Nat} {l:List (List AV)} {x:AV} (h:BS (.osl sz b n) x):frz b sz l x=x:=by
 cases x<;>try rfl
 rename_i e a c;rw[xQ,aJ];rintro⟨rfl,_,_⟩;exact h _ _ _ rfl _ _ rfl
theorem Ai {b sz n:Nat} {l:List (List AV)}: ∀{a:List AV},(∀x∈a,BS (.osl sz b n) x)→a.map (frz b sz l)=a
 |[],_=>rfl
 |x::a,h=>by rw[cU,Q9 (h x (by simp)),Ai fun y c=>h y (by simp [c])]
theorem Qi {b sz n:Nat} {l:List (List AV)}: ∀{a:List (List AV)},(∀r∈a, ∀x∈r,BS (.osl sz b n) x)→a.map (fun x=>x.map (frz b sz l))=a
 |[],_=>rfl
 |x::a,h=>by rw[cU,Ai (h x (by simp)),Qi fun y c=>h y (by simp [c])]
theorem jA.mid {v w:AV} (h:jC v w) (a:List AV): ∀l:List AV,jA (l++v::a) (l++w::a)
 |[]=>jA.cons h (SubR_self a)
 |x::l=>jA.cons (jC.refl x) (jA.mid h a l)
where SubR_self: ∀l:List AV,jA l l
 |[]=> .nil
 |x::l=> .cons (jC.refl x) (SubR_self l)
theorem iG {E:kB} {N:Nat} {Q:fJ} {c:Code} {fr:Fr} {H:Hp} {a sz u:Nat} {xZ f:List AV} {v:AV} {rows:List (List AV)} (I:eB sz v rows H) (p:H a=some (.rows u [xZ++v::f])) (D: ∀x∈xZ,BS v x) (G: ∀x∈f,BS v x) (B:off v a)
  (h: ∀o i,(∀j,BS v (fr j)→o j=fr j)→i a=some (.rows u [xZ++ .isl sz rows::f])→(∀b s l,b≠a→off v b→(∀r∈l, ∀x∈r,BS v x)→H b=some (.rows s l)→i b=some (.rows s l))→mT E N c Q o i):mT E N c Q fr H:=by
 rcases I with⟨rfl,rfl⟩|⟨b,rfl,k⟩
 ·exact AS p (jA.mid (jC.nsl sz) f xZ) (h fr _ (fun _ _=>rfl) (bC _ _ _) (fun b s l t _ _ k=>by rw[cH _ _ t];exact k))
 refine oC k (h _ _ (fun j A=>Q9 A) ?_ fun n s l t C z y=>?_)
 ·show(if a=b then none else(H a).map (AA b sz rows))=_
  rw[aJ (fun e=>B _ _ (by rw[e])),p];simp only[eD,tP,cU,dI,cO,JG,Ai D,Ai G]
 show(if n=b then none else(H n).map (AA b sz rows))=_;rw[aJ (fun e=>C _ _ (by rw[e])),y];simp only[eD,tP,Qi z]
section
variable {E : kB} {F : Nat → Prop} {ops : Array Oper} {Q : fJ} {fr : Fr} {H : Hp}
theorem lR (F:Nat→Prop) {N id:Nat} {l:List Oper} (c:E.P.follows .mixedOrders=true) (hd:l.all (kW N)=true) (h:l.toArray.toList.all (kW N)=true→nT E (fun _=>F) l.toArray Q l.length (Array.replicate l.length false) fr H):mT E N (.region id l.toArray true) Q fr H:=fun f a w e=>by
 have b:l.toArray.toList.all (kW N)=true:=by simpa using hd
 have:=wp_region_any c (xC (G:=fun _=>F) b l.length (Array.replicate l.length false) fr H a _ e.drew (h b)) (id:=id);simpa using this
theorem hQ {N n m:Nat} {L b:Array Bool} {l':List Oper} (a:List (Nat×Nat)) (hd:ops.toList.all (kW N)=true) (k:n=a.length+m) (i:AN ops [] L a=true) (f:qO L a=b) (j:dL ops.toList a=l')
  (h:eF E F (ops.toList.map (·.dst)) (bK (fun e c=>nT E (fun _=>F) ops Q m b e c) Q) l' fr H):nT E (fun _=>F) ops Q n L fr H:=by
 subst k;subst f;subst j;exact sA (T:=[]) (fun _ _=>rfl) hd a L fr H i h
def WX (E:kB) (F:Nat→Prop) (ops:Array Oper) (Q:fJ) (n:Nat) (L:Array Bool) (fr:Fr) (H:Hp):List Nat→Prop
 |[]=>True
 |i::r=>(match ops[i]? with |some o=>eF E F (ops.toList.map (·.dst)) (bK (fun fr' H'=>nT E (fun _=>F) ops Q n (L.setIfInBounds i true) fr' H') Q) [o] fr H|none=>True)∧WX E F ops Q n L fr H r
theorem S7 {n:Nat} {L:Array Bool}: ∀{l:List Nat},WX E F ops Q n L fr H l→ ∀i∈l, ∀o,ops[i]?=some o→eF E F (ops.toList.map (·.dst)) (bK (fun b a=>nT E (fun _=>F) ops Q n (L.setIfInBounds i true) b a) Q) [o] fr H
 |j::l,h,i,hi,o,ho=>by
  simp only[WX]at h;rcases bL.1 hi with rfl|hi
  ·rw[ho]at h;exact h.1
  exact S7 h.2 i hi o ho
theorem lG {N n:Nat} {L:Array Bool} {a:List Nat} (hd:ops.toList.all (kW N)=true) (c:Region.ready .any ops L=a) (k:a≠[]) (h:WX E F ops Q n L fr H a):nT E (fun _=>F) ops Q (n+1) L fr H:=by
 refine⟨fun e=>absurd (c.symm.trans e) k,fun i j o b=>?_⟩;have:=S7 h i (by rw[←c];exact j) o b
 have f:kW N o=true:=by
  rw[cJ]at hd;exact hd o (Vb.2 (uB b))
 rw[tV f]at this;exact this
theorem jG {L:Array Bool} (a:Region.ready .any ops L=[]) (h:Q .normal fr H):nT E (fun _=>F) ops Q 0 L fr H:=⟨a,h⟩
end
section
variable {E : kB} {N : Nat} {Q : fJ} {fr : Fr} {H : Hp}
def UW (E:kB) (N:Nat) (c:Code) (Q:fJ):Nat→Fr→Hp→Prop
 |0,_,_=>False
 |n+1,fr,H=>mT E N c (bK (UW E N c Q n) Q) fr H
theorem pT {c:Code} (n:Nat) (h:UW E N c Q n fr H):mT E N (.loop c) Q fr H:=by
 refine eP (fun m fr H=>UW E N c Q m fr H) n h fun m fr H a K b=>?_
 cases m with
 |zero=>exact a.elim
 |succ m=>
  refine Jp a fun e f d h=>?_;cases e<;>first|exact b m _ _ (Nat.lt_succ_self m) h|exact h
theorem tI {c:Code} {n:Nat} (h: ∀K:Fr→Hp→Prop,(∀fr H,UW E N c Q n fr H→K fr H)→mT E N c (bK K Q) fr H):UW E N c Q (n+1) fr H:=h _ fun _ _ h=>h
theorem aZ.any {R:vI→Hp→Prop} {v:AV} (h:R (.ret v) pZ):aZ R v H:=⟨v,pZ,lT.drop (fun b o h=>by cases h),h⟩
theorem kY {F:Nat→Prop} {a:List (Option Nat)} {d:Option Nat} {e:List Oper} {g:FuncId} {j:List AV}
  (h: ∀R:vI→Hp→Prop,(∀v,eF E F a Q e (fP fr d v) H→R (.ret v) pZ)→oM E g j pZ R):qL E F a Q d e fr H g j:=by
 refine mK (R:=fun i f=>f=pZ∧ ∃v,i= .ret v∧eF E F a Q e (fP fr d v) H) (h _ fun v c=>⟨rfl,v,rfl,c⟩) (fN.refl _) (rP _) (fun b k=>absurd rfl k) fun i f l _=>?_;obtain⟨rfl,v,rfl,c⟩:=l;simp only[Qg];exact c
theorem sZ {b a:Nat} {o:iF}:(upd H a (some o) b=none)=((b≠a∧a≠b)∧H b=none):=by
 refine propext ⟨fun h=>?_,fun⟨⟨d,_⟩,f⟩=>?_⟩
 ·unfold upd at h
  split at h
  ·cases h
  rename_i c;exact⟨⟨c,fun e=>c e.symm⟩,h⟩
 unfold upd;rw[aJ d];exact f
theorem tR {b:Nat}:(pZ b=none)=True:=eq_true rfl
end
end Go.Al
namespace Go.Proofs.YtaecpjgmcffliaaGreatDoor
open Go.Al Go.Proofs.Tryz
theorem N6: ∀a b:List Ex,iJ (a++b)=iJ a++iJ b
 |[],b=>by simp [iJ]
 |x::a,b=>by simp only[cZ,iJ,N6 a b,bT]
theorem N7: ∀a b:List Sm,hJ (a++b)=hJ a++hJ b
 |[],b=>by simp [hJ]
 |x::a,b=>by simp only[cZ,hJ,N7 a b,bT]
theorem tA (l:List Ex) (k:Nat):(iJ (l.take k)).length≤(iJ l).length:=by
 have:=congrArg List.length (N6 (l.take k) (l.drop k));rw[mJ,aB]at this;omega
theorem Ha (l:List Sm) (k:Nat):(hJ (l.take k)).length≤(hJ l).length:=by
 have:=congrArg List.length (N7 (l.take k) (l.drop k));rw[mJ,aB]at this;omega
def WC (e:Ex):Prop:= ∀(b:Nat) (bs:dD),(bs++fO e).length≤140737488355328→Uw dP 79 [.ptr 2 b 0 0, .agg e.row] b bs (.tup []) (fO e)
theorem B5 (k o n:Int) (s:dD) (l:List Ex) (hk:k=6→4≤o∧o≤15) (F:dR n) (b9:l.length≤9223372036854775807) (h: ∀e∈l,WC e):WC (.mk k o n s l):=by
 intro b z T H0 hm;have d:=hm.h;have C:fO (.mk k o n s l)=iJ l++iR k o n s:=by rw[fO]
 have y:z.length+(iJ l).length+(iR k o n s).length≤140737488355328:=by
  rw[C]at T;simp only[aB]at T;omega
 clear T;simp only[Ex.row_eq,Ex.kind,Ex.op,Ex.num,Ex.name,Ex.kids];refine bY 65 [] func79 ?_;refine aA fun K f=>?_;simp only[RR,seval];refine aN fun p c2=>?_;simp only[RR,seval];refine f _ _ (aI (aA fun K f=>?_));simp only[aG,RR,seval];refine f _ _ (bQ fun F1 M1 u E=>?_);have v:=u 0;have A:=u 3;have G:=u 7;have H:=u 8;have B:=u 9;have a:=E p;simp only[RR,seval]at v A G H B a;have hM:=funext E;refine aQ ?_;refine eY [0,3,7,8] (l.length) (fun j fr M=>fr 9= .int .i64 (j:Nat)∧M p=M1 p∧nA b (z++iJ (l.take j)) M) ⟨B,rfl,(by rw[hM,gD,show iJ []=[]by simp only[iJ],dQ];exact d.new (by assumption) _)⟩ ?_;rintro j V M2 c1 ⟨Y,g,d⟩ L K0 a9;have v:=(L 0 rfl).trans v;have A:=(L 3 rfl).trans A;have G:=(L 7 rfl).trans G;have H:=(L 8 rfl).trans H;have B:=Y;clear Y;have a:=g.trans a;have Q:=bB.refl [0,3,7,8] V;have N:=g;clear L;refine aA fun K f=>?_;simp only[H,B,RR,seval];refine f _ _ (aI (aV ?_ ?_))<;>intro I
 ·have P:j<l.length:=by have:=aD I;omega
  clear I;have S:=qJ (aF P);have U:l.take (j+1)=l.take j++[l[j]]:=bW P;have R:=h _ (bX P);have a6:=tA l (j+1);generalize l[j]=e at S U R;rw[U,nJ]at a6;simp only[aB]at a6;obtain⟨x1,x2,x3,x4,x5⟩:=e;simp only[Ex.kind,Ex.op,Ex.num,Ex.name,Ex.kids]at S;simp only[WC,Ex.row_eq,Ex.kind,Ex.op,Ex.num,Ex.name,Ex.kids]at R;generalize b6:fO (.mk x1 x2 x3 x4 x5)=c5 at *;refine aL ?_;simp only[RR];refine aI (aQ (aA fun K f=>?_));simp only[G,B,S,RR,seval];refine aN fun W b4=>?_;have b7:=cY b4 a;have a7:=b7.symm;simp only[RR,seval];refine f _ _ (bQ fun F3 M3 u E=>?_);have Z:=u 0;have g3:=u 3;have X:=u 5;have g7:=u 7;have g8:=u 8;have g9:=u 9;have g:=E p;have O:=E W;simp only[v,A,G,H,B,a,a7,RR,seval]at Z g3 X g7 g8 g9 g O;have Q:bB [0,3,7,8] V F3:=bB.same u (by repeat (first|exact Q|refine bB.upd rfl ?_));have N:=(E p).trans (by(simp only[a7,aT,seval];exact N));have d:nA b (z++iJ (l.take j)) M3:=by rw[funext E];exact d.new2 (by assumption) _ _
  have v:=Z;have A:=g3;have G:=g7;have H:=g8;have B:=g9;have a:=g;refine aH ?_;simp only[v,X,O,RR,seval];refine gQ d (R b (z++iJ (l.take j)) (by simp only[aB];omega)) (fN.refl _) (fun _=>trivial) fun M4 d t J=>?_;have g:=t p _ a trivial;have N:=(g.trans a.symm).trans N;have a:=g;have a8:=t W _ O trivial;have O:=a8;simp only[RR,seval];refine aH ?_;simp only[B,RR,seval];rw[aS _ (by omega)];refine a9 _ _ P ⟨by rfl,N,by rw[U,nJ,b6];simpa only[bT]using d⟩ (by repeat (first|exact Q|refine bB.upd rfl ?_))
 have b2:j=l.length:=by have:=aE I;omega
 rw[b2,dG]at d;refine cG ?_;simp only[RR,seval];refine aA fun K f=>?_;simp only[A,a,RR,seval];refine f _ _ (aQ (aA fun K f=>?_));simp only[RR,seval];refine f _ _ (aV ?_ ?_)<;>intro a4
 ·obtain rfl:=aD a4
  have i:iR 1 o n s=Lib.decDigits n.toNat++[32]:=by simp [iR]
  rw[i]at y;simp only[aB,aM,aU]at y;have b0:(Lib.decDigits n.toNat).length+1≤maxLen:=by unfold maxLen;omega
  refine bA (fun x=>x≠p) [(0,3),(1,3),(2,3),(3,3),(4,1),(5,1),(6,3),(7,1)] [] eE (by kernel_rfl) rfl rfl ?_;simp only[dL,v,A,a,RR,seval];refine aO (KX n F) ?_;simp only[b0,RR,seval];refine uY d (fE b (z++iJ l) (Lib.decDigits n.toNat++[32]) (by simp only[aB,aM,aU];omega)) (fN.refl _) (fun x o D F=>by exact(fun e=>by subst e;(rw[a]at D;cases D;exact F trivial))) fun M5 d t J=>?_;have g:=t p _ a trivial;have a:=g;simp only[RR,seval];simp only[aY,aK,bR,seval];exact zO d (by rw[C,i]<;>simp only[bT])
 refine aA fun K f=>?_;simp only[RR,seval];refine f _ _ (aV ?_ ?_)<;>intro a5
 ·obtain rfl:=aD a5
  have i:iR 2 o n s=s:=by simp [iR]
  rw[i]at y;refine bA (fun x=>x≠p) [(0,3),(1,3),(2,3),(3,3),(4,1),(5,1)] [] eE (by kernel_rfl) rfl rfl ?_;simp only[dL,v,A,a,RR,seval];refine uY d (fE b (z++iJ l) s (by simp only[aB];omega)) (fN.refl _) (fun x o D F=>by exact(fun e=>by subst e;(rw[a]at D;cases D;exact F trivial))) fun M6 d t J=>?_;have g:=t p _ a trivial;have a:=g;simp only[RR,seval];simp only[aY,aK,bR,seval];exact zO d (by rw[C,i]<;>simp only[bT])
 refine aA fun K f=>?_;simp only[RR,seval];refine f _ _ (aV ?_ ?_)<;>intro a0
 ·obtain rfl:=aD a0
  have i:iR 3 o n s=[64]:=by simp [iR]
  rw[i]at y;simp only[aM,aU]at y;refine aH ?_;simp only[v,RR,seval];refine gQ d (fE b (z++iJ l) [64] (by simp only[aB,aM,aU];omega)) (fN.refl _) (fun _=>trivial) fun M7 d t J=>?_;have g:=t p _ a trivial;have a:=g;simp only[RR,seval];simp only[aY,aK,bR,seval];exact zO d (by rw[C,i]<;>simp only[bT])
 refine aA fun K f=>?_;simp only[RR,seval];refine f _ _ (aV ?_ ?_)<;>intro a1
 ·obtain rfl:=aD a1
  have i:iR 5 o n s=[63]:=by simp [iR]
  rw[i]at y;simp only[aM,aU]at y;refine aH ?_;simp only[v,RR,seval];refine gQ d (fE b (z++iJ l) [63] (by simp only[aB,aM,aU];omega)) (fN.refl _) (fun _=>trivial) fun M8 d t J=>?_;have g:=t p _ a trivial;have a:=g;simp only[RR,seval];simp only[aY,aK,bR,seval];exact zO d (by rw[C,i]<;>simp only[bT])
 refine aA fun K f=>?_;simp only[RR,seval];refine f _ _ (aV ?_ ?_)<;>intro a2
 ·obtain rfl:=aD a2
  obtain⟨c3,c4⟩:=hk rfl;obtain⟨j,rfl⟩: ∃j:Nat,o=((4+j:Nat):Int):=⟨(o- 4).toNat,by omega⟩;have hj:j<12:=by omega
  have hw:IntKind.wrap .i64 (((4+j:Nat):Int)- 4)=(j:Int):=by rw[aS _ (by omega)];omega
  obtain⟨c,I⟩: ∃c,opS[j]?=some c:=⟨_,aF (show j<opS.length from hj)⟩
  have i:iR 6 ((4+j:Nat):Int) n s=[c]:=by
   have e1:(((4+j:Nat):Int)- 4).toNat=j:=by omega
   unfold iR;rw[aJ (by decide),aJ (by decide),aJ (by decide),aJ (by decide),aJ (by decide),bD rfl,e1,I];rfl
  rw[i]at y;simp only[aM,aU]at y;have c0:(j:Int)<12:=by omega
  have b1:([43,45,42,47,37,38,124,94,76,82,60,61]:List UInt8)[j]?=some c:=I;refine bA (fun x=>x≠p) [(0,3),(1,3),(2,3),(3,3),(4,1),(5,3),(6,3),(7,1)] [] eE (by kernel_rfl) rfl rfl ?_;simp only[dL,v,A,a,hw,b1,RR,seval];refine uY d (Nz b (z++iJ l) c (by simp only[aB];omega)) (fN.refl _) (fun x o D F=>by exact(fun e=>by subst e;(rw[a]at D;cases D;exact F trivial))) fun M9 d t J=>?_;have g:=t p _ a trivial;have a:=g;simp only[RR,seval];simp only[aY,aK,bR,seval];exact zO d (by rw[C,i]<;>simp only[bT])
 refine aA fun K f=>?_;simp only[RR,seval];refine f _ _ (aV ?_ ?_)<;>intro a3
 ·obtain rfl:=aD a3
  have i:iR 7 o n s=[33]:=by simp [iR]
  rw[i]at y;simp only[aM,aU]at y;refine aH ?_;simp only[v,RR,seval];refine gQ d (fE b (z++iJ l) [33] (by simp only[aB,aM,aU];omega)) (fN.refl _) (fun _=>trivial) fun b8 d t J=>?_;have g:=t p _ a trivial;have a:=g;simp only[RR,seval];simp only[aY,aK,bR,seval];exact zO d (by rw[C,i]<;>simp only[bT])
 have h1:=aE a4;have h2:=aE a5;have h3:=aE a0;have h4:=aE a1;have h5:=aE a2;have h6:=aE a3;have i:iR k o n s=[]:=by simp [iR,h1,h2,h3,h4,h5,h6]
 refine aL ?_;simp only[RR];simp only[aY,aK,bR,seval];exact zO d (by rw[C,i]<;>simp only[dQ])
theorem U9 (N:Nat): ∀(e:Ex) (b:Int),e.sz≤N→e.ok→lN e b=true→WC e:=by
 induction N using Nat.strongRecOn with
 |_ N ih=>
  intro e b u d f;have v:=e.sz_eq;have c:=d.kids;have j:=d.num;simp only[lN,aX]at f;obtain⟨⟨_,i⟩,p⟩:=f;obtain⟨k,o,n,s,l⟩:=e;simp only[Ex.kind,Ex.op,Ex.num,Ex.kids]at *;refine B5 k o n s l (fun g=>by subst g;simp [nD]at i;omega) j c.fit fun x a=>?_;have t:=nN a;exact ih x.sz (by omega) x (b+1) (bH _) (c.all x a) (wE p x a)
def WM (m:Sm):Prop:= ∀(b:Nat) (bs:dD),(bs++oW m).length≤140737488355328→Uw dP 54 [.ptr 2 b 0 0, .agg m.row] b bs (.tup []) (oW m)
theorem Gu (l:List Sm) (a0:l.length≤9223372036854775807) (h: ∀e∈l,WM e) (b:Nat) (g:dD) (J:(g++hJ l).length≤140737488355328):Uw dP 28 [.ptr 2 b 0 0, .isl 5 (l.map Sm.row)] b g (.tup []) (hJ l):=by
 intro U L;have a:=L.h;simp only[aB]at J;refine bY 16 [] func28 ?_;refine aA fun K d=>?_;simp only[aG,RR,seval];refine d _ _ (bQ fun T W o E=>?_);have i:=o 0;have k:=o 6;have n:=o 7;have c:=o 8;simp only[RR,seval]at i k n c;have G:=funext E;refine aQ (eY [0,6,7] (l.length) (fun j D M=>D 8= .int .i64 (j:Nat)∧nA b (g++hJ (l.take j)) M) ⟨c,(by rw[G,gD,show hJ []=[]by simp only[hJ],dQ];exact a)⟩ ?_);rintro j A X a1 ⟨y,a⟩ f V F;have i:=(f 0 rfl).trans i;have k:=(f 6 rfl).trans k;have n:=(f 7 rfl).trans n;have c:=y;clear y;have B:=bB.refl [0,6,7] A;clear f;refine aA fun K d=>?_;simp only[n,c,RR,seval];refine d _ _ (aI (aV ?_ ?_))<;>intro t
 ·have p:j<l.length:=by have:=aD t;omega
  clear t;have v:=Ns (aF p);have x:l.take (j+1)=l.take j++[l[j]]:=bW p;have u:=h _ (bX p);have z:=Ha l (j+1);generalize l[j]=e at v x u;rw[x,tB]at z;simp only[aB]at z;obtain⟨O,P,Q,R,S⟩:=e;simp only[Sm.kind,Sm.name,Sm.es,Sm.thn,Sm.els]at v;simp only[WM,Sm.row_eq,Sm.kind,Sm.name,Sm.es,Sm.thn,Sm.els]at u;generalize N:oW (.mk O P Q R S)=a4 at *;refine aL ?_;simp only[RR];refine aI (aQ (aA fun K d=>?_));simp only[k,c,v,RR,seval];refine aN fun C a3=>?_;simp only[RR,seval];refine d _ _ (aH ?_);simp only[i,RR,seval];refine gQ (by exact a.new2 (by assumption) _ _) (u b (g++hJ (l.take j)) (by simp only[aB];omega)) (fN.refl _) (fun _=>trivial) fun Y a H a2=>?_;have Z:=H C _ (bC _ _ _) trivial;simp only[RR,seval];refine aH ?_;simp only[c,RR,seval];rw[aS _ (by omega)];refine F _ _ p ⟨by rfl,by rw[x,tB,N];simpa only[bT]using a⟩ (by repeat (first|exact B|refine bB.upd rfl ?_))
 have I:j=l.length:=by have:=aE t;omega
 rw[I,dG]at a;refine cG ?_;simp only[RR,seval];simp only[aY,aK,bR,seval];exact zO a rfl
theorem B2 (k:Int) (s:dD) (l:List Ex) (t u:List Sm) (d2:l.length≤9223372036854775807) (b8:t.length≤9223372036854775807) (he: ∀e∈l,WC e) (ht: ∀e∈t,WM e):WM (.mk k s l t u):=by
 intro b p L H0 hm;have a:=hm.h;obtain⟨xZ,N⟩: ∃xZ:dD,(if k=5 then [87]else [])=xZ:=⟨_,rfl⟩;obtain⟨S,z⟩: ∃S:dD,(if k=1 then [58]++s else if k=2 then [35]else if k=3 then [46]else if k=4 then [73]++(hJ t++[70])else if k=5 then [68]++(hJ t++[69])else [])=S:=⟨_,rfl⟩
 have hE:oW (.mk k s l t u)=xZ++(iJ l++S):=by
  rw[oW,←N,←z];by_cases k1:k=1
  ·subst k1;simp
  by_cases k2:k=2
  ·subst k2;simp
  by_cases k3:k=3
  ·subst k3;simp
  by_cases k4:k=4
  ·subst k4;simp
  by_cases k5:k=5
  ·subst k5;simp
  simp [k1,k2,k3,k4,k5]
 rw[hE]at L⊢;have G:p.length+xZ.length+(iJ l).length+S.length≤140737488355328:=by simp only[aB]at L;omega
 have b2:=fun b p L=>Gu t b8 ht b p L;clear L hE;simp only[Sm.row_eq,Sm.kind,Sm.name,Sm.es,Sm.thn,Sm.els];refine bY 75 [] func54 ?_;refine aA fun K f=>?_;simp only[RR,seval];refine aN fun g d4=>?_;simp only[RR,seval];refine f _ _ (aI (aA fun K f=>?_));simp only[RR,seval];refine f _ _ (bQ fun F1 O v A=>?_);have n:=v 0;have y:=v 3;have f8:=v 8;have c:=A g;simp only[RR,seval]at n y f8 c;have V:=funext A;have a:nA b p O:=by rw[V];exact a.new (by assumption) _
 refine gP (fun U M=>bB [0,3] F1 U∧M g=O g∧nA b (p++xZ) M) (fun c3 a5=>?_) ?_
 ·have a1:=bB.refl [0,3] F1
  have P:O g=O g:=rfl;refine dY _ f8 (fun X=>?_) (fun X=>?_)
  ·obtain rfl:=aD X
   rw[bD rfl]at N;subst N;simp only[aM,aU]at G;refine aH ?_;simp only[n,RR,seval];refine gQ a (fE b p [87] (by simp only[aB,aM,aU];omega)) (fN.refl _) (fun _=>trivial) fun M2 a i B=>?_;have d:=i g _ c trivial;have P:=(d.trans c.symm).trans P;have c:=d;simp only[RR,seval];refine a5 _ _ ⟨(by repeat (first|exact a1|refine bB.upd rfl ?_)),P, ?_⟩;exact a
  rw[aJ (aE X)]at N;subst N;refine aL ?_;simp only[RR];refine a5 _ _ ⟨(by repeat (exact a1)),P, ?_⟩
  (rw[dQ];exact a)
 rintro F3 M3 ⟨C,d,a⟩;have n:=(C 0 rfl).trans n;have y:=(C 3 rfl).trans y;have c:=d.trans c;clear C;simp only[RR,seval];refine aI (aA fun K f=>?_);simp only[y,c,aG,RR,seval];refine f _ _ (bQ fun F4 M4 v A=>?_);have I:=v 0;have J:=v 3;have E:=v 14;have F:=v 15;have D:=v 16;have d:=A g;simp only[n,y,c,RR,seval]at I J E F D d;have V:=funext A;have n:=I;have y:=J;have c:=d;refine aQ (eY [0,3,14,15] (l.length) (fun j U M=>U 16= .int .i64 (j:Nat)∧M g=M4 g∧nA b (p++(xZ++iJ (l.take j))) M) ⟨D,rfl,(by rw[V,gD,show iJ []=[]by simp only[iJ],dQ];exact a)⟩ ?_);rintro j F5 M5 d3 ⟨fx,d,a⟩ C K0 b7;have n:=(C 0 rfl).trans n;have y:=(C 3 rfl).trans y;have E:=(C 14 rfl).trans E;have F:=(C 15 rfl).trans F;have D:=fx;clear fx;have c:=d.trans c;have T:=bB.refl [0,3,14,15] F5;have H:=d;clear C;refine aA fun K f=>?_;simp only[F,D,RR,seval];refine f _ _ (aI (aV ?_ ?_))<;>intro W
 ·have R:j<l.length:=by have:=aD W;omega
  clear W;have Z:=qJ (aF R);have a0:l.take (j+1)=l.take j++[l[j]]:=bW R;have Y:=he _ (bX R);have b1:=tA l (j+1);generalize l[j]=e at Z a0 Y;rw[a0,nJ]at b1;simp only[aB]at b1;obtain⟨x1,x2,x3,x4,x5⟩:=e;simp only[Ex.kind,Ex.op,Ex.num,Ex.name,Ex.kids]at Z;simp only[WC,Ex.row_eq,Ex.kind,Ex.op,Ex.num,Ex.name,Ex.kids]at Y;generalize c1:fO (.mk x1 x2 x3 x4 x5)=d5 at *;refine aL ?_;simp only[RR];refine aI (aQ (aA fun K f=>?_));simp only[E,D,Z,RR,seval];refine aN fun b5 c0=>?_;have c2:=cY c0 c;have b4:=c2.symm;simp only[RR,seval];refine f _ _ (bQ fun F6 M6 v A=>?_);have I:=v 0;have J:=v 3;have f5:=v 5;have a2:=v 14;have a3:=v 15;have a4:=v 16;have d:=A g;have Q:=A b5;simp only[n,y,E,F,D,c,b4,RR,seval]at I J f5 a2 a3 a4 d Q;have T:bB [0,3,14,15] F5 F6:=bB.same v (by repeat (first|exact T|refine bB.upd rfl ?_));have H:=(A g).trans (by(simp only[b4,aT,seval];exact H));have a:nA b (p++(xZ++iJ (l.take j))) M6:=by rw[funext A];exact a.new2 (by assumption) _ _
  have n:=I;have y:=J;have E:=a2;have F:=a3;have D:=a4;have c:=d;refine aH ?_;simp only[n,f5,Q,RR,seval];refine gQ a (Y b (p++(xZ++iJ (l.take j))) (by simp only[aB];omega)) (fN.refl _) (fun _=>trivial) fun M7 a i B=>?_;have d:=i g _ c trivial;have H:=(d.trans c.symm).trans H;have c:=d;have b6:=i b5 _ Q trivial;have Q:=b6;simp only[RR,seval];refine aH ?_;simp only[D,RR,seval];rw[aS _ (by omega)];refine b7 _ _ R ⟨by rfl,H,by rw[a0,nJ,c1];simpa only[bT]using a⟩ (by repeat (first|exact T|refine bB.upd rfl ?_))
 have b9:j=l.length:=by have:=aE W;omega
 rw[b9,dG]at a;refine cG ?_;simp only[RR,seval];refine aA fun K f=>?_;simp only[y,c,RR,seval];refine f _ _ (aQ (aA fun K f=>?_));simp only[RR,seval];refine f _ _ (aV ?_ ?_)<;>intro b0
 ·obtain rfl:=aD b0
  simp only[Int.reduceEq,cQ,dC]at z;subst z;simp only[aB,aM,aU]at G;have d1:1+s.length≤maxLen:=by unfold maxLen;omega
  refine bA (fun x=>x≠g) [(0,3),(1,3),(2,3),(3,3),(4,1),(5,3),(6,1)] [] eE (by kernel_rfl) rfl rfl ?_;simp only[*,dL,RR,seval];refine uY a (fE b (p++(xZ++iJ l)) ([58]++s) (by simp only[aB,aM,aU];omega)) (fN.refl _) (fun x o hx hn=>by exact(fun e=>by subst e;(rw[c]at hx;cases hx;exact hn trivial))) fun M8 a i B=>?_;have d:=i g _ c trivial;have c:=d;simp only[RR,seval];simp only[aY,aK,bR,seval];exact zO a (by simp only[bT,cZ,cC])
 refine aA fun K f=>?_;simp only[RR,seval];refine f _ _ (aV ?_ ?_)<;>intro a6
 ·obtain rfl:=aD a6
  simp only[Int.reduceEq,cQ,dC]at z;subst z;simp only[aM,aU]at G;refine aH ?_;simp only[n,RR,seval];refine gQ a (fE b (p++(xZ++iJ l)) [35] (by simp only[aB,aM,aU];omega)) (fN.refl _) (fun _=>trivial) fun M9 a i B=>?_;have d:=i g _ c trivial;have c:=d;simp only[RR,seval];simp only[aY,aK,bR,seval];exact zO a (by simp only[bT])
 refine aA fun K f=>?_;simp only[RR,seval];refine f _ _ (aV ?_ ?_)<;>intro a7
 ·obtain rfl:=aD a7
  simp only[Int.reduceEq,cQ,dC]at z;subst z;simp only[aM,aU]at G;refine aH ?_;simp only[n,RR,seval];refine gQ a (fE b (p++(xZ++iJ l)) [46] (by simp only[aB,aM,aU];omega)) (fN.refl _) (fun _=>trivial) fun c4 a i B=>?_;have d:=i g _ c trivial;have c:=d;simp only[RR,seval];simp only[aY,aK,bR,seval];exact zO a (by simp only[bT])
 refine aA fun K f=>?_;simp only[RR,seval];refine f _ _ (aV ?_ ?_)<;>intro a8
 ·obtain rfl:=aD a8
  simp only[Int.reduceEq,cQ,dC]at z;subst z;simp only[aB,aM,aU]at G;refine aA fun K f=>?_;simp only[n,RR,seval];refine gQ a (fE b (p++(xZ++iJ l)) [73] (by simp only[aB,aM,aU];omega)) (fN.refl _) (fun _=>trivial) fun c5 a i B=>?_;have d:=i g _ c trivial;have c:=d;simp only[RR,seval];refine f _ _ (aA fun K f=>?_);simp only[n,y,c,RR,seval];refine gQ a (b2 b (p++(xZ++iJ l)++[73]) (by simp only[aB,aM,aU];omega)) (fN.refl _) (fun _=>trivial) fun c6 a i B=>?_;have d:=i g _ c trivial;have c:=d;simp only[RR,seval];refine f _ _ (aH ?_);simp only[n,RR,seval];refine gQ a (fE b (p++(xZ++iJ l)++[73]++hJ t) [70] (by simp only[aB,aM,aU];omega)) (fN.refl _) (fun _=>trivial) fun c7 a i B=>?_;have d:=i g _ c trivial;have c:=d;simp only[RR,seval];simp only[aY,aK,bR,seval];exact zO a (by simp only[bT,cZ,cC])
 refine aA fun K f=>?_;simp only[RR,seval];refine f _ _ (aV ?_ ?_)<;>intro a9
 ·obtain rfl:=aD a9
  simp only[Int.reduceEq,cQ,dC]at z;subst z;simp only[aB,aM,aU]at G;refine aA fun K f=>?_;simp only[n,RR,seval];refine gQ a (fE b (p++(xZ++iJ l)) [68] (by simp only[aB,aM,aU];omega)) (fN.refl _) (fun _=>trivial) fun c8 a i B=>?_;have d:=i g _ c trivial;have c:=d;simp only[RR,seval];refine f _ _ (aA fun K f=>?_);simp only[n,y,c,RR,seval];refine gQ a (b2 b (p++(xZ++iJ l)++[68]) (by simp only[aB,aM,aU];omega)) (fN.refl _) (fun _=>trivial) fun c9 a i B=>?_;have d:=i g _ c trivial;have c:=d;simp only[RR,seval];refine f _ _ (aH ?_);simp only[n,RR,seval];refine gQ a (fE b (p++(xZ++iJ l)++[68]++hJ t) [69] (by simp only[aB,aM,aU];omega)) (fN.refl _) (fun _=>trivial) fun d0 a i B=>?_;have d:=i g _ c trivial;have c:=d;simp only[RR,seval];simp only[aY,aK,bR,seval];exact zO a (by simp only[bT,cZ,cC])
 rw[aJ (aE b0),aJ (aE a6),aJ (aE a7),aJ (aE a8),aJ (aE a9)]at z;subst z;refine aL ?_;simp only[RR];simp only[aY,aK,bR,seval];exact zO a (by simp only[])
theorem U7 (N:Nat): ∀(e:Sm) (b:Int),e.sz≤N→e.ok→lO e b=true→WM e:=by
 induction N using Nat.strongRecOn with
 |_ N ih=>
  intro e b o f g;have p:=e.sz_eq;have c:=f.es;have d:=f.thn;simp only[lO,aX]at g;obtain⟨⟨⟨_,i⟩,j⟩,_⟩:=g;obtain⟨k,s,l,t,u⟩:=e;simp only[Sm.kind,Sm.es,Sm.thn,Sm.els]at *;refine B2 k s l t u c.fit d.fit (fun x a=>U9 _ x (b+1) (bH _) (c.all x a) (wE i x a)) fun x a=>?_;have n:=nB a;exact ih x.sz (by omega) x (b+1) (bH _) (d.all x a) (wC j x a)
theorem Ee (s:dD):eH dP 36 [.str s] (.bool (Cd s)):=by
 rcases s with _|⟨c,_|⟨d,l⟩⟩
 ·skip
  refine bY 20 [.tmp 2] func36 ?_;refine aA fun K a=>?_;simp only[RR,seval];refine a _ _ (aA fun K a=>?_);simp only[RR,seval];apply a;refine aP ?_;simp only[aY,aK,bR,RR,seval];refine aZ.pure ?_;rfl
 ·skip
  refine bY 20 [.tmp 2] func36 ?_;refine aA fun K a=>?_;simp only[RR,seval];refine a _ _ (aA fun K a=>?_);simp only[RR,seval]
  repeat' ((refine fH (fun h=>?_) (fun h=>?_))<;>simp only[h,RR,seval])
  all_goals
   apply a;refine aP ?_;simp only[aY,aK,bR,RR,seval];refine aZ.pure ?_;simp [Cd, *]
 have z:decide (((c::d::l).length:Int)=1)=false:=bG (by simp only[aM];omega);refine bY 20 [.tmp 2] func36 ?_;refine aA fun K a=>?_;simp only[RR,seval];refine a _ _ (aA fun K a=>?_);simp only[RR,seval];apply a;refine aP ?_;simp only[aY,aK,bR,RR,seval];refine aZ.pure ?_;rfl
theorem Tj (n:Nat): ∀l:List Ex,Fp l≤n→n≤1000000000→eH dP 63 [.isl 5 (l.map Ex.row)] (.bool (l.all (Jc Ad))):=by
 induction n using Nat.strongRecOn with
 |_ n ih=>
  intro l hn W;have Z:=Om l
  have I: ∀e∈l,eH dP 63 [.isl 5 (e.kids.map Ex.row)] (.bool (e.kids.all (Jc Ad))):=fun e G=>by
   have t:=nN G;have R:=e.sz_eq;exact ih (Fp e.kids) (by omega) e.kids (bH _) (by omega)
  have F: ∀{k:Nat} {e:Ex},l[k]?=some e→Jc Ad e=false→AV.bool false=AV.bool (l.all (Jc Ad)):=fun D t=>by rw[Do D t]
  clear ih;refine bY 41 [.tmp 2] func63 ?_;refine aA fun K a=>?_;simp only[RR,seval];refine a _ _ (aI (aA fun K a=>?_));simp only[RR,seval];refine a _ _ (bQ fun L O f V=>?_);have c:=f 0;have B:=f 2;have b:=f 3;simp only[RR,seval]at c B b;refine aQ (eY [0] (l.length) (fun k C M=>C 3= .int .i64 (k:Nat)∧(l.take k).all (Jc Ad)=true) ⟨b,rfl⟩ ?_);rintro k z P Y ⟨p,i⟩ o N E;have c:=(o 0 rfl).trans c;have b:=p;clear p;have A:=bB.refl [0] z;clear o;refine aI (aA fun K a=>?_);simp only[c,b,aG,RR,seval];refine a _ _ (aV ?_ ?_)<;>intro d
  ·have j:k<l.length:=by have:=aD d;omega
   clear d;have g:=aF j;have H:=I _ (bX j);have u:=F g;have y:=vD g i;have X:=qJ g;generalize l[k]=e at *;have x:Ad e.kind= !(decide (e.kind=4)||decide (e.kind=8)||decide (e.kind=9)):=rfl;rw[Di,x]at u y;clear x;generalize e.kids.all (Jc Ad)=Q at *;generalize S:decide (e.kind=4)=q4 at *;generalize T:decide (e.kind=8)=q8 at *;generalize U:decide (e.kind=9)=q9 at *;refine aL ?_;simp only[RR];refine aI (aQ (aA fun K a=>?_));simp only[*,RR,seval]
   all_goals ((refine cT (fun h=>?_) (fun h=>?_))<;>simp only[*,RR,seval])
   all_goals try ((refine cT (fun h=>?_) (fun h=>?_))<;>simp only[*,RR,seval])
   all_goals try ((refine cT (fun h=>?_) (fun h=>?_))<;>simp only[*,RR,seval])
   all_goals try (refine aO (H) ?_;simp only[RR,seval])
   all_goals
    refine a _ _ (aV ?_ ?_)<;>intro v
    ·try (cases v;done)
     all_goals
      refine aA fun K a=>?_;simp only[RR,seval];apply a;refine aP ?_;simp only[aY,aK,bR,RR,seval];refine aZ.pure ?_;exact u (by simp_all)
    try (cases v;done)
    all_goals
     refine aL ?_;simp only[RR];refine aH ?_;simp only[b,RR,seval];rw[aS _ (by omega)];refine E _ _ j ⟨by rfl,y (by simp_all)⟩ (by repeat (first|exact A|refine bB.upd rfl ?_))
  have J:k=l.length:=by have:=aE d;omega
  refine cG ?_;simp only[RR,seval];refine aA fun K a=>?_;simp only[RR,seval];apply a;refine aP ?_;simp only[aY,aK,bR,RR,seval];refine aZ.pure ?_
  (rw[J,dG]at i;rw[i])
theorem Ti (n:Nat): ∀l:List Sm,sS l≤n→n≤1000000000→eH dP 37 [.isl 5 (l.map Sm.row)] (.bool (l.all Ni)):=by
 induction n using Nat.strongRecOn with
 |_ n ih=>
  intro l hn hb;have a1:=Ol l
  have O: ∀e∈l,eH dP 37 [.isl 5 (e.thn.map Sm.row)] (.bool (e.thn.all Ni)):=fun e g=>by
   have u:=nB g;have Y:=e.sz_eq;exact ih (sS e.thn) (by omega) e.thn (bH _) (by omega)
  have N: ∀e∈l,eH dP 63 [.isl 5 (e.es.map Ex.row)] (.bool (e.es.all (Jc Ad))):=fun e g=>Tj _ e.es (bH _) (by have:=nB g;have:=e.sz_eq;omega);have H: ∀{k:Nat} {e:Sm},l[k]?=some e→Ni e=false→AV.bool false=AV.bool (l.all Ni):=fun D u=>by rw[Do D u]
  clear ih;refine bY 41 [.tmp 2] func37 ?_;refine aA fun K a=>?_;simp only[RR,seval];refine a _ _ (aI (aA fun K a=>?_));simp only[RR,seval];refine a _ _ (bQ fun R T i Z=>?_);have c:=i 0;have B:=i 2;have b:=i 3;simp only[RR,seval]at c B b;refine aQ (eY [0] (l.length) (fun k C M=>C 3= .int .i64 (k:Nat)∧(l.take k).all Ni=true) ⟨b,rfl⟩ ?_);rintro k z U a0 ⟨t,o⟩ p S G;have c:=(p 0 rfl).trans c;have b:=t;clear t;have A:=bB.refl [0] z;clear p;refine aI (aA fun K a=>?_);simp only[c,b,aG,RR,seval];refine a _ _ (aV ?_ ?_)<;>intro f
  ·have d:k<l.length:=by have:=aD f;omega
   clear f;have j:=aF d;have J:=O _ (bX d);have L:=N _ (bX d);have v:=H j;have y:=vD j o;have I:=Ns j;generalize l[k]=e at *;rw[GU]at v y;generalize e.thn.all Ni=W at *;generalize e.es.all (Jc Ad)=V at *;have Q:decide ((0:Int)<(e.els.length:Int))= !decide (e.els.length=0):=by rw[eK];simp only[bP,eJ,eX];omega
   generalize E:decide (e.kind=6)=q6 at *;generalize F:decide (e.kind=7)=q7 at *;generalize decide (e.els.length=0)=q0 at *;refine aL ?_;simp only[RR];refine aI (aQ (aA fun K a=>?_));simp only[c,b,I,RR,seval];refine aN fun X a2=>?_;simp only[RR,seval];refine a _ _ (aA fun K a=>?_);simp only[E,RR,seval]
   all_goals ((refine cT (fun h=>?_) (fun h=>?_))<;>simp only[h,F,RR,seval])
   all_goals try ((refine cT (fun h=>?_) (fun h=>?_))<;>simp only[h,aG,Q,RR,seval])
   all_goals try ((refine cT (fun h=>?_) (fun h=>?_))<;>simp only[h,RR,seval])
   all_goals try (refine aO (L) ?_;simp only[RR,seval])
   all_goals try ((refine cT (fun h=>?_) (fun h=>?_))<;>simp only[h,RR,seval])
   all_goals try (refine aO (J) ?_;simp only[RR,seval])
   all_goals
    refine a _ _ (aV ?_ ?_)<;>intro x
    ·try (cases x;done)
     all_goals
      refine aA fun K a=>?_;simp only[RR,seval];apply a;refine aP ?_;simp only[aY,aK,bR,RR,seval];refine aZ.pure ?_;exact v (by simp_all)
    try (cases x;done)
    all_goals
     refine aL ?_;simp only[RR];refine aH ?_;simp only[b,RR,seval];rw[aS _ (by omega)];refine G _ _ d ⟨by rfl,y (by simp_all)⟩ (by repeat (first|exact A|refine bB.upd rfl ?_))
  have P:k=l.length:=by have:=aE f;omega
  refine cG ?_;simp only[RR,seval];refine aA fun K a=>?_;simp only[RR,seval];apply a;refine aP ?_;simp only[aY,aK,bR,RR,seval];refine aZ.pure ?_
  (rw[P,dG]at o;rw[o])
theorem Iq (p:Pg) (W:p.ok) (T:gL p=true→p.few):eH dP 15 [p.av] (.bool (jD (fun l=>l.all Ni) p)):=by
 have o:=Xc p W T;have d:jD (fun l=>l.all Ni) p=(decide (iW p=0)&&(decide (p.funs.length=1)&&(p.funs.all (fun g=>decide (g.locs.length=0))&&(decide (p.arrs.length≤1)&&(p.vars.all Cd&&(p.arrs.all W0&&p.funs.all fun g=>g.body.all Ni)))))):=rfl;have fv:p.vars.length≤9223372036854775807:=W.vars.fit;have a2:iW p=0→ ∀g∈p.funs,eH dP 37 [.isl 5 (g.body.map Sm.row)] (.bool (g.body.all Ni)):=fun h g hg=>Ti _ g.body (bH _) (by have:=(T (qR h)).fs g hg;omega);clear T W;generalize iW p=so at *;generalize jD (fun l=>l.all Ni) p=a4 at *;obtain⟨vs,z,fs⟩:=p;simp only[Pg.av,Pg.row]at *;by_cases z0:so=0
 rotate_left
 ·rw[bG z0,kC]at d
  subst d;refine bY 68 [.tmp 2] func15 ?_;refine aA fun K b=>?_;simp only[RR,seval];refine aN fun e y=>?_;simp only[RR,seval];refine b _ _ (aI (aA fun K b=>?_));simp only[RR,seval];refine aO (o) ?_;simp only[z0,RR,seval];refine b _ _ (cM (aA fun K b=>?_));simp only[RR,seval];apply b;refine aP ?_;simp only[aY,aK,bR,RR,seval];refine aZ.pure ?_;rfl
 subst z0;by_cases z1:fs.length=1
 rotate_left
 ·rw[bG z1,kC,YP]at d
  subst d;have y1:decide ((fs.length:Int)=1)=false:=bG (by omega);refine bY 68 [.tmp 2] func15 ?_;refine aA fun K b=>?_;simp only[RR,seval];refine aN fun e y=>?_;simp only[RR,seval];refine b _ _ (aI (aA fun K b=>?_));simp only[RR,seval];refine aO (o) ?_;simp only[aG,y1,RR,seval];refine b _ _ (cM (aA fun K b=>?_));simp only[RR,seval];apply b;refine aP ?_;simp only[aY,aK,bR,RR,seval];refine aZ.pure ?_;rfl
 obtain⟨f,rfl⟩:=List.length_eq_one_iff.1 z1;have hb:=a2 rfl f (bE.2 rfl);have B:f.row=[.str f.name, .isl 1 (f.params.map bM), .isl 1 (f.locs.map bM), .bool f.word, .isl 5 (f.body.map Sm.row)]:=rfl;have w1:decide ((([f]:List Fu).length:Int)=1)=true:=rfl;have w2:(0:Int)<(([f]:List Fu).length:Int):=by simp
 simp only[dZ,gW,mZ,aM,aU,bV,nG,cP]at d;clear z1 a2;have hg:([f].map Fu.row)[0]?=some [.str f.name, .isl 1 (f.params.map bM), .isl 1 (f.locs.map bM), .bool f.word, .isl 5 (f.body.map Sm.row)]:=rQ rfl;by_cases z2:f.locs.length=0
 rotate_left
 ·rw[bG z2,kC]at d
  subst d;have y1:decide ((0:Int)<(f.locs.length:Int))=true:=cR (by omega);refine bY 68 [.tmp 2] func15 ?_;refine aA fun K b=>?_;simp only[B,RR,seval];refine aN fun e y=>?_;simp only[RR,seval];refine b _ _ (aI (aA fun K b=>?_));simp only[RR,seval];refine aO (o) ?_;simp only[aG,y1,RR,seval];refine b _ _ (cM (aA fun K b=>?_));simp only[RR,seval];apply b;refine aP ?_;simp only[aY,aK,bR,RR,seval];refine aZ.pure ?_;rfl
 rw[cR z2,cP]at d;have H:decide ((0:Int)<(f.locs.length:Int))=false:=bG (by omega);by_cases z3:z.length≤1
 rotate_left
 ·rw[bG z3,kC]at d
  subst d;have y3:decide ((1:Int)<(z.length:Int))=true:=cR (by omega);refine bY 68 [.tmp 2] func15 ?_;refine aA fun K b=>?_;simp only[B,RR,seval];refine aN fun e y=>?_;simp only[RR,seval];refine b _ _ (aI (aA fun K b=>?_));simp only[RR,seval];refine aO (o) ?_;simp only[aG,H,y3,RR,seval];refine b _ _ (cM (aA fun K b=>?_));simp only[RR,seval];apply b;refine aP ?_;simp only[aY,aK,bR,RR,seval];refine aZ.pure ?_;rfl
 rw[cR z3,cP]at d;have y3:decide ((1:Int)<(z.length:Int))=false:=bG (by omega);have a1: ∀{k:Nat} {s:dD},vs[k]?=some s→Cd s=false→AV.bool false=AV.bool a4:=fun h0 Q=>by rw[d,Do h0 Q];rfl
 have a0:z.all W0=false→AV.bool false=AV.bool a4:=fun Q=>by rw[d,Q];simp only[kC,YP]
 generalize f.body.all Ni=a6 at *;rcases z with _|⟨a,_|⟨a',z⟩⟩
 ·have y4:decide ((([]:List Ar).length:Int)=1)=false:=rfl
  rw[gW,cP]at d;refine bY 68 [.tmp 2] func15 ?_;refine aA fun K b=>?_;simp only[B,RR,seval];refine aN fun e y=>?_;simp only[RR,seval];refine b _ _ (aI (aA fun K b=>?_));simp only[RR,seval];refine aO (o) ?_;simp only[aG,H,RR,seval];refine b _ _ (bI ?_);refine aL ?_;simp only[RR];refine aI (aA fun K b=>?_);simp only[RR,seval];refine b _ _ (bI ?_);refine aL ?_;simp only[RR];refine aI (aA fun K b=>?_);simp only[RR,seval];refine b _ _ (bQ fun F1 J u R=>?_);have i:=u 1;have O:=u 2;have j:=u 3;have n:=R e;simp only[RR,seval]at i O j n;refine aQ (eY [1] (vs.length) (fun k P M=>P 3= .int .i64 (k:Nat)∧M e=J e∧(vs.take k).all Cd=true) ⟨j,rfl,rfl⟩ ?_);rintro k I M2 a8 ⟨D,E,x⟩ C K0 S;have i:=(C 1 rfl).trans i;have j:=D;clear D;have n:=E.trans n;have L:=bB.refl [1] I;have N:=E;clear C;refine aI (aA fun K b=>?_);simp only[i,j,n,aG,RR,seval];refine b _ _ (aV ?_ ?_)<;>intro t
  ·have G:k<vs.length:=by have:=aD t;omega
   clear t;have v:=aF G;have V:=Ee vs[k];have A:=a1 v;have Y:=vD v x;have a7:=Ye v;generalize vs[k]=s at *;generalize Cd s=a5 at *;refine aL ?_;simp only[RR];refine aI (aQ (aA fun K b=>?_));simp only[*,RR,seval];refine aO (V) ?_;simp only[RR,seval];refine b _ _ (aV ?_ ?_)<;>intro F
   ·refine aA fun K b=>?_
    simp only[RR,seval];apply b;refine aP ?_;simp only[aY,aK,bR,RR,seval];refine aZ.pure ?_;exact A (by simpa using F)
   refine aL ?_;try simp only[RR]
   refine aH ?_;simp only[j,RR,seval];rw[aS _ (by omega)];refine S _ _ G ⟨by rfl,N,Y (by simpa using F)⟩ (by repeat (first|exact L|refine bB.upd rfl ?_))
  have U:k=vs.length:=by have:=aE t;omega
  rw[U,dG]at x;rw[x,cP]at d;refine cG ?_;simp only[RR,seval];refine aA fun K b=>?_;simp only[i,n,RR,seval];refine aO (hb) ?_;simp only[RR,seval];apply b;refine aP ?_;simp only[aY,aK,bR,RR,seval];refine aZ.pure ?_;rw[d]
 ·have y4:decide ((([a]:List Ar).length:Int)=1)=true:=rfl
  have w3:(0:Int)<(([a]:List Ar).length:Int):=by simp
  have X:a.row=[.str a.name, .int .i64 a.size]:=rfl;have b0:([a].map Ar.row)[0]?=some [.str a.name, .int .i64 a.size]:=JC rfl;have a9:([a]:List Ar).all W0=(decide (a.name=[116])&&decide (a.size=4096)):=by simp only[dZ,gW,mZ,W0]
  rw[a9]at d a0;generalize Z:decide (a.name=[116])=x1 at *;generalize a3:decide (a.size=4096)=x2 at *;by_cases hx:x1=true∧x2=true
  rotate_left
  ·have A:=a0 (by rw[dK];intro c;rw[aX]at c;exact hx c)
   cases x1
   ·skip
    refine bY 68 [.tmp 2] func15 ?_;refine aA fun K b=>?_;simp only[B,X,RR,seval];refine aN fun e y=>?_;simp only[RR,seval];refine b _ _ (aI (aA fun K b=>?_));simp only[RR,seval];refine aO (o) ?_;simp only[aG,H,RR,seval];refine b _ _ (bI ?_);refine aL ?_;simp only[RR];refine aI (aA fun K b=>?_);simp only[Z,RR,seval];refine b _ _ (cM (aA fun K b=>?_));simp only[RR,seval];apply b;refine aP ?_;simp only[aY,aK,bR,RR,seval];refine aZ.pure ?_;exact A
   obtain rfl:x2=false:=by cases x2<;>simp_all
   refine bY 68 [.tmp 2] func15 ?_;refine aA fun K b=>?_;simp only[B,X,RR,seval];refine aN fun e y=>?_;simp only[RR,seval];refine b _ _ (aI (aA fun K b=>?_));simp only[RR,seval];refine aO (o) ?_;simp only[aG,H,RR,seval];refine b _ _ (bI ?_);refine aL ?_;simp only[RR];refine aI (aA fun K b=>?_);simp only[Z,a3,RR,seval];refine b _ _ (cM (aA fun K b=>?_));simp only[RR,seval];apply b;refine aP ?_;simp only[aY,aK,bR,RR,seval];refine aZ.pure ?_;exact A
  obtain⟨rfl,rfl⟩:=hx;rw[cP,cP]at d;refine bY 68 [.tmp 2] func15 ?_;refine aA fun K b=>?_;simp only[B,X,RR,seval];refine aN fun e y=>?_;simp only[RR,seval];refine b _ _ (aI (aA fun K b=>?_));simp only[RR,seval];refine aO (o) ?_;simp only[aG,H,RR,seval];refine b _ _ (bI ?_);refine aL ?_;simp only[RR];refine aI (aA fun K b=>?_);simp only[Z,a3,RR,seval];refine b _ _ (bI ?_);refine aL ?_;simp only[RR];refine aI (aA fun K b=>?_);simp only[RR,seval];refine b _ _ (bQ fun F1 J u R=>?_);have i:=u 1;have O:=u 2;have j:=u 3;have n:=R e;simp only[RR,seval]at i O j n;refine aQ (eY [1] (vs.length) (fun k P M=>P 3= .int .i64 (k:Nat)∧M e=J e∧(vs.take k).all Cd=true) ⟨j,rfl,rfl⟩ ?_);rintro k I M2 a8 ⟨D,E,x⟩ C K0 S;have i:=(C 1 rfl).trans i;have j:=D;clear D;have n:=E.trans n;have L:=bB.refl [1] I;have N:=E;clear C;refine aI (aA fun K b=>?_);simp only[i,j,n,aG,RR,seval];refine b _ _ (aV ?_ ?_)<;>intro t
  ·have G:k<vs.length:=by have:=aD t;omega
   clear t;have v:=aF G;have V:=Ee vs[k];have A:=a1 v;have Y:=vD v x;have a7:=Ye v;generalize vs[k]=s at *;generalize Cd s=a5 at *;refine aL ?_;simp only[RR];refine aI (aQ (aA fun K b=>?_));simp only[*,RR,seval];refine aO (V) ?_;simp only[RR,seval];refine b _ _ (aV ?_ ?_)<;>intro F
   ·refine aA fun K b=>?_
    simp only[RR,seval];apply b;refine aP ?_;simp only[aY,aK,bR,RR,seval];refine aZ.pure ?_;exact A (by simpa using F)
   refine aL ?_;try simp only[RR]
   refine aH ?_;simp only[j,RR,seval];rw[aS _ (by omega)];refine S _ _ G ⟨by rfl,N,Y (by simpa using F)⟩ (by repeat (first|exact L|refine bB.upd rfl ?_))
  have U:k=vs.length:=by have:=aE t;omega
  rw[U,dG]at x;rw[x,cP]at d;refine cG ?_;simp only[RR,seval];refine aA fun K b=>?_;simp only[i,n,RR,seval];refine aO (hb) ?_;simp only[RR,seval];apply b;refine aP ?_;simp only[aY,aK,bR,RR,seval];refine aZ.pure ?_;rw[d]
 simp only[aM]at z3;omega
def JX (e:Ex):Prop:=eH dP 56 [.agg e.row] (.str (fO e))
theorem MU (k o n:Int) (s:dD) (l:List Ex) (hk:k=1∨k=2∨k=3∨k=5∨k=7∨(k=6∧4≤o∧o≤15)) (hn:dR n) (D:k=1∨k=2∨k=5→l=[]) (a4:l.length≤9223372036854775807) (h: ∀e∈l,JX e) (C:(fO (.mk k o n s l)).length≤140737488355328):JX (.mk k o n s l):=by
 have B:fO (.mk k o n s l)=iJ l++iR k o n s:=by rw[fO]
 have d:(iJ l).length+(iR k o n s).length≤140737488355328:=by
  rw[B]at C;simp only[aB]at C;omega
 unfold JX;rw[B];clear C B;simp only[Ex.row_eq,Ex.kind,Ex.op,Ex.num,Ex.name,Ex.kids];refine bY 52 [.tmp 2] func56 ?_;refine aA fun K a=>?_;simp only[RR,seval];refine aN fun z b2=>?_;simp only[RR,seval];refine a _ _ (aA fun K a=>?_);simp only[RR,seval];refine a _ _ (aI (aA fun K a=>?_));simp only[RR,seval];refine a _ _ (bQ fun F1 S v W=>?_);have f:=v 1;have A:=v 2;have i:=v 3;have t:=v 4;have g:=W z;simp only[RR,seval]at f A i t g;refine aQ (eY [1,2] (l.length) (fun j F M=>F 4= .int .i64 (j:Nat)∧M z=S z∧F 3= .str (iJ (l.take j))) ⟨t,rfl,by rw[i,gD,show iJ []=[]by simp only[iJ]]⟩ ?_);rintro j R M2 b0 ⟨G,H,i⟩ y K0 X;have f:=(y 1 rfl).trans f;have A:=(y 2 rfl).trans A;have t:=G;clear G;have g:=H.trans g;have T:=bB.refl [1,2] R;have U:=H;clear y;refine aI (aA fun K a=>?_);simp only[f,t,g,aG,RR,seval];refine a _ _ (aV ?_ ?_)<;>intro p
 ·have x:j<l.length:=by have:=aD p;omega
  clear p;have hg:=qJ (aF x);have E:l.take (j+1)=l.take j++[l[j]]:=bW x;have u:=h _ (bX x);have Q:=tA l (j+1);generalize l[j]=e at hg E u;rw[E,nJ]at Q;simp only[aB]at Q;unfold JX at u;rw[Ex.row_eq]at u;refine aL ?_;simp only[RR];refine aI (aQ ?_);have Y:(iJ (l.take j)).length+(fO e).length≤maxLen:=by unfold maxLen;(skip);omega
  refine aH ?_;simp only[*,RR,seval];refine aO (u) ?_;simp only[Y,RR,seval];refine aH ?_;simp only[t,RR,seval];rw[aS _ (by omega)];refine X _ _ x ⟨by rfl,U,by rw[E,nJ];rfl⟩ (by repeat (first|exact T|refine bB.upd rfl ?_))
 have a2:j=l.length:=by have:=aE p;omega
 rw[a2,dG]at i;refine cG ?_;simp only[RR,seval];refine aI (aA fun K a=>?_);simp only[f,g,RR,seval];refine a _ _ (aQ (aA fun K a=>?_));simp only[RR,seval];refine a _ _ (aV ?_ ?_)<;>intro N
 ·obtain rfl:=aD N
  have b:iR 1 o n s=Lib.decDigits n.toNat++[32]:=by simp [iR]
  obtain rfl:=D (.inl rfl);rw[b]at d;simp only[aB,aM,aU]at d;have Z:(Lib.decDigits n.toNat).length+1≤maxLen:=by unfold maxLen;(skip);omega
  refine aA fun K a=>?_;simp only[f,g,RR,seval];refine aO (W6 n hn) ?_;simp only[Z,RR,seval];apply a;refine aP ?_;simp only[aY,aK,bR,RR,seval];refine aZ.pure ?_;rw[b,show iJ []=[]by simp only[iJ],cC]
 refine aA fun K a=>?_;simp only[RR,seval];refine a _ _ (aV ?_ ?_)<;>intro O
 ·obtain rfl:=aD O
  obtain rfl:=D (.inr (.inl rfl));have b:iR 2 o n s=s:=by simp [iR]
  refine aA fun K a=>?_;simp only[f,g,RR,seval];apply a;refine aP ?_;simp only[aY,aK,bR,RR,seval];refine aZ.pure ?_;rw[b,show iJ []=[]by simp only[iJ],cC]
 refine aA fun K a=>?_;simp only[RR,seval];refine a _ _ (aV ?_ ?_)<;>intro I
 ·obtain rfl:=aD I
  have b:iR 3 o n s=[64]:=by simp [iR]
  rw[b]at d;simp only[aM,aU]at d;have a0:(iJ l).length+1≤maxLen:=by unfold maxLen;(skip);omega
  refine aA fun K a=>?_;simp only[i,a0,RR,seval];apply a;refine aP ?_;simp only[aY,aK,bR,RR,seval];refine aZ.pure ?_;rw[b]
 refine aA fun K a=>?_;simp only[RR,seval];refine a _ _ (aV ?_ ?_)<;>intro J
 ·obtain rfl:=aD J
  obtain rfl:=D (.inr (.inr rfl));have b:iR 5 o n s=[63]:=by simp [iR]
  refine aA fun K a=>?_;simp only[RR,seval];apply a;refine aP ?_;simp only[aY,aK,bR,RR,seval];refine aZ.pure ?_;rw[b,show iJ []=[]by simp only[iJ],cC]
 refine aA fun K a=>?_;simp only[RR,seval];refine a _ _ (aV ?_ ?_)<;>intro L
 ·obtain rfl:=aD L
  have b:iR 7 o n s=[33]:=by simp [iR]
  rw[b]at d;simp only[aM,aU]at d;have a1:(iJ l).length+1≤maxLen:=by unfold maxLen;(skip);omega
  refine aA fun K a=>?_;simp only[i,a1,RR,seval];apply a;refine aP ?_;simp only[aY,aK,bR,RR,seval];refine aZ.pure ?_;rw[b]
 obtain⟨rfl,b3,b4⟩:k=6∧4≤o∧o≤15:=by
  have h1:=aE N;have h2:=aE O;have h3:=aE I;have h4:=aE J;have h5:=aE L;omega
 obtain⟨j,rfl⟩: ∃j:Nat,o=((4+j:Nat):Int):=⟨(o- 4).toNat,by omega⟩;have P:j<12:=by omega
 have hw:IntKind.wrap .i64 (((4+j:Nat):Int)- 4)=(j:Int):=by rw[aS _ (by omega)];omega
 have b6:IntKind.wrap .i64 ((j:Int)+1)=((j+1:Nat):Int):=by rw[aS _ (by omega)];omega
 obtain⟨c,p⟩: ∃c,opS[j]?=some c:=⟨_,aF (show j<opS.length from P)⟩
 have b:iR 6 ((4+j:Nat):Int) n s=[c]:=by
  have V:(((4+j:Nat):Int)- 4).toNat=j:=by omega
  unfold iR;rw[aJ (by decide),aJ (by decide),aJ (by decide),aJ (by decide),aJ (by decide),bD rfl,V,p];rfl
 rw[b]at d;simp only[aM,aU]at d
 have b5:List.take (j+1 -j) (List.drop j ([43,45,42,47,37,38,124,94,76,82,60,61]:List UInt8))=[c]:=by
  rw[gY];have:=bJ (show j<opS.length from P);rw[show(List.drop j ([43,45,42,47,37,38,124,94,76,82,60,61]:List UInt8))=opS.drop j from rfl,this,(bF.1 p).2];rfl
 have a5:(j:Int)≤((j+1:Nat):Int):=by omega
 have a6:((j+1:Nat):Int)≤12:=by omega
 have a7:((j+1:Nat):Int)≤(([43,45,42,47,37,38,124,94,76,82,60,61]:List UInt8).length:Int):=by simp only[aM,aU];omega
 have a8:(0:Int)≤(j:Int):=by omega
 have a9:(0:Int)≤((j+1:Nat):Int):=by omega
 have a3:(iJ l).length+1≤maxLen:=by unfold maxLen;omega
 refine aL ?_;simp only[RR];refine aA fun K a=>?_;simp only[*,cB,RR,seval];apply a;refine aP ?_;simp only[aY,aK,bR,RR,seval];refine aZ.pure ?_;rw[b]
theorem SB (N:Nat): ∀(e:Ex) (c:Int),e.sz≤N→e.ok→lN e c=true→Jc Tf e=true→(fO e).length≤140737488355328→JX e:=by
 induction N using Nat.strongRecOn with
 |_ N ih=>
  intro e c D j p b g;have E:=e.sz_eq;have f:=j.kids;have A:=j.num;rw[Di,aX,cJ]at b;simp only[lN,aX]at p;obtain⟨⟨_,d⟩,B⟩:=p
  have z: ∀x∈e.kids,(fO x).length≤(fO e).length:=fun x a=>by
   rw[RE e,aB];obtain⟨i,v,rfl⟩:=List.getElem_of_mem a;have t:=tA e.kids (i+1);rw[bW v,nJ,aB]at t;omega
  obtain⟨k,o,n,s,l⟩:=e;simp only[Ex.kind,Ex.op,Ex.num,Ex.kids]at *
  have y:k=1∨k=2∨k=3∨k=5∨k=6∨k=7:=by
   have:=b.1;simp only[Tf,lU,bP]at this;omega
  refine MU k o n s l ?_ A ?_ f.fit (fun x a=>?_) g
  ·rcases y with rfl|rfl|rfl|rfl|rfl|rfl
   ·simp
   ·simp
   ·simp
   ·simp
   ·simp [nD]at d;omega
   simp
  ·intro u
   have :l.length=0:=by rcases u with rfl|rfl|rfl<;>simpa [nD]using d
   exact iE this
  have C:=nN a;exact ih x.sz (by omega) x (c+1) (bH _) (f.all x a) (wE B x a) (b.2 x a) (oG (z x a) g)
structure DS where
 stk:List Ex
 body:List Sm
 frs:List (Int×Ex×List Sm)
 acc:Option Nat
 col:Bool
def DS.at' (s:DS) (l:List Ex):DS:={s with stk:=l}
def Nq (c:UInt8):Bool:=decide (97≤c.toNat)&&decide (c.toNat≤122)
def DS.calm (s:DS):Prop:=s.acc=none∧s.col=false
inductive SX (V:UInt8→Prop) (A:Prop):Int→Ex→Prop where
 |num (lv n:Int) (hl:lv≤24) (h:dR n):SX V A lv (.mk 1 0 n [] [])
 |var (lv:Int) (c:UInt8) (hl:lv≤24) (h:Nq c=true) (hV:V c):SX V A lv (.mk 2 0 0 [c] [])
 |idx (lv:Int) (a:Ex) (hl:lv≤24) (hA:A) (ha:SX V A (lv+1) a):SX V A lv (.mk 3 0 0 [116] [a])
 |get (lv:Int) (hl:lv≤24):SX V A lv (.mk 5 0 0 [] [])
 |neg (lv:Int) (a:Ex) (hl:lv≤24) (ha:SX V A (lv+1) a):SX V A lv (.mk 7 0 0 [] [a])
 |op (lv o:Int) (a b:Ex) (hl:lv≤24) (h:4≤o∧o≤15) (ha:SX V A (lv+1) a) (hb:SX V A (lv+1) b):SX V A lv (.mk 6 o 0 [] [a,b])
theorem xX (a:Ex):iJ [a]=fO a:=by simp [iJ]
theorem V4 (a b:Ex):iJ [a,b]=fO a++fO b:=by simp [iJ]
inductive SS (V:UInt8→Prop) (A:Prop):Int→Sm→Prop where
 |set (lv:Int) (c:UInt8) (e:Ex) (hl:lv≤24) (hc:Nq c=true) (hV:V c) (he:SX V A (lv+1) e):SS V A lv (.mk 1 [c] [e] [] [])
 |store (lv:Int) (a e:Ex) (hl:lv≤24) (hA:A) (ha:SX V A (lv+1) a) (he:SX V A (lv+1) e):SS V A lv (.mk 2 [116] [a,e] [] [])
 |put (lv:Int) (e:Ex) (hl:lv≤24) (he:SX V A (lv+1) e):SS V A lv (.mk 3 [] [e] [] [])
 |cond (lv:Int) (e:Ex) (t:List Sm) (hl:lv≤24) (he:SX V A (lv+1) e) (ht: ∀s∈t,SS V A (lv+1) s):SS V A lv (.mk 4 [] [e] t [])
 |loop (lv:Int) (e:Ex) (t:List Sm) (hl:lv≤24) (he:SX V A (lv+1) e) (ht: ∀s∈t,SS V A (lv+1) s):SS V A lv (.mk 5 [] [e] t [])
theorem Sl {p:Pg} (h:iW p=0):kP p=true∧rI p=true:=by
 have d:=qR h;unfold iW at h;rw[bD d]at h;by_cases a:lD p=0
 ·unfold lD at a
  split at a
  ·rename_i b
   split at a
   ·rename_i c;exact⟨b,c⟩
   cases a
  cases a
 rw[aJ a]at h;exact absurd h a
structure qX (p:Pg) (f:Fu):Prop where
 funs:p.funs=[f]
 params:f.params=[]
 locs:f.locs=[]
 arrs: ∀a∈p.arrs,a.name=[116]∧a.size=4096
 one:p.arrs.length≤1
 vars: ∀s∈p.vars,Cd s=true
 uses: ∀u∈eG f.body,jE p 0 u=true
 right:jN f.body 1=true
 kinds:f.body.all Bg=true
theorem Hm {p:Pg} (h:jD (fun l=>l.all Bg) p=true): ∃f,qX p f:=by
 simp only[jD,aX,bP]at h;obtain⟨e,k,c,n,o,t,d⟩:=h;obtain⟨i,j⟩:=Sl e;have g:=qR e
 obtain⟨f,b⟩: ∃f,p.funs=[f]:=by
  match hp:p.funs,k with
  |[f],_=>exact⟨f,rfl⟩
 rw[b]at c d;simp only[dZ,gW,mZ,bP]at c d;refine⟨f,b, ?_,iE c,fun a v=>?_,n,fun s x=>cJ.1 o s x,fun u y=>?_, ?_,d⟩
 ·simp only[rI,aX,Aa,b]at j
  have:=j.2;simp only[bS,Gf,eS,aX,bP]at this;exact iE this.1.2
 ·have:=cJ.1 t a v
  simp only[W0,aX,bP]at this;exact this
 ·simp only[kP,aX,b,jK,cJ]at i
  exact i.2.1.2 u y
 simp only[gL,aX,b,dZ,gW,lP]at g;exact g.2.1.2
theorem xG {p:Pg} {f:Fu} (h:qX p f) {u:Us} (j:jE p 0 u=true):(u.kind=1→ ∃c,u.name=[c]∧Nq c=true∧[c]∈p.vars)∧(u.kind=3→u.name=[116]∧p.arrs.length=1):=by
 have n:eR p 0 u.name=rR p u.name:=by
  simp only[eR,h.funs,eS,cA,gO,h.params,h.locs,dQ,cX]
 simp only[jE,n,eJ,Uz,Ly,eX,sI,bP]at j;obtain⟨⟨k1,k3⟩,_⟩:=j;unfold rR at k1 k3
 cases hp:cX (kN p) u.name with
 |none=>
  rw[hp]at k1 k3;simp only at k1 k3;refine⟨fun e=>?_,fun e=>?_⟩
  ·rcases k1 with(c|c)|c
   ·exact absurd e c
   ·exact absurd c (by decide)
   exact absurd c (by decide)
  rcases k3 with c|c
  ·exact absurd e c
  exact absurd c (by decide)
 |some k=>
  rw[hp]at k1 k3;obtain⟨_,b⟩:=iP _ _ _ hp;simp only at k1 k3;refine⟨fun e=>?_,fun e=>?_⟩
  ·by_cases d:k<p.vars.length
   ·have i:u.name∈p.vars:=by
     rw[kN,bT,fU d]at b;exact aW b
    have:=h.vars _ i;unfold Cd at this;split at this
    ·rename_i c g
     simp only[aX,bP]at this;exact⟨c,g,by simp only[Nq,aX,bP];omega,g▸i⟩
    cases this
   rw[aJ d]at k1;rcases k1 with(c|c)|c
   ·exact absurd e c
   ·split at c<;>simp at c
   split at c<;>simp at c
  rcases k3 with c|c
  ·exact absurd e c
  split at c
  ·simp at c
  rename_i d;split at c
  ·rename_i o
   rw[kN,bT,gZ (by omega),fU (by rw[aG];exact o),dM,bO]at b;obtain⟨a,t,l⟩:=b;rw[←l];exact⟨(h.arrs a (aW t)).1,by have:=h.one;omega⟩
  simp at c
theorem Eb {b:Type} {l:List b} (h:l.length=1): ∃a,l=[a]:=by
 match l,h with
 |[a],_=>exact⟨a,rfl⟩
theorem QE {c:Type} {l:List c} (h:l.length=2): ∃a b,l=[a,b]:=by
 match l,h with
 |[a,b],_=>exact⟨a,b,rfl⟩
theorem UM {p:Pg} {f:Fu} (h:qX p f) (N:Nat): ∀(e:Ex) (i:Int),e.sz≤N→e.ok→lN e i=true→Jc Tf e=true→(∀u∈nF e++fG e.kids,jE p 0 u=true)→SX (fun c=>[c]∈p.vars) (p.arrs.length=1) i e:=by
 induction N with
 |zero=>intro e _ R;have:=e.sz_eq;omega
 |succ N ih=>
  intro e i T G H z y;have P:=fun a ha=>G.kids.all a ha;have F:dR e.num:=G.num;have S:=e.sz_eq;simp only[lN,aX]at H;obtain⟨⟨g,j⟩,M⟩:=H;rw[Di,aX]at z
  have E: ∀(l:List Ex),(∀u∈fG l,jE p 0 u=true)→ ∀a∈l, ∀u∈nF a++fG a.kids,jE p 0 u=true:=by
   intro l
   induction l with
   |nil=>intro _ a ha;cases ha
   |cons x l ihl=>
    intro d a ha u t;rw[lZ]at d;rcases bL.1 ha with rfl|ha
    ·exact d u (Ux _ t)
    exact ihl (fun u y=>d u (Lu _ y)) a ha u t
  have v: ∀a∈e.kids,SX (fun c=>[c]∈p.vars) (p.arrs.length=1) (i+1) a:=fun a ha=>ih a _ (by have:=nN ha;omega) (P a ha) (wE M a ha) (cJ.1 z.2 a ha) (E e.kids (fun u t=>y u (Lu _ t)) a ha);have B: ∀u∈nF e,jE p 0 u=true:=fun u t=>y u (Ux _ t);have A:=z.1;clear y E;obtain⟨k,o,n,s,l⟩:=e;simp only[Ex.kind,Ex.op,Ex.num,Ex.name,Ex.kids,nF]at j v F B A;have D:=g;clear g;have g:(decide (i≤24)&&(decide (k=6)||decide (o=0))&&(decide (k=1)||decide (n=0))&&(if k=2∨k=3∨k=4 then iN s else decide (s=[])))=true:=D;clear D;simp only[aX,lU,bP]at g;simp only[Tf,lU,bP]at A;rcases A with((((rfl|rfl)|rfl)|rfl)|rfl)|rfl<;>simp [nD]at g j
  ·obtain⟨⟨d,rfl⟩,rfl⟩:=g;subst j;exact .num i n d F
  ·obtain⟨⟨⟨d,rfl⟩,rfl⟩,_⟩:=g;subst j
   obtain⟨c,rfl,O,Q⟩:=(xG h (B ⟨s,1,0⟩ (by simp))).1 rfl;exact .var i c d O Q
  ·obtain⟨⟨⟨d,rfl⟩,rfl⟩,_⟩:=g;obtain⟨a,rfl⟩:=Eb j
   obtain⟨C,I⟩:=(xG h (B ⟨s,3,0⟩ (by simp))).2 rfl;simp only at C;subst C;exact .idx i a d I (v a (dU))
  ·obtain⟨⟨⟨d,rfl⟩,rfl⟩,rfl⟩:=g;subst j;exact .get i d
  ·obtain⟨⟨d,rfl⟩,rfl⟩:=g;obtain⟨⟨J,K⟩,L⟩:=j;obtain⟨a,b,rfl⟩:=QE L
   exact .op i o a b d ⟨J,K⟩ (v a (dU)) (v b (by simp))
  obtain⟨⟨⟨d,rfl⟩,rfl⟩,rfl⟩:=g;obtain⟨a,rfl⟩:=Eb j;exact .neg i a d (v a (dU))
theorem N2 {p:Pg}: ∀(l:List Ex),(∀u∈fG l,jE p 0 u=true)→ ∀a∈l, ∀u∈nF a++fG a.kids,jE p 0 u=true
 |[],_,a,ha=>by cases ha
 |x::l,hl,a,ha=>fun u b=>by
  rw[lZ]at hl;rcases bL.1 ha with rfl|ha
  ·exact hl u (Ux _ b)
  exact N2 l (fun u c=>hl u (Lu _ c)) a ha u b
theorem Ro {p:Pg}: ∀(l:List Sm),(∀u∈eG l,jE p 0 u=true)→ ∀a∈l, ∀u∈kZ a++fG a.es++eG a.thn++eG a.els,jE p 0 u=true
 |[],_,a,ha=>by cases ha
 |x::l,hl,a,ha=>fun u b=>by
  rw[nI]at hl;rcases bL.1 ha with rfl|ha
  ·exact hl u (Ux _ b)
  exact Ro l (fun u c=>hl u (Lu _ c)) a ha u b
theorem UN {p:Pg} {f:Fu} (h:qX p f) (N:Nat): ∀(e:Sm) (d:Int),e.sz≤N→e.ok→lO e d=true→Bg e=true→(∀u∈kZ e++fG e.es++eG e.thn++eG e.els,jE p 0 u=true)→SS (fun c=>[c]∈p.vars) (p.arrs.length=1) d e:=by
 induction N with
 |zero=>intro e _ V;have:=e.sz_eq;omega
 |succ N ih=>
  intro e d X E F D y;have W:=e.sz_eq;have Q:=E.es;have R:=E.thn;simp only[lO,aX]at F;obtain⟨⟨⟨⟨g,n⟩,J⟩,K⟩,U⟩:=F;rw[Bo,aX,aX]at D;obtain⟨o,M,O⟩:=D;have G: ∀u∈fG e.es,jE p 0 u=true:=fun u x=>y u (by simp [x]);have H: ∀u∈eG e.thn,jE p 0 u=true:=fun u x=>y u (by simp [x]);have A: ∀u∈kZ e,jE p 0 u=true:=fun u x=>y u (by simp [x]);have v: ∀a∈e.es,SX (fun c=>[c]∈p.vars) (p.arrs.length=1) (d+1) a:=fun a i=>UM h a.sz a _ (bH _) (Q.all a i) (wE J a i) (cJ.1 M a i) (N2 e.es G a i);have z: ∀a∈e.thn,SS (fun c=>[c]∈p.vars) (p.arrs.length=1) (d+1) a:=fun a i=>ih a _ (by have:=nB i;omega) (R.all a i) (wC K a i) (cJ.1 O a i) (Ro e.thn H a i);clear y G H;obtain⟨k,s,l,t,u⟩:=e;simp only[Sm.kind,Sm.name,Sm.es,Sm.thn,Sm.els,kZ]at n v z o A;have C:=g;clear g;have g:(decide (d≤24)&&(decide (k=4)||decide (u.length=0))&&(decide (k=4)||decide (k=5)||decide (t.length=0))&&(if k=1∨k=2∨k=6 then iN s else decide (s=[])))=true:=C;clear C;simp only[aX,lU,bP]at g;have o:(if k=4 then decide (u.length=0)else decide (k=1)||decide (k=2)||decide (k=3)||decide (k=5))=true:=o
  have P:k=4∧u.length=0∨k=1∨k=2∨k=3∨k=5:=by
   by_cases c:k=4
   ·rw[bD c]at o;exact .inl ⟨c,aD o⟩
   rw[aJ c]at o;simp only[lU,bP]at o;omega
  rcases P with⟨rfl,S⟩|rfl|rfl|rfl|rfl<;>simp [Nw]at g n
  ·obtain rfl:u=[]:=iE S
   obtain⟨j,rfl⟩:=g;obtain⟨a,rfl⟩:=Eb n;exact .cond d a t j (v a (dU)) z
  ·obtain⟨⟨⟨j,rfl⟩,rfl⟩,_⟩:=g;obtain⟨a,rfl⟩:=Eb n
   obtain⟨c,rfl,L,T⟩:=(xG h (A ⟨s,1,0⟩ (by simp))).1 rfl;exact .set d c a j L T (v a (dU))
  ·obtain⟨⟨⟨j,rfl⟩,rfl⟩,_⟩:=g;obtain⟨a,b,rfl⟩:=QE n
   obtain⟨B,I⟩:=(xG h (A ⟨s,3,0⟩ (by simp))).2 rfl;simp only at B;subst B;exact .store d a b j I (v a (dU)) (v b (by simp))
  ·obtain⟨⟨⟨j,rfl⟩,rfl⟩,rfl⟩:=g;obtain⟨a,rfl⟩:=Eb n;exact .put d a j (v a (dU))
  obtain⟨⟨j,rfl⟩,rfl⟩:=g;obtain⟨a,rfl⟩:=Eb n;exact .loop d a t j (v a (dU)) z
theorem GQ {p:Pg} (e:p.ok) (h:jD (fun l=>l.all Bg) p=true): ∃f,p.funs=[f]∧ ∀s∈f.body,SS (fun c=>[c]∈p.vars) (p.arrs.length=1) 1 s:=by
 obtain⟨f,a⟩:=Hm h;refine⟨f,a.funs,fun s b=>?_⟩;have d:=e.funs f (by rw[a.funs];simp);exact UN a s.sz s 1 (bH _) (d.body.all s b) (wC a.right s b) (cJ.1 a.kinds s b) (Ro f.body a.uses s b)
theorem FZ (k:Int) (s:dD) (l:List Ex) (t u:List Sm):(iJ l).length≤(oW (.mk k s l t u)).length:=by
 rw[oW]
 repeat' split
 all_goals first|exact bH _|(simp only[aB,aM,aU];omega)
theorem LM (k:Int) (s:dD) (l:List Ex) (t u:List Sm) (h:k=4∨k=5):(hJ t).length≤(oW (.mk k s l t u)).length:=by
 rw[oW];rcases h with rfl|rfl
 ·simp only[Int.reduceEq,cQ,dC,aB,aM,aU];omega
 simp only[Int.reduceEq,cQ,dC,aB,aM,aU];omega
theorem N5 {l:List Sm} {e:Sm} (h:e∈l):(oW e).length≤(hJ l).length:=by
 obtain⟨i,b,rfl⟩:=List.getElem_of_mem h;have a:=Ha l (i+1);rw[bW b,tB,aB]at a;omega
theorem LN {l:List Ex} {e:Ex} (h:e∈l):(fO e).length≤(iJ l).length:=by
 obtain⟨i,b,rfl⟩:=List.getElem_of_mem h;have a:=tA l (i+1);rw[bW b,nJ,aB]at a;omega
theorem Xz (N:Nat): ∀(l:List Sm) (lv:Int),sS l≤N→yZ l→jN l lv=true→l.all Bg=true→(hJ l).length≤140737488355328→eH dP 31 [.isl 5 (l.map Sm.row)] (.str (hJ l)):=by
 induction N using Nat.strongRecOn with
 |_ N ih=>
  intro l lv hs W hr a0 hl;have e3:l.length≤9223372036854775807:=W.fit;have c4: ∀e∈l,e.es.length≤9223372036854775807:=fun e h=>(W.all e h).es.fit
  have c6: ∀e∈l,e.kind=1∨e.kind=2∨e.kind=3∨e.kind=4∨e.kind=5:=fun e h=>by
   have:=cJ.1 a0 e h;rw[Bo,aX]at this;have:=this.1;split at this
   ·omega
   simp only[lU,bP]at this;omega
  have hE: ∀e∈l, ∀x∈e.es,JX x:=fun e h x hx=>by
   have H:=cJ.1 a0 e h;rw[Bo,aX,aX,cJ]at H;have I:=wC hr e h;simp only[lO,aX]at I;have h3:=N5 h;have h4:(iJ e.es).length≤(oW e).length:=by obtain⟨k,s,a,t,u⟩:=e;exact FZ k s a t u
   have h5:=LN hx;exact SB _ x (lv+1) (bH _) ((W.all e h).es.all x hx) (wE I.1.1.2 x hx) (H.2.1 x hx) (by omega)
  have hT: ∀e∈l,e.kind=4∨e.kind=5→eH dP 31 [.isl 5 (e.thn.map Sm.row)] (.str (hJ e.thn)):=fun e h hk=>by
   have H:=cJ.1 a0 e h;rw[Bo,aX,aX]at H;have I:=wC hr e h;simp only[lO,aX]at I;have h3:=N5 h;have h4:(hJ e.thn).length≤(oW e).length:=by obtain⟨k,s,a,t,u⟩:=e;exact LM k s a t u hk
   have h6:=nB h;have h7:=e.sz_eq;exact ih (sS e.thn) (by omega) e.thn (lv+1) (bH _) (W.all e h).thn I.1.2 H.2.2 (by omega)
  clear ih a0 hr W;refine bY 78 [.tmp 2] func31 ?_;refine aA fun K b=>?_;simp only[RR,seval];refine b _ _ (aA fun K b=>?_);simp only[RR,seval];refine b _ _ (aI (aA fun K b=>?_));simp only[RR,seval];refine b _ _ (bQ fun F1 M1 c X=>?_);have m:=c 0;have o:=c 2;have f:=c 3;have g:=c 4;simp only[RR,seval]at m o f g;refine aQ (eY [0,2] (l.length) (fun k z M=>z 4= .int .i64 (k:Nat)∧z 3= .str (hJ (l.take k))) ⟨g,by rw[f,gD,show hJ []=[]by simp only[hJ]]⟩ ?_);rintro k J M2 e4 ⟨Q,f⟩ d K0 b7;have m:=(d 0 rfl).trans m;have o:=(d 2 rfl).trans o;have g:=Q;clear Q;have p:=bB.refl [0,2] J;clear d;refine aI (aA fun K b=>?_);simp only[m,g,aG,RR,seval];refine b _ _ (aV ?_ ?_)<;>intro F
  ·have G:k<l.length:=by have:=aD F;omega
   have hg:=Ns (aF G);have a5:l.take (k+1)=l.take k++[l[k]]:=bW G;have a2:=hE _ (bX G);have a1:=hT _ (bX G);have b1:=c6 _ (bX G);have b0:=c4 _ (bX G);have n:=Ha l (k+1);generalize l[k]=e at hg a5 a2 a1 b1 b0;rw[a5,tB]at n;obtain⟨kd,nm,es,C,ee⟩:=e;simp only[Sm.kind,Sm.name,Sm.es,Sm.thn,Sm.els]at hg a2 a1 b1 b0;have hX:=FZ kd nm es C ee;obtain⟨P,hP⟩: ∃P,hJ (l.take k)=P:=⟨_,rfl⟩;obtain⟨B,A⟩: ∃B,oW (.mk kd nm es C ee)=B:=⟨_,rfl⟩;rw[hP,A,aB]at n;rw[A]at hX;rw[hP]at f;refine aL ?_;simp only[RR];refine aI (aQ (aA fun K b=>?_));simp only[m,g,hg,RR,seval];refine aN fun w e6=>?_;simp only[RR,seval];refine b _ _ (aA fun K b=>?_);simp only[RR,seval];refine b _ _ (aI (aA fun K b=>?_));simp only[RR,seval];refine b _ _ (bQ fun F3 M3 c X=>?_);have R:=c 0;have S:=c 2;have T:=c 3;have U:=c 4;have q:=c 5;have y:=c 6;have r:=c 7;have v:=X w;simp only[m,o,g,f,RR,seval]at R S T U q y r v;have p:bB [0,2] J F3:=bB.same c (by repeat (first|exact p|refine bB.upd rfl ?_));have m:=R;have o:=S;have f:=T;have g:=U;refine aQ (eY [0,2,3,4,5] (es.length) (fun j z M=>z 7= .int .i64 (j:Nat)∧M w=M3 w∧z 6= .str (iJ (es.take j))) ⟨r,rfl,by rw[y,gD,show iJ []=[]by simp only[iJ]]⟩ ?_);rintro j F4 M4 e5 ⟨Q,E,y⟩ d K2 b8;have m:=(d 0 rfl).trans m;have o:=(d 2 rfl).trans o;have f:=(d 3 rfl).trans f;have g:=(d 4 rfl).trans g;have q:=(d 5 rfl).trans q;have r:=Q;clear Q;have v:=E.trans v;have p:bB [0,2] J F4:=bB.sub d rfl p;have b4:=bB.refl [0,2,3,4,5] F4;have b6:=E;clear d;refine aI (aA fun K b=>?_);simp only[q,r,v,aG,RR,seval];refine b _ _ (aV ?_ ?_)<;>intro F
   ·have Z:j<es.length:=by have:=aD F;omega
    clear F;have c5:=qJ (aF Z);have a4:es.take (j+1)=es.take j++[es[j]]:=bW Z;have Y:=a2 _ (bX Z);have b2:=tA es (j+1);generalize es[j]=e at c5 a4 Y;rw[a4,nJ]at b2;simp only[aB]at b2;unfold JX at Y;rw[Ex.row_eq]at Y;refine aL ?_;simp only[RR];refine aI (aQ ?_);have c3:(iJ (es.take j)).length+(fO e).length≤maxLen:=by unfold maxLen;(skip);omega
    refine aH ?_;simp only[*,RR,seval];refine aO (Y) ?_;simp only[c3,RR,seval];refine aH ?_;simp only[r,RR,seval];rw[aS _ (by omega)];refine b8 _ _ Z ⟨by rfl,b6,by rw[a4,nJ];rfl⟩ (by repeat (first|exact b4|refine bB.upd rfl ?_))
   have c8:j=es.length:=by have:=aE F;omega
   clear F;rw[c8,dG]at y;refine cG ?_;simp only[RR,seval];refine aA fun K b=>?_;simp only[q,v,RR,seval];refine b _ _ (bQ fun F6 M6 c X=>?_);have R:=c 0;have S:=c 2;have T:=c 3;have U:=c 4;have g5:=c 5;have g6:=c 6;have g7:=c 7;have D:=c 34;have E:=X w;simp only[m,o,f,g,q,r,y,v,RR,seval]at R S T U g5 g6 g7 D E;have p:bB [0,2] J F6:=bB.same c (by repeat (first|exact p|refine bB.upd rfl ?_));have m:=R;have o:=S;have f:=T;have g:=U;have q:=g5;have y:=g6;have r:=g7;have v:=E;refine gP (fun z M=>bB [0,2,4,5,6,7,34] F6 z∧M w=M6 w∧z 3= .str (P++B)) (fun c9 V=>?_) ?_
   ·have L:=bB.refl [0,2,4,5,6,7,34] F6
    have O:M6 w=M6 w:=rfl;refine aQ (aA fun K b=>?_);simp only[D,RR,seval];refine b _ _ (aV ?_ ?_)<;>intro a6
    ·obtain rfl:=aD a6
     have i:B=iJ es++([58]++nm):=by rw[←A];simp [oW]
     rw[i]at n;simp only[aB,aM,aU]at n;have e0:(P).length+(iJ es).length≤maxLen:=by unfold maxLen;(skip);omega
     have e1:(P++iJ es).length+1≤maxLen:=by unfold maxLen;(simp only[aB]);omega
     have e2:(P++iJ es++[58]).length+(nm).length≤maxLen:=by unfold maxLen;(simp only[aB,aM,aU]);omega
     refine aH ?_;simp only[*,RR,seval];refine V _ _ ⟨(by repeat (first|exact L|refine bB.upd rfl ?_)),O, ?_⟩;rw[i];simp only[aT,seval,bT,cZ,cC]
    refine aA fun K b=>?_;simp only[D,RR,seval];refine b _ _ (aV ?_ ?_)<;>intro a7
    ·obtain rfl:=aD a7
     have i:B=iJ es++[35]:=by rw[←A];simp [oW]
     rw[i]at n;simp only[aB,aM,aU]at n;have d1:(P).length+(iJ es).length≤maxLen:=by unfold maxLen;(skip);omega
     have d2:(P++iJ es).length+1≤maxLen:=by unfold maxLen;(simp only[aB]);omega
     refine aH ?_;simp only[*,RR,seval];refine V _ _ ⟨(by repeat (first|exact L|refine bB.upd rfl ?_)),O, ?_⟩;rw[i];simp only[aT,seval,bT]
    refine aA fun K b=>?_;simp only[D,RR,seval];refine b _ _ (aV ?_ ?_)<;>intro a8
    ·obtain rfl:=aD a8
     have i:B=iJ es++[46]:=by rw[←A];simp [oW]
     rw[i]at n;simp only[aB,aM,aU]at n;have d3:(P).length+(iJ es).length≤maxLen:=by unfold maxLen;(skip);omega
     have d4:(P++iJ es).length+1≤maxLen:=by unfold maxLen;(simp only[aB]);omega
     refine aH ?_;simp only[*,RR,seval];refine V _ _ ⟨(by repeat (first|exact L|refine bB.upd rfl ?_)),O, ?_⟩;rw[i];simp only[aT,seval,bT]
    refine aA fun K b=>?_;simp only[D,RR,seval];refine b _ _ (aV ?_ ?_)<;>intro a9
    ·obtain rfl:=aD a9
     have i:B=iJ es++([73]++(hJ C++[70])):=by rw[←A];simp [oW]
     rw[i]at n;simp only[aB,aM,aU]at n;have a3:=a1 (.inl rfl);have d5:(P).length+(iJ es).length≤maxLen:=by unfold maxLen;(skip);omega
     have d6:(P++iJ es).length+1≤maxLen:=by unfold maxLen;(simp only[aB]);omega
     have b9:(P++iJ es++[73]).length+(hJ C).length≤maxLen:=by unfold maxLen;(simp only[aB,aM,aU]);omega
     have c0:(P++iJ es++[73]++hJ C).length+1≤maxLen:=by unfold maxLen;(simp only[aB,aM,aU]);omega
     refine aH ?_;simp only[*,RR,seval];refine aO (a3) ?_;simp only[b9,c0,RR,seval];refine V _ _ ⟨(by repeat (first|exact L|refine bB.upd rfl ?_)),O, ?_⟩;rw[i];simp only[aT,seval,bT,cZ,cC]
    obtain rfl:kd=5:=by
     have H:=aE a6;have I:=aE a7;have h3:=aE a8;have h4:=aE a9;omega
    have i:B=[87]++(iJ es++([68]++(hJ C++[69]))):=by rw[←A];simp [oW]
    rw[i]at n;simp only[aB,aM,aU]at n;have a3:=a1 (.inr rfl);have d7:(P).length+1≤maxLen:=by unfold maxLen;(skip);omega
    have d8:(P++[87]).length+(iJ es).length≤maxLen:=by unfold maxLen;(simp only[aB,aM,aU]);omega
    have d9:(P++[87]++iJ es).length+1≤maxLen:=by unfold maxLen;(simp only[aB,aM,aU]);omega
    have c1:(P++[87]++iJ es++[68]).length+(hJ C).length≤maxLen:=by unfold maxLen;(simp only[aB,aM,aU]);omega
    have c2:(P++[87]++iJ es++[68]++hJ C).length+1≤maxLen:=by unfold maxLen;(simp only[aB,aM,aU]);omega
    refine aH ?_;simp only[*,RR,seval];refine aO (a3) ?_;simp only[c1,c2,RR,seval];refine V _ _ ⟨(by repeat (first|exact L|refine bB.upd rfl ?_)),O, ?_⟩;rw[i];simp only[aT,seval,bT,cZ,cC]
   rintro b3 d0 ⟨d,E,f⟩;have m:=(d 0 rfl).trans m;have o:=(d 2 rfl).trans o;have g:=(d 4 rfl).trans g;have q:=(d 5 rfl).trans q;have y:=(d 6 rfl).trans y;have r:=(d 7 rfl).trans r;have D:=(d 34 rfl).trans D;have v:=E.trans v;have p:bB [0,2] J b3:=bB.sub d rfl p;clear d;simp only[RR,seval];refine aH ?_;simp only[g,RR,seval];rw[aS _ (by omega)];refine b7 _ _ G ⟨by rfl,by rw[a5,tB,hP,A];exact f⟩ (by repeat (first|exact p|refine bB.upd rfl ?_))
  have c7:k=l.length:=by have:=aE F;omega
  rw[c7,dG]at f;refine cG ?_;simp only[RR,seval];refine aA fun K b=>?_;simp only[f,RR,seval];apply b;refine aP ?_;simp only[aY,aK,bR,RR,seval];refine aZ.pure ?_;rfl
theorem Zg {F:Nat→Prop} {f:List (Option Nat)} {Q:fJ} {d:Option Nat} {j:List Oper} {g:Fr} {H:Hp} {b:Nat} {a:List UInt8}
  (n:nA b a H) (m: ∀b,F b) (h: ∀c,(∀x o,H x=some o→qE o→c x=some o)→eF dP F f Q j (fP g d (.str a)) c):qL dP F f Q d j g H 30 [.ptr 2 b 0 0]:=by
 obtain⟨k,p,s,r⟩:=n.least;refine mK (J8 b a k p) (fN.refl _) s (fun b _=>m b) fun u t ⟨e,l⟩ v=>?_;subst e;subst l;refine h _ fun x o i q=>?_;simp only[lQ,pZ,r x o i q,eO,cF,dC,i]
theorem Hn {p:Pg} (b:p.ok) (h:jD (fun l=>l.all Bg) p=true): ∃f,p.funs=[f]∧yZ f.body∧jN f.body 1=true∧f.body.all Bg=true:=by
 obtain⟨f,a⟩:=Hm h;exact⟨f,a.funs,(b.funs f (by rw[a.funs];exact bE.2 rfl)).body,a.right,a.kinds⟩
theorem Xk (p:Pg) (z:p.ok) (r: ∀f∈p.funs,jD (fun l=>l.all Bg) p=true→(hJ f.body).length≤1000000000000) (k:eH dP 14 [p.av] (.bool (jD (fun l=>l.all Bg) p))):eH dP 12 [p.av] (.tup [.str (BR p).1, .int .i64 (BR p).2]):=by
 have c:BR p=if jD (fun l=>l.all Bg) p=true then(match p.funs with |f::_=>hJ f.body++[36]|[]=>[36],0)else([],1):=rfl
 cases hq:jD (fun l=>l.all Bg) p with
 |false=>
  rw[hq]at c k;simp only[cF,dC]at c;rw[c];obtain⟨n,j,w⟩:=p;simp only[Pg.av,Pg.row]at *;refine bY 18 [.tmp 2, .tmp 3] func12 ?_;refine aA fun K a=>?_;simp only[RR,seval];refine aN fun d y=>?_;simp only[RR,seval];refine a _ _ (aI (aA fun K a=>?_));simp only[RR,seval];refine aO (k) ?_;simp only[RR,seval];refine a _ _ (cM (aA fun K a=>?_));simp only[RR,seval];apply a;refine aP ?_;simp only[aY,aK,bR,RR,seval];refine aZ.pure ?_;rfl
 |true=>
  rw[hq]at c k;simp only[cQ]at c;obtain⟨f,m,u,A,I⟩:=Hn z hq;have L:=r f (by rw[m];exact bE.2 rfl) hq;rw[m]at c;simp only at c;rw[c];have C:=fun b v r=>Gu f.body u.fit (fun e s=>U7 _ e 1 (bH _) (u.all e s) (wC A e s)) b v r;obtain⟨n,j,w⟩:=p;simp only at m;subst m;simp only[Pg.av,Pg.row]at *;have B:f.row=[.str f.name, .isl 1 (f.params.map bM), .isl 1 (f.locs.map bM), .bool f.word, .isl 5 (f.body.map Sm.row)]:=rfl;have M:(0:Int)<(([f]:List Fu).length:Int):=by simp
  have H:([f].map Fu.row)[0]?=some [.str f.name, .isl 1 (f.params.map bM), .isl 1 (f.locs.map bM), .bool f.word, .isl 5 (f.body.map Sm.row)]:=rQ rfl;generalize hJ f.body=D at *;refine bY 18 [.tmp 2, .tmp 3] func12 ?_;refine aA fun K a=>?_;simp only[B,RR,seval];refine aN fun d y=>?_;simp only[RR,seval];refine a _ _ (aI (aA fun K a=>?_));simp only[RR,seval];refine aO (k) ?_;simp only[RR,seval];refine a _ _ (bI ?_);refine aL ?_;simp only[RR];refine aC fun K a=>?_;refine OE (by kernel_rfl) CJ rfl fun g t=>?_;simp only[iM];have h:nA g [] (upd (upd pZ d (some (.rows 3 [[.isl 1 (n.map bM), .isl 2 (j.map Ar.row), .isl 5 [[.str f.name, .isl 1 (f.params.map bM), .isl 1 (f.locs.map bM), .bool f.word, .isl 5 (f.body.map Sm.row)]]]]))) g (some (.bld TB none 0))):= .inl ⟨rfl,bC _ _ _⟩
  have i:(upd (upd pZ d (some (.rows 3 [[.isl 1 (n.map bM), .isl 2 (j.map Ar.row), .isl 5 [[.str f.name, .isl 1 (f.params.map bM), .isl 1 (f.locs.map bM), .bool f.word, .isl 5 (f.body.map Sm.row)]]]]))) g (some (.bld TB none 0))) d=some (.rows 3 [[.isl 1 (n.map bM), .isl 2 (j.map Ar.row), .isl 5 [[.str f.name, .isl 1 (f.params.map bM), .isl 1 (f.locs.map bM), .bool f.word, .isl 5 (f.body.map Sm.row)]]]]):=by
   rw[cH _ _ (fun e=>by rw[←e,bC]at t;cases t)];exact bC _ _ _
  refine a _ _ (aA fun K a=>?_);simp only[i,RR,seval];refine gQ h (C g [] (by simp only[cC];omega)) (fN.refl _) (fun _=>trivial) fun E h q x=>?_;have o:=q d _ i trivial;have i:=o;simp only[RR,seval];refine a _ _ (aA fun K a=>?_);simp only[RR,seval];refine gQ h (fE g ([]++D) [36] (by simp only[aB,aM,aU];omega)) (fN.refl _) (fun _=>trivial) fun F h q x=>?_;have o:=q d _ i trivial;have i:=o;simp only[RR,seval];refine a _ _ (aA fun K a=>?_);simp only[RR,seval];refine Zg h (fun _=>trivial) fun G J=>?_;simp only[RR,seval];apply a;refine aP ?_;simp only[aY,aK,bR,RR,seval];refine aZ.pure ?_;rfl
theorem Z6 (p:Pg) (e:p.ok) (k:gL p=true→p.few) (n: ∀f∈p.funs,jD (fun l=>l.all Bg) p=true→(hJ f.body).length≤1000000000000):eH dP 13 [p.av] (.tup [.str (BR p).1, .int .i64 (BR p).2]):=by
 have c:=Iq p e k;rw[←Hl]at c;have b:BR p=if jD (fun l=>l.all Bg) p=true then(match p.funs with |f::_=>hJ f.body++[36]|[]=>[36],0)else([],1):=rfl
 cases hq:jD (fun l=>l.all Bg) p with
 |false=>
  rw[hq]at b c;simp only[cF,dC]at b;rw[b];obtain⟨v,g,i⟩:=p;simp only[Pg.av,Pg.row]at *;refine bY 14 [.tmp 2, .tmp 3] func13 ?_;refine aA fun K a=>?_;simp only[RR,seval];refine aN fun h o=>?_;simp only[RR,seval];refine a _ _ (aI (aA fun K a=>?_));simp only[RR,seval];refine aO (c) ?_;simp only[RR,seval];refine a _ _ (cM (aA fun K a=>?_));simp only[RR,seval];apply a;refine aP ?_;simp only[aY,aK,bR,RR,seval];refine aZ.pure ?_;rfl
 |true=>
  rw[hq]at b c;simp only[cQ]at b;obtain⟨f,d,q,r,m⟩:=Hn e hq;have x:=n f (by rw[d];exact bE.2 rfl) hq;rw[d]at b;simp only at b;rw[b];have t:=Xz _ f.body 1 (bH _) q r m (by omega);obtain⟨v,g,i⟩:=p;simp only at d;subst d;simp only[Pg.av,Pg.row]at *;have s:f.row=[.str f.name, .isl 1 (f.params.map bM), .isl 1 (f.locs.map bM), .bool f.word, .isl 5 (f.body.map Sm.row)]:=rfl;have y:(0:Int)<(([f]:List Fu).length:Int):=by simp
  have w:([f].map Fu.row)[0]?=some [.str f.name, .isl 1 (f.params.map bM), .isl 1 (f.locs.map bM), .bool f.word, .isl 5 (f.body.map Sm.row)]:=rQ rfl;generalize hJ f.body=u at *;have j:u.length+1≤maxLen:=by unfold maxLen;omega
  refine bY 14 [.tmp 2, .tmp 3] func13 ?_;refine aA fun K a=>?_;simp only[s,RR,seval];refine aN fun h o=>?_;simp only[RR,seval];refine a _ _ (aI (aA fun K a=>?_));simp only[RR,seval];refine aO (c) ?_;simp only[RR,seval];refine a _ _ (bI ?_);refine aL ?_;simp only[RR];refine aA fun K a=>?_;simp only[RR,seval];refine aO (t) ?_;simp only[j,RR,seval];apply a;refine aP ?_;simp only[aY,aK,bR,RR,seval];refine aZ.pure ?_;rfl
theorem EX:type_of% (And.intro RR<|And.intro @IntKind.wrap_i64<|And.intro @gV.{0}<|And.intro @gD.{0}<|And.intro @jW.{0}<|And.intro @dN.{0}<|And.intro @eq_self.{1} nG):=And.intro RR<|And.intro @IntKind.wrap_i64<|And.intro @gV<|And.intro @gD<|And.intro @jW<|And.intro @dN<|And.intro @eq_self nG
theorem NX:eH dP 83 [.str [97]] (.bool true)∧eH dP 83 [.str [109,97,105,110]] (.bool true):=by
 have hf:(1:Nat)≠2:=by decide
 refine⟨?_, ?_⟩<;>
  (repeat' first
    |refine tI fun K hK=>?_
    |(refine hK _ _ ?_;clear hK)
    |refine aC fun K hK=>?_
    |(refine aH ?_;simp only[hf,EX,seval])
    |refine cM ?_
    |refine bI ?_
    |(refine aL ?_;simp only[RR])
    |refine aQ ?_
    |refine pT 20 ?_
    |(refine cG ?_;simp only[RR,seval])
    |(refine aN fun b hn=>?_;have hf:=And.intro hn hf;clear hn;simp only[sZ,tR,TN,ne_eq]at hf;simp only[hf,EX,seval])
    |(refine dO ?_;simp only[hf,EX,seval])
    |refine kY fun R hR=>bY 26 [.tmp 2] func124 ?_
    |refine kY fun R hR=>bY 17 [.tmp 2] func183 ?_
    |refine kY fun R hR=>bY 22 [.tmp 4] func184 ?_
    |refine kY fun R hR=>bY 13 [.tmp 2] func185 ?_
    |refine kY fun R hR=>bY 9 [.tmp 2] func224 ?_
    |refine kY fun R hR=>bY 13 [.tmp 2] func186 ?_
    |(refine aP ?_;simp only[aY,aK,bR,hf,EX,seval];first|(refine aZ.any (hR _ ?_);clear hR;simp only[hf,EX,seval])|(refine aZ.pure ?_;rfl))
    |refine bY 17 [.tmp 2] func83 ?_
    |clear hK)
theorem SL:eH dP 188 [.agg [.int .i64 5, .int .i64 0, .int .u32 0, .str [], .isl 5 []]] (.bool true)∧eH dP 188 [.agg [.int .i64 2, .int .i64 0, .int .u32 0, .str [97], .isl 5 []]] (.bool true)∧eH dP 188 [.agg [.int .i64 1, .int .i64 0, .int .u32 256, .str [], .isl 5 []]] (.bool true)∧eH dP 188 [.agg [.int .i64 6, .int .i64 14, .int .u32 0, .str [], .isl 5 [[.int .i64 2, .int .i64 0, .int .u32 0, .str [97], .isl 5 []],[.int .i64 1, .int .i64 0, .int .u32 256, .str [], .isl 5 []]]]] (.bool true)∧eH dP 125 [.agg [.int .i64 1, .str [97], .isl 5 [[.int .i64 5, .int .i64 0, .int .u32 0, .str [], .isl 5 []]], .isl 5 [], .isl 5 []]] (.bool true)∧eH dP 125 [.agg [.int .i64 3, .str [], .isl 5 [[.int .i64 2, .int .i64 0, .int .u32 0, .str [97], .isl 5 []]], .isl 5 [], .isl 5 []]] (.bool true)∧eH dP 125 [.agg [.int .i64 5, .str [], .isl 5 [[.int .i64 6, .int .i64 14, .int .u32 0, .str [], .isl 5 [[.int .i64 2, .int .i64 0, .int .u32 0, .str [97], .isl 5 []],[.int .i64 1, .int .i64 0, .int .u32 256, .str [], .isl 5 []]]]], .isl 5 [[.int .i64 3, .str [], .isl 5 [[.int .i64 2, .int .i64 0, .int .u32 0, .str [97], .isl 5 []]], .isl 5 [], .isl 5 []],[.int .i64 1, .str [97], .isl 5 [[.int .i64 5, .int .i64 0, .int .u32 0, .str [], .isl 5 []]], .isl 5 [], .isl 5 []]], .isl 5 []]] (.bool true):=by
 obtain⟨p0_0,p0_1⟩:=NX;have hf:(1:Nat)≠2:=by decide
 refine⟨?_, ?_, ?_, ?_, ?_, ?_, ?_⟩<;>
  (repeat' first
    |refine tI fun K hK=>?_
    |(refine hK _ _ ?_;clear hK)
    |refine aC fun K hK=>?_
    |(refine aH ?_;simp only[hf,EX,seval])
    |refine cM ?_
    |refine bI ?_
    |(refine aL ?_;simp only[RR])
    |refine aQ ?_
    |refine pT 20 ?_
    |(refine cG ?_;simp only[RR,seval])
    |(refine aN fun b hn=>?_;have hf:=And.intro hn hf;clear hn;simp only[sZ,tR,TN,ne_eq]at hf;simp only[hf,EX,seval])
    |(refine dO ?_;simp only[hf,EX,seval])
    |(refine aO p0_0 ?_;simp only[hf,EX,seval])
    |(refine aO p0_1 ?_;simp only[hf,EX,seval])
    |refine kY fun R hR=>bY 10 [.tmp 4] func187 ?_
    |(refine aP ?_;simp only[aY,aK,bR,hf,EX,seval];first|(refine aZ.any (hR _ ?_);clear hR;simp only[hf,EX,seval])|(refine aZ.pure ?_;rfl))
    |refine bY 73 [.tmp 2] func188 ?_
    |refine bY 59 [.tmp 2] func125 ?_
    |clear hK)
theorem VY:eH dP 126 [.isl 5 [[.int .i64 5, .int .i64 0, .int .u32 0, .str [], .isl 5 []]], .int .i64 2] (.bool true)∧eH dP 126 [.isl 5 [[.int .i64 5, .int .i64 0, .int .u32 0, .str [], .isl 5 []]], .int .i64 3] (.bool true)∧eH dP 126 [.isl 5 [[.int .i64 2, .int .i64 0, .int .u32 0, .str [97], .isl 5 []]], .int .i64 3] (.bool true)∧eH dP 126 [.isl 5 [[.int .i64 6, .int .i64 14, .int .u32 0, .str [], .isl 5 [[.int .i64 2, .int .i64 0, .int .u32 0, .str [97], .isl 5 []],[.int .i64 1, .int .i64 0, .int .u32 256, .str [], .isl 5 []]]]], .int .i64 2] (.bool true):=by
 obtain⟨p0_0,p0_1⟩:=NX;obtain⟨p1_0,p1_1,p1_2,p1_3,p1_4,p1_5,p1_6⟩:=SL;have hf:(1:Nat)≠2:=by decide
 refine⟨?_, ?_, ?_, ?_⟩<;>
  (repeat' first
    |refine tI fun K hK=>?_
    |(refine hK _ _ ?_;clear hK)
    |refine aC fun K hK=>?_
    |(refine aH ?_;simp only[hf,EX,seval])
    |refine cM ?_
    |refine bI ?_
    |(refine aL ?_;simp only[RR])
    |refine aQ ?_
    |refine pT 20 ?_
    |(refine cG ?_;simp only[RR,seval])
    |(refine aN fun b hn=>?_;have hf:=And.intro hn hf;clear hn;simp only[sZ,tR,TN,ne_eq]at hf;simp only[hf,EX,seval])
    |(refine dO ?_;simp only[hf,EX,seval])
    |(refine aO p1_0 ?_;simp only[hf,EX,seval])
    |(refine aO p1_1 ?_;simp only[hf,EX,seval])
    |(refine aO p1_2 ?_;simp only[hf,EX,seval])
    |(refine aO p1_3 ?_;simp only[hf,EX,seval])
    |refine kY fun R hR=>bY 32 [.tmp 4] func126 ?_
    |(refine aP ?_;simp only[aY,aK,bR,hf,EX,seval];first|(refine aZ.any (hR _ ?_);clear hR;simp only[hf,EX,seval])|(refine aZ.pure ?_;rfl))
    |refine bY 32 [.tmp 4] func126 ?_
    |clear hK)
theorem VX:eH dP 57 [.agg [.isl 1 [[.str [97]]], .isl 2 [], .isl 5 [[.str [109,97,105,110], .isl 1 [], .isl 1 [], .bool false, .isl 5 [[.int .i64 1, .str [97], .isl 5 [[.int .i64 5, .int .i64 0, .int .u32 0, .str [], .isl 5 []]], .isl 5 [], .isl 5 []],[.int .i64 5, .str [], .isl 5 [[.int .i64 6, .int .i64 14, .int .u32 0, .str [], .isl 5 [[.int .i64 2, .int .i64 0, .int .u32 0, .str [97], .isl 5 []],[.int .i64 1, .int .i64 0, .int .u32 256, .str [], .isl 5 []]]]], .isl 5 [[.int .i64 3, .str [], .isl 5 [[.int .i64 2, .int .i64 0, .int .u32 0, .str [97], .isl 5 []]], .isl 5 [], .isl 5 []],[.int .i64 1, .str [97], .isl 5 [[.int .i64 5, .int .i64 0, .int .u32 0, .str [], .isl 5 []]], .isl 5 [], .isl 5 []]], .isl 5 []]]]]]] (.bool true):=by
 obtain⟨p0_0,p0_1⟩:=NX;obtain⟨p1_0,p1_1,p1_2,p1_3,p1_4,p1_5,p1_6⟩:=SL;obtain⟨p2_0,p2_1,p2_2,p2_3⟩:=VY;have hf:(1:Nat)≠2:=by decide
 repeat' first
  |refine tI fun K hK=>?_
  |(refine hK _ _ ?_;clear hK)
  |refine aC fun K hK=>?_
  |(refine aH ?_;simp only[hf,EX,seval])
  |refine cM ?_
  |refine bI ?_
  |(refine aL ?_;simp only[RR])
  |refine aQ ?_
  |refine pT 20 ?_
  |(refine cG ?_;simp only[RR,seval])
  |(refine aN fun b hn=>?_;have hf:=And.intro hn hf;clear hn;simp only[sZ,tR,TN,ne_eq]at hf;simp only[hf,EX,seval])
  |(refine dO ?_;simp only[hf,EX,seval])
  |(refine aO p0_0 ?_;simp only[hf,EX,seval])
  |(refine aO p0_1 ?_;simp only[hf,EX,seval])
  |(refine aO p1_0 ?_;simp only[hf,EX,seval])
  |(refine aO p1_1 ?_;simp only[hf,EX,seval])
  |(refine aO p1_2 ?_;simp only[hf,EX,seval])
  |(refine aO p1_3 ?_;simp only[hf,EX,seval])
  |(refine aO p1_4 ?_;simp only[hf,EX,seval])
  |(refine aO p1_5 ?_;simp only[hf,EX,seval])
  |(refine aO p1_6 ?_;simp only[hf,EX,seval])
  |(refine aO p2_0 ?_;simp only[hf,EX,seval])
  |(refine aO p2_1 ?_;simp only[hf,EX,seval])
  |(refine aO p2_2 ?_;simp only[hf,EX,seval])
  |(refine aO p2_3 ?_;simp only[hf,EX,seval])
  |refine kY fun R hR=>bY 46 [.tmp 4] func84 ?_
  |refine kY fun R hR=>bY 32 [.tmp 4] func126 ?_
  |refine kY fun R hR=>bY 15 [.tmp 2] func82 ?_
  |(refine aP ?_;simp only[aY,aK,bR,hf,EX,seval];first|(refine aZ.any (hR _ ?_);clear hR;simp only[hf,EX,seval])|(refine aZ.pure ?_;rfl))
  |refine bY 79 [.tmp 2] func57 ?_
  |clear hK
theorem XR:eH dP 57 [.agg [.isl 1 [], .isl 2 [], .isl 5 []]] (.bool false):=by
 obtain⟨p0_0,p0_1⟩:=NX;obtain⟨p1_0,p1_1,p1_2,p1_3,p1_4,p1_5,p1_6⟩:=SL;obtain⟨p2_0,p2_1,p2_2,p2_3⟩:=VY;have p3_0:=VX;have hf:(1:Nat)≠2:=by decide
 repeat' first
  |refine tI fun K hK=>?_
  |(refine hK _ _ ?_;clear hK)
  |refine aC fun K hK=>?_
  |(refine aH ?_;simp only[hf,EX,seval])
  |refine cM ?_
  |refine bI ?_
  |(refine aL ?_;simp only[RR])
  |refine aQ ?_
  |refine pT 20 ?_
  |(refine cG ?_;simp only[RR,seval])
  |(refine aN fun b hn=>?_;have hf:=And.intro hn hf;clear hn;simp only[sZ,tR,TN,ne_eq]at hf;simp only[hf,EX,seval])
  |(refine dO ?_;simp only[hf,EX,seval])
  |(refine aO p0_0 ?_;simp only[hf,EX,seval])
  |(refine aO p0_1 ?_;simp only[hf,EX,seval])
  |(refine aP ?_;simp only[aY,aK,bR,hf,EX,seval];refine aZ.pure ?_;rfl)
  |refine bY 79 [.tmp 2] func57 ?_
  |clear hK
theorem JO:eH dP 57 [.agg [.isl 1 [[.str [97]]], .isl 2 [], .isl 5 [[.str [109,97,105,110], .isl 1 [], .isl 1 [], .bool false, .isl 5 [[.int .i64 1, .str [97], .isl 5 [[.int .i64 5, .int .i64 0, .int .u32 0, .str [], .isl 5 []]], .isl 5 [], .isl 5 []],[.int .i64 5, .str [], .isl 5 [[.int .i64 6, .int .i64 14, .int .u32 0, .str [], .isl 5 [[.int .i64 2, .int .i64 0, .int .u32 0, .str [97], .isl 5 []],[.int .i64 1, .int .i64 0, .int .u32 256, .str [], .isl 5 []]]]], .isl 5 [[.int .i64 3, .str [], .isl 5 [[.int .i64 2, .int .i64 0, .int .u32 0, .str [97], .isl 5 []]], .isl 5 [], .isl 5 []],[.int .i64 1, .str [97], .isl 5 [[.int .i64 5, .int .i64 0, .int .u32 0, .str [], .isl 5 []]], .isl 5 [], .isl 5 []]], .isl 5 []]]]]]] (.bool true):=VX
theorem NV:eH dP 57 [.agg [.isl 1 [], .isl 2 [], .isl 5 []]] (.bool false):=XR
theorem Pq (p:Pg) (e:eH dP 57 [p.av] (.bool (gL p))) (c:gL p=true→eH dP 58 [p.av] (.int .i64 (lD p))) (d:gL p=true→eH dP 59 [p.av] (.int .i64 (qK p))):eH dP 32 [p.av] (.int .i64 (iW p)):=by
 have b:iW p=if gL p=true then(if lD p=0 then qK p else lD p)else 7:=rfl
 generalize iW p=l at *;generalize qK p=k at *;generalize lD p=j at *;generalize gL p=i at *;simp only[Pg.av,Pg.row]at *
 cases i with
 |false=>
  refine bY 14 [.tmp 2] func32 ?_;refine aA fun K a=>?_;simp only[RR,seval];refine aN fun g h=>?_;simp only[RR,seval];refine a _ _ (aI (aA fun K a=>?_));simp only[RR,seval];refine aO (e) ?_;simp only[RR,seval];refine a _ _ (cM (aA fun K a=>?_));simp only[RR,seval];apply a;refine aP ?_;simp only[aY,aK,bR,RR,seval];refine aZ.pure ?_;rw[b];rfl
 |true=>
  have c:=c rfl;have d:=d rfl;rw[bD rfl]at b;refine bY 14 [.tmp 2] func32 ?_;refine aA fun K a=>?_;simp only[RR,seval];refine aN fun g h=>?_;simp only[RR,seval];refine a _ _ (aI (aA fun K a=>?_));simp only[RR,seval];refine aO (e) ?_;simp only[RR,seval];refine a _ _ (bI ?_);refine aL ?_;simp only[RR];refine aI (aA fun K a=>?_);simp only[RR,seval];refine aO (c) ?_;simp only[RR,seval];refine a _ _ (aA fun K a=>?_);simp only[RR,seval];refine a _ _ (aV ?_ ?_)<;>intro f
  ·refine aA fun K a=>?_
   simp only[RR,seval];apply a;refine aP ?_;simp only[aY,aK,bR,RR,seval];refine aZ.pure ?_;rw[b,aJ (by simpa using f)]
  refine aL ?_;try simp only[RR]
  refine aA fun K a=>?_;simp only[RR,seval];refine aO (d) ?_;simp only[RR,seval];apply a;refine aP ?_;simp only[aY,aK,bR,RR,seval];refine aZ.pure ?_;rw[b,bD (by simpa using f)]
theorem W2 (h1:eH dP 32 [.agg [.isl 1 [[.str [97]]], .isl 2 [], .isl 5 [[.str [109,97,105,110], .isl 1 [], .isl 1 [], .bool false, .isl 5 [[.int .i64 1, .str [97], .isl 5 [[.int .i64 5, .int .i64 0, .int .u32 0, .str [], .isl 5 []]], .isl 5 [], .isl 5 []],[.int .i64 5, .str [], .isl 5 [[.int .i64 6, .int .i64 14, .int .u32 0, .str [], .isl 5 [[.int .i64 2, .int .i64 0, .int .u32 0, .str [97], .isl 5 []],[.int .i64 1, .int .i64 0, .int .u32 256, .str [], .isl 5 []]]]], .isl 5 [[.int .i64 3, .str [], .isl 5 [[.int .i64 2, .int .i64 0, .int .u32 0, .str [97], .isl 5 []]], .isl 5 [], .isl 5 []],[.int .i64 1, .str [97], .isl 5 [[.int .i64 5, .int .i64 0, .int .u32 0, .str [], .isl 5 []]], .isl 5 [], .isl 5 []]], .isl 5 []]]]]]] (.int .i64 0)) (h2:eH dP 32 [.agg [.isl 1 [], .isl 2 [], .isl 5 []]] (.int .i64 7)):eH dP 14 [.agg [.isl 1 [[.str [97]]], .isl 2 [], .isl 5 [[.str [109,97,105,110], .isl 1 [], .isl 1 [], .bool false, .isl 5 [[.int .i64 1, .str [97], .isl 5 [[.int .i64 5, .int .i64 0, .int .u32 0, .str [], .isl 5 []]], .isl 5 [], .isl 5 []],[.int .i64 5, .str [], .isl 5 [[.int .i64 6, .int .i64 14, .int .u32 0, .str [], .isl 5 [[.int .i64 2, .int .i64 0, .int .u32 0, .str [97], .isl 5 []],[.int .i64 1, .int .i64 0, .int .u32 256, .str [], .isl 5 []]]]], .isl 5 [[.int .i64 3, .str [], .isl 5 [[.int .i64 2, .int .i64 0, .int .u32 0, .str [97], .isl 5 []]], .isl 5 [], .isl 5 []],[.int .i64 1, .str [97], .isl 5 [[.int .i64 5, .int .i64 0, .int .u32 0, .str [], .isl 5 []]], .isl 5 [], .isl 5 []]], .isl 5 []]]]]]] (.bool true)∧eH dP 14 [.agg [.isl 1 [], .isl 2 [], .isl 5 []]] (.bool false):=by
 have hf:(1:Nat)≠2:=by decide
 refine⟨?_, ?_⟩<;>
  (repeat' first
    |refine tI fun K hK=>?_
    |(refine hK _ _ ?_;clear hK)
    |refine aC fun K hK=>?_
    |(refine aH ?_;simp only[hf,EX,seval])
    |refine cM ?_
    |refine bI ?_
    |(refine aL ?_;simp only[RR])
    |refine aQ ?_
    |refine pT 20 ?_
    |(refine cG ?_;simp only[RR,seval])
    |(refine aN fun b hn=>?_;have hf:=And.intro hn hf;clear hn;simp only[sZ,tR,TN,ne_eq]at hf;simp only[hf,EX,seval])
    |(refine dO ?_;simp only[hf,EX,seval])
    |(refine aO h1 ?_;simp only[hf,EX,seval])
    |(refine aO h2 ?_;simp only[hf,EX,seval])
    |refine kY fun R hR=>bY 35 [.tmp 2] func34 ?_
    |refine kY fun R hR=>bY 25 [.tmp 2] func60 ?_
    |refine kY fun R hR=>bY 20 [.tmp 2] func33 ?_
    |(refine aP ?_;simp only[aY,aK,bR,hf,EX,seval];first|(refine aZ.any (hR _ ?_);clear hR;simp only[hf,EX,seval])|(refine aZ.pure ?_;rfl))
    |refine bY 64 [.tmp 2] func14 ?_
    |clear hK)
end Go.Proofs.YtaecpjgmcffliaaGreatDoor
