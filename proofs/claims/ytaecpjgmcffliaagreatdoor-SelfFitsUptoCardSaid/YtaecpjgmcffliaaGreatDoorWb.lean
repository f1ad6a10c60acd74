/- Wb -/
import Derived.Test.YtaecpjgmcffliaaGreatDoorT2
import Derived.Test.YtaecpjgmcffliaaGreatDoorSc1
import Derived.Test.YtaecpjgmcffliaaGreatDoorAl3
import Derived.Defers
import Derived.Recover
import Derived.Test.YtaecpjgmcffliaaGreatDoorSy2
set_option linter.unusedSimpArgs false
set_option linter.unusedVariables false
set_option maxRecDepth 10000
set_option maxHeartbeats 16000000
namespace Go.Al
theorem dW.offsz {sz c:Nat} {v:AV} {rows j:List (List AV)} {H:Hp} (h:dW sz v rows H) {b:Nat} (f:H b=some (.rows c j)) (i:c≠sz):Al.off v b:=fun s n e=>by
 rcases h with⟨rfl,_⟩|⟨k,rfl,a⟩
 ·cases e
 cases e;rw[f]at a;cases a;exact i rfl
theorem dW.cells {sz:Nat} {v:AV} {rows:List (List AV)} {H:Hp} (h:dW sz v rows H):cellsOf v=some [v]:=by rcases h with⟨rfl,_⟩|⟨b,rfl,_⟩<;>rfl
theorem dW.one1 {sz:Nat} {v:AV} {rows:List (List AV)} {H:Hp} (h:dW sz v rows H):one v=true:=by rcases h with⟨rfl,_⟩|⟨b,rfl,_⟩<;>rfl
theorem jA {E:jV} {F:Nat→Prop} {ds:List (Option Nat)} {Q:fK} {d:Option Nat} {rest:List Oper} {fr:Fr} {H:Hp} {sz y:Nat} {v:AV} {rows u:List (List AV)} (I:dW sz v rows H) (i:(rows.length+u.length) *y≤140737488355328) (D: ∀b,v= .osl sz b rows.length→F b)
  (h: ∀t k,dW sz t (rows++u) k→(∀b o,H b=some o→v≠ .osl sz b rows.length→k b=some o)→(∀b,off v b→H b≠none→off t b)→eA E F ds Q rest (fL fr d t) k):E0 E F ds Q d rest fr H (some (sz,y,v,u)):=by
 rcases I with⟨rfl,rfl⟩|⟨b,rfl,G⟩
 ·simp only[dE,aS,eC]at h i
  refine⟨i,fun e=>h _ _ (.inl ⟨rfl,e⟩) (fun _ _ i _=>i) (fun b a _=>a),fun e b z=>h _ _ (.inr ⟨b,rfl,by simp [upd]⟩) (fun j o f _=>?_) fun B _ p s n l=>?_⟩
  ·have :j≠b:=fun c=>by rw[c,z]at f;cases f
   simp [upd,this,f]
  cases l;exact p z
 simp only[E0,G];refine⟨trivial,trivial,trivial,i,D b rfl,fun j f=>?_⟩;refine h _ _ (.inr ⟨j,by simp,by simp [upd]⟩) (fun x o a C=>?_) fun B a p s n l=>?_
 ·have A:x≠b:=fun c=>C (by rw[c])
  have J:x≠j:=fun c=>by
   rcases f with e|e
   ·exact A (c.trans e)
   rw[←c,a]at e;cases e
  simp [upd,A,J,a]
 cases l;rcases f with e|e
 ·exact a _ _ (by rw[e])
 exact p e
section
variable {E : jV} {F : Nat → Prop} {ds : List (Option Nat)} {Q : fK} {d : Option Nat} {rest : List Oper} {fr : Fr} {H : Hp} {g : FuncId} {args : List AV}
theorem tA {R:uZ→Hp→Prop} (f:pK E g args H R) (e: ∀b,F b)
  (h: ∀c a,R c a→(match c with | .ret v=>eA E F ds Q rest (fL fr d v) a| .pan v=>Q (.pan v) N6 a)):qK E F ds Q d rest fr H g args:=by
 refine mX f (fJ.refl _) (fun b o h=>h) (fun b _=>e b) fun c a i _=>?_;rw[Hq];exact h c a i
end
theorem pK.mono {E:jV} {g:FuncId} {args:List AV} {H:Hp} {R c:uZ→Hp→Prop} (h:pK E g args H R) (o: ∀b a,R b a→c b a):pK E g args H c:=
 ⟨h.1,fun p f vs l n=>(h.2 p f vs l n).mono fun _ _ ⟨b,a,e,i,j,k⟩=>⟨b,a,e,i,j,o _ _ k⟩⟩
theorem aZ.run {R:uZ→Hp→Prop} {v:AV} {H:Hp} (h:R (.ret v) H):aZ R v H:=aZ.self h
section
open Go
section
variable {E : jV} {N : Nat} {Φ : lF → Exit → Act → World → Prop} {fr : Fr} {H : Hp}
end
end
section
open Go
section
variable {E : jV} {R : uZ → Hp → Prop}
end
end
def Y9 (v x:AV):Prop:= ∀s b n,x= .osl s b n→off v b
theorem bU {v x:AV} (h:sX x=true):Y9 v x:=fun s b n e=>by subst e;cases h
theorem N5 {b sz n:Nat} {l:List (List AV)} {x:AV} (h:Y9 (.osl sz b n) x):frz b sz l x=x:=by
 cases x<;>try rfl
 rename_i e a c;rw[Ro,aM];rintro⟨rfl,_,_⟩;exact h _ _ _ rfl _ _ rfl
theorem zJ {b sz n:Nat} {l:List (List AV)}: ∀{a:List AV},(∀x∈a,Y9 (.osl sz b n) x)→a.map (frz b sz l)=a
 |[],_=>rfl
 |x::a,h=>by rw[cP,N5 (h x (by simp)),zJ fun y c=>h y (by simp [c])]
theorem On {b sz n:Nat} {l:List (List AV)}: ∀{a:List (List AV)},(∀r∈a, ∀x∈r,Y9 (.osl sz b n) x)→a.map (fun x=>x.map (frz b sz l))=a
 |[],_=>rfl
 |x::a,h=>by rw[cP,zJ (h x (by simp)),On fun y c=>h y (by simp [c])]
theorem iQ.mid {v w:AV} (h:iR v w) (a:List AV): ∀l:List AV,iQ (l++v::a) (l++w::a)
 |[]=>iQ.cons h (SubR_self a)
 |x::l=>iQ.cons (iR.refl x) (iQ.mid h a l)
where SubR_self: ∀l:List AV,iQ l l
 |[]=> .nil
 |x::l=> .cons (iR.refl x) (SubR_self l)
theorem gW {E:jV} {N:Nat} {Q:fK} {c:Code} {fr:Fr} {H:Hp} {a sz u:Nat} {wZ f:List AV} {v:AV} {rows:List (List AV)} (I:dW sz v rows H) (p:H a=some (.rows u [wZ++v::f])) (D: ∀x∈wZ,Y9 v x) (G: ∀x∈f,Y9 v x) (B:off v a)
  (h: ∀o i,(∀j,Y9 v (fr j)→o j=fr j)→i a=some (.rows u [wZ++ .isl sz rows::f])→(∀b s l,b≠a→off v b→(∀r∈l, ∀x∈r,Y9 v x)→H b=some (.rows s l)→i b=some (.rows s l))→lW E N c Q o i):lW E N c Q fr H:=by
 rcases I with⟨rfl,rfl⟩|⟨b,rfl,k⟩
 ·exact X3 p (iQ.mid (iR.nsl sz) f wZ) (h fr _ (fun _ _=>rfl) (bG _ _ _) (fun b s l t _ _ k=>by rw[cR _ _ t];exact k))
 refine xO k (h _ _ (fun j A=>N5 A) ?_ fun n s l t C z y=>?_)
 ·show(if a=b then none else(H a).map (V8 b sz rows))=_
  rw[aM (fun e=>B _ _ (by rw[e])),p];simp only[eW,Oo,cP,dD,cK,IA,zJ D,zJ G]
 show(if n=b then none else(H n).map (V8 b sz rows))=_;rw[aM (fun e=>C _ _ (by rw[e])),y];simp only[eW,Oo,On z]
section
variable {E : jV} {F : Nat → Prop} {ops : Array Oper} {Q : fK} {fr : Fr} {H : Hp}
theorem Ip (F:Nat→Prop) {N id:Nat} {l:List Oper} (c:E.P.follows .mixedOrders=true) (hd:l.all (kZ N)=true) (h:l.toArray.toList.all (kZ N)=true→oQ E (fun _=>F) l.toArray Q l.length (Array.replicate l.length false) fr H):lW E N (.region id l.toArray true) Q fr H:=fun f a w e=>by
 have b:l.toArray.toList.all (kZ N)=true:=by simpa using hd
 have:=wp_region_any c (wG (G:=fun _=>F) b l.length (Array.replicate l.length false) fr H a _ e.drew (h b)) (id:=id);simpa using this
theorem JM {N n m:Nat} {L b:Array Bool} {l':List Oper} (a:List (Nat×Nat)) (hd:ops.toList.all (kZ N)=true) (k:n=a.length+m) (i:X0 ops [] L a=true) (f:qC L a=b) (j:eM ops.toList a=l')
  (h:eA E F (ops.toList.map (·.dst)) (bL (fun e c=>oQ E (fun _=>F) ops Q m b e c) Q) l' fr H):oQ E (fun _=>F) ops Q n L fr H:=by
 subst k;subst f;subst j;exact rI (T:=[]) (fun _ _=>rfl) hd a L fr H i h
theorem JO {L:Array Bool} (a:Region.ready .any ops L=[]) (h:Q .normal fr H):oQ E (fun _=>F) ops Q 0 L fr H:=⟨a,h⟩
end
section
variable {E : jV} {N : Nat} {Q : fK} {fr : Fr} {H : Hp}
def TR (E:jV) (N:Nat) (c:Code) (Q:fK):Nat→Fr→Hp→Prop
 |0,_,_=>False
 |n+1,fr,H=>lW E N c (bL (TR E N c Q n) Q) fr H
theorem pE {c:Code} (n:Nat) (h:TR E N c Q n fr H):lW E N (.loop c) Q fr H:=by
 refine eK (fun m fr H=>TR E N c Q m fr H) n h fun m fr H a K b=>?_
 cases m with
 |zero=>exact a.elim
 |succ m=>
  refine Iq a fun e f d h=>?_;cases e<;>first|exact b m _ _ (Nat.lt_succ_self m) h|exact h
theorem sQ {c:Code} {n:Nat} (h: ∀K:Fr→Hp→Prop,(∀fr H,TR E N c Q n fr H→K fr H)→lW E N c (bL K Q) fr H):TR E N c Q (n+1) fr H:=h _ fun _ _ h=>h
theorem aZ.any {R:uZ→Hp→Prop} {v:AV} (h:R (.ret v) pX):aZ R v H:=⟨v,pX,lC.drop (fun b o h=>by cases h),h⟩
theorem kH {F:Nat→Prop} {a:List (Option Nat)} {d:Option Nat} {e:List Oper} {g:FuncId} {j:List AV}
  (h: ∀R:uZ→Hp→Prop,(∀v,eA E F a Q e (fL fr d v) H→R (.ret v) pX)→pK E g j pX R):qK E F a Q d e fr H g j:=by
 refine mX (R:=fun i f=>f=pX∧ ∃v,i= .ret v∧eA E F a Q e (fL fr d v) H) (h _ fun v c=>⟨rfl,v,rfl,c⟩) (fJ.refl _) (qY _) (fun b k=>absurd rfl k) fun i f l _=>?_;obtain⟨rfl,v,rfl,c⟩:=l;simp only[Om];exact c
theorem sH {b a:Nat} {o:gY}:(upd H a (some o) b=none)=((b≠a∧a≠b)∧H b=none):=by
 refine propext ⟨fun h=>?_,fun⟨⟨d,_⟩,f⟩=>?_⟩
 ·unfold upd at h
  split at h
  ·cases h
  rename_i c;exact⟨⟨c,fun e=>c e.symm⟩,h⟩
 unfold upd;rw[aM d];exact f
theorem sY {b:Nat}:(pX b=none)=True:=eq_true rfl
end
end Go.Al
namespace Go.Proofs.YtaecpjgmcffliaaGreatDoor
open Go.Al Go.Proofs.Tryz
theorem H6: ∀a b:List Ex,hY (a++b)=hY a++hY b
 |[],b=>by simp [hY]
 |x::a,b=>by simp only[cN,hY,H6 a b,bQ]
theorem H7: ∀a b:List Sm,iS (a++b)=iS a++iS b
 |[],b=>by simp [iS]
 |x::a,b=>by simp only[cN,iS,H7 a b,bQ]
theorem sI (l:List Ex) (k:Nat):(hY (l.take k)).length≤(hY l).length:=by
 have:=congrArg List.length (H6 (l.take k) (l.drop k));rw[lO,aB]at this;omega
theorem Fj (l:List Sm) (k:Nat):(iS (l.take k)).length≤(iS l).length:=by
 have:=congrArg List.length (H7 (l.take k) (l.drop k));rw[lO,aB]at this;omega
def WC (e:Ex):Prop:= ∀(b:Nat) (bs:dC),(bs++gK e).length≤140737488355328→Ti dN 79 [.ptr 2 b 0 0, .agg e.row] b bs (.tup []) (gK e)
theorem Zb (k o n:Int) (s:dC) (l:List Ex) (hk:k=6→4≤o∧o≤15) (F:eB n) (b9:l.length≤9223372036854775807) (h: ∀e∈l,WC e):WC (.mk k o n s l):=by
 intro b z T H0 hm;have d:=hm.h;have C:gK (.mk k o n s l)=hY l++iD k o n s:=by rw[gK]
 have y:z.length+(hY l).length+(iD k o n s).length≤140737488355328:=by
  rw[C]at T;simp only[aB]at T;omega
 clear T;simp only[Ex.row_eq,Ex.kind,Ex.op,Ex.num,Ex.name,Ex.kids];refine bX 65 [] func79 ?_;refine aA fun K f=>?_;simp only[RR,seval];refine aQ fun p c2=>?_;simp only[RR,seval];refine f _ _ (aI (aA fun K f=>?_));simp only[aE,RR,seval];refine f _ _ (bT fun F1 M1 u E=>?_);have v:=u 0;have A:=u 3;have G:=u 7;have H:=u 8;have B:=u 9;have a:=E p;simp only[RR,seval]at v A G H B a;have hM:=funext E;refine aN ?_;refine eT [0,3,7,8] (l.length) (fun j fr M=>fr 9= .int .i64 (j:Nat)∧M p=M1 p∧mJ b (z++hY (l.take j)) M) ⟨B,rfl,(by rw[hM,fX,show hY []=[]by simp only[hY],dO];exact d.new (by assumption) _)⟩ ?_;rintro j V M2 c1 ⟨Y,g,d⟩ L K0 a9;have v:=(L 0 rfl).trans v;have A:=(L 3 rfl).trans A;have G:=(L 7 rfl).trans G;have H:=(L 8 rfl).trans H;have B:=Y;clear Y;have a:=g.trans a;have Q:=bB.refl [0,3,7,8] V;have N:=g;clear L;refine aA fun K f=>?_;simp only[H,B,RR,seval];refine f _ _ (aI (aX ?_ ?_))<;>intro I
 ·have P:j<l.length:=by have:=aF I;omega
  clear I;have S:=pR (aD P);have U:l.take (j+1)=l.take j++[l[j]]:=bS P;have R:=h _ (bV P);have a6:=sI l (j+1);generalize l[j]=e at S U R;rw[U,mT]at a6;simp only[aB]at a6;obtain⟨x1,x2,x3,x4,x5⟩:=e;simp only[Ex.kind,Ex.op,Ex.num,Ex.name,Ex.kids]at S;simp only[WC,Ex.row_eq,Ex.kind,Ex.op,Ex.num,Ex.name,Ex.kids]at R;generalize b6:gK (.mk x1 x2 x3 x4 x5)=c5 at *;refine aL ?_;simp only[RR];refine aI (aN (aA fun K f=>?_));simp only[G,B,S,RR,seval];refine aQ fun W b4=>?_;have b7:=dG b4 a;have a7:=b7.symm;simp only[RR,seval];refine f _ _ (bT fun F3 M3 u E=>?_);have Z:=u 0;have g3:=u 3;have X:=u 5;have g7:=u 7;have g8:=u 8;have g9:=u 9;have g:=E p;have O:=E W;simp only[v,A,G,H,B,a,a7,RR,seval]at Z g3 X g7 g8 g9 g O;have Q:bB [0,3,7,8] V F3:=bB.same u (by repeat (first|exact Q|refine bB.upd rfl ?_));have N:=(E p).trans (by(simp only[a7,aV,seval];exact N));have d:mJ b (z++hY (l.take j)) M3:=by rw[funext E];exact d.new2 (by assumption) _ _
  have v:=Z;have A:=g3;have G:=g7;have H:=g8;have B:=g9;have a:=g;refine aG ?_;simp only[v,X,O,RR,seval];refine gJ d (R b (z++hY (l.take j)) (by simp only[aB];omega)) (fJ.refl _) (fun _=>trivial) fun M4 d t J=>?_;have g:=t p _ a trivial;have N:=(g.trans a.symm).trans N;have a:=g;have a8:=t W _ O trivial;have O:=a8;simp only[RR,seval];refine aG ?_;simp only[B,RR,seval];rw[aT _ (by omega)];refine a9 _ _ P ⟨by rfl,N,by rw[U,mT,b6];simpa only[bQ]using d⟩ (by repeat (first|exact Q|refine bB.upd rfl ?_))
 have b2:j=l.length:=by have:=aH I;omega
 rw[b2,cZ]at d;refine cC ?_;simp only[RR,seval];refine aA fun K f=>?_;simp only[A,a,RR,seval];refine f _ _ (aN (aA fun K f=>?_));simp only[RR,seval];refine f _ _ (aX ?_ ?_)<;>intro a4
 ·obtain rfl:=aF a4
  have i:iD 1 o n s=Lib.decDigits n.toNat++[32]:=by simp [iD]
  rw[i]at y;simp only[aB,aJ,aS]at y;have b0:(Lib.decDigits n.toNat).length+1≤maxLen:=by unfold maxLen;omega
  refine bF (fun x=>x≠p) [(0,3),(1,3),(2,3),(3,3),(4,1),(5,1),(6,3),(7,1)] [] eP (by kernel_rfl) rfl rfl ?_;simp only[eM,v,A,a,RR,seval];refine aP (JV n F) ?_;simp only[b0,RR,seval];refine tY d (fD b (z++hY l) (Lib.decDigits n.toNat++[32]) (by simp only[aB,aJ,aS];omega)) (fJ.refl _) (fun x o D F=>by exact(fun e=>by subst e;(rw[a]at D;cases D;exact F trivial))) fun M5 d t J=>?_;have g:=t p _ a trivial;have a:=g;simp only[RR,seval];simp only[aY,aK,bR,seval];exact yR d (by rw[C,i]<;>simp only[bQ])
 refine aA fun K f=>?_;simp only[RR,seval];refine f _ _ (aX ?_ ?_)<;>intro a5
 ·obtain rfl:=aF a5
  have i:iD 2 o n s=s:=by simp [iD]
  rw[i]at y;refine bF (fun x=>x≠p) [(0,3),(1,3),(2,3),(3,3),(4,1),(5,1)] [] eP (by kernel_rfl) rfl rfl ?_;simp only[eM,v,A,a,RR,seval];refine tY d (fD b (z++hY l) s (by simp only[aB];omega)) (fJ.refl _) (fun x o D F=>by exact(fun e=>by subst e;(rw[a]at D;cases D;exact F trivial))) fun M6 d t J=>?_;have g:=t p _ a trivial;have a:=g;simp only[RR,seval];simp only[aY,aK,bR,seval];exact yR d (by rw[C,i]<;>simp only[bQ])
 refine aA fun K f=>?_;simp only[RR,seval];refine f _ _ (aX ?_ ?_)<;>intro a0
 ·obtain rfl:=aF a0
  have i:iD 3 o n s=[64]:=by simp [iD]
  rw[i]at y;simp only[aJ,aS]at y;refine aG ?_;simp only[v,RR,seval];refine gJ d (fD b (z++hY l) [64] (by simp only[aB,aJ,aS];omega)) (fJ.refl _) (fun _=>trivial) fun M7 d t J=>?_;have g:=t p _ a trivial;have a:=g;simp only[RR,seval];simp only[aY,aK,bR,seval];exact yR d (by rw[C,i]<;>simp only[bQ])
 refine aA fun K f=>?_;simp only[RR,seval];refine f _ _ (aX ?_ ?_)<;>intro a1
 ·obtain rfl:=aF a1
  have i:iD 5 o n s=[63]:=by simp [iD]
  rw[i]at y;simp only[aJ,aS]at y;refine aG ?_;simp only[v,RR,seval];refine gJ d (fD b (z++hY l) [63] (by simp only[aB,aJ,aS];omega)) (fJ.refl _) (fun _=>trivial) fun M8 d t J=>?_;have g:=t p _ a trivial;have a:=g;simp only[RR,seval];simp only[aY,aK,bR,seval];exact yR d (by rw[C,i]<;>simp only[bQ])
 refine aA fun K f=>?_;simp only[RR,seval];refine f _ _ (aX ?_ ?_)<;>intro a2
 ·obtain rfl:=aF a2
  obtain⟨c3,c4⟩:=hk rfl;obtain⟨j,rfl⟩: ∃j:Nat,o=((4+j:Nat):Int):=⟨(o- 4).toNat,by omega⟩;have hj:j<12:=by omega
  have hw:IntKind.wrap .i64 (((4+j:Nat):Int)- 4)=(j:Int):=by rw[aT _ (by omega)];omega
  obtain⟨c,I⟩: ∃c,opS[j]?=some c:=⟨_,aD (show j<opS.length from hj)⟩
  have i:iD 6 ((4+j:Nat):Int) n s=[c]:=by
   have e1:(((4+j:Nat):Int)- 4).toNat=j:=by omega
   unfold iD;rw[aM (by decide),aM (by decide),aM (by decide),aM (by decide),aM (by decide),bP rfl,e1,I];rfl
  rw[i]at y;simp only[aJ,aS]at y;have c0:(j:Int)<12:=by omega
  have b1:([43,45,42,47,37,38,124,94,76,82,60,61]:List UInt8)[j]?=some c:=I;refine bF (fun x=>x≠p) [(0,3),(1,3),(2,3),(3,3),(4,1),(5,3),(6,3),(7,1)] [] eP (by kernel_rfl) rfl rfl ?_;simp only[eM,v,A,a,hw,b1,RR,seval];refine tY d (Ls b (z++hY l) c (by simp only[aB];omega)) (fJ.refl _) (fun x o D F=>by exact(fun e=>by subst e;(rw[a]at D;cases D;exact F trivial))) fun M9 d t J=>?_;have g:=t p _ a trivial;have a:=g;simp only[RR,seval];simp only[aY,aK,bR,seval];exact yR d (by rw[C,i]<;>simp only[bQ])
 refine aA fun K f=>?_;simp only[RR,seval];refine f _ _ (aX ?_ ?_)<;>intro a3
 ·obtain rfl:=aF a3
  have i:iD 7 o n s=[33]:=by simp [iD]
  rw[i]at y;simp only[aJ,aS]at y;refine aG ?_;simp only[v,RR,seval];refine gJ d (fD b (z++hY l) [33] (by simp only[aB,aJ,aS];omega)) (fJ.refl _) (fun _=>trivial) fun b8 d t J=>?_;have g:=t p _ a trivial;have a:=g;simp only[RR,seval];simp only[aY,aK,bR,seval];exact yR d (by rw[C,i]<;>simp only[bQ])
 have h1:=aH a4;have h2:=aH a5;have h3:=aH a0;have h4:=aH a1;have h5:=aH a2;have h6:=aH a3;have i:iD k o n s=[]:=by simp [iD,h1,h2,h3,h4,h5,h6]
 refine aL ?_;simp only[RR];simp only[aY,aK,bR,seval];exact yR d (by rw[C,i]<;>simp only[dO])
theorem P9 (N:Nat): ∀(e:Ex) (b:Int),e.sz≤N→e.ok→kV e b=true→WC e:=by
 induction N using Nat.strongRecOn with
 |_ N ih=>
  intro e b u d f;have v:=e.sz_eq;have c:=d.kids;have j:=d.num;simp only[kV,aU]at f;obtain⟨⟨_,i⟩,p⟩:=f;obtain⟨k,o,n,s,l⟩:=e;simp only[Ex.kind,Ex.op,Ex.num,Ex.kids]at *;refine Zb k o n s l (fun g=>by subst g;simp [mM]at i;omega) j c.fit fun x a=>?_;have t:=mK a;exact ih x.sz (by omega) x (b+1) (bE _) (c.all x a) (vE p x a)
def WM (m:Sm):Prop:= ∀(b:Nat) (bs:dC),(bs++nW m).length≤140737488355328→Ti dN 54 [.ptr 2 b 0 0, .agg m.row] b bs (.tup []) (nW m)
theorem Fb (l:List Sm) (a0:l.length≤9223372036854775807) (h: ∀e∈l,WM e) (b:Nat) (g:dC) (J:(g++iS l).length≤140737488355328):Ti dN 28 [.ptr 2 b 0 0, .isl 5 (l.map Sm.row)] b g (.tup []) (iS l):=by
 intro U L;have a:=L.h;simp only[aB]at J;refine bX 16 [] func28 ?_;refine aA fun K d=>?_;simp only[aE,RR,seval];refine d _ _ (bT fun T W o E=>?_);have i:=o 0;have k:=o 6;have n:=o 7;have c:=o 8;simp only[RR,seval]at i k n c;have G:=funext E;refine aN (eT [0,6,7] (l.length) (fun j D M=>D 8= .int .i64 (j:Nat)∧mJ b (g++iS (l.take j)) M) ⟨c,(by rw[G,fX,show iS []=[]by simp only[iS],dO];exact a)⟩ ?_);rintro j A X a1 ⟨y,a⟩ f V F;have i:=(f 0 rfl).trans i;have k:=(f 6 rfl).trans k;have n:=(f 7 rfl).trans n;have c:=y;clear y;have B:=bB.refl [0,6,7] A;clear f;refine aA fun K d=>?_;simp only[n,c,RR,seval];refine d _ _ (aI (aX ?_ ?_))<;>intro t
 ·have p:j<l.length:=by have:=aF t;omega
  clear t;have v:=Hr (aD p);have x:l.take (j+1)=l.take j++[l[j]]:=bS p;have u:=h _ (bV p);have z:=Fj l (j+1);generalize l[j]=e at v x u;rw[x,sK]at z;simp only[aB]at z;obtain⟨O,P,Q,R,S⟩:=e;simp only[Sm.kind,Sm.name,Sm.es,Sm.thn,Sm.els]at v;simp only[WM,Sm.row_eq,Sm.kind,Sm.name,Sm.es,Sm.thn,Sm.els]at u;generalize N:nW (.mk O P Q R S)=a4 at *;refine aL ?_;simp only[RR];refine aI (aN (aA fun K d=>?_));simp only[k,c,v,RR,seval];refine aQ fun C a3=>?_;simp only[RR,seval];refine d _ _ (aG ?_);simp only[i,RR,seval];refine gJ (by exact a.new2 (by assumption) _ _) (u b (g++iS (l.take j)) (by simp only[aB];omega)) (fJ.refl _) (fun _=>trivial) fun Y a H a2=>?_;have Z:=H C _ (bG _ _ _) trivial;simp only[RR,seval];refine aG ?_;simp only[c,RR,seval];rw[aT _ (by omega)];refine F _ _ p ⟨by rfl,by rw[x,sK,N];simpa only[bQ]using a⟩ (by repeat (first|exact B|refine bB.upd rfl ?_))
 have I:j=l.length:=by have:=aH t;omega
 rw[I,cZ]at a;refine cC ?_;simp only[RR,seval];simp only[aY,aK,bR,seval];exact yR a rfl
theorem Yz (k:Int) (s:dC) (l:List Ex) (t u:List Sm) (d2:l.length≤9223372036854775807) (b8:t.length≤9223372036854775807) (he: ∀e∈l,WC e) (ht: ∀e∈t,WM e):WM (.mk k s l t u):=by
 intro b p L H0 hm;have a:=hm.h;obtain⟨wZ,N⟩: ∃wZ:dC,(if k=5 then [87]else [])=wZ:=⟨_,rfl⟩;obtain⟨S,z⟩: ∃S:dC,(if k=1 then [58]++s else if k=2 then [35]else if k=3 then [46]else if k=4 then [73]++(iS t++[70])else if k=5 then [68]++(iS t++[69])else [])=S:=⟨_,rfl⟩
 have hE:nW (.mk k s l t u)=wZ++(hY l++S):=by
  rw[nW,←N,←z];by_cases k1:k=1
  ·subst k1;simp
  by_cases k2:k=2
  ·subst k2;simp
  by_cases k3:k=3
  ·subst k3;simp
  by_cases k4:k=4
  ·subst k4;simp
  by_cases k5:k=5
  ·subst k5;simp
  simp [k1,k2,k3,k4,k5]
 rw[hE]at L⊢;have G:p.length+wZ.length+(hY l).length+S.length≤140737488355328:=by simp only[aB]at L;omega
 have b2:=fun b p L=>Fb t b8 ht b p L;clear L hE;simp only[Sm.row_eq,Sm.kind,Sm.name,Sm.es,Sm.thn,Sm.els];refine bX 75 [] func54 ?_;refine aA fun K f=>?_;simp only[RR,seval];refine aQ fun g d4=>?_;simp only[RR,seval];refine f _ _ (aI (aA fun K f=>?_));simp only[RR,seval];refine f _ _ (bT fun F1 O v A=>?_);have n:=v 0;have y:=v 3;have f8:=v 8;have c:=A g;simp only[RR,seval]at n y f8 c;have V:=funext A;have a:mJ b p O:=by rw[V];exact a.new (by assumption) _
 refine iV (fun U M=>bB [0,3] F1 U∧M g=O g∧mJ b (p++wZ) M) (fun c3 a5=>?_) ?_
 ·have a1:=bB.refl [0,3] F1
  have P:O g=O g:=rfl;refine dS _ f8 (fun X=>?_) (fun X=>?_)
  ·obtain rfl:=aF X
   rw[bP rfl]at N;subst N;simp only[aJ,aS]at G;refine aG ?_;simp only[n,RR,seval];refine gJ a (fD b p [87] (by simp only[aB,aJ,aS];omega)) (fJ.refl _) (fun _=>trivial) fun M2 a i B=>?_;have d:=i g _ c trivial;have P:=(d.trans c.symm).trans P;have c:=d;simp only[RR,seval];refine a5 _ _ ⟨(by repeat (first|exact a1|refine bB.upd rfl ?_)),P, ?_⟩;exact a
  rw[aM (aH X)]at N;subst N;refine aL ?_;simp only[RR];refine a5 _ _ ⟨(by repeat (exact a1)),P, ?_⟩
  (rw[dO];exact a)
 rintro F3 M3 ⟨C,d,a⟩;have n:=(C 0 rfl).trans n;have y:=(C 3 rfl).trans y;have c:=d.trans c;clear C;simp only[RR,seval];refine aI (aA fun K f=>?_);simp only[y,c,aE,RR,seval];refine f _ _ (bT fun F4 M4 v A=>?_);have I:=v 0;have J:=v 3;have E:=v 14;have F:=v 15;have D:=v 16;have d:=A g;simp only[n,y,c,RR,seval]at I J E F D d;have V:=funext A;have n:=I;have y:=J;have c:=d;refine aN (eT [0,3,14,15] (l.length) (fun j U M=>U 16= .int .i64 (j:Nat)∧M g=M4 g∧mJ b (p++(wZ++hY (l.take j))) M) ⟨D,rfl,(by rw[V,fX,show hY []=[]by simp only[hY],dO];exact a)⟩ ?_);rintro j F5 M5 d3 ⟨fx,d,a⟩ C K0 b7;have n:=(C 0 rfl).trans n;have y:=(C 3 rfl).trans y;have E:=(C 14 rfl).trans E;have F:=(C 15 rfl).trans F;have D:=fx;clear fx;have c:=d.trans c;have T:=bB.refl [0,3,14,15] F5;have H:=d;clear C;refine aA fun K f=>?_;simp only[F,D,RR,seval];refine f _ _ (aI (aX ?_ ?_))<;>intro W
 ·have R:j<l.length:=by have:=aF W;omega
  clear W;have Z:=pR (aD R);have a0:l.take (j+1)=l.take j++[l[j]]:=bS R;have Y:=he _ (bV R);have b1:=sI l (j+1);generalize l[j]=e at Z a0 Y;rw[a0,mT]at b1;simp only[aB]at b1;obtain⟨x1,x2,x3,x4,x5⟩:=e;simp only[Ex.kind,Ex.op,Ex.num,Ex.name,Ex.kids]at Z;simp only[WC,Ex.row_eq,Ex.kind,Ex.op,Ex.num,Ex.name,Ex.kids]at Y;generalize c1:gK (.mk x1 x2 x3 x4 x5)=d5 at *;refine aL ?_;simp only[RR];refine aI (aN (aA fun K f=>?_));simp only[E,D,Z,RR,seval];refine aQ fun b5 c0=>?_;have c2:=dG c0 c;have b4:=c2.symm;simp only[RR,seval];refine f _ _ (bT fun F6 M6 v A=>?_);have I:=v 0;have J:=v 3;have f5:=v 5;have a2:=v 14;have a3:=v 15;have a4:=v 16;have d:=A g;have Q:=A b5;simp only[n,y,E,F,D,c,b4,RR,seval]at I J f5 a2 a3 a4 d Q;have T:bB [0,3,14,15] F5 F6:=bB.same v (by repeat (first|exact T|refine bB.upd rfl ?_));have H:=(A g).trans (by(simp only[b4,aV,seval];exact H));have a:mJ b (p++(wZ++hY (l.take j))) M6:=by rw[funext A];exact a.new2 (by assumption) _ _
  have n:=I;have y:=J;have E:=a2;have F:=a3;have D:=a4;have c:=d;refine aG ?_;simp only[n,f5,Q,RR,seval];refine gJ a (Y b (p++(wZ++hY (l.take j))) (by simp only[aB];omega)) (fJ.refl _) (fun _=>trivial) fun M7 a i B=>?_;have d:=i g _ c trivial;have H:=(d.trans c.symm).trans H;have c:=d;have b6:=i b5 _ Q trivial;have Q:=b6;simp only[RR,seval];refine aG ?_;simp only[D,RR,seval];rw[aT _ (by omega)];refine b7 _ _ R ⟨by rfl,H,by rw[a0,mT,c1];simpa only[bQ]using a⟩ (by repeat (first|exact T|refine bB.upd rfl ?_))
 have b9:j=l.length:=by have:=aH W;omega
 rw[b9,cZ]at a;refine cC ?_;simp only[RR,seval];refine aA fun K f=>?_;simp only[y,c,RR,seval];refine f _ _ (aN (aA fun K f=>?_));simp only[RR,seval];refine f _ _ (aX ?_ ?_)<;>intro b0
 ·obtain rfl:=aF b0
  simp only[Int.reduceEq,cT,dP]at z;subst z;simp only[aB,aJ,aS]at G;have d1:1+s.length≤maxLen:=by unfold maxLen;omega
  refine bF (fun x=>x≠g) [(0,3),(1,3),(2,3),(3,3),(4,1),(5,3),(6,1)] [] eP (by kernel_rfl) rfl rfl ?_;simp only[*,eM,RR,seval];refine tY a (fD b (p++(wZ++hY l)) ([58]++s) (by simp only[aB,aJ,aS];omega)) (fJ.refl _) (fun x o hx hn=>by exact(fun e=>by subst e;(rw[c]at hx;cases hx;exact hn trivial))) fun M8 a i B=>?_;have d:=i g _ c trivial;have c:=d;simp only[RR,seval];simp only[aY,aK,bR,seval];exact yR a (by simp only[bQ,cN,dE])
 refine aA fun K f=>?_;simp only[RR,seval];refine f _ _ (aX ?_ ?_)<;>intro a6
 ·obtain rfl:=aF a6
  simp only[Int.reduceEq,cT,dP]at z;subst z;simp only[aJ,aS]at G;refine aG ?_;simp only[n,RR,seval];refine gJ a (fD b (p++(wZ++hY l)) [35] (by simp only[aB,aJ,aS];omega)) (fJ.refl _) (fun _=>trivial) fun M9 a i B=>?_;have d:=i g _ c trivial;have c:=d;simp only[RR,seval];simp only[aY,aK,bR,seval];exact yR a (by simp only[bQ])
 refine aA fun K f=>?_;simp only[RR,seval];refine f _ _ (aX ?_ ?_)<;>intro a7
 ·obtain rfl:=aF a7
  simp only[Int.reduceEq,cT,dP]at z;subst z;simp only[aJ,aS]at G;refine aG ?_;simp only[n,RR,seval];refine gJ a (fD b (p++(wZ++hY l)) [46] (by simp only[aB,aJ,aS];omega)) (fJ.refl _) (fun _=>trivial) fun c4 a i B=>?_;have d:=i g _ c trivial;have c:=d;simp only[RR,seval];simp only[aY,aK,bR,seval];exact yR a (by simp only[bQ])
 refine aA fun K f=>?_;simp only[RR,seval];refine f _ _ (aX ?_ ?_)<;>intro a8
 ·obtain rfl:=aF a8
  simp only[Int.reduceEq,cT,dP]at z;subst z;simp only[aB,aJ,aS]at G;refine aA fun K f=>?_;simp only[n,RR,seval];refine gJ a (fD b (p++(wZ++hY l)) [73] (by simp only[aB,aJ,aS];omega)) (fJ.refl _) (fun _=>trivial) fun c5 a i B=>?_;have d:=i g _ c trivial;have c:=d;simp only[RR,seval];refine f _ _ (aA fun K f=>?_);simp only[n,y,c,RR,seval];refine gJ a (b2 b (p++(wZ++hY l)++[73]) (by simp only[aB,aJ,aS];omega)) (fJ.refl _) (fun _=>trivial) fun c6 a i B=>?_;have d:=i g _ c trivial;have c:=d;simp only[RR,seval];refine f _ _ (aG ?_);simp only[n,RR,seval];refine gJ a (fD b (p++(wZ++hY l)++[73]++iS t) [70] (by simp only[aB,aJ,aS];omega)) (fJ.refl _) (fun _=>trivial) fun c7 a i B=>?_;have d:=i g _ c trivial;have c:=d;simp only[RR,seval];simp only[aY,aK,bR,seval];exact yR a (by simp only[bQ,cN,dE])
 refine aA fun K f=>?_;simp only[RR,seval];refine f _ _ (aX ?_ ?_)<;>intro a9
 ·obtain rfl:=aF a9
  simp only[Int.reduceEq,cT,dP]at z;subst z;simp only[aB,aJ,aS]at G;refine aA fun K f=>?_;simp only[n,RR,seval];refine gJ a (fD b (p++(wZ++hY l)) [68] (by simp only[aB,aJ,aS];omega)) (fJ.refl _) (fun _=>trivial) fun c8 a i B=>?_;have d:=i g _ c trivial;have c:=d;simp only[RR,seval];refine f _ _ (aA fun K f=>?_);simp only[n,y,c,RR,seval];refine gJ a (b2 b (p++(wZ++hY l)++[68]) (by simp only[aB,aJ,aS];omega)) (fJ.refl _) (fun _=>trivial) fun c9 a i B=>?_;have d:=i g _ c trivial;have c:=d;simp only[RR,seval];refine f _ _ (aG ?_);simp only[n,RR,seval];refine gJ a (fD b (p++(wZ++hY l)++[68]++iS t) [69] (by simp only[aB,aJ,aS];omega)) (fJ.refl _) (fun _=>trivial) fun d0 a i B=>?_;have d:=i g _ c trivial;have c:=d;simp only[RR,seval];simp only[aY,aK,bR,seval];exact yR a (by simp only[bQ,cN,dE])
 rw[aM (aH b0),aM (aH a6),aM (aH a7),aM (aH a8),aM (aH a9)]at z;subst z;refine aL ?_;simp only[RR];simp only[aY,aK,bR,seval];exact yR a (by simp only[])
theorem P6 (N:Nat): ∀(e:Sm) (b:Int),e.sz≤N→e.ok→kW e b=true→WM e:=by
 induction N using Nat.strongRecOn with
 |_ N ih=>
  intro e b o f g;have p:=e.sz_eq;have c:=f.es;have d:=f.thn;simp only[kW,aU]at g;obtain⟨⟨⟨_,i⟩,j⟩,_⟩:=g;obtain⟨k,s,l,t,u⟩:=e;simp only[Sm.kind,Sm.es,Sm.thn,Sm.els]at *;refine Yz k s l t u c.fit d.fit (fun x a=>P9 _ x (b+1) (bE _) (c.all x a) (vE i x a)) fun x a=>?_;have n:=lI a;exact ih x.sz (by omega) x (b+1) (bE _) (d.all x a) (vD j x a)
theorem Dh (s:dC):eH dN 36 [.str s] (.bool (Hh s)):=by
 rcases s with _|⟨c,_|⟨d,l⟩⟩
 ·skip
  refine bX 20 [.tmp 2] func36 ?_;refine aA fun K a=>?_;simp only[RR,seval];refine a _ _ (aA fun K a=>?_);simp only[RR,seval];apply a;refine aO ?_;simp only[aY,aK,bR,RR,seval];refine aZ.pure ?_;rfl
 ·skip
  refine bX 20 [.tmp 2] func36 ?_;refine aA fun K a=>?_;simp only[RR,seval];refine a _ _ (aA fun K a=>?_);simp only[RR,seval]
  repeat' ((refine fF (fun h=>?_) (fun h=>?_))<;>simp only[h,RR,seval])
  all_goals
   apply a;refine aO ?_;simp only[aY,aK,bR,RR,seval];refine aZ.pure ?_;simp [Hh, *]
 have z:decide (((c::d::l).length:Int)=1)=false:=bD (by simp only[aJ];omega);refine bX 20 [.tmp 2] func36 ?_;refine aA fun K a=>?_;simp only[RR,seval];refine a _ _ (aA fun K a=>?_);simp only[RR,seval];apply a;refine aO ?_;simp only[aY,aK,bR,RR,seval];refine aZ.pure ?_;rfl
theorem Rj (n:Nat): ∀l:List Ex,pM l≤n→n≤1000000000→eH dN 63 [.isl 5 (l.map Ex.row)] (.bool (l.all (Ia zF))):=by
 induction n using Nat.strongRecOn with
 |_ n ih=>
  intro l hn W;have Z:=Ni l
  have I: ∀e∈l,eH dN 63 [.isl 5 (e.kids.map Ex.row)] (.bool (e.kids.all (Ia zF))):=fun e G=>by
   have t:=mK G;have R:=e.sz_eq;exact ih (pM e.kids) (by omega) e.kids (bE _) (by omega)
  have F: ∀{k:Nat} {e:Ex},l[k]?=some e→Ia zF e=false→AV.bool false=AV.bool (l.all (Ia zF)):=fun D t=>by rw[Bv D t]
  clear ih;refine bX 41 [.tmp 2] func63 ?_;refine aA fun K a=>?_;simp only[RR,seval];refine a _ _ (aI (aA fun K a=>?_));simp only[RR,seval];refine a _ _ (bT fun L O f V=>?_);have c:=f 0;have B:=f 2;have b:=f 3;simp only[RR,seval]at c B b;refine aN (eT [0] (l.length) (fun k C M=>C 3= .int .i64 (k:Nat)∧(l.take k).all (Ia zF)=true) ⟨b,rfl⟩ ?_);rintro k z P Y ⟨p,i⟩ o N E;have c:=(o 0 rfl).trans c;have b:=p;clear p;have A:=bB.refl [0] z;clear o;refine aI (aA fun K a=>?_);simp only[c,b,aE,RR,seval];refine a _ _ (aX ?_ ?_)<;>intro d
  ·have j:k<l.length:=by have:=aF d;omega
   clear d;have g:=aD j;have H:=I _ (bV j);have u:=F g;have y:=uF g i;have X:=pR g;generalize l[k]=e at *;have x:zF e.kind= !(decide (e.kind=4)||decide (e.kind=8)||decide (e.kind=9)):=rfl;rw[Bm,x]at u y;clear x;generalize e.kids.all (Ia zF)=Q at *;generalize S:decide (e.kind=4)=q4 at *;generalize T:decide (e.kind=8)=q8 at *;generalize U:decide (e.kind=9)=q9 at *;refine aL ?_;simp only[RR];refine aI (aN (aA fun K a=>?_));simp only[*,RR,seval]
   all_goals ((refine cQ (fun h=>?_) (fun h=>?_))<;>simp only[*,RR,seval])
   all_goals try ((refine cQ (fun h=>?_) (fun h=>?_))<;>simp only[*,RR,seval])
   all_goals try ((refine cQ (fun h=>?_) (fun h=>?_))<;>simp only[*,RR,seval])
   all_goals try (refine aP (H) ?_;simp only[RR,seval])
   all_goals
    refine a _ _ (aX ?_ ?_)<;>intro v
    ·try (cases v;done)
     all_goals
      refine aA fun K a=>?_;simp only[RR,seval];apply a;refine aO ?_;simp only[aY,aK,bR,RR,seval];refine aZ.pure ?_;exact u (by simp_all)
    try (cases v;done)
    all_goals
     refine aL ?_;simp only[RR];refine aG ?_;simp only[b,RR,seval];rw[aT _ (by omega)];refine E _ _ j ⟨by rfl,y (by simp_all)⟩ (by repeat (first|exact A|refine bB.upd rfl ?_))
  have J:k=l.length:=by have:=aH d;omega
  refine cC ?_;simp only[RR,seval];refine aA fun K a=>?_;simp only[RR,seval];apply a;refine aO ?_;simp only[aY,aK,bR,RR,seval];refine aZ.pure ?_
  (rw[J,cZ]at i;rw[i])
theorem Ri (n:Nat): ∀l:List Sm,mQ l≤n→n≤1000000000→eH dN 37 [.isl 5 (l.map Sm.row)] (.bool (l.all Kz)):=by
 induction n using Nat.strongRecOn with
 |_ n ih=>
  intro l hn hb;have a1:=Nh l
  have O: ∀e∈l,eH dN 37 [.isl 5 (e.thn.map Sm.row)] (.bool (e.thn.all Kz)):=fun e g=>by
   have u:=lI g;have Y:=e.sz_eq;exact ih (mQ e.thn) (by omega) e.thn (bE _) (by omega)
  have N: ∀e∈l,eH dN 63 [.isl 5 (e.es.map Ex.row)] (.bool (e.es.all (Ia zF))):=fun e g=>Rj _ e.es (bE _) (by have:=lI g;have:=e.sz_eq;omega);have H: ∀{k:Nat} {e:Sm},l[k]?=some e→Kz e=false→AV.bool false=AV.bool (l.all Kz):=fun D u=>by rw[Bv D u]
  clear ih;refine bX 41 [.tmp 2] func37 ?_;refine aA fun K a=>?_;simp only[RR,seval];refine a _ _ (aI (aA fun K a=>?_));simp only[RR,seval];refine a _ _ (bT fun R T i Z=>?_);have c:=i 0;have B:=i 2;have b:=i 3;simp only[RR,seval]at c B b;refine aN (eT [0] (l.length) (fun k C M=>C 3= .int .i64 (k:Nat)∧(l.take k).all Kz=true) ⟨b,rfl⟩ ?_);rintro k z U a0 ⟨t,o⟩ p S G;have c:=(p 0 rfl).trans c;have b:=t;clear t;have A:=bB.refl [0] z;clear p;refine aI (aA fun K a=>?_);simp only[c,b,aE,RR,seval];refine a _ _ (aX ?_ ?_)<;>intro f
  ·have d:k<l.length:=by have:=aF f;omega
   clear f;have j:=aD d;have J:=O _ (bV d);have L:=N _ (bV d);have v:=H j;have y:=uF j o;have I:=Hr j;generalize l[k]=e at *;rw[EV]at v y;generalize e.thn.all Kz=W at *;generalize e.es.all (Ia zF)=V at *;have Q:decide ((0:Int)<(e.els.length:Int))= !decide (e.els.length=0):=by rw[eF];simp only[bO,eD,eU];omega
   generalize E:decide (e.kind=6)=q6 at *;generalize F:decide (e.kind=7)=q7 at *;generalize decide (e.els.length=0)=q0 at *;refine aL ?_;simp only[RR];refine aI (aN (aA fun K a=>?_));simp only[c,b,I,RR,seval];refine aQ fun X a2=>?_;simp only[RR,seval];refine a _ _ (aA fun K a=>?_);simp only[E,RR,seval]
   all_goals ((refine cQ (fun h=>?_) (fun h=>?_))<;>simp only[h,F,RR,seval])
   all_goals try ((refine cQ (fun h=>?_) (fun h=>?_))<;>simp only[h,aE,Q,RR,seval])
   all_goals try ((refine cQ (fun h=>?_) (fun h=>?_))<;>simp only[h,RR,seval])
   all_goals try (refine aP (L) ?_;simp only[RR,seval])
   all_goals try ((refine cQ (fun h=>?_) (fun h=>?_))<;>simp only[h,RR,seval])
   all_goals try (refine aP (J) ?_;simp only[RR,seval])
   all_goals
    refine a _ _ (aX ?_ ?_)<;>intro x
    ·try (cases x;done)
     all_goals
      refine aA fun K a=>?_;simp only[RR,seval];apply a;refine aO ?_;simp only[aY,aK,bR,RR,seval];refine aZ.pure ?_;exact v (by simp_all)
    try (cases x;done)
    all_goals
     refine aL ?_;simp only[RR];refine aG ?_;simp only[b,RR,seval];rw[aT _ (by omega)];refine G _ _ d ⟨by rfl,y (by simp_all)⟩ (by repeat (first|exact A|refine bB.upd rfl ?_))
  have P:k=l.length:=by have:=aH f;omega
  refine cC ?_;simp only[RR,seval];refine aA fun K a=>?_;simp only[RR,seval];apply a;refine aO ?_;simp only[aY,aK,bR,RR,seval];refine aZ.pure ?_
  (rw[P,cZ]at o;rw[o])
theorem yH (p:Pg) (W:p.ok) (T:fV p=true→p.few):eH dN 15 [p.av] (.bool (gZ (fun l=>l.all Kz) p)):=by
 have o:=Vl p W T;have d:gZ (fun l=>l.all Kz) p=(decide (iE p=0)&&(decide (p.funs.length=1)&&(p.funs.all (fun g=>decide (g.locs.length=0))&&(decide (p.arrs.length≤1)&&(p.vars.all Hh&&(p.arrs.all Q9&&p.funs.all fun g=>g.body.all Kz)))))):=rfl;have fv:p.vars.length≤9223372036854775807:=W.vars.fit;have a2:iE p=0→ ∀g∈p.funs,eH dN 37 [.isl 5 (g.body.map Sm.row)] (.bool (g.body.all Kz)):=fun h g hg=>Ri _ g.body (bE _) (by have:=(T (oL h)).fs g hg;omega);clear T W;generalize iE p=so at *;generalize gZ (fun l=>l.all Kz) p=a4 at *;obtain⟨vs,z,fs⟩:=p;simp only[Pg.av,Pg.row]at *;by_cases z0:so=0
 rotate_left
 ·rw[bD z0,jO]at d
  subst d;refine bX 68 [.tmp 2] func15 ?_;refine aA fun K b=>?_;simp only[RR,seval];refine aQ fun e y=>?_;simp only[RR,seval];refine b _ _ (aI (aA fun K b=>?_));simp only[RR,seval];refine aP (o) ?_;simp only[z0,RR,seval];refine b _ _ (cL (aA fun K b=>?_));simp only[RR,seval];apply b;refine aO ?_;simp only[aY,aK,bR,RR,seval];refine aZ.pure ?_;rfl
 subst z0;by_cases z1:fs.length=1
 rotate_left
 ·rw[bD z1,jO,XP]at d
  subst d;have y1:decide ((fs.length:Int)=1)=false:=bD (by omega);refine bX 68 [.tmp 2] func15 ?_;refine aA fun K b=>?_;simp only[RR,seval];refine aQ fun e y=>?_;simp only[RR,seval];refine b _ _ (aI (aA fun K b=>?_));simp only[RR,seval];refine aP (o) ?_;simp only[aE,y1,RR,seval];refine b _ _ (cL (aA fun K b=>?_));simp only[RR,seval];apply b;refine aO ?_;simp only[aY,aK,bR,RR,seval];refine aZ.pure ?_;rfl
 obtain⟨f,rfl⟩:=List.length_eq_one_iff.1 z1;have hb:=a2 rfl f (bA.2 rfl);have B:f.row=[.str f.name, .isl 1 (f.params.map bH), .isl 1 (f.locs.map bH), .bool f.word, .isl 5 (f.body.map Sm.row)]:=rfl;have w1:decide ((([f]:List Fu).length:Int)=1)=true:=rfl;have w2:(0:Int)<(([f]:List Fu).length:Int):=by simp
 simp only[dT,gN,mI,aJ,aS,eC,nS,cJ]at d;clear z1 a2;have hg:([f].map Fu.row)[0]?=some [.str f.name, .isl 1 (f.params.map bH), .isl 1 (f.locs.map bH), .bool f.word, .isl 5 (f.body.map Sm.row)]:=qH rfl;by_cases z2:f.locs.length=0
 rotate_left
 ·rw[bD z2,jO]at d
  subst d;have y1:decide ((0:Int)<(f.locs.length:Int))=true:=cO (by omega);refine bX 68 [.tmp 2] func15 ?_;refine aA fun K b=>?_;simp only[B,RR,seval];refine aQ fun e y=>?_;simp only[RR,seval];refine b _ _ (aI (aA fun K b=>?_));simp only[RR,seval];refine aP (o) ?_;simp only[aE,y1,RR,seval];refine b _ _ (cL (aA fun K b=>?_));simp only[RR,seval];apply b;refine aO ?_;simp only[aY,aK,bR,RR,seval];refine aZ.pure ?_;rfl
 rw[cO z2,cJ]at d;have H:decide ((0:Int)<(f.locs.length:Int))=false:=bD (by omega);by_cases z3:z.length≤1
 rotate_left
 ·rw[bD z3,jO]at d
  subst d;have y3:decide ((1:Int)<(z.length:Int))=true:=cO (by omega);refine bX 68 [.tmp 2] func15 ?_;refine aA fun K b=>?_;simp only[B,RR,seval];refine aQ fun e y=>?_;simp only[RR,seval];refine b _ _ (aI (aA fun K b=>?_));simp only[RR,seval];refine aP (o) ?_;simp only[aE,H,y3,RR,seval];refine b _ _ (cL (aA fun K b=>?_));simp only[RR,seval];apply b;refine aO ?_;simp only[aY,aK,bR,RR,seval];refine aZ.pure ?_;rfl
 rw[cO z3,cJ]at d;have y3:decide ((1:Int)<(z.length:Int))=false:=bD (by omega);have a1: ∀{k:Nat} {s:dC},vs[k]?=some s→Hh s=false→AV.bool false=AV.bool a4:=fun h0 Q=>by rw[d,Bv h0 Q];rfl
 have a0:z.all Q9=false→AV.bool false=AV.bool a4:=fun Q=>by rw[d,Q];simp only[jO,XP]
 generalize f.body.all Kz=a6 at *;rcases z with _|⟨a,_|⟨a',z⟩⟩
 ·have y4:decide ((([]:List Ar).length:Int)=1)=false:=rfl
  rw[gN,cJ]at d;refine bX 68 [.tmp 2] func15 ?_;refine aA fun K b=>?_;simp only[B,RR,seval];refine aQ fun e y=>?_;simp only[RR,seval];refine b _ _ (aI (aA fun K b=>?_));simp only[RR,seval];refine aP (o) ?_;simp only[aE,H,RR,seval];refine b _ _ (bN ?_);refine aL ?_;simp only[RR];refine aI (aA fun K b=>?_);simp only[RR,seval];refine b _ _ (bN ?_);refine aL ?_;simp only[RR];refine aI (aA fun K b=>?_);simp only[RR,seval];refine b _ _ (bT fun F1 J u R=>?_);have i:=u 1;have O:=u 2;have j:=u 3;have n:=R e;simp only[RR,seval]at i O j n;refine aN (eT [1] (vs.length) (fun k P M=>P 3= .int .i64 (k:Nat)∧M e=J e∧(vs.take k).all Hh=true) ⟨j,rfl,rfl⟩ ?_);rintro k I M2 a8 ⟨D,E,x⟩ C K0 S;have i:=(C 1 rfl).trans i;have j:=D;clear D;have n:=E.trans n;have L:=bB.refl [1] I;have N:=E;clear C;refine aI (aA fun K b=>?_);simp only[i,j,n,aE,RR,seval];refine b _ _ (aX ?_ ?_)<;>intro t
  ·have G:k<vs.length:=by have:=aF t;omega
   clear t;have v:=aD G;have V:=Dh vs[k];have A:=a1 v;have Y:=uF v x;have a7:=Wt v;generalize vs[k]=s at *;generalize Hh s=a5 at *;refine aL ?_;simp only[RR];refine aI (aN (aA fun K b=>?_));simp only[*,RR,seval];refine aP (V) ?_;simp only[RR,seval];refine b _ _ (aX ?_ ?_)<;>intro F
   ·refine aA fun K b=>?_
    simp only[RR,seval];apply b;refine aO ?_;simp only[aY,aK,bR,RR,seval];refine aZ.pure ?_;exact A (by simpa using F)
   refine aL ?_;try simp only[RR]
   refine aG ?_;simp only[j,RR,seval];rw[aT _ (by omega)];refine S _ _ G ⟨by rfl,N,Y (by simpa using F)⟩ (by repeat (first|exact L|refine bB.upd rfl ?_))
  have U:k=vs.length:=by have:=aH t;omega
  rw[U,cZ]at x;rw[x,cJ]at d;refine cC ?_;simp only[RR,seval];refine aA fun K b=>?_;simp only[i,n,RR,seval];refine aP (hb) ?_;simp only[RR,seval];apply b;refine aO ?_;simp only[aY,aK,bR,RR,seval];refine aZ.pure ?_;rw[d]
 ·have y4:decide ((([a]:List Ar).length:Int)=1)=true:=rfl
  have w3:(0:Int)<(([a]:List Ar).length:Int):=by simp
  have X:a.row=[.str a.name, .int .i64 a.size]:=rfl;have b0:([a].map Ar.row)[0]?=some [.str a.name, .int .i64 a.size]:=HU rfl;have a9:([a]:List Ar).all Q9=(decide (a.name=[116])&&decide (a.size=4096)):=by simp only[dT,gN,mI,Q9]
  rw[a9]at d a0;generalize Z:decide (a.name=[116])=x1 at *;generalize a3:decide (a.size=4096)=x2 at *;by_cases hx:x1=true∧x2=true
  rotate_left
  ·have A:=a0 (by rw[dF];intro c;rw[aU]at c;exact hx c)
   cases x1
   ·skip
    refine bX 68 [.tmp 2] func15 ?_;refine aA fun K b=>?_;simp only[B,X,RR,seval];refine aQ fun e y=>?_;simp only[RR,seval];refine b _ _ (aI (aA fun K b=>?_));simp only[RR,seval];refine aP (o) ?_;simp only[aE,H,RR,seval];refine b _ _ (bN ?_);refine aL ?_;simp only[RR];refine aI (aA fun K b=>?_);simp only[Z,RR,seval];refine b _ _ (cL (aA fun K b=>?_));simp only[RR,seval];apply b;refine aO ?_;simp only[aY,aK,bR,RR,seval];refine aZ.pure ?_;exact A
   obtain rfl:x2=false:=by cases x2<;>simp_all
   refine bX 68 [.tmp 2] func15 ?_;refine aA fun K b=>?_;simp only[B,X,RR,seval];refine aQ fun e y=>?_;simp only[RR,seval];refine b _ _ (aI (aA fun K b=>?_));simp only[RR,seval];refine aP (o) ?_;simp only[aE,H,RR,seval];refine b _ _ (bN ?_);refine aL ?_;simp only[RR];refine aI (aA fun K b=>?_);simp only[Z,a3,RR,seval];refine b _ _ (cL (aA fun K b=>?_));simp only[RR,seval];apply b;refine aO ?_;simp only[aY,aK,bR,RR,seval];refine aZ.pure ?_;exact A
  obtain⟨rfl,rfl⟩:=hx;rw[cJ,cJ]at d;refine bX 68 [.tmp 2] func15 ?_;refine aA fun K b=>?_;simp only[B,X,RR,seval];refine aQ fun e y=>?_;simp only[RR,seval];refine b _ _ (aI (aA fun K b=>?_));simp only[RR,seval];refine aP (o) ?_;simp only[aE,H,RR,seval];refine b _ _ (bN ?_);refine aL ?_;simp only[RR];refine aI (aA fun K b=>?_);simp only[Z,a3,RR,seval];refine b _ _ (bN ?_);refine aL ?_;simp only[RR];refine aI (aA fun K b=>?_);simp only[RR,seval];refine b _ _ (bT fun F1 J u R=>?_);have i:=u 1;have O:=u 2;have j:=u 3;have n:=R e;simp only[RR,seval]at i O j n;refine aN (eT [1] (vs.length) (fun k P M=>P 3= .int .i64 (k:Nat)∧M e=J e∧(vs.take k).all Hh=true) ⟨j,rfl,rfl⟩ ?_);rintro k I M2 a8 ⟨D,E,x⟩ C K0 S;have i:=(C 1 rfl).trans i;have j:=D;clear D;have n:=E.trans n;have L:=bB.refl [1] I;have N:=E;clear C;refine aI (aA fun K b=>?_);simp only[i,j,n,aE,RR,seval];refine b _ _ (aX ?_ ?_)<;>intro t
  ·have G:k<vs.length:=by have:=aF t;omega
   clear t;have v:=aD G;have V:=Dh vs[k];have A:=a1 v;have Y:=uF v x;have a7:=Wt v;generalize vs[k]=s at *;generalize Hh s=a5 at *;refine aL ?_;simp only[RR];refine aI (aN (aA fun K b=>?_));simp only[*,RR,seval];refine aP (V) ?_;simp only[RR,seval];refine b _ _ (aX ?_ ?_)<;>intro F
   ·refine aA fun K b=>?_
    simp only[RR,seval];apply b;refine aO ?_;simp only[aY,aK,bR,RR,seval];refine aZ.pure ?_;exact A (by simpa using F)
   refine aL ?_;try simp only[RR]
   refine aG ?_;simp only[j,RR,seval];rw[aT _ (by omega)];refine S _ _ G ⟨by rfl,N,Y (by simpa using F)⟩ (by repeat (first|exact L|refine bB.upd rfl ?_))
  have U:k=vs.length:=by have:=aH t;omega
  rw[U,cZ]at x;rw[x,cJ]at d;refine cC ?_;simp only[RR,seval];refine aA fun K b=>?_;simp only[i,n,RR,seval];refine aP (hb) ?_;simp only[RR,seval];apply b;refine aO ?_;simp only[aY,aK,bR,RR,seval];refine aZ.pure ?_;rw[d]
 simp only[aJ]at z3;omega
def JX (e:Ex):Prop:=eH dN 56 [.agg e.row] (.str (gK e))
theorem LO (k o n:Int) (s:dC) (l:List Ex) (hk:k=1∨k=2∨k=3∨k=5∨k=7∨(k=6∧4≤o∧o≤15)) (hn:eB n) (D:k=1∨k=2∨k=5→l=[]) (a4:l.length≤9223372036854775807) (h: ∀e∈l,JX e) (C:(gK (.mk k o n s l)).length≤140737488355328):JX (.mk k o n s l):=by
 have B:gK (.mk k o n s l)=hY l++iD k o n s:=by rw[gK]
 have d:(hY l).length+(iD k o n s).length≤140737488355328:=by
  rw[B]at C;simp only[aB]at C;omega
 unfold JX;rw[B];clear C B;simp only[Ex.row_eq,Ex.kind,Ex.op,Ex.num,Ex.name,Ex.kids];refine bX 52 [.tmp 2] func56 ?_;refine aA fun K a=>?_;simp only[RR,seval];refine aQ fun z b2=>?_;simp only[RR,seval];refine a _ _ (aA fun K a=>?_);simp only[RR,seval];refine a _ _ (aI (aA fun K a=>?_));simp only[RR,seval];refine a _ _ (bT fun F1 S v W=>?_);have f:=v 1;have A:=v 2;have i:=v 3;have t:=v 4;have g:=W z;simp only[RR,seval]at f A i t g;refine aN (eT [1,2] (l.length) (fun j F M=>F 4= .int .i64 (j:Nat)∧M z=S z∧F 3= .str (hY (l.take j))) ⟨t,rfl,by rw[i,fX,show hY []=[]by simp only[hY]]⟩ ?_);rintro j R M2 b0 ⟨G,H,i⟩ y K0 X;have f:=(y 1 rfl).trans f;have A:=(y 2 rfl).trans A;have t:=G;clear G;have g:=H.trans g;have T:=bB.refl [1,2] R;have U:=H;clear y;refine aI (aA fun K a=>?_);simp only[f,t,g,aE,RR,seval];refine a _ _ (aX ?_ ?_)<;>intro p
 ·have x:j<l.length:=by have:=aF p;omega
  clear p;have hg:=pR (aD x);have E:l.take (j+1)=l.take j++[l[j]]:=bS x;have u:=h _ (bV x);have Q:=sI l (j+1);generalize l[j]=e at hg E u;rw[E,mT]at Q;simp only[aB]at Q;unfold JX at u;rw[Ex.row_eq]at u;refine aL ?_;simp only[RR];refine aI (aN ?_);have Y:(hY (l.take j)).length+(gK e).length≤maxLen:=by unfold maxLen;(skip);omega
  refine aG ?_;simp only[*,RR,seval];refine aP (u) ?_;simp only[Y,RR,seval];refine aG ?_;simp only[t,RR,seval];rw[aT _ (by omega)];refine X _ _ x ⟨by rfl,U,by rw[E,mT];rfl⟩ (by repeat (first|exact T|refine bB.upd rfl ?_))
 have a2:j=l.length:=by have:=aH p;omega
 rw[a2,cZ]at i;refine cC ?_;simp only[RR,seval];refine aI (aA fun K a=>?_);simp only[f,g,RR,seval];refine a _ _ (aN (aA fun K a=>?_));simp only[RR,seval];refine a _ _ (aX ?_ ?_)<;>intro N
 ·obtain rfl:=aF N
  have b:iD 1 o n s=Lib.decDigits n.toNat++[32]:=by simp [iD]
  obtain rfl:=D (.inl rfl);rw[b]at d;simp only[aB,aJ,aS]at d;have Z:(Lib.decDigits n.toNat).length+1≤maxLen:=by unfold maxLen;(skip);omega
  refine aA fun K a=>?_;simp only[f,g,RR,seval];refine aP (S5 n hn) ?_;simp only[Z,RR,seval];apply a;refine aO ?_;simp only[aY,aK,bR,RR,seval];refine aZ.pure ?_;rw[b,show hY []=[]by simp only[hY],dE]
 refine aA fun K a=>?_;simp only[RR,seval];refine a _ _ (aX ?_ ?_)<;>intro O
 ·obtain rfl:=aF O
  obtain rfl:=D (.inr (.inl rfl));have b:iD 2 o n s=s:=by simp [iD]
  refine aA fun K a=>?_;simp only[f,g,RR,seval];apply a;refine aO ?_;simp only[aY,aK,bR,RR,seval];refine aZ.pure ?_;rw[b,show hY []=[]by simp only[hY],dE]
 refine aA fun K a=>?_;simp only[RR,seval];refine a _ _ (aX ?_ ?_)<;>intro I
 ·obtain rfl:=aF I
  have b:iD 3 o n s=[64]:=by simp [iD]
  rw[b]at d;simp only[aJ,aS]at d;have a0:(hY l).length+1≤maxLen:=by unfold maxLen;(skip);omega
  refine aA fun K a=>?_;simp only[i,a0,RR,seval];apply a;refine aO ?_;simp only[aY,aK,bR,RR,seval];refine aZ.pure ?_;rw[b]
 refine aA fun K a=>?_;simp only[RR,seval];refine a _ _ (aX ?_ ?_)<;>intro J
 ·obtain rfl:=aF J
  obtain rfl:=D (.inr (.inr rfl));have b:iD 5 o n s=[63]:=by simp [iD]
  refine aA fun K a=>?_;simp only[RR,seval];apply a;refine aO ?_;simp only[aY,aK,bR,RR,seval];refine aZ.pure ?_;rw[b,show hY []=[]by simp only[hY],dE]
 refine aA fun K a=>?_;simp only[RR,seval];refine a _ _ (aX ?_ ?_)<;>intro L
 ·obtain rfl:=aF L
  have b:iD 7 o n s=[33]:=by simp [iD]
  rw[b]at d;simp only[aJ,aS]at d;have a1:(hY l).length+1≤maxLen:=by unfold maxLen;(skip);omega
  refine aA fun K a=>?_;simp only[i,a1,RR,seval];apply a;refine aO ?_;simp only[aY,aK,bR,RR,seval];refine aZ.pure ?_;rw[b]
 obtain⟨rfl,b3,b4⟩:k=6∧4≤o∧o≤15:=by
  have h1:=aH N;have h2:=aH O;have h3:=aH I;have h4:=aH J;have h5:=aH L;omega
 obtain⟨j,rfl⟩: ∃j:Nat,o=((4+j:Nat):Int):=⟨(o- 4).toNat,by omega⟩;have P:j<12:=by omega
 have hw:IntKind.wrap .i64 (((4+j:Nat):Int)- 4)=(j:Int):=by rw[aT _ (by omega)];omega
 have b6:IntKind.wrap .i64 ((j:Int)+1)=((j+1:Nat):Int):=by rw[aT _ (by omega)];omega
 obtain⟨c,p⟩: ∃c,opS[j]?=some c:=⟨_,aD (show j<opS.length from P)⟩
 have b:iD 6 ((4+j:Nat):Int) n s=[c]:=by
  have V:(((4+j:Nat):Int)- 4).toNat=j:=by omega
  unfold iD;rw[aM (by decide),aM (by decide),aM (by decide),aM (by decide),aM (by decide),bP rfl,V,p];rfl
 rw[b]at d;simp only[aJ,aS]at d
 have b5:List.take (j+1 -j) (List.drop j ([43,45,42,47,37,38,124,94,76,82,60,61]:List UInt8))=[c]:=by
  rw[gO];have:=bJ (show j<opS.length from P);rw[show(List.drop j ([43,45,42,47,37,38,124,94,76,82,60,61]:List UInt8))=opS.drop j from rfl,this,(bC.1 p).2];rfl
 have a5:(j:Int)≤((j+1:Nat):Int):=by omega
 have a6:((j+1:Nat):Int)≤12:=by omega
 have a7:((j+1:Nat):Int)≤(([43,45,42,47,37,38,124,94,76,82,60,61]:List UInt8).length:Int):=by simp only[aJ,aS];omega
 have a8:(0:Int)≤(j:Int):=by omega
 have a9:(0:Int)≤((j+1:Nat):Int):=by omega
 have a3:(hY l).length+1≤maxLen:=by unfold maxLen;omega
 refine aL ?_;simp only[RR];refine aA fun K a=>?_;simp only[*,dU,RR,seval];apply a;refine aO ?_;simp only[aY,aK,bR,RR,seval];refine aZ.pure ?_;rw[b]
theorem QM (N:Nat): ∀(e:Ex) (c:Int),e.sz≤N→e.ok→kV e c=true→Ia Re e=true→(gK e).length≤140737488355328→JX e:=by
 induction N using Nat.strongRecOn with
 |_ N ih=>
  intro e c D j p b g;have E:=e.sz_eq;have f:=j.kids;have A:=j.num;rw[Bm,aU,cD]at b;simp only[kV,aU]at p;obtain⟨⟨_,d⟩,B⟩:=p
  have z: ∀x∈e.kids,(gK x).length≤(gK e).length:=fun x a=>by
   rw[PS e,aB];obtain⟨i,v,rfl⟩:=List.getElem_of_mem a;have t:=sI e.kids (i+1);rw[bS v,mT,aB]at t;omega
  obtain⟨k,o,n,s,l⟩:=e;simp only[Ex.kind,Ex.op,Ex.num,Ex.kids]at *
  have y:k=1∨k=2∨k=3∨k=5∨k=6∨k=7:=by
   have:=b.1;simp only[Re,jW,bO]at this;omega
  refine LO k o n s l ?_ A ?_ f.fit (fun x a=>?_) g
  ·rcases y with rfl|rfl|rfl|rfl|rfl|rfl
   ·simp
   ·simp
   ·simp
   ·simp
   ·simp [mM]at d;omega
   simp
  ·intro u
   have :l.length=0:=by rcases u with rfl|rfl|rfl<;>simpa [mM]using d
   exact gV this
  have C:=mK a;exact ih x.sz (by omega) x (c+1) (bE _) (f.all x a) (vE B x a) (b.2 x a) (nM (z x a) g)
structure DS where
 stk:List Ex
 body:List Sm
 frs:List (Int×Ex×List Sm)
 acc:Option Nat
 col:Bool
def DS.at' (s:DS) (l:List Ex):DS:={s with stk:=l}
def Ll (c:UInt8):Bool:=decide (97≤c.toNat)&&decide (c.toNat≤122)
def DS.calm (s:DS):Prop:=s.acc=none∧s.col=false
inductive SX (V:UInt8→Prop) (A:Prop):Int→Ex→Prop where
 |num (lv n:Int) (hl:lv≤24) (h:eB n):SX V A lv (.mk 1 0 n [] [])
 |var (lv:Int) (c:UInt8) (hl:lv≤24) (h:Ll c=true) (hV:V c):SX V A lv (.mk 2 0 0 [c] [])
 |idx (lv:Int) (a:Ex) (hl:lv≤24) (hA:A) (ha:SX V A (lv+1) a):SX V A lv (.mk 3 0 0 [116] [a])
 |get (lv:Int) (hl:lv≤24):SX V A lv (.mk 5 0 0 [] [])
 |neg (lv:Int) (a:Ex) (hl:lv≤24) (ha:SX V A (lv+1) a):SX V A lv (.mk 7 0 0 [] [a])
 |op (lv o:Int) (a b:Ex) (hl:lv≤24) (h:4≤o∧o≤15) (ha:SX V A (lv+1) a) (hb:SX V A (lv+1) b):SX V A lv (.mk 6 o 0 [] [a,b])
theorem sJ (a:Ex):hY [a]=gK a:=by simp [hY]
theorem Zi (a b:Ex):hY [a,b]=gK a++gK b:=by simp [hY]
inductive SS (V:UInt8→Prop) (A:Prop):Int→Sm→Prop where
 |set (lv:Int) (c:UInt8) (e:Ex) (hl:lv≤24) (hc:Ll c=true) (hV:V c) (he:SX V A (lv+1) e):SS V A lv (.mk 1 [c] [e] [] [])
 |store (lv:Int) (a e:Ex) (hl:lv≤24) (hA:A) (ha:SX V A (lv+1) a) (he:SX V A (lv+1) e):SS V A lv (.mk 2 [116] [a,e] [] [])
 |put (lv:Int) (e:Ex) (hl:lv≤24) (he:SX V A (lv+1) e):SS V A lv (.mk 3 [] [e] [] [])
 |cond (lv:Int) (e:Ex) (t:List Sm) (hl:lv≤24) (he:SX V A (lv+1) e) (ht: ∀s∈t,SS V A (lv+1) s):SS V A lv (.mk 4 [] [e] t [])
 |loop (lv:Int) (e:Ex) (t:List Sm) (hl:lv≤24) (he:SX V A (lv+1) e) (ht: ∀s∈t,SS V A (lv+1) s):SS V A lv (.mk 5 [] [e] t [])
theorem Qr {p:Pg} (h:iE p=0):kB p=true∧qS p=true:=by
 have d:=oL h;unfold iE at h;rw[bP d]at h;by_cases a:kL p=0
 ·unfold kL at a
  split at a
  ·rename_i b
   split at a
   ·rename_i c;exact⟨b,c⟩
   cases a
  cases a
 rw[aM a]at h;exact absurd h a
structure Aa (p:Pg) (f:Fu):Prop where
 funs:p.funs=[f]
 params:f.params=[]
 locs:f.locs=[]
 arrs: ∀a∈p.arrs,a.name=[116]∧a.size=4096
 one:p.arrs.length≤1
 vars: ∀s∈p.vars,Hh s=true
 uses: ∀u∈dY f.body,iT p 0 u=true
 right:jB f.body 1=true
 kinds:f.body.all yA=true
theorem Gg {p:Pg} (h:gZ (fun l=>l.all yA) p=true): ∃f,Aa p f:=by
 simp only[gZ,aU,bO]at h;obtain⟨e,k,c,n,o,t,d⟩:=h;obtain⟨i,j⟩:=Qr e;have g:=oL e
 obtain⟨f,b⟩: ∃f,p.funs=[f]:=by
  match hp:p.funs,k with
  |[f],_=>exact⟨f,rfl⟩
 rw[b]at c d;simp only[dT,gN,mI,bO]at c d;refine⟨f,b, ?_,gV c,fun a v=>?_,n,fun s x=>cD.1 o s x,fun u y=>?_, ?_,d⟩
 ·simp only[qS,aU,zC,b]at j
  have:=j.2;simp only[bW,Nat.sub_self,gB,aU,bO]at this;exact gV this.1.2
 ·have:=cD.1 t a v
  simp only[Q9,aU,bO]at this;exact this
 ·simp only[kB,aU,b,iZ,cD]at i
  exact i.2.1.2 u y
 simp only[fV,aU,b,dT,gN,kY]at g;exact g.2.1.2
theorem wJ {p:Pg} {f:Fu} (h:Aa p f) {u:Us} (j:iT p 0 u=true):(u.kind=1→ ∃c,u.name=[c]∧Ll c=true∧[c]∈p.vars)∧(u.kind=3→u.name=[116]∧p.arrs.length=1):=by
 have n:eL p 0 u.name=qZ p u.name:=by
  simp only[eL,h.funs,gB,cA,gI,h.params,h.locs,dO,cV]
 simp only[iT,n,eD,Tn,Kr,eU,rQ,bO]at j;obtain⟨⟨k1,k3⟩,_⟩:=j;unfold qZ at k1 k3
 cases hp:cV (jZ p) u.name with
 |none=>
  rw[hp]at k1 k3;simp only at k1 k3;refine⟨fun e=>?_,fun e=>?_⟩
  ·rcases k1 with(c|c)|c
   ·exact absurd e c
   ·exact absurd c (by decide)
   exact absurd c (by decide)
  rcases k3 with c|c
  ·exact absurd e c
  exact absurd c (by decide)
 |some k=>
  rw[hp]at k1 k3;obtain⟨_,b⟩:=iO _ _ _ hp;simp only at k1 k3;refine⟨fun e=>?_,fun e=>?_⟩
  ·by_cases d:k<p.vars.length
   ·have i:u.name∈p.vars:=by
     rw[jZ,bQ,fB d]at b;exact aW b
    have:=h.vars _ i;unfold Hh at this;split at this
    ·rename_i c g
     simp only[aU,bO]at this;exact⟨c,g,by simp only[Ll,aU,bO];omega,g▸i⟩
    cases this
   rw[aM d]at k1;rcases k1 with(c|c)|c
   ·exact absurd e c
   ·split at c<;>simp at c
   split at c<;>simp at c
  rcases k3 with c|c
  ·exact absurd e c
  split at c
  ·simp at c
  rename_i d;split at c
  ·rename_i o
   rw[jZ,bQ,gQ (by omega),fB (by rw[aE];exact o),dH,bI]at b;obtain⟨a,t,l⟩:=b;rw[←l];exact⟨(h.arrs a (aW t)).1,by have:=h.one;omega⟩
  simp at c
theorem Ob {b:Type} {l:List b} (h:l.length=1): ∃a,l=[a]:=by
 match l,h with
 |[a],_=>exact⟨a,rfl⟩
theorem OR {c:Type} {l:List c} (h:l.length=2): ∃a b,l=[a,b]:=by
 match l,h with
 |[a,b],_=>exact⟨a,b,rfl⟩
theorem TG {p:Pg} {f:Fu} (h:Aa p f) (N:Nat): ∀(e:Ex) (i:Int),e.sz≤N→e.ok→kV e i=true→Ia Re e=true→(∀u∈mO e++fE e.kids,iT p 0 u=true)→SX (fun c=>[c]∈p.vars) (p.arrs.length=1) i e:=by
 induction N with
 |zero=>intro e _ R;have:=e.sz_eq;omega
 |succ N ih=>
  intro e i T G H z y;have P:=fun a ha=>G.kids.all a ha;have F:eB e.num:=G.num;have S:=e.sz_eq;simp only[kV,aU]at H;obtain⟨⟨g,j⟩,M⟩:=H;rw[Bm,aU]at z
  have E: ∀(l:List Ex),(∀u∈fE l,iT p 0 u=true)→ ∀a∈l, ∀u∈mO a++fE a.kids,iT p 0 u=true:=by
   intro l
   induction l with
   |nil=>intro _ a ha;cases ha
   |cons x l ihl=>
    intro d a ha u t;rw[lG]at d;rcases bK.1 ha with rfl|ha
    ·exact d u (Tm _ t)
    exact ihl (fun u y=>d u (Kq _ y)) a ha u t
  have v: ∀a∈e.kids,SX (fun c=>[c]∈p.vars) (p.arrs.length=1) (i+1) a:=fun a ha=>ih a _ (by have:=mK ha;omega) (P a ha) (vE M a ha) (cD.1 z.2 a ha) (E e.kids (fun u t=>y u (Kq _ t)) a ha);have B: ∀u∈mO e,iT p 0 u=true:=fun u t=>y u (Tm _ t);have A:=z.1;clear y E;obtain⟨k,o,n,s,l⟩:=e;simp only[Ex.kind,Ex.op,Ex.num,Ex.name,Ex.kids,mO]at j v F B A;have D:=g;clear g;have g:(decide (i≤24)&&(decide (k=6)||decide (o=0))&&(decide (k=1)||decide (n=0))&&(if k=2∨k=3∨k=4 then iF s else decide (s=[])))=true:=D;clear D;simp only[aU,jW,bO]at g;simp only[Re,jW,bO]at A;rcases A with((((rfl|rfl)|rfl)|rfl)|rfl)|rfl<;>simp [mM]at g j
  ·obtain⟨⟨d,rfl⟩,rfl⟩:=g;subst j;exact .num i n d F
  ·obtain⟨⟨⟨d,rfl⟩,rfl⟩,_⟩:=g;subst j
   obtain⟨c,rfl,O,Q⟩:=(wJ h (B ⟨s,1,0⟩ (by simp))).1 rfl;exact .var i c d O Q
  ·obtain⟨⟨⟨d,rfl⟩,rfl⟩,_⟩:=g;obtain⟨a,rfl⟩:=Ob j
   obtain⟨C,I⟩:=(wJ h (B ⟨s,3,0⟩ (by simp))).2 rfl;simp only at C;subst C;exact .idx i a d I (v a (dQ))
  ·obtain⟨⟨⟨d,rfl⟩,rfl⟩,rfl⟩:=g;subst j;exact .get i d
  ·obtain⟨⟨d,rfl⟩,rfl⟩:=g;obtain⟨⟨J,K⟩,L⟩:=j;obtain⟨a,b,rfl⟩:=OR L
   exact .op i o a b d ⟨J,K⟩ (v a (dQ)) (v b (by simp))
  obtain⟨⟨⟨d,rfl⟩,rfl⟩,rfl⟩:=g;obtain⟨a,rfl⟩:=Ob j;exact .neg i a d (v a (dQ))
theorem G5 {p:Pg}: ∀(l:List Ex),(∀u∈fE l,iT p 0 u=true)→ ∀a∈l, ∀u∈mO a++fE a.kids,iT p 0 u=true
 |[],_,a,ha=>by cases ha
 |x::l,hl,a,ha=>fun u b=>by
  rw[lG]at hl;rcases bK.1 ha with rfl|ha
  ·exact hl u (Tm _ b)
  exact G5 l (fun u c=>hl u (Kq _ c)) a ha u b
theorem Qj {p:Pg}: ∀(l:List Sm),(∀u∈dY l,iT p 0 u=true)→ ∀a∈l, ∀u∈kI a++fE a.es++dY a.thn++dY a.els,iT p 0 u=true
 |[],_,a,ha=>by cases ha
 |x::l,hl,a,ha=>fun u b=>by
  rw[mR]at hl;rcases bK.1 ha with rfl|ha
  ·exact hl u (Tm _ b)
  exact Qj l (fun u c=>hl u (Kq _ c)) a ha u b
theorem TJ {p:Pg} {f:Fu} (h:Aa p f) (N:Nat): ∀(e:Sm) (d:Int),e.sz≤N→e.ok→kW e d=true→yA e=true→(∀u∈kI e++fE e.es++dY e.thn++dY e.els,iT p 0 u=true)→SS (fun c=>[c]∈p.vars) (p.arrs.length=1) d e:=by
 induction N with
 |zero=>intro e _ V;have:=e.sz_eq;omega
 |succ N ih=>
  intro e d X E F D y;have W:=e.sz_eq;have Q:=E.es;have R:=E.thn;simp only[kW,aU]at F;obtain⟨⟨⟨⟨g,n⟩,J⟩,K⟩,U⟩:=F;rw[An,aU,aU]at D;obtain⟨o,M,O⟩:=D;have G: ∀u∈fE e.es,iT p 0 u=true:=fun u x=>y u (by simp [x]);have H: ∀u∈dY e.thn,iT p 0 u=true:=fun u x=>y u (by simp [x]);have A: ∀u∈kI e,iT p 0 u=true:=fun u x=>y u (by simp [x]);have v: ∀a∈e.es,SX (fun c=>[c]∈p.vars) (p.arrs.length=1) (d+1) a:=fun a i=>TG h a.sz a _ (bE _) (Q.all a i) (vE J a i) (cD.1 M a i) (G5 e.es G a i);have z: ∀a∈e.thn,SS (fun c=>[c]∈p.vars) (p.arrs.length=1) (d+1) a:=fun a i=>ih a _ (by have:=lI i;omega) (R.all a i) (vD K a i) (cD.1 O a i) (Qj e.thn H a i);clear y G H;obtain⟨k,s,l,t,u⟩:=e;simp only[Sm.kind,Sm.name,Sm.es,Sm.thn,Sm.els,kI]at n v z o A;have C:=g;clear g;have g:(decide (d≤24)&&(decide (k=4)||decide (u.length=0))&&(decide (k=4)||decide (k=5)||decide (t.length=0))&&(if k=1∨k=2∨k=6 then iF s else decide (s=[])))=true:=C;clear C;simp only[aU,jW,bO]at g;have o:(if k=4 then decide (u.length=0)else decide (k=1)||decide (k=2)||decide (k=3)||decide (k=5))=true:=o
  have P:k=4∧u.length=0∨k=1∨k=2∨k=3∨k=5:=by
   by_cases c:k=4
   ·rw[bP c]at o;exact .inl ⟨c,aF o⟩
   rw[aM c]at o;simp only[jW,bO]at o;omega
  rcases P with⟨rfl,S⟩|rfl|rfl|rfl|rfl<;>simp [Lp]at g n
  ·obtain rfl:u=[]:=gV S
   obtain⟨j,rfl⟩:=g;obtain⟨a,rfl⟩:=Ob n;exact .cond d a t j (v a (dQ)) z
  ·obtain⟨⟨⟨j,rfl⟩,rfl⟩,_⟩:=g;obtain⟨a,rfl⟩:=Ob n
   obtain⟨c,rfl,L,T⟩:=(wJ h (A ⟨s,1,0⟩ (by simp))).1 rfl;exact .set d c a j L T (v a (dQ))
  ·obtain⟨⟨⟨j,rfl⟩,rfl⟩,_⟩:=g;obtain⟨a,b,rfl⟩:=OR n
   obtain⟨B,I⟩:=(wJ h (A ⟨s,3,0⟩ (by simp))).2 rfl;simp only at B;subst B;exact .store d a b j I (v a (dQ)) (v b (by simp))
  ·obtain⟨⟨⟨j,rfl⟩,rfl⟩,rfl⟩:=g;obtain⟨a,rfl⟩:=Ob n;exact .put d a j (v a (dQ))
  obtain⟨⟨j,rfl⟩,rfl⟩:=g;obtain⟨a,rfl⟩:=Ob n;exact .loop d a t j (v a (dQ)) z
theorem Vd {p:Pg} (e:p.ok) (h:gZ (fun l=>l.all yA) p=true): ∃f,p.funs=[f]∧ ∀s∈f.body,SS (fun c=>[c]∈p.vars) (p.arrs.length=1) 1 s:=by
 obtain⟨f,a⟩:=Gg h;refine⟨f,a.funs,fun s b=>?_⟩;have d:=e.funs f (by rw[a.funs];simp);exact TJ a s.sz s 1 (bE _) (d.body.all s b) (vD a.right s b) (cD.1 a.kinds s b) (Qj f.body a.uses s b)
theorem ED (k:Int) (s:dC) (l:List Ex) (t u:List Sm):(hY l).length≤(nW (.mk k s l t u)).length:=by
 rw[nW]
 repeat' split
 all_goals first|exact bE _|(simp only[aB,aJ,aS];omega)
theorem KH (k:Int) (s:dC) (l:List Ex) (t u:List Sm) (h:k=4∨k=5):(iS t).length≤(nW (.mk k s l t u)).length:=by
 rw[nW];rcases h with rfl|rfl
 ·simp only[Int.reduceEq,cT,dP,aB,aJ,aS];omega
 simp only[Int.reduceEq,cT,dP,aB,aJ,aS];omega
theorem H5 {l:List Sm} {e:Sm} (h:e∈l):(nW e).length≤(iS l).length:=by
 obtain⟨i,b,rfl⟩:=List.getElem_of_mem h;have a:=Fj l (i+1);rw[bS b,sK,aB]at a;omega
theorem KJ {l:List Ex} {e:Ex} (h:e∈l):(gK e).length≤(hY l).length:=by
 obtain⟨i,b,rfl⟩:=List.getElem_of_mem h;have a:=sI l (i+1);rw[bS b,mT,aB]at a;omega
theorem Wl (N:Nat): ∀(l:List Sm) (lv:Int),mQ l≤N→xH l→jB l lv=true→l.all yA=true→(iS l).length≤140737488355328→eH dN 31 [.isl 5 (l.map Sm.row)] (.str (iS l)):=by
 induction N using Nat.strongRecOn with
 |_ N ih=>
  intro l lv hs W hr a0 hl;have e3:l.length≤9223372036854775807:=W.fit;have c4: ∀e∈l,e.es.length≤9223372036854775807:=fun e h=>(W.all e h).es.fit
  have c6: ∀e∈l,e.kind=1∨e.kind=2∨e.kind=3∨e.kind=4∨e.kind=5:=fun e h=>by
   have:=cD.1 a0 e h;rw[An,aU]at this;have:=this.1;split at this
   ·omega
   simp only[jW,bO]at this;omega
  have hE: ∀e∈l, ∀x∈e.es,JX x:=fun e h x hx=>by
   have H:=cD.1 a0 e h;rw[An,aU,aU,cD]at H;have I:=vD hr e h;simp only[kW,aU]at I;have h3:=H5 h;have h4:(hY e.es).length≤(nW e).length:=by obtain⟨k,s,a,t,u⟩:=e;exact ED k s a t u
   have h5:=KJ hx;exact QM _ x (lv+1) (bE _) ((W.all e h).es.all x hx) (vE I.1.1.2 x hx) (H.2.1 x hx) (by omega)
  have hT: ∀e∈l,e.kind=4∨e.kind=5→eH dN 31 [.isl 5 (e.thn.map Sm.row)] (.str (iS e.thn)):=fun e h hk=>by
   have H:=cD.1 a0 e h;rw[An,aU,aU]at H;have I:=vD hr e h;simp only[kW,aU]at I;have h3:=H5 h;have h4:(iS e.thn).length≤(nW e).length:=by obtain⟨k,s,a,t,u⟩:=e;exact KH k s a t u hk
   have h6:=lI h;have h7:=e.sz_eq;exact ih (mQ e.thn) (by omega) e.thn (lv+1) (bE _) (W.all e h).thn I.1.2 H.2.2 (by omega)
  clear ih a0 hr W;refine bX 78 [.tmp 2] func31 ?_;refine aA fun K b=>?_;simp only[RR,seval];refine b _ _ (aA fun K b=>?_);simp only[RR,seval];refine b _ _ (aI (aA fun K b=>?_));simp only[RR,seval];refine b _ _ (bT fun F1 M1 c X=>?_);have m:=c 0;have o:=c 2;have f:=c 3;have g:=c 4;simp only[RR,seval]at m o f g;refine aN (eT [0,2] (l.length) (fun k z M=>z 4= .int .i64 (k:Nat)∧z 3= .str (iS (l.take k))) ⟨g,by rw[f,fX,show iS []=[]by simp only[iS]]⟩ ?_);rintro k J M2 e4 ⟨Q,f⟩ d K0 b7;have m:=(d 0 rfl).trans m;have o:=(d 2 rfl).trans o;have g:=Q;clear Q;have p:=bB.refl [0,2] J;clear d;refine aI (aA fun K b=>?_);simp only[m,g,aE,RR,seval];refine b _ _ (aX ?_ ?_)<;>intro F
  ·have G:k<l.length:=by have:=aF F;omega
   have hg:=Hr (aD G);have a5:l.take (k+1)=l.take k++[l[k]]:=bS G;have a2:=hE _ (bV G);have a1:=hT _ (bV G);have b1:=c6 _ (bV G);have b0:=c4 _ (bV G);have n:=Fj l (k+1);generalize l[k]=e at hg a5 a2 a1 b1 b0;rw[a5,sK]at n;obtain⟨kd,nm,es,C,ee⟩:=e;simp only[Sm.kind,Sm.name,Sm.es,Sm.thn,Sm.els]at hg a2 a1 b1 b0;have hX:=ED kd nm es C ee;obtain⟨P,hP⟩: ∃P,iS (l.take k)=P:=⟨_,rfl⟩;obtain⟨B,A⟩: ∃B,nW (.mk kd nm es C ee)=B:=⟨_,rfl⟩;rw[hP,A,aB]at n;rw[A]at hX;rw[hP]at f;refine aL ?_;simp only[RR];refine aI (aN (aA fun K b=>?_));simp only[m,g,hg,RR,seval];refine aQ fun w e6=>?_;simp only[RR,seval];refine b _ _ (aA fun K b=>?_);simp only[RR,seval];refine b _ _ (aI (aA fun K b=>?_));simp only[RR,seval];refine b _ _ (bT fun F3 M3 c X=>?_);have R:=c 0;have S:=c 2;have T:=c 3;have U:=c 4;have q:=c 5;have y:=c 6;have r:=c 7;have v:=X w;simp only[m,o,g,f,RR,seval]at R S T U q y r v;have p:bB [0,2] J F3:=bB.same c (by repeat (first|exact p|refine bB.upd rfl ?_));have m:=R;have o:=S;have f:=T;have g:=U;refine aN (eT [0,2,3,4,5] (es.length) (fun j z M=>z 7= .int .i64 (j:Nat)∧M w=M3 w∧z 6= .str (hY (es.take j))) ⟨r,rfl,by rw[y,fX,show hY []=[]by simp only[hY]]⟩ ?_);rintro j F4 M4 e5 ⟨Q,E,y⟩ d K2 b8;have m:=(d 0 rfl).trans m;have o:=(d 2 rfl).trans o;have f:=(d 3 rfl).trans f;have g:=(d 4 rfl).trans g;have q:=(d 5 rfl).trans q;have r:=Q;clear Q;have v:=E.trans v;have p:bB [0,2] J F4:=bB.sub d rfl p;have b4:=bB.refl [0,2,3,4,5] F4;have b6:=E;clear d;refine aI (aA fun K b=>?_);simp only[q,r,v,aE,RR,seval];refine b _ _ (aX ?_ ?_)<;>intro F
   ·have Z:j<es.length:=by have:=aF F;omega
    clear F;have c5:=pR (aD Z);have a4:es.take (j+1)=es.take j++[es[j]]:=bS Z;have Y:=a2 _ (bV Z);have b2:=sI es (j+1);generalize es[j]=e at c5 a4 Y;rw[a4,mT]at b2;simp only[aB]at b2;unfold JX at Y;rw[Ex.row_eq]at Y;refine aL ?_;simp only[RR];refine aI (aN ?_);have c3:(hY (es.take j)).length+(gK e).length≤maxLen:=by unfold maxLen;(skip);omega
    refine aG ?_;simp only[*,RR,seval];refine aP (Y) ?_;simp only[c3,RR,seval];refine aG ?_;simp only[r,RR,seval];rw[aT _ (by omega)];refine b8 _ _ Z ⟨by rfl,b6,by rw[a4,mT];rfl⟩ (by repeat (first|exact b4|refine bB.upd rfl ?_))
   have c8:j=es.length:=by have:=aH F;omega
   clear F;rw[c8,cZ]at y;refine cC ?_;simp only[RR,seval];refine aA fun K b=>?_;simp only[q,v,RR,seval];refine b _ _ (bT fun F6 M6 c X=>?_);have R:=c 0;have S:=c 2;have T:=c 3;have U:=c 4;have g5:=c 5;have g6:=c 6;have g7:=c 7;have D:=c 34;have E:=X w;simp only[m,o,f,g,q,r,y,v,RR,seval]at R S T U g5 g6 g7 D E;have p:bB [0,2] J F6:=bB.same c (by repeat (first|exact p|refine bB.upd rfl ?_));have m:=R;have o:=S;have f:=T;have g:=U;have q:=g5;have y:=g6;have r:=g7;have v:=E;refine iV (fun z M=>bB [0,2,4,5,6,7,34] F6 z∧M w=M6 w∧z 3= .str (P++B)) (fun c9 V=>?_) ?_
   ·have L:=bB.refl [0,2,4,5,6,7,34] F6
    have O:M6 w=M6 w:=rfl;refine aN (aA fun K b=>?_);simp only[D,RR,seval];refine b _ _ (aX ?_ ?_)<;>intro a6
    ·obtain rfl:=aF a6
     have i:B=hY es++([58]++nm):=by rw[←A];simp [nW]
     rw[i]at n;simp only[aB,aJ,aS]at n;have e0:(P).length+(hY es).length≤maxLen:=by unfold maxLen;(skip);omega
     have e1:(P++hY es).length+1≤maxLen:=by unfold maxLen;(simp only[aB]);omega
     have e2:(P++hY es++[58]).length+(nm).length≤maxLen:=by unfold maxLen;(simp only[aB,aJ,aS]);omega
     refine aG ?_;simp only[*,RR,seval];refine V _ _ ⟨(by repeat (first|exact L|refine bB.upd rfl ?_)),O, ?_⟩;rw[i];simp only[aV,seval,bQ,cN,dE]
    refine aA fun K b=>?_;simp only[D,RR,seval];refine b _ _ (aX ?_ ?_)<;>intro a7
    ·obtain rfl:=aF a7
     have i:B=hY es++[35]:=by rw[←A];simp [nW]
     rw[i]at n;simp only[aB,aJ,aS]at n;have d1:(P).length+(hY es).length≤maxLen:=by unfold maxLen;(skip);omega
     have d2:(P++hY es).length+1≤maxLen:=by unfold maxLen;(simp only[aB]);omega
     refine aG ?_;simp only[*,RR,seval];refine V _ _ ⟨(by repeat (first|exact L|refine bB.upd rfl ?_)),O, ?_⟩;rw[i];simp only[aV,seval,bQ]
    refine aA fun K b=>?_;simp only[D,RR,seval];refine b _ _ (aX ?_ ?_)<;>intro a8
    ·obtain rfl:=aF a8
     have i:B=hY es++[46]:=by rw[←A];simp [nW]
     rw[i]at n;simp only[aB,aJ,aS]at n;have d3:(P).length+(hY es).length≤maxLen:=by unfold maxLen;(skip);omega
     have d4:(P++hY es).length+1≤maxLen:=by unfold maxLen;(simp only[aB]);omega
     refine aG ?_;simp only[*,RR,seval];refine V _ _ ⟨(by repeat (first|exact L|refine bB.upd rfl ?_)),O, ?_⟩;rw[i];simp only[aV,seval,bQ]
    refine aA fun K b=>?_;simp only[D,RR,seval];refine b _ _ (aX ?_ ?_)<;>intro a9
    ·obtain rfl:=aF a9
     have i:B=hY es++([73]++(iS C++[70])):=by rw[←A];simp [nW]
     rw[i]at n;simp only[aB,aJ,aS]at n;have a3:=a1 (.inl rfl);have d5:(P).length+(hY es).length≤maxLen:=by unfold maxLen;(skip);omega
     have d6:(P++hY es).length+1≤maxLen:=by unfold maxLen;(simp only[aB]);omega
     have b9:(P++hY es++[73]).length+(iS C).length≤maxLen:=by unfold maxLen;(simp only[aB,aJ,aS]);omega
     have c0:(P++hY es++[73]++iS C).length+1≤maxLen:=by unfold maxLen;(simp only[aB,aJ,aS]);omega
     refine aG ?_;simp only[*,RR,seval];refine aP (a3) ?_;simp only[b9,c0,RR,seval];refine V _ _ ⟨(by repeat (first|exact L|refine bB.upd rfl ?_)),O, ?_⟩;rw[i];simp only[aV,seval,bQ,cN,dE]
    obtain rfl:kd=5:=by
     have H:=aH a6;have I:=aH a7;have h3:=aH a8;have h4:=aH a9;omega
    have i:B=[87]++(hY es++([68]++(iS C++[69]))):=by rw[←A];simp [nW]
    rw[i]at n;simp only[aB,aJ,aS]at n;have a3:=a1 (.inr rfl);have d7:(P).length+1≤maxLen:=by unfold maxLen;(skip);omega
    have d8:(P++[87]).length+(hY es).length≤maxLen:=by unfold maxLen;(simp only[aB,aJ,aS]);omega
    have d9:(P++[87]++hY es).length+1≤maxLen:=by unfold maxLen;(simp only[aB,aJ,aS]);omega
    have c1:(P++[87]++hY es++[68]).length+(iS C).length≤maxLen:=by unfold maxLen;(simp only[aB,aJ,aS]);omega
    have c2:(P++[87]++hY es++[68]++iS C).length+1≤maxLen:=by unfold maxLen;(simp only[aB,aJ,aS]);omega
    refine aG ?_;simp only[*,RR,seval];refine aP (a3) ?_;simp only[c1,c2,RR,seval];refine V _ _ ⟨(by repeat (first|exact L|refine bB.upd rfl ?_)),O, ?_⟩;rw[i];simp only[aV,seval,bQ,cN,dE]
   rintro b3 d0 ⟨d,E,f⟩;have m:=(d 0 rfl).trans m;have o:=(d 2 rfl).trans o;have g:=(d 4 rfl).trans g;have q:=(d 5 rfl).trans q;have y:=(d 6 rfl).trans y;have r:=(d 7 rfl).trans r;have D:=(d 34 rfl).trans D;have v:=E.trans v;have p:bB [0,2] J b3:=bB.sub d rfl p;clear d;simp only[RR,seval];refine aG ?_;simp only[g,RR,seval];rw[aT _ (by omega)];refine b7 _ _ G ⟨by rfl,by rw[a5,sK,hP,A];exact f⟩ (by repeat (first|exact p|refine bB.upd rfl ?_))
  have c7:k=l.length:=by have:=aH F;omega
  rw[c7,cZ]at f;refine cC ?_;simp only[RR,seval];refine aA fun K b=>?_;simp only[f,RR,seval];apply b;refine aO ?_;simp only[aY,aK,bR,RR,seval];refine aZ.pure ?_;rfl
theorem Xu {F:Nat→Prop} {f:List (Option Nat)} {Q:fK} {d:Option Nat} {j:List Oper} {g:Fr} {H:Hp} {b:Nat} {a:List UInt8}
  (n:mJ b a H) (m: ∀b,F b) (h: ∀c,(∀x o,H x=some o→pP o→c x=some o)→eA dN F f Q j (fL g d (.str a)) c):qK dN F f Q d j g H 30 [.ptr 2 b 0 0]:=by
 obtain⟨k,p,s,r⟩:=n.least;refine mX (E9 b a k p) (fJ.refl _) s (fun b _=>m b) fun u t ⟨e,l⟩ v=>?_;subst e;subst l;refine h _ fun x o i q=>?_;simp only[lD,pX,r x o i q,eI,cF,dP,i]
theorem Gh {p:Pg} (b:p.ok) (h:gZ (fun l=>l.all yA) p=true): ∃f,p.funs=[f]∧xH f.body∧jB f.body 1=true∧f.body.all yA=true:=by
 obtain⟨f,a⟩:=Gg h;exact⟨f,a.funs,(b.funs f (by rw[a.funs];exact bA.2 rfl)).body,a.right,a.kinds⟩
theorem Vq (p:Pg) (z:p.ok) (r: ∀f∈p.funs,gZ (fun l=>l.all yA) p=true→(iS f.body).length≤1000000000000) (k:eH dN 14 [p.av] (.bool (gZ (fun l=>l.all yA) p))):eH dN 12 [p.av] (.tup [.str (G9 p).1, .int .i64 (G9 p).2]):=by
 have c:G9 p=if gZ (fun l=>l.all yA) p=true then(match p.funs with |f::_=>iS f.body++[36]|[]=>[36],0)else([],1):=rfl
 cases hq:gZ (fun l=>l.all yA) p with
 |false=>
  rw[hq]at c k;simp only[cF,dP]at c;rw[c];obtain⟨n,j,w⟩:=p;simp only[Pg.av,Pg.row]at *;refine bX 18 [.tmp 2, .tmp 3] func12 ?_;refine aA fun K a=>?_;simp only[RR,seval];refine aQ fun d y=>?_;simp only[RR,seval];refine a _ _ (aI (aA fun K a=>?_));simp only[RR,seval];refine aP (k) ?_;simp only[RR,seval];refine a _ _ (cL (aA fun K a=>?_));simp only[RR,seval];apply a;refine aO ?_;simp only[aY,aK,bR,RR,seval];refine aZ.pure ?_;rfl
 |true=>
  rw[hq]at c k;simp only[cT]at c;obtain⟨f,m,u,A,I⟩:=Gh z hq;have L:=r f (by rw[m];exact bA.2 rfl) hq;rw[m]at c;simp only at c;rw[c];have C:=fun b v r=>Fb f.body u.fit (fun e s=>P6 _ e 1 (bE _) (u.all e s) (vD A e s)) b v r;obtain⟨n,j,w⟩:=p;simp only at m;subst m;simp only[Pg.av,Pg.row]at *;have B:f.row=[.str f.name, .isl 1 (f.params.map bH), .isl 1 (f.locs.map bH), .bool f.word, .isl 5 (f.body.map Sm.row)]:=rfl;have M:(0:Int)<(([f]:List Fu).length:Int):=by simp
  have H:([f].map Fu.row)[0]?=some [.str f.name, .isl 1 (f.params.map bH), .isl 1 (f.locs.map bH), .bool f.word, .isl 5 (f.body.map Sm.row)]:=qH rfl;generalize iS f.body=D at *;refine bX 18 [.tmp 2, .tmp 3] func12 ?_;refine aA fun K a=>?_;simp only[B,RR,seval];refine aQ fun d y=>?_;simp only[RR,seval];refine a _ _ (aI (aA fun K a=>?_));simp only[RR,seval];refine aP (k) ?_;simp only[RR,seval];refine a _ _ (bN ?_);refine aL ?_;simp only[RR];refine aC fun K a=>?_;refine MV (by kernel_rfl) AI rfl fun g t=>?_;simp only[mZ];have h:mJ g [] (upd (upd pX d (some (.rows 3 [[.isl 1 (n.map bH), .isl 2 (j.map Ar.row), .isl 5 [[.str f.name, .isl 1 (f.params.map bH), .isl 1 (f.locs.map bH), .bool f.word, .isl 5 (f.body.map Sm.row)]]]]))) g (some (.bld TB none 0))):= .inl ⟨rfl,bG _ _ _⟩
  have i:(upd (upd pX d (some (.rows 3 [[.isl 1 (n.map bH), .isl 2 (j.map Ar.row), .isl 5 [[.str f.name, .isl 1 (f.params.map bH), .isl 1 (f.locs.map bH), .bool f.word, .isl 5 (f.body.map Sm.row)]]]]))) g (some (.bld TB none 0))) d=some (.rows 3 [[.isl 1 (n.map bH), .isl 2 (j.map Ar.row), .isl 5 [[.str f.name, .isl 1 (f.params.map bH), .isl 1 (f.locs.map bH), .bool f.word, .isl 5 (f.body.map Sm.row)]]]]):=by
   rw[cR _ _ (fun e=>by rw[←e,bG]at t;cases t)];exact bG _ _ _
  refine a _ _ (aA fun K a=>?_);simp only[i,RR,seval];refine gJ h (C g [] (by simp only[dE];omega)) (fJ.refl _) (fun _=>trivial) fun E h q x=>?_;have o:=q d _ i trivial;have i:=o;simp only[RR,seval];refine a _ _ (aA fun K a=>?_);simp only[RR,seval];refine gJ h (fD g ([]++D) [36] (by simp only[aB,aJ,aS];omega)) (fJ.refl _) (fun _=>trivial) fun F h q x=>?_;have o:=q d _ i trivial;have i:=o;simp only[RR,seval];refine a _ _ (aA fun K a=>?_);simp only[RR,seval];refine Xu h (fun _=>trivial) fun G J=>?_;simp only[RR,seval];apply a;refine aO ?_;simp only[aY,aK,bR,RR,seval];refine aZ.pure ?_;rfl
theorem Oh (p:Pg) (e:p.ok) (k:fV p=true→p.few) (n: ∀f∈p.funs,gZ (fun l=>l.all yA) p=true→(iS f.body).length≤1000000000000):eH dN 13 [p.av] (.tup [.str (G9 p).1, .int .i64 (G9 p).2]):=by
 have c:=yH p e k;rw[←xZ]at c;have b:G9 p=if gZ (fun l=>l.all yA) p=true then(match p.funs with |f::_=>iS f.body++[36]|[]=>[36],0)else([],1):=rfl
 cases hq:gZ (fun l=>l.all yA) p with
 |false=>
  rw[hq]at b c;simp only[cF,dP]at b;rw[b];obtain⟨v,g,i⟩:=p;simp only[Pg.av,Pg.row]at *;refine bX 14 [.tmp 2, .tmp 3] func13 ?_;refine aA fun K a=>?_;simp only[RR,seval];refine aQ fun h o=>?_;simp only[RR,seval];refine a _ _ (aI (aA fun K a=>?_));simp only[RR,seval];refine aP (c) ?_;simp only[RR,seval];refine a _ _ (cL (aA fun K a=>?_));simp only[RR,seval];apply a;refine aO ?_;simp only[aY,aK,bR,RR,seval];refine aZ.pure ?_;rfl
 |true=>
  rw[hq]at b c;simp only[cT]at b;obtain⟨f,d,q,r,m⟩:=Gh e hq;have x:=n f (by rw[d];exact bA.2 rfl) hq;rw[d]at b;simp only at b;rw[b];have t:=Wl _ f.body 1 (bE _) q r m (by omega);obtain⟨v,g,i⟩:=p;simp only at d;subst d;simp only[Pg.av,Pg.row]at *;have s:f.row=[.str f.name, .isl 1 (f.params.map bH), .isl 1 (f.locs.map bH), .bool f.word, .isl 5 (f.body.map Sm.row)]:=rfl;have y:(0:Int)<(([f]:List Fu).length:Int):=by simp
  have w:([f].map Fu.row)[0]?=some [.str f.name, .isl 1 (f.params.map bH), .isl 1 (f.locs.map bH), .bool f.word, .isl 5 (f.body.map Sm.row)]:=qH rfl;generalize iS f.body=u at *;have j:u.length+1≤maxLen:=by unfold maxLen;omega
  refine bX 14 [.tmp 2, .tmp 3] func13 ?_;refine aA fun K a=>?_;simp only[s,RR,seval];refine aQ fun h o=>?_;simp only[RR,seval];refine a _ _ (aI (aA fun K a=>?_));simp only[RR,seval];refine aP (c) ?_;simp only[RR,seval];refine a _ _ (bN ?_);refine aL ?_;simp only[RR];refine aA fun K a=>?_;simp only[RR,seval];refine aP (t) ?_;simp only[j,RR,seval];apply a;refine aO ?_;simp only[aY,aK,bR,RR,seval];refine aZ.pure ?_;rfl
theorem EX:type_of% (And.intro RR<|And.intro @IntKind.wrap_i64<|And.intro @fR.{0}<|And.intro @fX.{0}<|And.intro @jI.{0}<|And.intro @dI.{0}<|And.intro @eq_self.{1} nS):=And.intro RR<|And.intro @IntKind.wrap_i64<|And.intro @fR<|And.intro @fX<|And.intro @jI<|And.intro @dI<|And.intro @eq_self nS
theorem MN:eH dN 83 [.str [97]] (.bool true)∧eH dN 83 [.str [109,97,105,110]] (.bool true):=by
 have hf:(1:Nat)≠2:=by decide
 refine⟨?_, ?_⟩<;>
  (repeat' first
    |refine sQ fun K hK=>?_
    |(refine hK _ _ ?_;clear hK)
    |refine aC fun K hK=>?_
    |(refine aG ?_;simp only[hf,EX,seval])
    |refine cL ?_
    |refine bN ?_
    |(refine aL ?_;simp only[RR])
    |refine aN ?_
    |refine pE 20 ?_
    |(refine cC ?_;simp only[RR,seval])
    |(refine aQ fun b hn=>?_;have hf:=And.intro hn hf;clear hn;simp only[sH,sY,RP,ne_eq]at hf;simp only[hf,EX,seval])
    |(refine dK ?_;simp only[hf,EX,seval])
    |refine kH fun R hR=>bX 26 [.tmp 2] func124 ?_
    |refine kH fun R hR=>bX 17 [.tmp 2] func183 ?_
    |refine kH fun R hR=>bX 22 [.tmp 4] func184 ?_
    |refine kH fun R hR=>bX 13 [.tmp 2] func185 ?_
    |refine kH fun R hR=>bX 9 [.tmp 2] func224 ?_
    |refine kH fun R hR=>bX 13 [.tmp 2] func186 ?_
    |(refine aO ?_;simp only[aY,aK,bR,hf,EX,seval];first|(refine aZ.any (hR _ ?_);clear hR;simp only[hf,EX,seval])|(refine aZ.pure ?_;rfl))
    |refine bX 17 [.tmp 2] func83 ?_
    |clear hK)
theorem QV:eH dN 188 [.agg [.int .i64 5, .int .i64 0, .int .u32 0, .str [], .isl 5 []]] (.bool true)∧eH dN 188 [.agg [.int .i64 2, .int .i64 0, .int .u32 0, .str [97], .isl 5 []]] (.bool true)∧eH dN 188 [.agg [.int .i64 1, .int .i64 0, .int .u32 256, .str [], .isl 5 []]] (.bool true)∧eH dN 188 [.agg [.int .i64 6, .int .i64 14, .int .u32 0, .str [], .isl 5 [[.int .i64 2, .int .i64 0, .int .u32 0, .str [97], .isl 5 []],[.int .i64 1, .int .i64 0, .int .u32 256, .str [], .isl 5 []]]]] (.bool true)∧eH dN 125 [.agg [.int .i64 1, .str [97], .isl 5 [[.int .i64 5, .int .i64 0, .int .u32 0, .str [], .isl 5 []]], .isl 5 [], .isl 5 []]] (.bool true)∧eH dN 125 [.agg [.int .i64 3, .str [], .isl 5 [[.int .i64 2, .int .i64 0, .int .u32 0, .str [97], .isl 5 []]], .isl 5 [], .isl 5 []]] (.bool true)∧eH dN 125 [.agg [.int .i64 5, .str [], .isl 5 [[.int .i64 6, .int .i64 14, .int .u32 0, .str [], .isl 5 [[.int .i64 2, .int .i64 0, .int .u32 0, .str [97], .isl 5 []],[.int .i64 1, .int .i64 0, .int .u32 256, .str [], .isl 5 []]]]], .isl 5 [[.int .i64 3, .str [], .isl 5 [[.int .i64 2, .int .i64 0, .int .u32 0, .str [97], .isl 5 []]], .isl 5 [], .isl 5 []],[.int .i64 1, .str [97], .isl 5 [[.int .i64 5, .int .i64 0, .int .u32 0, .str [], .isl 5 []]], .isl 5 [], .isl 5 []]], .isl 5 []]] (.bool true):=by
 obtain⟨p0_0,p0_1⟩:=MN;have hf:(1:Nat)≠2:=by decide
 refine⟨?_, ?_, ?_, ?_, ?_, ?_, ?_⟩<;>
  (repeat' first
    |refine sQ fun K hK=>?_
    |(refine hK _ _ ?_;clear hK)
    |refine aC fun K hK=>?_
    |(refine aG ?_;simp only[hf,EX,seval])
    |refine cL ?_
    |refine bN ?_
    |(refine aL ?_;simp only[RR])
    |refine aN ?_
    |refine pE 20 ?_
    |(refine cC ?_;simp only[RR,seval])
    |(refine aQ fun b hn=>?_;have hf:=And.intro hn hf;clear hn;simp only[sH,sY,RP,ne_eq]at hf;simp only[hf,EX,seval])
    |(refine dK ?_;simp only[hf,EX,seval])
    |(refine aP p0_0 ?_;simp only[hf,EX,seval])
    |(refine aP p0_1 ?_;simp only[hf,EX,seval])
    |refine kH fun R hR=>bX 10 [.tmp 4] func187 ?_
    |(refine aO ?_;simp only[aY,aK,bR,hf,EX,seval];first|(refine aZ.any (hR _ ?_);clear hR;simp only[hf,EX,seval])|(refine aZ.pure ?_;rfl))
    |refine bX 73 [.tmp 2] func188 ?_
    |refine bX 59 [.tmp 2] func125 ?_
    |clear hK)
theorem UW:eH dN 126 [.isl 5 [[.int .i64 5, .int .i64 0, .int .u32 0, .str [], .isl 5 []]], .int .i64 2] (.bool true)∧eH dN 126 [.isl 5 [[.int .i64 5, .int .i64 0, .int .u32 0, .str [], .isl 5 []]], .int .i64 3] (.bool true)∧eH dN 126 [.isl 5 [[.int .i64 2, .int .i64 0, .int .u32 0, .str [97], .isl 5 []]], .int .i64 3] (.bool true)∧eH dN 126 [.isl 5 [[.int .i64 6, .int .i64 14, .int .u32 0, .str [], .isl 5 [[.int .i64 2, .int .i64 0, .int .u32 0, .str [97], .isl 5 []],[.int .i64 1, .int .i64 0, .int .u32 256, .str [], .isl 5 []]]]], .int .i64 2] (.bool true):=by
 obtain⟨p0_0,p0_1⟩:=MN;obtain⟨p1_0,p1_1,p1_2,p1_3,p1_4,p1_5,p1_6⟩:=QV;have hf:(1:Nat)≠2:=by decide
 refine⟨?_, ?_, ?_, ?_⟩<;>
  (repeat' first
    |refine sQ fun K hK=>?_
    |(refine hK _ _ ?_;clear hK)
    |refine aC fun K hK=>?_
    |(refine aG ?_;simp only[hf,EX,seval])
    |refine cL ?_
    |refine bN ?_
    |(refine aL ?_;simp only[RR])
    |refine aN ?_
    |refine pE 20 ?_
    |(refine cC ?_;simp only[RR,seval])
    |(refine aQ fun b hn=>?_;have hf:=And.intro hn hf;clear hn;simp only[sH,sY,RP,ne_eq]at hf;simp only[hf,EX,seval])
    |(refine dK ?_;simp only[hf,EX,seval])
    |(refine aP p1_0 ?_;simp only[hf,EX,seval])
    |(refine aP p1_1 ?_;simp only[hf,EX,seval])
    |(refine aP p1_2 ?_;simp only[hf,EX,seval])
    |(refine aP p1_3 ?_;simp only[hf,EX,seval])
    |refine kH fun R hR=>bX 32 [.tmp 4] func126 ?_
    |(refine aO ?_;simp only[aY,aK,bR,hf,EX,seval];first|(refine aZ.any (hR _ ?_);clear hR;simp only[hf,EX,seval])|(refine aZ.pure ?_;rfl))
    |refine bX 32 [.tmp 4] func126 ?_
    |clear hK)
theorem UV:eH dN 57 [.agg [.isl 1 [[.str [97]]], .isl 2 [], .isl 5 [[.str [109,97,105,110], .isl 1 [], .isl 1 [], .bool false, .isl 5 [[.int .i64 1, .str [97], .isl 5 [[.int .i64 5, .int .i64 0, .int .u32 0, .str [], .isl 5 []]], .isl 5 [], .isl 5 []],[.int .i64 5, .str [], .isl 5 [[.int .i64 6, .int .i64 14, .int .u32 0, .str [], .isl 5 [[.int .i64 2, .int .i64 0, .int .u32 0, .str [97], .isl 5 []],[.int .i64 1, .int .i64 0, .int .u32 256, .str [], .isl 5 []]]]], .isl 5 [[.int .i64 3, .str [], .isl 5 [[.int .i64 2, .int .i64 0, .int .u32 0, .str [97], .isl 5 []]], .isl 5 [], .isl 5 []],[.int .i64 1, .str [97], .isl 5 [[.int .i64 5, .int .i64 0, .int .u32 0, .str [], .isl 5 []]], .isl 5 [], .isl 5 []]], .isl 5 []]]]]]] (.bool true):=by
 obtain⟨p0_0,p0_1⟩:=MN;obtain⟨p1_0,p1_1,p1_2,p1_3,p1_4,p1_5,p1_6⟩:=QV;obtain⟨p2_0,p2_1,p2_2,p2_3⟩:=UW;have hf:(1:Nat)≠2:=by decide
 repeat' first
  |refine sQ fun K hK=>?_
  |(refine hK _ _ ?_;clear hK)
  |refine aC fun K hK=>?_
  |(refine aG ?_;simp only[hf,EX,seval])
  |refine cL ?_
  |refine bN ?_
  |(refine aL ?_;simp only[RR])
  |refine aN ?_
  |refine pE 20 ?_
  |(refine cC ?_;simp only[RR,seval])
  |(refine aQ fun b hn=>?_;have hf:=And.intro hn hf;clear hn;simp only[sH,sY,RP,ne_eq]at hf;simp only[hf,EX,seval])
  |(refine dK ?_;simp only[hf,EX,seval])
  |(refine aP p0_0 ?_;simp only[hf,EX,seval])
  |(refine aP p0_1 ?_;simp only[hf,EX,seval])
  |(refine aP p1_0 ?_;simp only[hf,EX,seval])
  |(refine aP p1_1 ?_;simp only[hf,EX,seval])
  |(refine aP p1_2 ?_;simp only[hf,EX,seval])
  |(refine aP p1_3 ?_;simp only[hf,EX,seval])
  |(refine aP p1_4 ?_;simp only[hf,EX,seval])
  |(refine aP p1_5 ?_;simp only[hf,EX,seval])
  |(refine aP p1_6 ?_;simp only[hf,EX,seval])
  |(refine aP p2_0 ?_;simp only[hf,EX,seval])
  |(refine aP p2_1 ?_;simp only[hf,EX,seval])
  |(refine aP p2_2 ?_;simp only[hf,EX,seval])
  |(refine aP p2_3 ?_;simp only[hf,EX,seval])
  |refine kH fun R hR=>bX 46 [.tmp 4] func84 ?_
  |refine kH fun R hR=>bX 32 [.tmp 4] func126 ?_
  |refine kH fun R hR=>bX 15 [.tmp 2] func82 ?_
  |(refine aO ?_;simp only[aY,aK,bR,hf,EX,seval];first|(refine aZ.any (hR _ ?_);clear hR;simp only[hf,EX,seval])|(refine aZ.pure ?_;rfl))
  |refine bX 79 [.tmp 2] func57 ?_
  |clear hK
theorem WQ:eH dN 57 [.agg [.isl 1 [], .isl 2 [], .isl 5 []]] (.bool false):=by
 obtain⟨p0_0,p0_1⟩:=MN;obtain⟨p1_0,p1_1,p1_2,p1_3,p1_4,p1_5,p1_6⟩:=QV;obtain⟨p2_0,p2_1,p2_2,p2_3⟩:=UW;have p3_0:=UV;have hf:(1:Nat)≠2:=by decide
 repeat' first
  |refine sQ fun K hK=>?_
  |(refine hK _ _ ?_;clear hK)
  |refine aC fun K hK=>?_
  |(refine aG ?_;simp only[hf,EX,seval])
  |refine cL ?_
  |refine bN ?_
  |(refine aL ?_;simp only[RR])
  |refine aN ?_
  |refine pE 20 ?_
  |(refine cC ?_;simp only[RR,seval])
  |(refine aQ fun b hn=>?_;have hf:=And.intro hn hf;clear hn;simp only[sH,sY,RP,ne_eq]at hf;simp only[hf,EX,seval])
  |(refine dK ?_;simp only[hf,EX,seval])
  |(refine aP p0_0 ?_;simp only[hf,EX,seval])
  |(refine aP p0_1 ?_;simp only[hf,EX,seval])
  |(refine aO ?_;simp only[aY,aK,bR,hf,EX,seval];refine aZ.pure ?_;rfl)
  |refine bX 79 [.tmp 2] func57 ?_
  |clear hK
theorem IH:eH dN 57 [.agg [.isl 1 [[.str [97]]], .isl 2 [], .isl 5 [[.str [109,97,105,110], .isl 1 [], .isl 1 [], .bool false, .isl 5 [[.int .i64 1, .str [97], .isl 5 [[.int .i64 5, .int .i64 0, .int .u32 0, .str [], .isl 5 []]], .isl 5 [], .isl 5 []],[.int .i64 5, .str [], .isl 5 [[.int .i64 6, .int .i64 14, .int .u32 0, .str [], .isl 5 [[.int .i64 2, .int .i64 0, .int .u32 0, .str [97], .isl 5 []],[.int .i64 1, .int .i64 0, .int .u32 256, .str [], .isl 5 []]]]], .isl 5 [[.int .i64 3, .str [], .isl 5 [[.int .i64 2, .int .i64 0, .int .u32 0, .str [97], .isl 5 []]], .isl 5 [], .isl 5 []],[.int .i64 1, .str [97], .isl 5 [[.int .i64 5, .int .i64 0, .int .u32 0, .str [], .isl 5 []]], .isl 5 [], .isl 5 []]], .isl 5 []]]]]]] (.bool true):=UV
theorem ML:eH dN 57 [.agg [.isl 1 [], .isl 2 [], .isl 5 []]] (.bool false):=WQ
theorem Oa (p:Pg) (e:eH dN 57 [p.av] (.bool (fV p))) (c:fV p=true→eH dN 58 [p.av] (.int .i64 (kL p))) (d:fV p=true→eH dN 59 [p.av] (.int .i64 (pY p))):eH dN 32 [p.av] (.int .i64 (iE p)):=by
 have b:iE p=if fV p=true then(if kL p=0 then pY p else kL p)else 7:=rfl
 generalize iE p=l at *;generalize pY p=k at *;generalize kL p=j at *;generalize fV p=i at *;simp only[Pg.av,Pg.row]at *
 cases i with
 |false=>
  refine bX 14 [.tmp 2] func32 ?_;refine aA fun K a=>?_;simp only[RR,seval];refine aQ fun g h=>?_;simp only[RR,seval];refine a _ _ (aI (aA fun K a=>?_));simp only[RR,seval];refine aP (e) ?_;simp only[RR,seval];refine a _ _ (cL (aA fun K a=>?_));simp only[RR,seval];apply a;refine aO ?_;simp only[aY,aK,bR,RR,seval];refine aZ.pure ?_;rw[b];rfl
 |true=>
  have c:=c rfl;have d:=d rfl;rw[bP rfl]at b;refine bX 14 [.tmp 2] func32 ?_;refine aA fun K a=>?_;simp only[RR,seval];refine aQ fun g h=>?_;simp only[RR,seval];refine a _ _ (aI (aA fun K a=>?_));simp only[RR,seval];refine aP (e) ?_;simp only[RR,seval];refine a _ _ (bN ?_);refine aL ?_;simp only[RR];refine aI (aA fun K a=>?_);simp only[RR,seval];refine aP (c) ?_;simp only[RR,seval];refine a _ _ (aA fun K a=>?_);simp only[RR,seval];refine a _ _ (aX ?_ ?_)<;>intro f
  ·refine aA fun K a=>?_
   simp only[RR,seval];apply a;refine aO ?_;simp only[aY,aK,bR,RR,seval];refine aZ.pure ?_;rw[b,aM (by simpa using f)]
  refine aL ?_;try simp only[RR]
  refine aA fun K a=>?_;simp only[RR,seval];refine aP (d) ?_;simp only[RR,seval];apply a;refine aO ?_;simp only[aY,aK,bR,RR,seval];refine aZ.pure ?_;rw[b,bP (by simpa using f)]
theorem R9 (h1:eH dN 32 [.agg [.isl 1 [[.str [97]]], .isl 2 [], .isl 5 [[.str [109,97,105,110], .isl 1 [], .isl 1 [], .bool false, .isl 5 [[.int .i64 1, .str [97], .isl 5 [[.int .i64 5, .int .i64 0, .int .u32 0, .str [], .isl 5 []]], .isl 5 [], .isl 5 []],[.int .i64 5, .str [], .isl 5 [[.int .i64 6, .int .i64 14, .int .u32 0, .str [], .isl 5 [[.int .i64 2, .int .i64 0, .int .u32 0, .str [97], .isl 5 []],[.int .i64 1, .int .i64 0, .int .u32 256, .str [], .isl 5 []]]]], .isl 5 [[.int .i64 3, .str [], .isl 5 [[.int .i64 2, .int .i64 0, .int .u32 0, .str [97], .isl 5 []]], .isl 5 [], .isl 5 []],[.int .i64 1, .str [97], .isl 5 [[.int .i64 5, .int .i64 0, .int .u32 0, .str [], .isl 5 []]], .isl 5 [], .isl 5 []]], .isl 5 []]]]]]] (.int .i64 0)) (h2:eH dN 32 [.agg [.isl 1 [], .isl 2 [], .isl 5 []]] (.int .i64 7)):eH dN 14 [.agg [.isl 1 [[.str [97]]], .isl 2 [], .isl 5 [[.str [109,97,105,110], .isl 1 [], .isl 1 [], .bool false, .isl 5 [[.int .i64 1, .str [97], .isl 5 [[.int .i64 5, .int .i64 0, .int .u32 0, .str [], .isl 5 []]], .isl 5 [], .isl 5 []],[.int .i64 5, .str [], .isl 5 [[.int .i64 6, .int .i64 14, .int .u32 0, .str [], .isl 5 [[.int .i64 2, .int .i64 0, .int .u32 0, .str [97], .isl 5 []],[.int .i64 1, .int .i64 0, .int .u32 256, .str [], .isl 5 []]]]], .isl 5 [[.int .i64 3, .str [], .isl 5 [[.int .i64 2, .int .i64 0, .int .u32 0, .str [97], .isl 5 []]], .isl 5 [], .isl 5 []],[.int .i64 1, .str [97], .isl 5 [[.int .i64 5, .int .i64 0, .int .u32 0, .str [], .isl 5 []]], .isl 5 [], .isl 5 []]], .isl 5 []]]]]]] (.bool true)∧eH dN 14 [.agg [.isl 1 [], .isl 2 [], .isl 5 []]] (.bool false):=by
 have hf:(1:Nat)≠2:=by decide
 refine⟨?_, ?_⟩<;>
  (repeat' first
    |refine sQ fun K hK=>?_
    |(refine hK _ _ ?_;clear hK)
    |refine aC fun K hK=>?_
    |(refine aG ?_;simp only[hf,EX,seval])
    |refine cL ?_
    |refine bN ?_
    |(refine aL ?_;simp only[RR])
    |refine aN ?_
    |refine pE 20 ?_
    |(refine cC ?_;simp only[RR,seval])
    |(refine aQ fun b hn=>?_;have hf:=And.intro hn hf;clear hn;simp only[sH,sY,RP,ne_eq]at hf;simp only[hf,EX,seval])
    |(refine dK ?_;simp only[hf,EX,seval])
    |(refine aP h1 ?_;simp only[hf,EX,seval])
    |(refine aP h2 ?_;simp only[hf,EX,seval])
    |refine kH fun R hR=>bX 35 [.tmp 2] func34 ?_
    |refine kH fun R hR=>bX 25 [.tmp 2] func60 ?_
    |refine kH fun R hR=>bX 20 [.tmp 2] func33 ?_
    |(refine aO ?_;simp only[aY,aK,bR,hf,EX,seval];first|(refine aZ.any (hR _ ?_);clear hR;simp only[hf,EX,seval])|(refine aZ.pure ?_;rfl))
    |refine bX 64 [.tmp 2] func14 ?_
    |clear hK)
end Go.Proofs.YtaecpjgmcffliaaGreatDoor
