/- Wb -/
import Derived.Test.YtaecpjgmcffliaaGreatDoorT2
import Derived.Test.YtaecpjgmcffliaaGreatDoorSc1
import Derived.Test.YtaecpjgmcffliaaGreatDoorAl3
import Derived.Defers
import Derived.Recover
import Derived.Test.YtaecpjgmcffliaaGreatDoorSy2
set_option linter.unusedSimpArgs false
set_option linter.unusedVariables false
set_option maxRecDepth 10000
set_option maxHeartbeats 16000000
namespace Go.Al
theorem dZ.offsz {sz c:Nat} {v:AV} {rows j:List (List AV)} {H:Hp} (h:dZ sz v rows H) {b:Nat} (f:H b=some (.rows c j)) (i:c≠sz):Al.off v b:=fun s n e=>by
 rcases h with⟨rfl,_⟩|⟨k,rfl,a⟩
 ·cases e
 cases e;rw[f]at a;cases a;exact i rfl
theorem dZ.cells {sz:Nat} {v:AV} {rows:List (List AV)} {H:Hp} (h:dZ sz v rows H):cellsOf v=some [v]:=by rcases h with⟨rfl,_⟩|⟨b,rfl,_⟩<;>rfl
theorem dZ.one1 {sz:Nat} {v:AV} {rows:List (List AV)} {H:Hp} (h:dZ sz v rows H):one v=true:=by rcases h with⟨rfl,_⟩|⟨b,rfl,_⟩<;>rfl
theorem jC {E:kB} {F:Nat→Prop} {ds:List (Option Nat)} {Q:fF} {d:Option Nat} {rest:List Oper} {fr:Fr} {H:Hp} {sz y:Nat} {v:AV} {rows u:List (List AV)} (I:dZ sz v rows H) (i:(rows.length+u.length) *y≤140737488355328) (D: ∀b,v= .osl sz b rows.length→F b)
  (h: ∀t k,dZ sz t (rows++u) k→(∀b o,H b=some o→v≠ .osl sz b rows.length→k b=some o)→(∀b,off v b→H b≠none→off t b)→eC E F ds Q rest (fH fr d t) k):Ux E F ds Q d rest fr H (some (sz,y,v,u)):=by
 rcases I with⟨rfl,rfl⟩|⟨b,rfl,G⟩
 ·simp only[cC,aT,cD]at h i
  refine⟨i,fun e=>h _ _ (.inl ⟨rfl,e⟩) (fun _ _ i _=>i) (fun b a _=>a),fun e b z=>h _ _ (.inr ⟨b,rfl,by simp [upd]⟩) (fun j o f _=>?_) fun B _ p s n l=>?_⟩
  ·have :j≠b:=fun c=>by rw[c,z]at f;cases f
   simp [upd,this,f]
  cases l;exact p z
 simp only[Ux,G];refine⟨trivial,trivial,trivial,i,D b rfl,fun j f=>?_⟩;refine h _ _ (.inr ⟨j,by simp,by simp [upd]⟩) (fun x o a C=>?_) fun B a p s n l=>?_
 ·have A:x≠b:=fun c=>C (by rw[c])
  have J:x≠j:=fun c=>by
   rcases f with e|e
   ·exact A (c.trans e)
   rw[←c,a]at e;cases e
  simp [upd,A,J,a]
 cases l;rcases f with e|e
 ·exact a _ _ (by rw[e])
 exact p e
section
variable {E : kB} {F : Nat → Prop} {ds : List (Option Nat)} {Q : fF} {d : Option Nat} {rest : List Oper} {fr : Fr} {H : Hp} {g : FuncId} {args : List AV}
theorem jS {R:sJ→Hp→Prop} (f:pP E g args H R) (e: ∀b,F b)
  (h: ∀c a,R c a→(match c with | .ret v=>eC E F ds Q rest (fH fr d v) a| .pan v=>Q (.pan v) S1 a)):pC E F ds Q d rest fr H g args:=by
 refine kW f (gK.refl _) (fun b o h=>h) (fun b _=>e b) fun c a i _=>?_;rw[zL];exact h c a i
end
theorem pP.mono {E:kB} {g:FuncId} {args:List AV} {H:Hp} {R c:sJ→Hp→Prop} (h:pP E g args H R) (o: ∀b a,R b a→c b a):pP E g args H c:=
 ⟨h.1,fun p f vs l n=>(h.2 p f vs l n).mono fun _ _ ⟨b,a,e,i,j,k⟩=>⟨b,a,e,i,j,o _ _ k⟩⟩
theorem bB.run {R:sJ→Hp→Prop} {v:AV} {H:Hp} (h:R (.ret v) H):bB R v H:=bB.self h
section
open Go
section
variable {E : kB} {N : Nat} {Φ : lR → Exit → Act → World → Prop} {fr : Fr} {H : Hp}
end
end
section
open Go
section
variable {E : kB} {R : sJ → Hp → Prop}
end
end
def BX (v x:AV):Prop:= ∀s b n,x= .osl s b n→off v b
theorem bS {v x:AV} (h:tR x=true):BX v x:=fun s b n e=>by subst e;cases h
theorem R9 {b sz n:Nat} {l:List (List AV)} {x:AV} (h:BX (.osl sz b n) x):frz b sz l x=x:=by
 cases x<;>try rfl
 rename_i e a c;rw[xQ,aO];rintro⟨rfl,_,_⟩;exact h _ _ _ rfl _ _ rfl
theorem Ap {b sz n:Nat} {l:List (List AV)}: ∀{a:List AV},(∀x∈a,BX (.osl sz b n) x)→a.map (frz b sz l)=a
 |[],_=>rfl
 |x::a,h=>by rw[cX,R9 (h x (by simp)),Ap fun y c=>h y (by simp [c])]
theorem Qk {b sz n:Nat} {l:List (List AV)}: ∀{a:List (List AV)},(∀r∈a, ∀x∈r,BX (.osl sz b n) x)→a.map (fun x=>x.map (frz b sz l))=a
 |[],_=>rfl
 |x::a,h=>by rw[cX,Ap (h x (by simp)),Qk fun y c=>h y (by simp [c])]
theorem jD.mid {v w:AV} (h:jE v w) (a:List AV): ∀l:List AV,jD (l++v::a) (l++w::a)
 |[]=>jD.cons h (SubR_self a)
 |x::l=>jD.cons (jE.refl x) (jD.mid h a l)
where SubR_self: ∀l:List AV,jD l l
 |[]=> .nil
 |x::l=> .cons (jE.refl x) (SubR_self l)
theorem iE {E:kB} {N:Nat} {Q:fF} {c:Code} {fr:Fr} {H:Hp} {a sz u:Nat} {yA f:List AV} {v:AV} {rows:List (List AV)} (I:dZ sz v rows H) (p:H a=some (.rows u [yA++v::f])) (D: ∀x∈yA,BX v x) (G: ∀x∈f,BX v x) (B:off v a)
  (h: ∀o i,(∀j,BX v (fr j)→o j=fr j)→i a=some (.rows u [yA++ .isl sz rows::f])→(∀b s l,b≠a→off v b→(∀r∈l, ∀x∈r,BX v x)→H b=some (.rows s l)→i b=some (.rows s l))→mB E N c Q o i):mB E N c Q fr H:=by
 rcases I with⟨rfl,rfl⟩|⟨b,rfl,k⟩
 ·exact BC p (jD.mid (jE.nsl sz) f yA) (h fr _ (fun _ _=>rfl) (bO _ _ _) (fun b s l t _ _ k=>by rw[cG _ _ t];exact k))
 refine oG k (h _ _ (fun j A=>R9 A) ?_ fun n s l t C z y=>?_)
 ·show(if a=b then none else(H a).map (AG b sz rows))=_
  rw[aO (fun e=>B _ _ (by rw[e])),p];simp only[eE,tQ,cX,dH,cP,JQ,Ap D,Ap G]
 show(if n=b then none else(H n).map (AG b sz rows))=_;rw[aO (fun e=>C _ _ (by rw[e])),y];simp only[eE,tQ,Qk z]
section
variable {E : kB} {F : Nat → Prop} {ops : Array Oper} {Q : fF} {fr : Fr} {H : Hp}
theorem lM (F:Nat→Prop) {N id:Nat} {l:List Oper} (c:E.P.follows .mixedOrders=true) (hd:l.all (kU N)=true) (h:l.toArray.toList.all (kU N)=true→nT E (fun _=>F) l.toArray Q l.length (Array.replicate l.length false) fr H):mB E N (.region id l.toArray true) Q fr H:=fun f a w e=>by
 have b:l.toArray.toList.all (kU N)=true:=by simpa using hd
 have:=wp_region_any c (xA (G:=fun _=>F) b l.length (Array.replicate l.length false) fr H a _ e.drew (h b)) (id:=id);simpa using this
theorem hI {N n m:Nat} {L b:Array Bool} {l':List Oper} (a:List (Nat×Nat)) (hd:ops.toList.all (kU N)=true) (k:n=a.length+m) (i:AY ops [] L a=true) (f:qS L a=b) (j:dI ops.toList a=l')
  (h:eC E F (ops.toList.map (·.dst)) (bR (fun e c=>nT E (fun _=>F) ops Q m b e c) Q) l' fr H):nT E (fun _=>F) ops Q n L fr H:=by
 subst k;subst f;subst j;exact rY (T:=[]) (fun _ _=>rfl) hd a L fr H i h
def XQ (E:kB) (F:Nat→Prop) (ops:Array Oper) (Q:fF) (n:Nat) (L:Array Bool) (fr:Fr) (H:Hp):List Nat→Prop
 |[]=>True
 |i::r=>(match ops[i]? with |some o=>eC E F (ops.toList.map (·.dst)) (bR (fun fr' H'=>nT E (fun _=>F) ops Q n (L.setIfInBounds i true) fr' H') Q) [o] fr H|none=>True)∧XQ E F ops Q n L fr H r
theorem T8 {n:Nat} {L:Array Bool}: ∀{l:List Nat},XQ E F ops Q n L fr H l→ ∀i∈l, ∀o,ops[i]?=some o→eC E F (ops.toList.map (·.dst)) (bR (fun b a=>nT E (fun _=>F) ops Q n (L.setIfInBounds i true) b a) Q) [o] fr H
 |j::l,h,i,hi,o,ho=>by
  simp only[XQ]at h;rcases bJ.1 hi with rfl|hi
  ·rw[ho]at h;exact h.1
  exact T8 h.2 i hi o ho
theorem lE {N n:Nat} {L:Array Bool} {a:List Nat} (hd:ops.toList.all (kU N)=true) (c:Region.ready .any ops L=a) (k:a≠[]) (h:XQ E F ops Q n L fr H a):nT E (fun _=>F) ops Q (n+1) L fr H:=by
 refine⟨fun e=>absurd (c.symm.trans e) k,fun i j o b=>?_⟩;have:=T8 h i (by rw[←c];exact j) o b
 have f:kU N o=true:=by
  rw[cI]at hd;exact hd o (Vh.2 (uC b))
 rw[tV f]at this;exact this
theorem jJ {L:Array Bool} (a:Region.ready .any ops L=[]) (h:Q .normal fr H):nT E (fun _=>F) ops Q 0 L fr H:=⟨a,h⟩
end
section
variable {E : kB} {N : Nat} {Q : fF} {fr : Fr} {H : Hp}
def VV (E:kB) (N:Nat) (c:Code) (Q:fF):Nat→Fr→Hp→Prop
 |0,_,_=>False
 |n+1,fr,H=>mB E N c (bR (VV E N c Q n) Q) fr H
theorem lY {c:Code} (n:Nat) (h:VV E N c Q n fr H):mB E N (.loop c) Q fr H:=by
 refine fN (fun m fr H=>VV E N c Q m fr H) n h fun m fr H a K b=>?_
 cases m with
 |zero=>exact a.elim
 |succ m=>
  refine Jv a fun e f d h=>?_;cases e<;>first|exact b m _ _ (Nat.lt_succ_self m) h|exact h
theorem pK {c:Code} {n:Nat} (h: ∀K:Fr→Hp→Prop,(∀fr H,VV E N c Q n fr H→K fr H)→mB E N c (bR K Q) fr H):VV E N c Q (n+1) fr H:=h _ fun _ _ h=>h
theorem bB.any {R:sJ→Hp→Prop} {v:AV} (h:R (.ret v) oN):bB R v H:=⟨v,oN,kY.drop (fun b o h=>by cases h),h⟩
theorem bB.cut {R:sJ→Hp→Prop} {v:AV} (a:Hp) (b:sD a H) (h:R (.ret v) a):bB R v H:=⟨v,a,kY.drop b,h⟩
theorem kV {F:Nat→Prop} {a:List (Option Nat)} {d:Option Nat} {e:List Oper} {g:FuncId} {j:List AV}
  (h: ∀R:sJ→Hp→Prop,(∀v,eC E F a Q e (fH fr d v) H→R (.ret v) oN)→pP E g j oN R):pC E F a Q d e fr H g j:=by
 refine kW (R:=fun i f=>f=oN∧ ∃v,i= .ret v∧eC E F a Q e (fH fr d v) H) (h _ fun v c=>⟨rfl,v,rfl,c⟩) (gK.refl _) (qK _) (fun b k=>absurd rfl k) fun i f l _=>?_;obtain⟨rfl,v,rfl,c⟩:=l;simp only[Qi];exact c
theorem xW {F:Nat→Prop} {c:List (Option Nat)} {d:Option Nat} {f:List Oper} {g:FuncId} {j:List AV} (k: ∀b,F b)
  (h: ∀R:sJ→Hp→Prop,(∀v a,eC E F c Q f (fH fr d v) a→R (.ret v) a)→pP E g j H R):pC E F c Q d f fr H g j:=by
 refine kW (R:=fun i a=> ∃v,i= .ret v∧eC E F c Q f (fH fr d v) a) (h _ fun v a e=>⟨v,rfl,e⟩) (gK.refl _) (fun b o h=>h) (fun b _=>k b) fun i a l _=>?_;obtain⟨v,rfl,e⟩:=l;simp only[zL];exact e
theorem mD {b a:Nat} {o:iG}:(upd H a (some o) b=none)=((b≠a∧a≠b)∧H b=none):=by
 refine propext ⟨fun h=>?_,fun⟨⟨d,_⟩,f⟩=>?_⟩
 ·unfold upd at h
  split at h
  ·cases h
  rename_i c;exact⟨⟨c,fun e=>c e.symm⟩,h⟩
 unfold upd;rw[aO d];exact f
theorem mH {b:Nat}:(oN b=none)=True:=eq_true rfl
end
end Go.Al
namespace Go.Proofs.YtaecpjgmcffliaaGreatDoor
open Go.Al Go.Proofs.Tryz
theorem N6: ∀a b:List Ex,iI (a++b)=iI a++iI b
 |[],b=>by simp [iI]
 |x::a,b=>by simp only[cU,iI,N6 a b,bV]
theorem N7: ∀a b:List Sm,iL (a++b)=iL a++iL b
 |[],b=>by simp [iL]
 |x::a,b=>by simp only[cU,iL,N7 a b,bV]
theorem tB (l:List Ex) (k:Nat):(iI (l.take k)).length≤(iI l).length:=by
 have:=congrArg List.length (N6 (l.take k) (l.drop k));rw[lZ,aB]at this;omega
theorem Hj (l:List Sm) (k:Nat):(iL (l.take k)).length≤(iL l).length:=by
 have:=congrArg List.length (N7 (l.take k) (l.drop k));rw[lZ,aB]at this;omega
def WC (e:Ex):Prop:= ∀(b:Nat) (bs:dE),(bs++fL e).length≤140737488355328→Vd dR 79 [.ptr 2 b 0 0, .agg e.row] b bs (.tup []) (fL e)
theorem B2 (k o n:Int) (s:dE) (l:List Ex) (hk:k=6→4≤o∧o≤15) (F:dQ n) (b9:l.length≤9223372036854775807) (h: ∀e∈l,WC e):WC (.mk k o n s l):=by
 intro b z T H0 hm;have d:=hm.h;have C:fL (.mk k o n s l)=iI l++hY k o n s:=by rw[fL]
 have y:z.length+(iI l).length+(hY k o n s).length≤140737488355328:=by
  rw[C]at T;simp only[aB]at T;omega
 clear T;simp only[Ex.row_eq,Ex.kind,Ex.op,Ex.num,Ex.name,Ex.kids];refine bU 65 [] func79 ?_;refine aA fun K f=>?_;simp only[RR,seval];refine aN fun p c2=>?_;simp only[RR,seval];refine f _ _ (aH (aA fun K f=>?_));simp only[aF,RR,seval];refine f _ _ (bN fun F1 M1 u E=>?_);have v:=u 0;have A:=u 3;have G:=u 7;have H:=u 8;have B:=u 9;have a:=E p;simp only[RR,seval]at v A G H B a;have hM:=funext E;refine aQ ?_;refine eT [0,3,7,8] (l.length) (fun j fr M=>fr 9= .int .i64 (j:Nat)∧M p=M1 p∧mZ b (z++iI (l.take j)) M) ⟨B,rfl,(by rw[hM,gN,show iI []=[]by simp only[iI],eF];exact d.new (by assumption) _)⟩ ?_;rintro j V M2 c1 ⟨Y,g,d⟩ L K0 a9;have v:=(L 0 rfl).trans v;have A:=(L 3 rfl).trans A;have G:=(L 7 rfl).trans G;have H:=(L 8 rfl).trans H;have B:=Y;clear Y;have a:=g.trans a;have Q:=bC.refl [0,3,7,8] V;have N:=g;clear L;refine aA fun K f=>?_;simp only[H,B,RR,seval];refine f _ _ (aH (aX ?_ ?_))<;>intro I
 ·have P:j<l.length:=by have:=aD I;omega
  clear I;have S:=qO (aC P);have U:l.take (j+1)=l.take j++[l[j]]:=bQ P;have R:=h _ (bZ P);have a6:=tB l (j+1);generalize l[j]=e at S U R;rw[U,nG]at a6;simp only[aB]at a6;obtain⟨x1,x2,x3,x4,x5⟩:=e;simp only[Ex.kind,Ex.op,Ex.num,Ex.name,Ex.kids]at S;simp only[WC,Ex.row_eq,Ex.kind,Ex.op,Ex.num,Ex.name,Ex.kids]at R;generalize b6:fL (.mk x1 x2 x3 x4 x5)=c5 at *;refine aL ?_;simp only[RR];refine aH (aQ (aA fun K f=>?_));simp only[G,B,S,RR,seval];refine aN fun W b4=>?_;have b7:=cR b4 a;have a7:=b7.symm;simp only[RR,seval];refine f _ _ (bN fun F3 M3 u E=>?_);have Z:=u 0;have g3:=u 3;have X:=u 5;have g7:=u 7;have g8:=u 8;have g9:=u 9;have g:=E p;have O:=E W;simp only[v,A,G,H,B,a,a7,RR,seval]at Z g3 X g7 g8 g9 g O;have Q:bC [0,3,7,8] V F3:=bC.same u (by repeat (first|exact Q|refine bC.upd rfl ?_));have N:=(E p).trans (by(simp only[a7,aS,seval];exact N));have d:mZ b (z++iI (l.take j)) M3:=by rw[funext E];exact d.new2 (by assumption) _ _
  have v:=Z;have A:=g3;have G:=g7;have H:=g8;have B:=g9;have a:=g;refine aM ?_;simp only[v,X,O,RR,seval];refine gQ d (R b (z++iI (l.take j)) (by simp only[aB];omega)) (gK.refl _) (fun _=>trivial) fun M4 d t J=>?_;have g:=t p _ a trivial;have N:=(g.trans a.symm).trans N;have a:=g;have a8:=t W _ O trivial;have O:=a8;simp only[RR,seval];refine aM ?_;simp only[B,RR,seval];rw[aU _ (by omega)];refine a9 _ _ P ⟨by rfl,N,by rw[U,nG,b6];simpa only[bV]using d⟩ (by repeat (first|exact Q|refine bC.upd rfl ?_))
 have b2:j=l.length:=by have:=aE I;omega
 rw[b2,dV]at d;refine cH ?_;simp only[RR,seval];refine aA fun K f=>?_;simp only[A,a,RR,seval];refine f _ _ (aQ (aA fun K f=>?_));simp only[RR,seval];refine f _ _ (aX ?_ ?_)<;>intro a4
 ·obtain rfl:=aD a4
  have i:hY 1 o n s=Lib.decDigits n.toNat++[32]:=by simp [hY]
  rw[i]at y;simp only[aB,aJ,aT]at y;have b0:(Lib.decDigits n.toNat).length+1≤maxLen:=by unfold maxLen;omega
  refine bA (fun x=>x≠p) [(0,3),(1,3),(2,3),(3,3),(4,1),(5,1),(6,3),(7,1)] [] eB (by kernel_rfl) rfl rfl ?_;simp only[dI,v,A,a,RR,seval];refine aI (LJ n F) ?_;simp only[b0,RR,seval];refine vA d (fE b (z++iI l) (Lib.decDigits n.toNat++[32]) (by simp only[aB,aJ,aT];omega)) (gK.refl _) (fun x o D F=>by exact(fun e=>by subst e;(rw[a]at D;cases D;exact F trivial))) fun M5 d t J=>?_;have g:=t p _ a trivial;have a:=g;simp only[RR,seval];simp only[aY,aK,bP,seval];exact zW d (by rw[C,i]<;>simp only[bV])
 refine aA fun K f=>?_;simp only[RR,seval];refine f _ _ (aX ?_ ?_)<;>intro a5
 ·obtain rfl:=aD a5
  have i:hY 2 o n s=s:=by simp [hY]
  rw[i]at y;refine bA (fun x=>x≠p) [(0,3),(1,3),(2,3),(3,3),(4,1),(5,1)] [] eB (by kernel_rfl) rfl rfl ?_;simp only[dI,v,A,a,RR,seval];refine vA d (fE b (z++iI l) s (by simp only[aB];omega)) (gK.refl _) (fun x o D F=>by exact(fun e=>by subst e;(rw[a]at D;cases D;exact F trivial))) fun M6 d t J=>?_;have g:=t p _ a trivial;have a:=g;simp only[RR,seval];simp only[aY,aK,bP,seval];exact zW d (by rw[C,i]<;>simp only[bV])
 refine aA fun K f=>?_;simp only[RR,seval];refine f _ _ (aX ?_ ?_)<;>intro a0
 ·obtain rfl:=aD a0
  have i:hY 3 o n s=[64]:=by simp [hY]
  rw[i]at y;simp only[aJ,aT]at y;refine aM ?_;simp only[v,RR,seval];refine gQ d (fE b (z++iI l) [64] (by simp only[aB,aJ,aT];omega)) (gK.refl _) (fun _=>trivial) fun M7 d t J=>?_;have g:=t p _ a trivial;have a:=g;simp only[RR,seval];simp only[aY,aK,bP,seval];exact zW d (by rw[C,i]<;>simp only[bV])
 refine aA fun K f=>?_;simp only[RR,seval];refine f _ _ (aX ?_ ?_)<;>intro a1
 ·obtain rfl:=aD a1
  have i:hY 5 o n s=[63]:=by simp [hY]
  rw[i]at y;simp only[aJ,aT]at y;refine aM ?_;simp only[v,RR,seval];refine gQ d (fE b (z++iI l) [63] (by simp only[aB,aJ,aT];omega)) (gK.refl _) (fun _=>trivial) fun M8 d t J=>?_;have g:=t p _ a trivial;have a:=g;simp only[RR,seval];simp only[aY,aK,bP,seval];exact zW d (by rw[C,i]<;>simp only[bV])
 refine aA fun K f=>?_;simp only[RR,seval];refine f _ _ (aX ?_ ?_)<;>intro a2
 ·obtain rfl:=aD a2
  obtain⟨c3,c4⟩:=hk rfl;obtain⟨j,rfl⟩: ∃j:Nat,o=((4+j:Nat):Int):=⟨(o- 4).toNat,by omega⟩;have hj:j<12:=by omega
  have hw:IntKind.wrap .i64 (((4+j:Nat):Int)- 4)=(j:Int):=by rw[aU _ (by omega)];omega
  obtain⟨c,I⟩: ∃c,opS[j]?=some c:=⟨_,aC (show j<opS.length from hj)⟩
  have i:hY 6 ((4+j:Nat):Int) n s=[c]:=by
   have e1:(((4+j:Nat):Int)- 4).toNat=j:=by omega
   unfold hY;rw[aO (by decide),aO (by decide),aO (by decide),aO (by decide),aO (by decide),bF rfl,e1,I];rfl
  rw[i]at y;simp only[aJ,aT]at y;have c0:(j:Int)<12:=by omega
  have b1:([43,45,42,47,37,38,124,94,76,82,60,61]:List UInt8)[j]?=some c:=I;refine bA (fun x=>x≠p) [(0,3),(1,3),(2,3),(3,3),(4,1),(5,3),(6,3),(7,1)] [] eB (by kernel_rfl) rfl rfl ?_;simp only[dI,v,A,a,hw,b1,RR,seval];refine vA d (Og b (z++iI l) c (by simp only[aB];omega)) (gK.refl _) (fun x o D F=>by exact(fun e=>by subst e;(rw[a]at D;cases D;exact F trivial))) fun M9 d t J=>?_;have g:=t p _ a trivial;have a:=g;simp only[RR,seval];simp only[aY,aK,bP,seval];exact zW d (by rw[C,i]<;>simp only[bV])
 refine aA fun K f=>?_;simp only[RR,seval];refine f _ _ (aX ?_ ?_)<;>intro a3
 ·obtain rfl:=aD a3
  have i:hY 7 o n s=[33]:=by simp [hY]
  rw[i]at y;simp only[aJ,aT]at y;refine aM ?_;simp only[v,RR,seval];refine gQ d (fE b (z++iI l) [33] (by simp only[aB,aJ,aT];omega)) (gK.refl _) (fun _=>trivial) fun b8 d t J=>?_;have g:=t p _ a trivial;have a:=g;simp only[RR,seval];simp only[aY,aK,bP,seval];exact zW d (by rw[C,i]<;>simp only[bV])
 have h1:=aE a4;have h2:=aE a5;have h3:=aE a0;have h4:=aE a1;have h5:=aE a2;have h6:=aE a3;have i:hY k o n s=[]:=by simp [hY,h1,h2,h3,h4,h5,h6]
 refine aL ?_;simp only[RR];simp only[aY,aK,bP,seval];exact zW d (by rw[C,i]<;>simp only[eF])
theorem V2 (N:Nat): ∀(e:Ex) (b:Int),e.sz≤N→e.ok→lA e b=true→WC e:=by
 induction N using Nat.strongRecOn with
 |_ N ih=>
  intro e b u d f;have v:=e.sz_eq;have c:=d.kids;have j:=d.num;simp only[lA,aV]at f;obtain⟨⟨_,i⟩,p⟩:=f;obtain⟨k,o,n,s,l⟩:=e;simp only[Ex.kind,Ex.op,Ex.num,Ex.kids]at *;refine B2 k o n s l (fun g=>by subst g;simp [lG]at i;omega) j c.fit fun x a=>?_;have t:=nM a;exact ih x.sz (by omega) x (b+1) (aZ _) (c.all x a) (vZ p x a)
def WM (m:Sm):Prop:= ∀(b:Nat) (bs:dE),(bs++nY m).length≤140737488355328→Vd dR 54 [.ptr 2 b 0 0, .agg m.row] b bs (.tup []) (nY m)
theorem Hf (l:List Sm) (a0:l.length≤9223372036854775807) (h: ∀e∈l,WM e) (b:Nat) (g:dE) (J:(g++iL l).length≤140737488355328):Vd dR 28 [.ptr 2 b 0 0, .isl 5 (l.map Sm.row)] b g (.tup []) (iL l):=by
 intro U L;have a:=L.h;simp only[aB]at J;refine bU 16 [] func28 ?_;refine aA fun K d=>?_;simp only[aF,RR,seval];refine d _ _ (bN fun T W o E=>?_);have i:=o 0;have k:=o 6;have n:=o 7;have c:=o 8;simp only[RR,seval]at i k n c;have G:=funext E;refine aQ (eT [0,6,7] (l.length) (fun j D M=>D 8= .int .i64 (j:Nat)∧mZ b (g++iL (l.take j)) M) ⟨c,(by rw[G,gN,show iL []=[]by simp only[iL],eF];exact a)⟩ ?_);rintro j A X a1 ⟨y,a⟩ f V F;have i:=(f 0 rfl).trans i;have k:=(f 6 rfl).trans k;have n:=(f 7 rfl).trans n;have c:=y;clear y;have B:=bC.refl [0,6,7] A;clear f;refine aA fun K d=>?_;simp only[n,c,RR,seval];refine d _ _ (aH (aX ?_ ?_))<;>intro t
 ·have p:j<l.length:=by have:=aD t;omega
  clear t;have v:=Oa (aC p);have x:l.take (j+1)=l.take j++[l[j]]:=bQ p;have u:=h _ (bZ p);have z:=Hj l (j+1);generalize l[j]=e at v x u;rw[x,tC]at z;simp only[aB]at z;obtain⟨O,P,Q,R,S⟩:=e;simp only[Sm.kind,Sm.name,Sm.es,Sm.thn,Sm.els]at v;simp only[WM,Sm.row_eq,Sm.kind,Sm.name,Sm.es,Sm.thn,Sm.els]at u;generalize N:nY (.mk O P Q R S)=a4 at *;refine aL ?_;simp only[RR];refine aH (aQ (aA fun K d=>?_));simp only[k,c,v,RR,seval];refine aN fun C a3=>?_;simp only[RR,seval];refine d _ _ (aM ?_);simp only[i,RR,seval];refine gQ (by exact a.new2 (by assumption) _ _) (u b (g++iL (l.take j)) (by simp only[aB];omega)) (gK.refl _) (fun _=>trivial) fun Y a H a2=>?_;have Z:=H C _ (bO _ _ _) trivial;simp only[RR,seval];refine aM ?_;simp only[c,RR,seval];rw[aU _ (by omega)];refine F _ _ p ⟨by rfl,by rw[x,tC,N];simpa only[bV]using a⟩ (by repeat (first|exact B|refine bC.upd rfl ?_))
 have I:j=l.length:=by have:=aE t;omega
 rw[I,dV]at a;refine cH ?_;simp only[RR,seval];simp only[aY,aK,bP,seval];exact zW a rfl
theorem B1 (k:Int) (s:dE) (l:List Ex) (t u:List Sm) (d2:l.length≤9223372036854775807) (b8:t.length≤9223372036854775807) (he: ∀e∈l,WC e) (ht: ∀e∈t,WM e):WM (.mk k s l t u):=by
 intro b p L H0 hm;have a:=hm.h;obtain⟨yA,N⟩: ∃yA:dE,(if k=5 then [87]else [])=yA:=⟨_,rfl⟩;obtain⟨S,z⟩: ∃S:dE,(if k=1 then [58]++s else if k=2 then [35]else if k=3 then [46]else if k=4 then [73]++(iL t++[70])else if k=5 then [68]++(iL t++[69])else [])=S:=⟨_,rfl⟩
 have hE:nY (.mk k s l t u)=yA++(iI l++S):=by
  rw[nY,←N,←z];by_cases k1:k=1
  ·subst k1;simp
  by_cases k2:k=2
  ·subst k2;simp
  by_cases k3:k=3
  ·subst k3;simp
  by_cases k4:k=4
  ·subst k4;simp
  by_cases k5:k=5
  ·subst k5;simp
  simp [k1,k2,k3,k4,k5]
 rw[hE]at L⊢;have G:p.length+yA.length+(iI l).length+S.length≤140737488355328:=by simp only[aB]at L;omega
 have b2:=fun b p L=>Hf t b8 ht b p L;clear L hE;simp only[Sm.row_eq,Sm.kind,Sm.name,Sm.es,Sm.thn,Sm.els];refine bU 75 [] func54 ?_;refine aA fun K f=>?_;simp only[RR,seval];refine aN fun g d4=>?_;simp only[RR,seval];refine f _ _ (aH (aA fun K f=>?_));simp only[RR,seval];refine f _ _ (bN fun F1 O v A=>?_);have n:=v 0;have y:=v 3;have f8:=v 8;have c:=A g;simp only[RR,seval]at n y f8 c;have V:=funext A;have a:mZ b p O:=by rw[V];exact a.new (by assumption) _
 refine gP (fun U M=>bC [0,3] F1 U∧M g=O g∧mZ b (p++yA) M) (fun c3 a5=>?_) ?_
 ·have a1:=bC.refl [0,3] F1
  have P:O g=O g:=rfl;refine eO _ f8 (fun X=>?_) (fun X=>?_)
  ·obtain rfl:=aD X
   rw[bF rfl]at N;subst N;simp only[aJ,aT]at G;refine aM ?_;simp only[n,RR,seval];refine gQ a (fE b p [87] (by simp only[aB,aJ,aT];omega)) (gK.refl _) (fun _=>trivial) fun M2 a i B=>?_;have d:=i g _ c trivial;have P:=(d.trans c.symm).trans P;have c:=d;simp only[RR,seval];refine a5 _ _ ⟨(by repeat (first|exact a1|refine bC.upd rfl ?_)),P, ?_⟩;exact a
  rw[aO (aE X)]at N;subst N;refine aL ?_;simp only[RR];refine a5 _ _ ⟨(by repeat (exact a1)),P, ?_⟩
  (rw[eF];exact a)
 rintro F3 M3 ⟨C,d,a⟩;have n:=(C 0 rfl).trans n;have y:=(C 3 rfl).trans y;have c:=d.trans c;clear C;simp only[RR,seval];refine aH (aA fun K f=>?_);simp only[y,c,aF,RR,seval];refine f _ _ (bN fun F4 M4 v A=>?_);have I:=v 0;have J:=v 3;have E:=v 14;have F:=v 15;have D:=v 16;have d:=A g;simp only[n,y,c,RR,seval]at I J E F D d;have V:=funext A;have n:=I;have y:=J;have c:=d;refine aQ (eT [0,3,14,15] (l.length) (fun j U M=>U 16= .int .i64 (j:Nat)∧M g=M4 g∧mZ b (p++(yA++iI (l.take j))) M) ⟨D,rfl,(by rw[V,gN,show iI []=[]by simp only[iI],eF];exact a)⟩ ?_);rintro j F5 M5 d3 ⟨fx,d,a⟩ C K0 b7;have n:=(C 0 rfl).trans n;have y:=(C 3 rfl).trans y;have E:=(C 14 rfl).trans E;have F:=(C 15 rfl).trans F;have D:=fx;clear fx;have c:=d.trans c;have T:=bC.refl [0,3,14,15] F5;have H:=d;clear C;refine aA fun K f=>?_;simp only[F,D,RR,seval];refine f _ _ (aH (aX ?_ ?_))<;>intro W
 ·have R:j<l.length:=by have:=aD W;omega
  clear W;have Z:=qO (aC R);have a0:l.take (j+1)=l.take j++[l[j]]:=bQ R;have Y:=he _ (bZ R);have b1:=tB l (j+1);generalize l[j]=e at Z a0 Y;rw[a0,nG]at b1;simp only[aB]at b1;obtain⟨x1,x2,x3,x4,x5⟩:=e;simp only[Ex.kind,Ex.op,Ex.num,Ex.name,Ex.kids]at Z;simp only[WC,Ex.row_eq,Ex.kind,Ex.op,Ex.num,Ex.name,Ex.kids]at Y;generalize c1:fL (.mk x1 x2 x3 x4 x5)=d5 at *;refine aL ?_;simp only[RR];refine aH (aQ (aA fun K f=>?_));simp only[E,D,Z,RR,seval];refine aN fun b5 c0=>?_;have c2:=cR c0 c;have b4:=c2.symm;simp only[RR,seval];refine f _ _ (bN fun F6 M6 v A=>?_);have I:=v 0;have J:=v 3;have f5:=v 5;have a2:=v 14;have a3:=v 15;have a4:=v 16;have d:=A g;have Q:=A b5;simp only[n,y,E,F,D,c,b4,RR,seval]at I J f5 a2 a3 a4 d Q;have T:bC [0,3,14,15] F5 F6:=bC.same v (by repeat (first|exact T|refine bC.upd rfl ?_));have H:=(A g).trans (by(simp only[b4,aS,seval];exact H));have a:mZ b (p++(yA++iI (l.take j))) M6:=by rw[funext A];exact a.new2 (by assumption) _ _
  have n:=I;have y:=J;have E:=a2;have F:=a3;have D:=a4;have c:=d;refine aM ?_;simp only[n,f5,Q,RR,seval];refine gQ a (Y b (p++(yA++iI (l.take j))) (by simp only[aB];omega)) (gK.refl _) (fun _=>trivial) fun M7 a i B=>?_;have d:=i g _ c trivial;have H:=(d.trans c.symm).trans H;have c:=d;have b6:=i b5 _ Q trivial;have Q:=b6;simp only[RR,seval];refine aM ?_;simp only[D,RR,seval];rw[aU _ (by omega)];refine b7 _ _ R ⟨by rfl,H,by rw[a0,nG,c1];simpa only[bV]using a⟩ (by repeat (first|exact T|refine bC.upd rfl ?_))
 have b9:j=l.length:=by have:=aE W;omega
 rw[b9,dV]at a;refine cH ?_;simp only[RR,seval];refine aA fun K f=>?_;simp only[y,c,RR,seval];refine f _ _ (aQ (aA fun K f=>?_));simp only[RR,seval];refine f _ _ (aX ?_ ?_)<;>intro b0
 ·obtain rfl:=aD b0
  simp only[Int.reduceEq,cQ,dT]at z;subst z;simp only[aB,aJ,aT]at G;have d1:1+s.length≤maxLen:=by unfold maxLen;omega
  refine bA (fun x=>x≠g) [(0,3),(1,3),(2,3),(3,3),(4,1),(5,3),(6,1)] [] eB (by kernel_rfl) rfl rfl ?_;simp only[*,dI,RR,seval];refine vA a (fE b (p++(yA++iI l)) ([58]++s) (by simp only[aB,aJ,aT];omega)) (gK.refl _) (fun x o hx hn=>by exact(fun e=>by subst e;(rw[c]at hx;cases hx;exact hn trivial))) fun M8 a i B=>?_;have d:=i g _ c trivial;have c:=d;simp only[RR,seval];simp only[aY,aK,bP,seval];exact zW a (by simp only[bV,cU,cC])
 refine aA fun K f=>?_;simp only[RR,seval];refine f _ _ (aX ?_ ?_)<;>intro a6
 ·obtain rfl:=aD a6
  simp only[Int.reduceEq,cQ,dT]at z;subst z;simp only[aJ,aT]at G;refine aM ?_;simp only[n,RR,seval];refine gQ a (fE b (p++(yA++iI l)) [35] (by simp only[aB,aJ,aT];omega)) (gK.refl _) (fun _=>trivial) fun M9 a i B=>?_;have d:=i g _ c trivial;have c:=d;simp only[RR,seval];simp only[aY,aK,bP,seval];exact zW a (by simp only[bV])
 refine aA fun K f=>?_;simp only[RR,seval];refine f _ _ (aX ?_ ?_)<;>intro a7
 ·obtain rfl:=aD a7
  simp only[Int.reduceEq,cQ,dT]at z;subst z;simp only[aJ,aT]at G;refine aM ?_;simp only[n,RR,seval];refine gQ a (fE b (p++(yA++iI l)) [46] (by simp only[aB,aJ,aT];omega)) (gK.refl _) (fun _=>trivial) fun c4 a i B=>?_;have d:=i g _ c trivial;have c:=d;simp only[RR,seval];simp only[aY,aK,bP,seval];exact zW a (by simp only[bV])
 refine aA fun K f=>?_;simp only[RR,seval];refine f _ _ (aX ?_ ?_)<;>intro a8
 ·obtain rfl:=aD a8
  simp only[Int.reduceEq,cQ,dT]at z;subst z;simp only[aB,aJ,aT]at G;refine aA fun K f=>?_;simp only[n,RR,seval];refine gQ a (fE b (p++(yA++iI l)) [73] (by simp only[aB,aJ,aT];omega)) (gK.refl _) (fun _=>trivial) fun c5 a i B=>?_;have d:=i g _ c trivial;have c:=d;simp only[RR,seval];refine f _ _ (aA fun K f=>?_);simp only[n,y,c,RR,seval];refine gQ a (b2 b (p++(yA++iI l)++[73]) (by simp only[aB,aJ,aT];omega)) (gK.refl _) (fun _=>trivial) fun c6 a i B=>?_;have d:=i g _ c trivial;have c:=d;simp only[RR,seval];refine f _ _ (aM ?_);simp only[n,RR,seval];refine gQ a (fE b (p++(yA++iI l)++[73]++iL t) [70] (by simp only[aB,aJ,aT];omega)) (gK.refl _) (fun _=>trivial) fun c7 a i B=>?_;have d:=i g _ c trivial;have c:=d;simp only[RR,seval];simp only[aY,aK,bP,seval];exact zW a (by simp only[bV,cU,cC])
 refine aA fun K f=>?_;simp only[RR,seval];refine f _ _ (aX ?_ ?_)<;>intro a9
 ·obtain rfl:=aD a9
  simp only[Int.reduceEq,cQ,dT]at z;subst z;simp only[aB,aJ,aT]at G;refine aA fun K f=>?_;simp only[n,RR,seval];refine gQ a (fE b (p++(yA++iI l)) [68] (by simp only[aB,aJ,aT];omega)) (gK.refl _) (fun _=>trivial) fun c8 a i B=>?_;have d:=i g _ c trivial;have c:=d;simp only[RR,seval];refine f _ _ (aA fun K f=>?_);simp only[n,y,c,RR,seval];refine gQ a (b2 b (p++(yA++iI l)++[68]) (by simp only[aB,aJ,aT];omega)) (gK.refl _) (fun _=>trivial) fun c9 a i B=>?_;have d:=i g _ c trivial;have c:=d;simp only[RR,seval];refine f _ _ (aM ?_);simp only[n,RR,seval];refine gQ a (fE b (p++(yA++iI l)++[68]++iL t) [69] (by simp only[aB,aJ,aT];omega)) (gK.refl _) (fun _=>trivial) fun d0 a i B=>?_;have d:=i g _ c trivial;have c:=d;simp only[RR,seval];simp only[aY,aK,bP,seval];exact zW a (by simp only[bV,cU,cC])
 rw[aO (aE b0),aO (aE a6),aO (aE a7),aO (aE a8),aO (aE a9)]at z;subst z;refine aL ?_;simp only[RR];simp only[aY,aK,bP,seval];exact zW a (by simp only[])
theorem V0 (N:Nat): ∀(e:Sm) (b:Int),e.sz≤N→e.ok→lB e b=true→WM e:=by
 induction N using Nat.strongRecOn with
 |_ N ih=>
  intro e b o f g;have p:=e.sz_eq;have c:=f.es;have d:=f.thn;simp only[lB,aV]at g;obtain⟨⟨⟨_,i⟩,j⟩,_⟩:=g;obtain⟨k,s,l,t,u⟩:=e;simp only[Sm.kind,Sm.es,Sm.thn,Sm.els]at *;refine B1 k s l t u c.fit d.fit (fun x a=>V2 _ x (b+1) (aZ _) (c.all x a) (vZ i x a)) fun x a=>?_;have n:=nA a;exact ih x.sz (by omega) x (b+1) (aZ _) (d.all x a) (vY j x a)
theorem Ek (s:dE):eG dR 36 [.str s] (.bool (Cj s)):=by
 rcases s with _|⟨c,_|⟨d,l⟩⟩
 ·skip
  refine bU 20 [.tmp 2] func36 ?_;refine aA fun K a=>?_;simp only[RR,seval];refine a _ _ (aA fun K a=>?_);simp only[RR,seval];apply a;refine aP ?_;simp only[aY,aK,bP,RR,seval];refine bB.pure ?_;rfl
 ·skip
  refine bU 20 [.tmp 2] func36 ?_;refine aA fun K a=>?_;simp only[RR,seval];refine a _ _ (aA fun K a=>?_);simp only[RR,seval]
  repeat' ((refine fJ (fun h=>?_) (fun h=>?_))<;>simp only[h,RR,seval])
  all_goals
   apply a;refine aP ?_;simp only[aY,aK,bP,RR,seval];refine bB.pure ?_;simp [Cj, *]
 have z:decide (((c::d::l).length:Int)=1)=false:=bI (by simp only[aJ];omega);refine bU 20 [.tmp 2] func36 ?_;refine aA fun K a=>?_;simp only[RR,seval];refine a _ _ (aA fun K a=>?_);simp only[RR,seval];apply a;refine aP ?_;simp only[aY,aK,bP,RR,seval];refine bB.pure ?_;rfl
theorem Tq (n:Nat): ∀l:List Ex,pB l≤n→n≤1000000000→eG dR 63 [.isl 5 (l.map Ex.row)] (.bool (l.all (Jl Aj))):=by
 induction n using Nat.strongRecOn with
 |_ n ih=>
  intro l hn W;have Z:=Ou l
  have I: ∀e∈l,eG dR 63 [.isl 5 (e.kids.map Ex.row)] (.bool (e.kids.all (Jl Aj))):=fun e G=>by
   have t:=nM G;have R:=e.sz_eq;exact ih (pB e.kids) (by omega) e.kids (aZ _) (by omega)
  have F: ∀{k:Nat} {e:Ex},l[k]?=some e→Jl Aj e=false→AV.bool false=AV.bool (l.all (Jl Aj)):=fun D t=>by rw[Dt D t]
  clear ih;refine bU 41 [.tmp 2] func63 ?_;refine aA fun K a=>?_;simp only[RR,seval];refine a _ _ (aH (aA fun K a=>?_));simp only[RR,seval];refine a _ _ (bN fun L O f V=>?_);have c:=f 0;have B:=f 2;have b:=f 3;simp only[RR,seval]at c B b;refine aQ (eT [0] (l.length) (fun k C M=>C 3= .int .i64 (k:Nat)∧(l.take k).all (Jl Aj)=true) ⟨b,rfl⟩ ?_);rintro k z P Y ⟨p,i⟩ o N E;have c:=(o 0 rfl).trans c;have b:=p;clear p;have A:=bC.refl [0] z;clear o;refine aH (aA fun K a=>?_);simp only[c,b,aF,RR,seval];refine a _ _ (aX ?_ ?_)<;>intro d
  ·have j:k<l.length:=by have:=aD d;omega
   clear d;have g:=aC j;have H:=I _ (bZ j);have u:=F g;have y:=vE g i;have X:=qO g;generalize l[k]=e at *;have x:Aj e.kind= !(decide (e.kind=4)||decide (e.kind=8)||decide (e.kind=9)):=rfl;rw[Dl,x]at u y;clear x;generalize e.kids.all (Jl Aj)=Q at *;generalize S:decide (e.kind=4)=q4 at *;generalize T:decide (e.kind=8)=q8 at *;generalize U:decide (e.kind=9)=q9 at *;refine aL ?_;simp only[RR];refine aH (aQ (aA fun K a=>?_));simp only[*,RR,seval]
   all_goals ((refine cL (fun h=>?_) (fun h=>?_))<;>simp only[*,RR,seval])
   all_goals try ((refine cL (fun h=>?_) (fun h=>?_))<;>simp only[*,RR,seval])
   all_goals try ((refine cL (fun h=>?_) (fun h=>?_))<;>simp only[*,RR,seval])
   all_goals try (refine aI (H) ?_;simp only[RR,seval])
   all_goals
    refine a _ _ (aX ?_ ?_)<;>intro v
    ·try (cases v;done)
     all_goals
      refine aA fun K a=>?_;simp only[RR,seval];apply a;refine aP ?_;simp only[aY,aK,bP,RR,seval];refine bB.pure ?_;exact u (by simp_all)
    try (cases v;done)
    all_goals
     refine aL ?_;simp only[RR];refine aM ?_;simp only[b,RR,seval];rw[aU _ (by omega)];refine E _ _ j ⟨by rfl,y (by simp_all)⟩ (by repeat (first|exact A|refine bC.upd rfl ?_))
  have J:k=l.length:=by have:=aE d;omega
  refine cH ?_;simp only[RR,seval];refine aA fun K a=>?_;simp only[RR,seval];apply a;refine aP ?_;simp only[aY,aK,bP,RR,seval];refine bB.pure ?_
  (rw[J,dV]at i;rw[i])
theorem To (n:Nat): ∀l:List Sm,lQ l≤n→n≤1000000000→eG dR 37 [.isl 5 (l.map Sm.row)] (.bool (l.all Nq)):=by
 induction n using Nat.strongRecOn with
 |_ n ih=>
  intro l hn hb;have a1:=Ot l
  have O: ∀e∈l,eG dR 37 [.isl 5 (e.thn.map Sm.row)] (.bool (e.thn.all Nq)):=fun e g=>by
   have u:=nA g;have Y:=e.sz_eq;exact ih (lQ e.thn) (by omega) e.thn (aZ _) (by omega)
  have N: ∀e∈l,eG dR 63 [.isl 5 (e.es.map Ex.row)] (.bool (e.es.all (Jl Aj))):=fun e g=>Tq _ e.es (aZ _) (by have:=nA g;have:=e.sz_eq;omega);have H: ∀{k:Nat} {e:Sm},l[k]?=some e→Nq e=false→AV.bool false=AV.bool (l.all Nq):=fun D u=>by rw[Dt D u]
  clear ih;refine bU 41 [.tmp 2] func37 ?_;refine aA fun K a=>?_;simp only[RR,seval];refine a _ _ (aH (aA fun K a=>?_));simp only[RR,seval];refine a _ _ (bN fun R T i Z=>?_);have c:=i 0;have B:=i 2;have b:=i 3;simp only[RR,seval]at c B b;refine aQ (eT [0] (l.length) (fun k C M=>C 3= .int .i64 (k:Nat)∧(l.take k).all Nq=true) ⟨b,rfl⟩ ?_);rintro k z U a0 ⟨t,o⟩ p S G;have c:=(p 0 rfl).trans c;have b:=t;clear t;have A:=bC.refl [0] z;clear p;refine aH (aA fun K a=>?_);simp only[c,b,aF,RR,seval];refine a _ _ (aX ?_ ?_)<;>intro f
  ·have d:k<l.length:=by have:=aD f;omega
   clear f;have j:=aC d;have J:=O _ (bZ d);have L:=N _ (bZ d);have v:=H j;have y:=vE j o;have I:=Oa j;generalize l[k]=e at *;rw[GZ]at v y;generalize e.thn.all Nq=W at *;generalize e.es.all (Jl Aj)=V at *;have Q:decide ((0:Int)<(e.els.length:Int))= !decide (e.els.length=0):=by rw[eW];simp only[bH,eI,eQ];omega
   generalize E:decide (e.kind=6)=q6 at *;generalize F:decide (e.kind=7)=q7 at *;generalize decide (e.els.length=0)=q0 at *;refine aL ?_;simp only[RR];refine aH (aQ (aA fun K a=>?_));simp only[c,b,I,RR,seval];refine aN fun X a2=>?_;simp only[RR,seval];refine a _ _ (aA fun K a=>?_);simp only[E,RR,seval]
   all_goals ((refine cL (fun h=>?_) (fun h=>?_))<;>simp only[h,F,RR,seval])
   all_goals try ((refine cL (fun h=>?_) (fun h=>?_))<;>simp only[h,aF,Q,RR,seval])
   all_goals try ((refine cL (fun h=>?_) (fun h=>?_))<;>simp only[h,RR,seval])
   all_goals try (refine aI (L) ?_;simp only[RR,seval])
   all_goals try ((refine cL (fun h=>?_) (fun h=>?_))<;>simp only[h,RR,seval])
   all_goals try (refine aI (J) ?_;simp only[RR,seval])
   all_goals
    refine a _ _ (aX ?_ ?_)<;>intro x
    ·try (cases x;done)
     all_goals
      refine aA fun K a=>?_;simp only[RR,seval];apply a;refine aP ?_;simp only[aY,aK,bP,RR,seval];refine bB.pure ?_;exact v (by simp_all)
    try (cases x;done)
    all_goals
     refine aL ?_;simp only[RR];refine aM ?_;simp only[b,RR,seval];rw[aU _ (by omega)];refine G _ _ d ⟨by rfl,y (by simp_all)⟩ (by repeat (first|exact A|refine bC.upd rfl ?_))
  have P:k=l.length:=by have:=aE f;omega
  refine cH ?_;simp only[RR,seval];refine aA fun K a=>?_;simp only[RR,seval];apply a;refine aP ?_;simp only[aY,aK,bP,RR,seval];refine bB.pure ?_
  (rw[P,dV]at o;rw[o])
theorem zJ (p:Pg) (W:p.ok) (T:fZ p=true→p.few):eG dR 15 [p.av] (.bool (iF (fun l=>l.all Nq) p)):=by
 have o:=Xk p W T;have d:iF (fun l=>l.all Nq) p=(decide (gZ p=0)&&(decide (p.funs.length=1)&&(p.funs.all (fun g=>decide (g.locs.length=0))&&(decide (p.arrs.length≤1)&&(p.vars.all Cj&&(p.arrs.all W0&&p.funs.all fun g=>g.body.all Nq)))))):=rfl;have fv:p.vars.length≤9223372036854775807:=W.vars.fit;have a2:gZ p=0→ ∀g∈p.funs,eG dR 37 [.isl 5 (g.body.map Sm.row)] (.bool (g.body.all Nq)):=fun h g hg=>To _ g.body (aZ _) (by have:=(T (nN h)).fs g hg;omega);clear T W;generalize gZ p=so at *;generalize iF (fun l=>l.all Nq) p=a4 at *;obtain⟨vs,z,fs⟩:=p;simp only[Pg.av,Pg.row]at *;by_cases z0:so=0
 rotate_left
 ·rw[bI z0,pH]at d
  subst d;refine bU 68 [.tmp 2] func15 ?_;refine aA fun K b=>?_;simp only[RR,seval];refine aN fun e y=>?_;simp only[RR,seval];refine b _ _ (aH (aA fun K b=>?_));simp only[RR,seval];refine aI (o) ?_;simp only[z0,RR,seval];refine b _ _ (cM (aA fun K b=>?_));simp only[RR,seval];apply b;refine aP ?_;simp only[aY,aK,bP,RR,seval];refine bB.pure ?_;rfl
 subst z0;by_cases z1:fs.length=1
 rotate_left
 ·rw[bI z1,pH,Bool.and_false]at d
  subst d;have y1:decide ((fs.length:Int)=1)=false:=bI (by omega);refine bU 68 [.tmp 2] func15 ?_;refine aA fun K b=>?_;simp only[RR,seval];refine aN fun e y=>?_;simp only[RR,seval];refine b _ _ (aH (aA fun K b=>?_));simp only[RR,seval];refine aI (o) ?_;simp only[aF,y1,RR,seval];refine b _ _ (cM (aA fun K b=>?_));simp only[RR,seval];apply b;refine aP ?_;simp only[aY,aK,bP,RR,seval];refine bB.pure ?_;rfl
 obtain⟨f,rfl⟩:=List.length_eq_one_iff.1 z1;have hb:=a2 rfl f (bE.2 rfl);have B:f.row=[.str f.name, .isl 1 (f.params.map bT), .isl 1 (f.locs.map bT), .bool f.word, .isl 5 (f.body.map Sm.row)]:=rfl;have w1:decide ((([f]:List Fu).length:Int)=1)=true:=rfl;have w2:(0:Int)<(([f]:List Fu).length:Int):=by simp
 simp only[eD,gW,zS,aJ,aT,cD,rZ,cO]at d;clear z1 a2;have hg:([f].map Fu.row)[0]?=some [.str f.name, .isl 1 (f.params.map bT), .isl 1 (f.locs.map bT), .bool f.word, .isl 5 (f.body.map Sm.row)]:=tP rfl;by_cases z2:f.locs.length=0
 rotate_left
 ·rw[bI z2,pH]at d
  subst d;have y1:decide ((0:Int)<(f.locs.length:Int))=true:=cV (by omega);refine bU 68 [.tmp 2] func15 ?_;refine aA fun K b=>?_;simp only[B,RR,seval];refine aN fun e y=>?_;simp only[RR,seval];refine b _ _ (aH (aA fun K b=>?_));simp only[RR,seval];refine aI (o) ?_;simp only[aF,y1,RR,seval];refine b _ _ (cM (aA fun K b=>?_));simp only[RR,seval];apply b;refine aP ?_;simp only[aY,aK,bP,RR,seval];refine bB.pure ?_;rfl
 rw[cV z2,cO]at d;have H:decide ((0:Int)<(f.locs.length:Int))=false:=bI (by omega);by_cases z3:z.length≤1
 rotate_left
 ·rw[bI z3,pH]at d
  subst d;have y3:decide ((1:Int)<(z.length:Int))=true:=cV (by omega);refine bU 68 [.tmp 2] func15 ?_;refine aA fun K b=>?_;simp only[B,RR,seval];refine aN fun e y=>?_;simp only[RR,seval];refine b _ _ (aH (aA fun K b=>?_));simp only[RR,seval];refine aI (o) ?_;simp only[aF,H,y3,RR,seval];refine b _ _ (cM (aA fun K b=>?_));simp only[RR,seval];apply b;refine aP ?_;simp only[aY,aK,bP,RR,seval];refine bB.pure ?_;rfl
 rw[cV z3,cO]at d;have y3:decide ((1:Int)<(z.length:Int))=false:=bI (by omega);have a1: ∀{k:Nat} {s:dE},vs[k]?=some s→Cj s=false→AV.bool false=AV.bool a4:=fun h0 Q=>by rw[d,Dt h0 Q];rfl
 have a0:z.all W0=false→AV.bool false=AV.bool a4:=fun Q=>by rw[d,Q];simp only[pH,Bool.and_false]
 generalize f.body.all Nq=a6 at *;rcases z with _|⟨a,_|⟨a',z⟩⟩
 ·have y4:decide ((([]:List Ar).length:Int)=1)=false:=rfl
  rw[gW,cO]at d;refine bU 68 [.tmp 2] func15 ?_;refine aA fun K b=>?_;simp only[B,RR,seval];refine aN fun e y=>?_;simp only[RR,seval];refine b _ _ (aH (aA fun K b=>?_));simp only[RR,seval];refine aI (o) ?_;simp only[aF,H,RR,seval];refine b _ _ (bK ?_);refine aL ?_;simp only[RR];refine aH (aA fun K b=>?_);simp only[RR,seval];refine b _ _ (bK ?_);refine aL ?_;simp only[RR];refine aH (aA fun K b=>?_);simp only[RR,seval];refine b _ _ (bN fun F1 J u R=>?_);have i:=u 1;have O:=u 2;have j:=u 3;have n:=R e;simp only[RR,seval]at i O j n;refine aQ (eT [1] (vs.length) (fun k P M=>P 3= .int .i64 (k:Nat)∧M e=J e∧(vs.take k).all Cj=true) ⟨j,rfl,rfl⟩ ?_);rintro k I M2 a8 ⟨D,E,x⟩ C K0 S;have i:=(C 1 rfl).trans i;have j:=D;clear D;have n:=E.trans n;have L:=bC.refl [1] I;have N:=E;clear C;refine aH (aA fun K b=>?_);simp only[i,j,n,aF,RR,seval];refine b _ _ (aX ?_ ?_)<;>intro t
  ·have G:k<vs.length:=by have:=aD t;omega
   clear t;have v:=aC G;have V:=Ek vs[k];have A:=a1 v;have Y:=vE v x;have a7:=JK v;generalize vs[k]=s at *;generalize Cj s=a5 at *;refine aL ?_;simp only[RR];refine aH (aQ (aA fun K b=>?_));simp only[*,RR,seval];refine aI (V) ?_;simp only[RR,seval];refine b _ _ (aX ?_ ?_)<;>intro F
   ·refine aA fun K b=>?_
    simp only[RR,seval];apply b;refine aP ?_;simp only[aY,aK,bP,RR,seval];refine bB.pure ?_;exact A (by simpa using F)
   refine aL ?_;try simp only[RR]
   refine aM ?_;simp only[j,RR,seval];rw[aU _ (by omega)];refine S _ _ G ⟨by rfl,N,Y (by simpa using F)⟩ (by repeat (first|exact L|refine bC.upd rfl ?_))
  have U:k=vs.length:=by have:=aE t;omega
  rw[U,dV]at x;rw[x,cO]at d;refine cH ?_;simp only[RR,seval];refine aA fun K b=>?_;simp only[i,n,RR,seval];refine aI (hb) ?_;simp only[RR,seval];apply b;refine aP ?_;simp only[aY,aK,bP,RR,seval];refine bB.pure ?_;rw[d]
 ·have y4:decide ((([a]:List Ar).length:Int)=1)=true:=rfl
  have w3:(0:Int)<(([a]:List Ar).length:Int):=by simp
  have X:a.row=[.str a.name, .int .i64 a.size]:=rfl;have b0:([a].map Ar.row)[0]?=some [.str a.name, .int .i64 a.size]:=NU rfl;have a9:([a]:List Ar).all W0=(decide (a.name=[116])&&decide (a.size=4096)):=by simp only[eD,gW,zS,W0]
  rw[a9]at d a0;generalize Z:decide (a.name=[116])=x1 at *;generalize a3:decide (a.size=4096)=x2 at *;by_cases hx:x1=true∧x2=true
  rotate_left
  ·have A:=a0 (by rw[dL];intro c;rw[aV]at c;exact hx c)
   cases x1
   ·skip
    refine bU 68 [.tmp 2] func15 ?_;refine aA fun K b=>?_;simp only[B,X,RR,seval];refine aN fun e y=>?_;simp only[RR,seval];refine b _ _ (aH (aA fun K b=>?_));simp only[RR,seval];refine aI (o) ?_;simp only[aF,H,RR,seval];refine b _ _ (bK ?_);refine aL ?_;simp only[RR];refine aH (aA fun K b=>?_);simp only[Z,RR,seval];refine b _ _ (cM (aA fun K b=>?_));simp only[RR,seval];apply b;refine aP ?_;simp only[aY,aK,bP,RR,seval];refine bB.pure ?_;exact A
   obtain rfl:x2=false:=by cases x2<;>simp_all
   refine bU 68 [.tmp 2] func15 ?_;refine aA fun K b=>?_;simp only[B,X,RR,seval];refine aN fun e y=>?_;simp only[RR,seval];refine b _ _ (aH (aA fun K b=>?_));simp only[RR,seval];refine aI (o) ?_;simp only[aF,H,RR,seval];refine b _ _ (bK ?_);refine aL ?_;simp only[RR];refine aH (aA fun K b=>?_);simp only[Z,a3,RR,seval];refine b _ _ (cM (aA fun K b=>?_));simp only[RR,seval];apply b;refine aP ?_;simp only[aY,aK,bP,RR,seval];refine bB.pure ?_;exact A
  obtain⟨rfl,rfl⟩:=hx;rw[cO,cO]at d;refine bU 68 [.tmp 2] func15 ?_;refine aA fun K b=>?_;simp only[B,X,RR,seval];refine aN fun e y=>?_;simp only[RR,seval];refine b _ _ (aH (aA fun K b=>?_));simp only[RR,seval];refine aI (o) ?_;simp only[aF,H,RR,seval];refine b _ _ (bK ?_);refine aL ?_;simp only[RR];refine aH (aA fun K b=>?_);simp only[Z,a3,RR,seval];refine b _ _ (bK ?_);refine aL ?_;simp only[RR];refine aH (aA fun K b=>?_);simp only[RR,seval];refine b _ _ (bN fun F1 J u R=>?_);have i:=u 1;have O:=u 2;have j:=u 3;have n:=R e;simp only[RR,seval]at i O j n;refine aQ (eT [1] (vs.length) (fun k P M=>P 3= .int .i64 (k:Nat)∧M e=J e∧(vs.take k).all Cj=true) ⟨j,rfl,rfl⟩ ?_);rintro k I M2 a8 ⟨D,E,x⟩ C K0 S;have i:=(C 1 rfl).trans i;have j:=D;clear D;have n:=E.trans n;have L:=bC.refl [1] I;have N:=E;clear C;refine aH (aA fun K b=>?_);simp only[i,j,n,aF,RR,seval];refine b _ _ (aX ?_ ?_)<;>intro t
  ·have G:k<vs.length:=by have:=aD t;omega
   clear t;have v:=aC G;have V:=Ek vs[k];have A:=a1 v;have Y:=vE v x;have a7:=JK v;generalize vs[k]=s at *;generalize Cj s=a5 at *;refine aL ?_;simp only[RR];refine aH (aQ (aA fun K b=>?_));simp only[*,RR,seval];refine aI (V) ?_;simp only[RR,seval];refine b _ _ (aX ?_ ?_)<;>intro F
   ·refine aA fun K b=>?_
    simp only[RR,seval];apply b;refine aP ?_;simp only[aY,aK,bP,RR,seval];refine bB.pure ?_;exact A (by simpa using F)
   refine aL ?_;try simp only[RR]
   refine aM ?_;simp only[j,RR,seval];rw[aU _ (by omega)];refine S _ _ G ⟨by rfl,N,Y (by simpa using F)⟩ (by repeat (first|exact L|refine bC.upd rfl ?_))
  have U:k=vs.length:=by have:=aE t;omega
  rw[U,dV]at x;rw[x,cO]at d;refine cH ?_;simp only[RR,seval];refine aA fun K b=>?_;simp only[i,n,RR,seval];refine aI (hb) ?_;simp only[RR,seval];apply b;refine aP ?_;simp only[aY,aK,bP,RR,seval];refine bB.pure ?_;rw[d]
 simp only[aJ]at z3;omega
def JX (e:Ex):Prop:=eG dR 56 [.agg e.row] (.str (fL e))
theorem NG (k o n:Int) (s:dE) (l:List Ex) (hk:k=1∨k=2∨k=3∨k=5∨k=7∨(k=6∧4≤o∧o≤15)) (hn:dQ n) (D:k=1∨k=2∨k=5→l=[]) (a4:l.length≤9223372036854775807) (h: ∀e∈l,JX e) (C:(fL (.mk k o n s l)).length≤140737488355328):JX (.mk k o n s l):=by
 have B:fL (.mk k o n s l)=iI l++hY k o n s:=by rw[fL]
 have d:(iI l).length+(hY k o n s).length≤140737488355328:=by
  rw[B]at C;simp only[aB]at C;omega
 unfold JX;rw[B];clear C B;simp only[Ex.row_eq,Ex.kind,Ex.op,Ex.num,Ex.name,Ex.kids];refine bU 52 [.tmp 2] func56 ?_;refine aA fun K a=>?_;simp only[RR,seval];refine aN fun z b2=>?_;simp only[RR,seval];refine a _ _ (aA fun K a=>?_);simp only[RR,seval];refine a _ _ (aH (aA fun K a=>?_));simp only[RR,seval];refine a _ _ (bN fun F1 S v W=>?_);have f:=v 1;have A:=v 2;have i:=v 3;have t:=v 4;have g:=W z;simp only[RR,seval]at f A i t g;refine aQ (eT [1,2] (l.length) (fun j F M=>F 4= .int .i64 (j:Nat)∧M z=S z∧F 3= .str (iI (l.take j))) ⟨t,rfl,by rw[i,gN,show iI []=[]by simp only[iI]]⟩ ?_);rintro j R M2 b0 ⟨G,H,i⟩ y K0 X;have f:=(y 1 rfl).trans f;have A:=(y 2 rfl).trans A;have t:=G;clear G;have g:=H.trans g;have T:=bC.refl [1,2] R;have U:=H;clear y;refine aH (aA fun K a=>?_);simp only[f,t,g,aF,RR,seval];refine a _ _ (aX ?_ ?_)<;>intro p
 ·have x:j<l.length:=by have:=aD p;omega
  clear p;have hg:=qO (aC x);have E:l.take (j+1)=l.take j++[l[j]]:=bQ x;have u:=h _ (bZ x);have Q:=tB l (j+1);generalize l[j]=e at hg E u;rw[E,nG]at Q;simp only[aB]at Q;unfold JX at u;rw[Ex.row_eq]at u;refine aL ?_;simp only[RR];refine aH (aQ ?_);have Y:(iI (l.take j)).length+(fL e).length≤maxLen:=by unfold maxLen;(skip);omega
  refine aM ?_;simp only[*,RR,seval];refine aI (u) ?_;simp only[Y,RR,seval];refine aM ?_;simp only[t,RR,seval];rw[aU _ (by omega)];refine X _ _ x ⟨by rfl,U,by rw[E,nG];rfl⟩ (by repeat (first|exact T|refine bC.upd rfl ?_))
 have a2:j=l.length:=by have:=aE p;omega
 rw[a2,dV]at i;refine cH ?_;simp only[RR,seval];refine aH (aA fun K a=>?_);simp only[f,g,RR,seval];refine a _ _ (aQ (aA fun K a=>?_));simp only[RR,seval];refine a _ _ (aX ?_ ?_)<;>intro N
 ·obtain rfl:=aD N
  have b:hY 1 o n s=Lib.decDigits n.toNat++[32]:=by simp [hY]
  obtain rfl:=D (.inl rfl);rw[b]at d;simp only[aB,aJ,aT]at d;have Z:(Lib.decDigits n.toNat).length+1≤maxLen:=by unfold maxLen;(skip);omega
  refine aA fun K a=>?_;simp only[f,g,RR,seval];refine aI (X1 n hn) ?_;simp only[Z,RR,seval];apply a;refine aP ?_;simp only[aY,aK,bP,RR,seval];refine bB.pure ?_;rw[b,show iI []=[]by simp only[iI],cC]
 refine aA fun K a=>?_;simp only[RR,seval];refine a _ _ (aX ?_ ?_)<;>intro O
 ·obtain rfl:=aD O
  obtain rfl:=D (.inr (.inl rfl));have b:hY 2 o n s=s:=by simp [hY]
  refine aA fun K a=>?_;simp only[f,g,RR,seval];apply a;refine aP ?_;simp only[aY,aK,bP,RR,seval];refine bB.pure ?_;rw[b,show iI []=[]by simp only[iI],cC]
 refine aA fun K a=>?_;simp only[RR,seval];refine a _ _ (aX ?_ ?_)<;>intro I
 ·obtain rfl:=aD I
  have b:hY 3 o n s=[64]:=by simp [hY]
  rw[b]at d;simp only[aJ,aT]at d;have a0:(iI l).length+1≤maxLen:=by unfold maxLen;(skip);omega
  refine aA fun K a=>?_;simp only[i,a0,RR,seval];apply a;refine aP ?_;simp only[aY,aK,bP,RR,seval];refine bB.pure ?_;rw[b]
 refine aA fun K a=>?_;simp only[RR,seval];refine a _ _ (aX ?_ ?_)<;>intro J
 ·obtain rfl:=aD J
  obtain rfl:=D (.inr (.inr rfl));have b:hY 5 o n s=[63]:=by simp [hY]
  refine aA fun K a=>?_;simp only[RR,seval];apply a;refine aP ?_;simp only[aY,aK,bP,RR,seval];refine bB.pure ?_;rw[b,show iI []=[]by simp only[iI],cC]
 refine aA fun K a=>?_;simp only[RR,seval];refine a _ _ (aX ?_ ?_)<;>intro L
 ·obtain rfl:=aD L
  have b:hY 7 o n s=[33]:=by simp [hY]
  rw[b]at d;simp only[aJ,aT]at d;have a1:(iI l).length+1≤maxLen:=by unfold maxLen;(skip);omega
  refine aA fun K a=>?_;simp only[i,a1,RR,seval];apply a;refine aP ?_;simp only[aY,aK,bP,RR,seval];refine bB.pure ?_;rw[b]
 obtain⟨rfl,b3,b4⟩:k=6∧4≤o∧o≤15:=by
  have h1:=aE N;have h2:=aE O;have h3:=aE I;have h4:=aE J;have h5:=aE L;omega
 obtain⟨j,rfl⟩: ∃j:Nat,o=((4+j:Nat):Int):=⟨(o- 4).toNat,by omega⟩;have P:j<12:=by omega
 have hw:IntKind.wrap .i64 (((4+j:Nat):Int)- 4)=(j:Int):=by rw[aU _ (by omega)];omega
 have b6:IntKind.wrap .i64 ((j:Int)+1)=((j+1:Nat):Int):=by rw[aU _ (by omega)];omega
 obtain⟨c,p⟩: ∃c,opS[j]?=some c:=⟨_,aC (show j<opS.length from P)⟩
 have b:hY 6 ((4+j:Nat):Int) n s=[c]:=by
  have V:(((4+j:Nat):Int)- 4).toNat=j:=by omega
  unfold hY;rw[aO (by decide),aO (by decide),aO (by decide),aO (by decide),aO (by decide),bF rfl,V,p];rfl
 rw[b]at d;simp only[aJ,aT]at d
 have b5:List.take (j+1 -j) (List.drop j ([43,45,42,47,37,38,124,94,76,82,60,61]:List UInt8))=[c]:=by
  rw[gY];have:=bM (show j<opS.length from P);rw[show(List.drop j ([43,45,42,47,37,38,124,94,76,82,60,61]:List UInt8))=opS.drop j from rfl,this,(bD.1 p).2];rfl
 have a5:(j:Int)≤((j+1:Nat):Int):=by omega
 have a6:((j+1:Nat):Int)≤12:=by omega
 have a7:((j+1:Nat):Int)≤(([43,45,42,47,37,38,124,94,76,82,60,61]:List UInt8).length:Int):=by simp only[aJ,aT];omega
 have a8:(0:Int)≤(j:Int):=by omega
 have a9:(0:Int)≤((j+1:Nat):Int):=by omega
 have a3:(iI l).length+1≤maxLen:=by unfold maxLen;omega
 refine aL ?_;simp only[RR];refine aA fun K a=>?_;simp only[*,cA,RR,seval];apply a;refine aP ?_;simp only[aY,aK,bP,RR,seval];refine bB.pure ?_;rw[b]
theorem TE (N:Nat): ∀(e:Ex) (c:Int),e.sz≤N→e.ok→lA e c=true→Jl Tj e=true→(fL e).length≤140737488355328→JX e:=by
 induction N using Nat.strongRecOn with
 |_ N ih=>
  intro e c D j p b g;have E:=e.sz_eq;have f:=j.kids;have A:=j.num;rw[Dl,aV,cI]at b;simp only[lA,aV]at p;obtain⟨⟨_,d⟩,B⟩:=p
  have z: ∀x∈e.kids,(fL x).length≤(fL e).length:=fun x a=>by
   rw[SB e,aB];obtain⟨i,v,rfl⟩:=List.getElem_of_mem a;have t:=tB e.kids (i+1);rw[bQ v,nG,aB]at t;omega
  obtain⟨k,o,n,s,l⟩:=e;simp only[Ex.kind,Ex.op,Ex.num,Ex.kids]at *
  have y:k=1∨k=2∨k=3∨k=5∨k=6∨k=7:=by
   have:=b.1;simp only[Tj,kK,bH]at this;omega
  refine NG k o n s l ?_ A ?_ f.fit (fun x a=>?_) g
  ·rcases y with rfl|rfl|rfl|rfl|rfl|rfl
   ·simp
   ·simp
   ·simp
   ·simp
   ·simp [lG]at d;omega
   simp
  ·intro u
   have :l.length=0:=by rcases u with rfl|rfl|rfl<;>simpa [lG]using d
   exact nF this
  have C:=nM a;exact ih x.sz (by omega) x (c+1) (aZ _) (f.all x a) (vZ B x a) (b.2 x a) (oH (z x a) g)
structure DS where
 stk:List Ex
 body:List Sm
 frs:List (Int×Ex×List Sm)
 acc:Option Nat
 col:Bool
def DS.at' (s:DS) (l:List Ex):DS:={s with stk:=l}
def Ny (c:UInt8):Bool:=decide (97≤c.toNat)&&decide (c.toNat≤122)
def DS.calm (s:DS):Prop:=s.acc=none∧s.col=false
inductive SX (V:UInt8→Prop) (A:Prop):Int→Ex→Prop where
 |num (lv n:Int) (hl:lv≤24) (h:dQ n):SX V A lv (.mk 1 0 n [] [])
 |var (lv:Int) (c:UInt8) (hl:lv≤24) (h:Ny c=true) (hV:V c):SX V A lv (.mk 2 0 0 [c] [])
 |idx (lv:Int) (a:Ex) (hl:lv≤24) (hA:A) (ha:SX V A (lv+1) a):SX V A lv (.mk 3 0 0 [116] [a])
 |get (lv:Int) (hl:lv≤24):SX V A lv (.mk 5 0 0 [] [])
 |neg (lv:Int) (a:Ex) (hl:lv≤24) (ha:SX V A (lv+1) a):SX V A lv (.mk 7 0 0 [] [a])
 |op (lv o:Int) (a b:Ex) (hl:lv≤24) (h:4≤o∧o≤15) (ha:SX V A (lv+1) a) (hb:SX V A (lv+1) b):SX V A lv (.mk 6 o 0 [] [a,b])
theorem sC (a:Ex):iI [a]=fL a:=by simp [iI]
theorem Vx (a b:Ex):iI [a,b]=fL a++fL b:=by simp [iI]
inductive SS (V:UInt8→Prop) (A:Prop):Int→Sm→Prop where
 |set (lv:Int) (c:UInt8) (e:Ex) (hl:lv≤24) (hc:Ny c=true) (hV:V c) (he:SX V A (lv+1) e):SS V A lv (.mk 1 [c] [e] [] [])
 |store (lv:Int) (a e:Ex) (hl:lv≤24) (hA:A) (ha:SX V A (lv+1) a) (he:SX V A (lv+1) e):SS V A lv (.mk 2 [116] [a,e] [] [])
 |put (lv:Int) (e:Ex) (hl:lv≤24) (he:SX V A (lv+1) e):SS V A lv (.mk 3 [] [e] [] [])
 |cond (lv:Int) (e:Ex) (t:List Sm) (hl:lv≤24) (he:SX V A (lv+1) e) (ht: ∀s∈t,SS V A (lv+1) s):SS V A lv (.mk 4 [] [e] t [])
 |loop (lv:Int) (e:Ex) (t:List Sm) (hl:lv≤24) (he:SX V A (lv+1) e) (ht: ∀s∈t,SS V A (lv+1) s):SS V A lv (.mk 5 [] [e] t [])
theorem Ss {p:Pg} (h:gZ p=0):nJ p=true∧sN p=true:=by
 have d:=nN h;unfold gZ at h;rw[bF d]at h;by_cases a:lW p=0
 ·unfold lW at a
  split at a
  ·rename_i b
   split at a
   ·rename_i c;exact⟨b,c⟩
   cases a
  cases a
 rw[aO a]at h;exact absurd h a
structure rA (p:Pg) (f:Fu):Prop where
 funs:p.funs=[f]
 params:f.params=[]
 locs:f.locs=[]
 arrs: ∀a∈p.arrs,a.name=[116]∧a.size=4096
 one:p.arrs.length≤1
 vars: ∀s∈p.vars,Cj s=true
 uses: ∀u∈eN f.body,iQ p 0 u=true
 right:jG f.body 1=true
 kinds:f.body.all zC=true
theorem Hw {p:Pg} (h:iF (fun l=>l.all zC) p=true): ∃f,rA p f:=by
 simp only[iF,aV,bH]at h;obtain⟨e,k,c,n,o,t,d⟩:=h;obtain⟨i,j⟩:=Ss e;have g:=nN e
 obtain⟨f,b⟩: ∃f,p.funs=[f]:=by
  match hp:p.funs,k with
  |[f],_=>exact⟨f,rfl⟩
 rw[b]at c d;simp only[eD,gW,zS,bH]at c d;refine⟨f,b, ?_,nF c,fun a v=>?_,n,fun s x=>cI.1 o s x,fun u y=>?_, ?_,d⟩
 ·simp only[sN,aV,Iw,b]at j
  have:=j.2;simp only[bW,Gm,dJ,aV,bH]at this;exact nF this.1.2
 ·have:=cI.1 t a v
  simp only[W0,aV,bH]at this;exact this
 ·simp only[nJ,aV,b,lL,cI]at i
  exact i.2.1.2 u y
 simp only[fZ,aV,b,eD,gW,lC]at g;exact g.2.1.2
theorem xE {p:Pg} {f:Fu} (h:rA p f) {u:Us} (j:iQ p 0 u=true):(u.kind=1→ ∃c,u.name=[c]∧Ny c=true∧[c]∈p.vars)∧(u.kind=3→u.name=[116]∧p.arrs.length=1):=by
 have n:eZ p 0 u.name=tU p u.name:=by
  simp only[eZ,h.funs,dJ,bX,jH,h.params,h.locs,eF,dB]
 simp only[iQ,n,eI,vS,uB,eQ,pG,bH]at j;obtain⟨⟨k1,k3⟩,_⟩:=j;unfold tU at k1 k3
 cases hp:dB (mG p) u.name with
 |none=>
  rw[hp]at k1 k3;simp only at k1 k3;refine⟨fun e=>?_,fun e=>?_⟩
  ·rcases k1 with(c|c)|c
   ·exact absurd e c
   ·exact absurd c (by decide)
   exact absurd c (by decide)
  rcases k3 with c|c
  ·exact absurd e c
  exact absurd c (by decide)
 |some k=>
  rw[hp]at k1 k3;obtain⟨_,b⟩:=jK _ _ _ hp;simp only at k1 k3;refine⟨fun e=>?_,fun e=>?_⟩
  ·by_cases d:k<p.vars.length
   ·have i:u.name∈p.vars:=by
     rw[mG,bV,fC d]at b;exact aW b
    have:=h.vars _ i;unfold Cj at this;split at this
    ·rename_i c g
     simp only[aV,bH]at this;exact⟨c,g,by simp only[Ny,aV,bH];omega,g▸i⟩
    cases this
   rw[aO d]at k1;rcases k1 with(c|c)|c
   ·exact absurd e c
   ·split at c<;>simp at c
   split at c<;>simp at c
  rcases k3 with c|c
  ·exact absurd e c
  split at c
  ·simp at c
  rename_i d;split at c
  ·rename_i o
   rw[mG,bV,gC (by omega),fC (by rw[aF];exact o),cT,bG]at b;obtain⟨a,t,l⟩:=b;rw[←l];exact⟨(h.arrs a (aW t)).1,by have:=h.one;omega⟩
  simp at c
theorem Eg {b:Type} {l:List b} (h:l.length=1): ∃a,l=[a]:=by
 match l,h with
 |[a],_=>exact⟨a,rfl⟩
theorem QR {c:Type} {l:List c} (h:l.length=2): ∃a b,l=[a,b]:=by
 match l,h with
 |[a,b],_=>exact⟨a,b,rfl⟩
theorem VL {p:Pg} {f:Fu} (h:rA p f) (N:Nat): ∀(e:Ex) (i:Int),e.sz≤N→e.ok→lA e i=true→Jl Tj e=true→(∀u∈pI e++fO e.kids,iQ p 0 u=true)→SX (fun c=>[c]∈p.vars) (p.arrs.length=1) i e:=by
 induction N with
 |zero=>intro e _ R;have:=e.sz_eq;omega
 |succ N ih=>
  intro e i T G H z y;have P:=fun a ha=>G.kids.all a ha;have F:dQ e.num:=G.num;have S:=e.sz_eq;simp only[lA,aV]at H;obtain⟨⟨g,j⟩,M⟩:=H;rw[Dl,aV]at z
  have E: ∀(l:List Ex),(∀u∈fO l,iQ p 0 u=true)→ ∀a∈l, ∀u∈pI a++fO a.kids,iQ p 0 u=true:=by
   intro l
   induction l with
   |nil=>intro _ a ha;cases ha
   |cons x l ihl=>
    intro d a ha u t;rw[jN]at d;rcases bJ.1 ha with rfl|ha
    ·exact d u (Ve _ t)
    exact ihl (fun u y=>d u (Nh _ y)) a ha u t
  have v: ∀a∈e.kids,SX (fun c=>[c]∈p.vars) (p.arrs.length=1) (i+1) a:=fun a ha=>ih a _ (by have:=nM ha;omega) (P a ha) (vZ M a ha) (cI.1 z.2 a ha) (E e.kids (fun u t=>y u (Nh _ t)) a ha);have B: ∀u∈pI e,iQ p 0 u=true:=fun u t=>y u (Ve _ t);have A:=z.1;clear y E;obtain⟨k,o,n,s,l⟩:=e;simp only[Ex.kind,Ex.op,Ex.num,Ex.name,Ex.kids,pI]at j v F B A;have D:=g;clear g;have g:(decide (i≤24)&&(decide (k=6)||decide (o=0))&&(decide (k=1)||decide (n=0))&&(if k=2∨k=3∨k=4 then iN s else decide (s=[])))=true:=D;clear D;simp only[aV,kK,bH]at g;simp only[Tj,kK,bH]at A;rcases A with((((rfl|rfl)|rfl)|rfl)|rfl)|rfl<;>simp [lG]at g j
  ·obtain⟨⟨d,rfl⟩,rfl⟩:=g;subst j;exact .num i n d F
  ·obtain⟨⟨⟨d,rfl⟩,rfl⟩,_⟩:=g;subst j
   obtain⟨c,rfl,O,Q⟩:=(xE h (B ⟨s,1,0⟩ (by simp))).1 rfl;exact .var i c d O Q
  ·obtain⟨⟨⟨d,rfl⟩,rfl⟩,_⟩:=g;obtain⟨a,rfl⟩:=Eg j
   obtain⟨C,I⟩:=(xE h (B ⟨s,3,0⟩ (by simp))).2 rfl;simp only at C;subst C;exact .idx i a d I (v a (dN))
  ·obtain⟨⟨⟨d,rfl⟩,rfl⟩,rfl⟩:=g;subst j;exact .get i d
  ·obtain⟨⟨d,rfl⟩,rfl⟩:=g;obtain⟨⟨J,K⟩,L⟩:=j;obtain⟨a,b,rfl⟩:=QR L
   exact .op i o a b d ⟨J,K⟩ (v a (dN)) (v b (by simp))
  obtain⟨⟨⟨d,rfl⟩,rfl⟩,rfl⟩:=g;obtain⟨a,rfl⟩:=Eg j;exact .neg i a d (v a (dN))
theorem N1 {p:Pg}: ∀(l:List Ex),(∀u∈fO l,iQ p 0 u=true)→ ∀a∈l, ∀u∈pI a++fO a.kids,iQ p 0 u=true
 |[],_,a,ha=>by cases ha
 |x::l,hl,a,ha=>fun u b=>by
  rw[jN]at hl;rcases bJ.1 ha with rfl|ha
  ·exact hl u (Ve _ b)
  exact N1 l (fun u c=>hl u (Nh _ c)) a ha u b
theorem Ru {p:Pg}: ∀(l:List Sm),(∀u∈eN l,iQ p 0 u=true)→ ∀a∈l, ∀u∈nD a++fO a.es++eN a.thn++eN a.els,iQ p 0 u=true
 |[],_,a,ha=>by cases ha
 |x::l,hl,a,ha=>fun u b=>by
  rw[jA]at hl;rcases bJ.1 ha with rfl|ha
  ·exact hl u (Ve _ b)
  exact Ru l (fun u c=>hl u (Nh _ c)) a ha u b
theorem VM {p:Pg} {f:Fu} (h:rA p f) (N:Nat): ∀(e:Sm) (d:Int),e.sz≤N→e.ok→lB e d=true→zC e=true→(∀u∈nD e++fO e.es++eN e.thn++eN e.els,iQ p 0 u=true)→SS (fun c=>[c]∈p.vars) (p.arrs.length=1) d e:=by
 induction N with
 |zero=>intro e _ V;have:=e.sz_eq;omega
 |succ N ih=>
  intro e d X E F D y;have W:=e.sz_eq;have Q:=E.es;have R:=E.thn;simp only[lB,aV]at F;obtain⟨⟨⟨⟨g,n⟩,J⟩,K⟩,U⟩:=F;rw[Bv,aV,aV]at D;obtain⟨o,M,O⟩:=D;have G: ∀u∈fO e.es,iQ p 0 u=true:=fun u x=>y u (by simp [x]);have H: ∀u∈eN e.thn,iQ p 0 u=true:=fun u x=>y u (by simp [x]);have A: ∀u∈nD e,iQ p 0 u=true:=fun u x=>y u (by simp [x]);have v: ∀a∈e.es,SX (fun c=>[c]∈p.vars) (p.arrs.length=1) (d+1) a:=fun a i=>VL h a.sz a _ (aZ _) (Q.all a i) (vZ J a i) (cI.1 M a i) (N1 e.es G a i);have z: ∀a∈e.thn,SS (fun c=>[c]∈p.vars) (p.arrs.length=1) (d+1) a:=fun a i=>ih a _ (by have:=nA i;omega) (R.all a i) (vY K a i) (cI.1 O a i) (Ru e.thn H a i);clear y G H;obtain⟨k,s,l,t,u⟩:=e;simp only[Sm.kind,Sm.name,Sm.es,Sm.thn,Sm.els,nD]at n v z o A;have C:=g;clear g;have g:(decide (d≤24)&&(decide (k=4)||decide (u.length=0))&&(decide (k=4)||decide (k=5)||decide (t.length=0))&&(if k=1∨k=2∨k=6 then iN s else decide (s=[])))=true:=C;clear C;simp only[aV,kK,bH]at g;have o:(if k=4 then decide (u.length=0)else decide (k=1)||decide (k=2)||decide (k=3)||decide (k=5))=true:=o
  have P:k=4∧u.length=0∨k=1∨k=2∨k=3∨k=5:=by
   by_cases c:k=4
   ·rw[bF c]at o;exact .inl ⟨c,aD o⟩
   rw[aO c]at o;simp only[kK,bH]at o;omega
  rcases P with⟨rfl,S⟩|rfl|rfl|rfl|rfl<;>simp [Gg]at g n
  ·obtain rfl:u=[]:=nF S
   obtain⟨j,rfl⟩:=g;obtain⟨a,rfl⟩:=Eg n;exact .cond d a t j (v a (dN)) z
  ·obtain⟨⟨⟨j,rfl⟩,rfl⟩,_⟩:=g;obtain⟨a,rfl⟩:=Eg n
   obtain⟨c,rfl,L,T⟩:=(xE h (A ⟨s,1,0⟩ (by simp))).1 rfl;exact .set d c a j L T (v a (dN))
  ·obtain⟨⟨⟨j,rfl⟩,rfl⟩,_⟩:=g;obtain⟨a,b,rfl⟩:=QR n
   obtain⟨B,I⟩:=(xE h (A ⟨s,3,0⟩ (by simp))).2 rfl;simp only at B;subst B;exact .store d a b j I (v a (dN)) (v b (by simp))
  ·obtain⟨⟨⟨j,rfl⟩,rfl⟩,rfl⟩:=g;obtain⟨a,rfl⟩:=Eg n;exact .put d a j (v a (dN))
  obtain⟨⟨j,rfl⟩,rfl⟩:=g;obtain⟨a,rfl⟩:=Eg n;exact .loop d a t j (v a (dN)) z
theorem Xb {p:Pg} (e:p.ok) (h:iF (fun l=>l.all zC) p=true): ∃f,p.funs=[f]∧ ∀s∈f.body,SS (fun c=>[c]∈p.vars) (p.arrs.length=1) 1 s:=by
 obtain⟨f,a⟩:=Hw h;refine⟨f,a.funs,fun s b=>?_⟩;have d:=e.funs f (by rw[a.funs];simp);exact VM a s.sz s 1 (aZ _) (d.body.all s b) (vY a.right s b) (cI.1 a.kinds s b) (Ru f.body a.uses s b)
theorem GG (k:Int) (s:dE) (l:List Ex) (t u:List Sm):(iI l).length≤(nY (.mk k s l t u)).length:=by
 rw[nY]
 repeat' split
 all_goals first|exact aZ _|(simp only[aB,aJ,aT];omega)
theorem LY (k:Int) (s:dE) (l:List Ex) (t u:List Sm) (h:k=4∨k=5):(iL t).length≤(nY (.mk k s l t u)).length:=by
 rw[nY];rcases h with rfl|rfl
 ·simp only[Int.reduceEq,cQ,dT,aB,aJ,aT];omega
 simp only[Int.reduceEq,cQ,dT,aB,aJ,aT];omega
theorem N5 {l:List Sm} {e:Sm} (h:e∈l):(nY e).length≤(iL l).length:=by
 obtain⟨i,b,rfl⟩:=List.getElem_of_mem h;have a:=Hj l (i+1);rw[bQ b,tC,aB]at a;omega
theorem LZ {l:List Ex} {e:Ex} (h:e∈l):(fL e).length≤(iI l).length:=by
 obtain⟨i,b,rfl⟩:=List.getElem_of_mem h;have a:=tB l (i+1);rw[bQ b,nG,aB]at a;omega
theorem Yc (N:Nat): ∀(l:List Sm) (lv:Int),lQ l≤N→zG l→jG l lv=true→l.all zC=true→(iL l).length≤140737488355328→eG dR 31 [.isl 5 (l.map Sm.row)] (.str (iL l)):=by
 induction N using Nat.strongRecOn with
 |_ N ih=>
  intro l lv hs W hr a0 hl;have e3:l.length≤9223372036854775807:=W.fit;have c4: ∀e∈l,e.es.length≤9223372036854775807:=fun e h=>(W.all e h).es.fit
  have c6: ∀e∈l,e.kind=1∨e.kind=2∨e.kind=3∨e.kind=4∨e.kind=5:=fun e h=>by
   have:=cI.1 a0 e h;rw[Bv,aV]at this;have:=this.1;split at this
   ·omega
   simp only[kK,bH]at this;omega
  have hE: ∀e∈l, ∀x∈e.es,JX x:=fun e h x hx=>by
   have H:=cI.1 a0 e h;rw[Bv,aV,aV,cI]at H;have I:=vY hr e h;simp only[lB,aV]at I;have h3:=N5 h;have h4:(iI e.es).length≤(nY e).length:=by obtain⟨k,s,a,t,u⟩:=e;exact GG k s a t u
   have h5:=LZ hx;exact TE _ x (lv+1) (aZ _) ((W.all e h).es.all x hx) (vZ I.1.1.2 x hx) (H.2.1 x hx) (by omega)
  have hT: ∀e∈l,e.kind=4∨e.kind=5→eG dR 31 [.isl 5 (e.thn.map Sm.row)] (.str (iL e.thn)):=fun e h hk=>by
   have H:=cI.1 a0 e h;rw[Bv,aV,aV]at H;have I:=vY hr e h;simp only[lB,aV]at I;have h3:=N5 h;have h4:(iL e.thn).length≤(nY e).length:=by obtain⟨k,s,a,t,u⟩:=e;exact LY k s a t u hk
   have h6:=nA h;have h7:=e.sz_eq;exact ih (lQ e.thn) (by omega) e.thn (lv+1) (aZ _) (W.all e h).thn I.1.2 H.2.2 (by omega)
  clear ih a0 hr W;refine bU 78 [.tmp 2] func31 ?_;refine aA fun K b=>?_;simp only[RR,seval];refine b _ _ (aA fun K b=>?_);simp only[RR,seval];refine b _ _ (aH (aA fun K b=>?_));simp only[RR,seval];refine b _ _ (bN fun F1 M1 c X=>?_);have m:=c 0;have o:=c 2;have f:=c 3;have g:=c 4;simp only[RR,seval]at m o f g;refine aQ (eT [0,2] (l.length) (fun k z M=>z 4= .int .i64 (k:Nat)∧z 3= .str (iL (l.take k))) ⟨g,by rw[f,gN,show iL []=[]by simp only[iL]]⟩ ?_);rintro k J M2 e4 ⟨Q,f⟩ d K0 b7;have m:=(d 0 rfl).trans m;have o:=(d 2 rfl).trans o;have g:=Q;clear Q;have p:=bC.refl [0,2] J;clear d;refine aH (aA fun K b=>?_);simp only[m,g,aF,RR,seval];refine b _ _ (aX ?_ ?_)<;>intro F
  ·have G:k<l.length:=by have:=aD F;omega
   have hg:=Oa (aC G);have a5:l.take (k+1)=l.take k++[l[k]]:=bQ G;have a2:=hE _ (bZ G);have a1:=hT _ (bZ G);have b1:=c6 _ (bZ G);have b0:=c4 _ (bZ G);have n:=Hj l (k+1);generalize l[k]=e at hg a5 a2 a1 b1 b0;rw[a5,tC]at n;obtain⟨kd,nm,es,C,ee⟩:=e;simp only[Sm.kind,Sm.name,Sm.es,Sm.thn,Sm.els]at hg a2 a1 b1 b0;have hX:=GG kd nm es C ee;obtain⟨P,hP⟩: ∃P,iL (l.take k)=P:=⟨_,rfl⟩;obtain⟨B,A⟩: ∃B,nY (.mk kd nm es C ee)=B:=⟨_,rfl⟩;rw[hP,A,aB]at n;rw[A]at hX;rw[hP]at f;refine aL ?_;simp only[RR];refine aH (aQ (aA fun K b=>?_));simp only[m,g,hg,RR,seval];refine aN fun w e6=>?_;simp only[RR,seval];refine b _ _ (aA fun K b=>?_);simp only[RR,seval];refine b _ _ (aH (aA fun K b=>?_));simp only[RR,seval];refine b _ _ (bN fun F3 M3 c X=>?_);have R:=c 0;have S:=c 2;have T:=c 3;have U:=c 4;have q:=c 5;have y:=c 6;have r:=c 7;have v:=X w;simp only[m,o,g,f,RR,seval]at R S T U q y r v;have p:bC [0,2] J F3:=bC.same c (by repeat (first|exact p|refine bC.upd rfl ?_));have m:=R;have o:=S;have f:=T;have g:=U;refine aQ (eT [0,2,3,4,5] (es.length) (fun j z M=>z 7= .int .i64 (j:Nat)∧M w=M3 w∧z 6= .str (iI (es.take j))) ⟨r,rfl,by rw[y,gN,show iI []=[]by simp only[iI]]⟩ ?_);rintro j F4 M4 e5 ⟨Q,E,y⟩ d K2 b8;have m:=(d 0 rfl).trans m;have o:=(d 2 rfl).trans o;have f:=(d 3 rfl).trans f;have g:=(d 4 rfl).trans g;have q:=(d 5 rfl).trans q;have r:=Q;clear Q;have v:=E.trans v;have p:bC [0,2] J F4:=bC.sub d rfl p;have b4:=bC.refl [0,2,3,4,5] F4;have b6:=E;clear d;refine aH (aA fun K b=>?_);simp only[q,r,v,aF,RR,seval];refine b _ _ (aX ?_ ?_)<;>intro F
   ·have Z:j<es.length:=by have:=aD F;omega
    clear F;have c5:=qO (aC Z);have a4:es.take (j+1)=es.take j++[es[j]]:=bQ Z;have Y:=a2 _ (bZ Z);have b2:=tB es (j+1);generalize es[j]=e at c5 a4 Y;rw[a4,nG]at b2;simp only[aB]at b2;unfold JX at Y;rw[Ex.row_eq]at Y;refine aL ?_;simp only[RR];refine aH (aQ ?_);have c3:(iI (es.take j)).length+(fL e).length≤maxLen:=by unfold maxLen;(skip);omega
    refine aM ?_;simp only[*,RR,seval];refine aI (Y) ?_;simp only[c3,RR,seval];refine aM ?_;simp only[r,RR,seval];rw[aU _ (by omega)];refine b8 _ _ Z ⟨by rfl,b6,by rw[a4,nG];rfl⟩ (by repeat (first|exact b4|refine bC.upd rfl ?_))
   have c8:j=es.length:=by have:=aE F;omega
   clear F;rw[c8,dV]at y;refine cH ?_;simp only[RR,seval];refine aA fun K b=>?_;simp only[q,v,RR,seval];refine b _ _ (bN fun F6 M6 c X=>?_);have R:=c 0;have S:=c 2;have T:=c 3;have U:=c 4;have g5:=c 5;have g6:=c 6;have g7:=c 7;have D:=c 34;have E:=X w;simp only[m,o,f,g,q,r,y,v,RR,seval]at R S T U g5 g6 g7 D E;have p:bC [0,2] J F6:=bC.same c (by repeat (first|exact p|refine bC.upd rfl ?_));have m:=R;have o:=S;have f:=T;have g:=U;have q:=g5;have y:=g6;have r:=g7;have v:=E;refine gP (fun z M=>bC [0,2,4,5,6,7,34] F6 z∧M w=M6 w∧z 3= .str (P++B)) (fun c9 V=>?_) ?_
   ·have L:=bC.refl [0,2,4,5,6,7,34] F6
    have O:M6 w=M6 w:=rfl;refine aQ (aA fun K b=>?_);simp only[D,RR,seval];refine b _ _ (aX ?_ ?_)<;>intro a6
    ·obtain rfl:=aD a6
     have i:B=iI es++([58]++nm):=by rw[←A];simp [nY]
     rw[i]at n;simp only[aB,aJ,aT]at n;have e0:(P).length+(iI es).length≤maxLen:=by unfold maxLen;(skip);omega
     have e1:(P++iI es).length+1≤maxLen:=by unfold maxLen;(simp only[aB]);omega
     have e2:(P++iI es++[58]).length+(nm).length≤maxLen:=by unfold maxLen;(simp only[aB,aJ,aT]);omega
     refine aM ?_;simp only[*,RR,seval];refine V _ _ ⟨(by repeat (first|exact L|refine bC.upd rfl ?_)),O, ?_⟩;rw[i];simp only[aS,seval,bV,cU,cC]
    refine aA fun K b=>?_;simp only[D,RR,seval];refine b _ _ (aX ?_ ?_)<;>intro a7
    ·obtain rfl:=aD a7
     have i:B=iI es++[35]:=by rw[←A];simp [nY]
     rw[i]at n;simp only[aB,aJ,aT]at n;have d1:(P).length+(iI es).length≤maxLen:=by unfold maxLen;(skip);omega
     have d2:(P++iI es).length+1≤maxLen:=by unfold maxLen;(simp only[aB]);omega
     refine aM ?_;simp only[*,RR,seval];refine V _ _ ⟨(by repeat (first|exact L|refine bC.upd rfl ?_)),O, ?_⟩;rw[i];simp only[aS,seval,bV]
    refine aA fun K b=>?_;simp only[D,RR,seval];refine b _ _ (aX ?_ ?_)<;>intro a8
    ·obtain rfl:=aD a8
     have i:B=iI es++[46]:=by rw[←A];simp [nY]
     rw[i]at n;simp only[aB,aJ,aT]at n;have d3:(P).length+(iI es).length≤maxLen:=by unfold maxLen;(skip);omega
     have d4:(P++iI es).length+1≤maxLen:=by unfold maxLen;(simp only[aB]);omega
     refine aM ?_;simp only[*,RR,seval];refine V _ _ ⟨(by repeat (first|exact L|refine bC.upd rfl ?_)),O, ?_⟩;rw[i];simp only[aS,seval,bV]
    refine aA fun K b=>?_;simp only[D,RR,seval];refine b _ _ (aX ?_ ?_)<;>intro a9
    ·obtain rfl:=aD a9
     have i:B=iI es++([73]++(iL C++[70])):=by rw[←A];simp [nY]
     rw[i]at n;simp only[aB,aJ,aT]at n;have a3:=a1 (.inl rfl);have d5:(P).length+(iI es).length≤maxLen:=by unfold maxLen;(skip);omega
     have d6:(P++iI es).length+1≤maxLen:=by unfold maxLen;(simp only[aB]);omega
     have b9:(P++iI es++[73]).length+(iL C).length≤maxLen:=by unfold maxLen;(simp only[aB,aJ,aT]);omega
     have c0:(P++iI es++[73]++iL C).length+1≤maxLen:=by unfold maxLen;(simp only[aB,aJ,aT]);omega
     refine aM ?_;simp only[*,RR,seval];refine aI (a3) ?_;simp only[b9,c0,RR,seval];refine V _ _ ⟨(by repeat (first|exact L|refine bC.upd rfl ?_)),O, ?_⟩;rw[i];simp only[aS,seval,bV,cU,cC]
    obtain rfl:kd=5:=by
     have H:=aE a6;have I:=aE a7;have h3:=aE a8;have h4:=aE a9;omega
    have i:B=[87]++(iI es++([68]++(iL C++[69]))):=by rw[←A];simp [nY]
    rw[i]at n;simp only[aB,aJ,aT]at n;have a3:=a1 (.inr rfl);have d7:(P).length+1≤maxLen:=by unfold maxLen;(skip);omega
    have d8:(P++[87]).length+(iI es).length≤maxLen:=by unfold maxLen;(simp only[aB,aJ,aT]);omega
    have d9:(P++[87]++iI es).length+1≤maxLen:=by unfold maxLen;(simp only[aB,aJ,aT]);omega
    have c1:(P++[87]++iI es++[68]).length+(iL C).length≤maxLen:=by unfold maxLen;(simp only[aB,aJ,aT]);omega
    have c2:(P++[87]++iI es++[68]++iL C).length+1≤maxLen:=by unfold maxLen;(simp only[aB,aJ,aT]);omega
    refine aM ?_;simp only[*,RR,seval];refine aI (a3) ?_;simp only[c1,c2,RR,seval];refine V _ _ ⟨(by repeat (first|exact L|refine bC.upd rfl ?_)),O, ?_⟩;rw[i];simp only[aS,seval,bV,cU,cC]
   rintro b3 d0 ⟨d,E,f⟩;have m:=(d 0 rfl).trans m;have o:=(d 2 rfl).trans o;have g:=(d 4 rfl).trans g;have q:=(d 5 rfl).trans q;have y:=(d 6 rfl).trans y;have r:=(d 7 rfl).trans r;have D:=(d 34 rfl).trans D;have v:=E.trans v;have p:bC [0,2] J b3:=bC.sub d rfl p;clear d;simp only[RR,seval];refine aM ?_;simp only[g,RR,seval];rw[aU _ (by omega)];refine b7 _ _ G ⟨by rfl,by rw[a5,tC,hP,A];exact f⟩ (by repeat (first|exact p|refine bC.upd rfl ?_))
  have c7:k=l.length:=by have:=aE F;omega
  rw[c7,dV]at f;refine cH ?_;simp only[RR,seval];refine aA fun K b=>?_;simp only[f,RR,seval];apply b;refine aP ?_;simp only[aY,aK,bP,RR,seval];refine bB.pure ?_;rfl
theorem Zi {F:Nat→Prop} {f:List (Option Nat)} {Q:fF} {d:Option Nat} {j:List Oper} {g:Fr} {H:Hp} {b:Nat} {a:List UInt8}
  (n:mZ b a H) (m: ∀b,F b) (h: ∀c,(∀x o,H x=some o→qJ o→c x=some o)→eC dR F f Q j (fH g d (.str a)) c):pC dR F f Q d j g H 30 [.ptr 2 b 0 0]:=by
 obtain⟨k,p,s,r⟩:=n.least;refine kW (J7 b a k p) (gK.refl _) s (fun b _=>m b) fun u t ⟨e,l⟩ v=>?_;subst e;subst l;refine h _ fun x o i q=>?_;simp only[kT,oN,r x o i q,fS,cK,dT,i]
theorem Hy {p:Pg} (b:p.ok) (h:iF (fun l=>l.all zC) p=true): ∃f,p.funs=[f]∧zG f.body∧jG f.body 1=true∧f.body.all zC=true:=by
 obtain⟨f,a⟩:=Hw h;exact⟨f,a.funs,(b.funs f (by rw[a.funs];exact bE.2 rfl)).body,a.right,a.kinds⟩
theorem Xp (p:Pg) (z:p.ok) (r: ∀f∈p.funs,iF (fun l=>l.all zC) p=true→(iL f.body).length≤1000000000000) (k:eG dR 14 [p.av] (.bool (iF (fun l=>l.all zC) p))):eG dR 12 [p.av] (.tup [.str (BW p).1, .int .i64 (BW p).2]):=by
 have c:BW p=if iF (fun l=>l.all zC) p=true then(match p.funs with |f::_=>iL f.body++[36]|[]=>[36],0)else([],1):=rfl
 cases hq:iF (fun l=>l.all zC) p with
 |false=>
  rw[hq]at c k;simp only[cK,dT]at c;rw[c];obtain⟨n,j,w⟩:=p;simp only[Pg.av,Pg.row]at *;refine bU 18 [.tmp 2, .tmp 3] func12 ?_;refine aA fun K a=>?_;simp only[RR,seval];refine aN fun d y=>?_;simp only[RR,seval];refine a _ _ (aH (aA fun K a=>?_));simp only[RR,seval];refine aI (k) ?_;simp only[RR,seval];refine a _ _ (cM (aA fun K a=>?_));simp only[RR,seval];apply a;refine aP ?_;simp only[aY,aK,bP,RR,seval];refine bB.pure ?_;rfl
 |true=>
  rw[hq]at c k;simp only[cQ]at c;obtain⟨f,m,u,A,I⟩:=Hy z hq;have L:=r f (by rw[m];exact bE.2 rfl) hq;rw[m]at c;simp only at c;rw[c];have C:=fun b v r=>Hf f.body u.fit (fun e s=>V0 _ e 1 (aZ _) (u.all e s) (vY A e s)) b v r;obtain⟨n,j,w⟩:=p;simp only at m;subst m;simp only[Pg.av,Pg.row]at *;have B:f.row=[.str f.name, .isl 1 (f.params.map bT), .isl 1 (f.locs.map bT), .bool f.word, .isl 5 (f.body.map Sm.row)]:=rfl;have M:(0:Int)<(([f]:List Fu).length:Int):=by simp
  have H:([f].map Fu.row)[0]?=some [.str f.name, .isl 1 (f.params.map bT), .isl 1 (f.locs.map bT), .bool f.word, .isl 5 (f.body.map Sm.row)]:=tP rfl;generalize iL f.body=D at *;refine bU 18 [.tmp 2, .tmp 3] func12 ?_;refine aA fun K a=>?_;simp only[B,RR,seval];refine aN fun d y=>?_;simp only[RR,seval];refine a _ _ (aH (aA fun K a=>?_));simp only[RR,seval];refine aI (k) ?_;simp only[RR,seval];refine a _ _ (bK ?_);refine aL ?_;simp only[RR];refine aG fun K a=>?_;refine OP (by kernel_rfl) CP rfl fun g t=>?_;simp only[iM];have h:mZ g [] (upd (upd oN d (some (.rows 3 [[.isl 1 (n.map bT), .isl 2 (j.map Ar.row), .isl 5 [[.str f.name, .isl 1 (f.params.map bT), .isl 1 (f.locs.map bT), .bool f.word, .isl 5 (f.body.map Sm.row)]]]]))) g (some (.bld TB none 0))):= .inl ⟨rfl,bO _ _ _⟩
  have i:(upd (upd oN d (some (.rows 3 [[.isl 1 (n.map bT), .isl 2 (j.map Ar.row), .isl 5 [[.str f.name, .isl 1 (f.params.map bT), .isl 1 (f.locs.map bT), .bool f.word, .isl 5 (f.body.map Sm.row)]]]]))) g (some (.bld TB none 0))) d=some (.rows 3 [[.isl 1 (n.map bT), .isl 2 (j.map Ar.row), .isl 5 [[.str f.name, .isl 1 (f.params.map bT), .isl 1 (f.locs.map bT), .bool f.word, .isl 5 (f.body.map Sm.row)]]]]):=by
   rw[cG _ _ (fun e=>by rw[←e,bO]at t;cases t)];exact bO _ _ _
  refine a _ _ (aA fun K a=>?_);simp only[i,RR,seval];refine gQ h (C g [] (by simp only[cC];omega)) (gK.refl _) (fun _=>trivial) fun E h q x=>?_;have o:=q d _ i trivial;have i:=o;simp only[RR,seval];refine a _ _ (aA fun K a=>?_);simp only[RR,seval];refine gQ h (fE g ([]++D) [36] (by simp only[aB,aJ,aT];omega)) (gK.refl _) (fun _=>trivial) fun F h q x=>?_;have o:=q d _ i trivial;have i:=o;simp only[RR,seval];refine a _ _ (aA fun K a=>?_);simp only[RR,seval];refine Zi h (fun _=>trivial) fun G J=>?_;simp only[RR,seval];apply a;refine aP ?_;simp only[aY,aK,bP,RR,seval];refine bB.pure ?_;rfl
theorem AB (p:Pg) (e:p.ok) (k:fZ p=true→p.few) (n: ∀f∈p.funs,iF (fun l=>l.all zC) p=true→(iL f.body).length≤1000000000000):eG dR 13 [p.av] (.tup [.str (BW p).1, .int .i64 (BW p).2]):=by
 have c:=zJ p e k;rw[←zB]at c;have b:BW p=if iF (fun l=>l.all zC) p=true then(match p.funs with |f::_=>iL f.body++[36]|[]=>[36],0)else([],1):=rfl
 cases hq:iF (fun l=>l.all zC) p with
 |false=>
  rw[hq]at b c;simp only[cK,dT]at b;rw[b];obtain⟨v,g,i⟩:=p;simp only[Pg.av,Pg.row]at *;refine bU 14 [.tmp 2, .tmp 3] func13 ?_;refine aA fun K a=>?_;simp only[RR,seval];refine aN fun h o=>?_;simp only[RR,seval];refine a _ _ (aH (aA fun K a=>?_));simp only[RR,seval];refine aI (c) ?_;simp only[RR,seval];refine a _ _ (cM (aA fun K a=>?_));simp only[RR,seval];apply a;refine aP ?_;simp only[aY,aK,bP,RR,seval];refine bB.pure ?_;rfl
 |true=>
  rw[hq]at b c;simp only[cQ]at b;obtain⟨f,d,q,r,m⟩:=Hy e hq;have x:=n f (by rw[d];exact bE.2 rfl) hq;rw[d]at b;simp only at b;rw[b];have t:=Yc _ f.body 1 (aZ _) q r m (by omega);obtain⟨v,g,i⟩:=p;simp only at d;subst d;simp only[Pg.av,Pg.row]at *;have s:f.row=[.str f.name, .isl 1 (f.params.map bT), .isl 1 (f.locs.map bT), .bool f.word, .isl 5 (f.body.map Sm.row)]:=rfl;have y:(0:Int)<(([f]:List Fu).length:Int):=by simp
  have w:([f].map Fu.row)[0]?=some [.str f.name, .isl 1 (f.params.map bT), .isl 1 (f.locs.map bT), .bool f.word, .isl 5 (f.body.map Sm.row)]:=tP rfl;generalize iL f.body=u at *;have j:u.length+1≤maxLen:=by unfold maxLen;omega
  refine bU 14 [.tmp 2, .tmp 3] func13 ?_;refine aA fun K a=>?_;simp only[s,RR,seval];refine aN fun h o=>?_;simp only[RR,seval];refine a _ _ (aH (aA fun K a=>?_));simp only[RR,seval];refine aI (c) ?_;simp only[RR,seval];refine a _ _ (bK ?_);refine aL ?_;simp only[RR];refine aA fun K a=>?_;simp only[RR,seval];refine aI (t) ?_;simp only[j,RR,seval];apply a;refine aP ?_;simp only[aY,aK,bP,RR,seval];refine bB.pure ?_;rfl
theorem EX:type_of% (And.intro RR<|And.intro @IntKind.wrap_i64<|And.intro @gV.{0}<|And.intro @gN.{0}<|And.intro @jV.{0}<|And.intro @dP.{0}<|And.intro @eq_self.{1} rZ):=And.intro RR<|And.intro @IntKind.wrap_i64<|And.intro @gV<|And.intro @gN<|And.intro @jV<|And.intro @dP<|And.intro @eq_self rZ
theorem OK:eG dR 83 [.str [97]] (.bool true)∧eG dR 83 [.str [109,97,105,110]] (.bool true):=by
 have hf:(1:Nat)≠2:=by decide
 refine⟨?_, ?_⟩<;>
  (repeat' first
    |refine pK fun K hK=>?_
    |(refine hK _ _ ?_;clear hK)
    |refine aG fun K hK=>?_
    |(refine aM ?_;simp only[hf,EX,seval])
    |refine cM ?_
    |refine bK ?_
    |(refine aL ?_;simp only[RR])
    |refine aQ ?_
    |refine lY 20 ?_
    |(refine cH ?_;simp only[RR,seval])
    |(refine aN fun b hn=>?_;have hf:=And.intro hn hf;clear hn;simp only[mD,mH,sW,LR]at hf;simp only[hf,EX,seval])
    |(refine dG ?_;simp only[hf,EX,seval])
    |refine kV fun R hR=>bU 26 [.tmp 2] func124 ?_
    |refine kV fun R hR=>bU 17 [.tmp 2] func183 ?_
    |refine kV fun R hR=>bU 22 [.tmp 4] func184 ?_
    |refine kV fun R hR=>bU 13 [.tmp 2] func185 ?_
    |refine kV fun R hR=>bU 9 [.tmp 2] func224 ?_
    |refine kV fun R hR=>bU 13 [.tmp 2] func186 ?_
    |(refine aP ?_;simp only[aY,aK,bP,hf,EX,seval];first|(refine bB.any (hR _ ?_);clear hR;simp only[hf,EX,seval])|(refine bB.pure ?_;rfl))
    |refine bU 17 [.tmp 2] func83 ?_
    |clear hK)
theorem TS:eG dR 188 [.agg [.int .i64 5, .int .i64 0, .int .u32 0, .str [], .isl 5 []]] (.bool true)∧eG dR 188 [.agg [.int .i64 2, .int .i64 0, .int .u32 0, .str [97], .isl 5 []]] (.bool true)∧eG dR 188 [.agg [.int .i64 1, .int .i64 0, .int .u32 256, .str [], .isl 5 []]] (.bool true)∧eG dR 188 [.agg [.int .i64 6, .int .i64 14, .int .u32 0, .str [], .isl 5 [[.int .i64 2, .int .i64 0, .int .u32 0, .str [97], .isl 5 []],[.int .i64 1, .int .i64 0, .int .u32 256, .str [], .isl 5 []]]]] (.bool true)∧eG dR 125 [.agg [.int .i64 1, .str [97], .isl 5 [[.int .i64 5, .int .i64 0, .int .u32 0, .str [], .isl 5 []]], .isl 5 [], .isl 5 []]] (.bool true)∧eG dR 125 [.agg [.int .i64 3, .str [], .isl 5 [[.int .i64 2, .int .i64 0, .int .u32 0, .str [97], .isl 5 []]], .isl 5 [], .isl 5 []]] (.bool true)∧eG dR 125 [.agg [.int .i64 5, .str [], .isl 5 [[.int .i64 6, .int .i64 14, .int .u32 0, .str [], .isl 5 [[.int .i64 2, .int .i64 0, .int .u32 0, .str [97], .isl 5 []],[.int .i64 1, .int .i64 0, .int .u32 256, .str [], .isl 5 []]]]], .isl 5 [[.int .i64 3, .str [], .isl 5 [[.int .i64 2, .int .i64 0, .int .u32 0, .str [97], .isl 5 []]], .isl 5 [], .isl 5 []],[.int .i64 1, .str [97], .isl 5 [[.int .i64 5, .int .i64 0, .int .u32 0, .str [], .isl 5 []]], .isl 5 [], .isl 5 []]], .isl 5 []]] (.bool true):=by
 obtain⟨p0_0,p0_1⟩:=OK;have hf:(1:Nat)≠2:=by decide
 refine⟨?_, ?_, ?_, ?_, ?_, ?_, ?_⟩<;>
  (repeat' first
    |refine pK fun K hK=>?_
    |(refine hK _ _ ?_;clear hK)
    |refine aG fun K hK=>?_
    |(refine aM ?_;simp only[hf,EX,seval])
    |refine cM ?_
    |refine bK ?_
    |(refine aL ?_;simp only[RR])
    |refine aQ ?_
    |refine lY 20 ?_
    |(refine cH ?_;simp only[RR,seval])
    |(refine aN fun b hn=>?_;have hf:=And.intro hn hf;clear hn;simp only[mD,mH,sW,LR]at hf;simp only[hf,EX,seval])
    |(refine dG ?_;simp only[hf,EX,seval])
    |(refine aI p0_0 ?_;simp only[hf,EX,seval])
    |(refine aI p0_1 ?_;simp only[hf,EX,seval])
    |refine kV fun R hR=>bU 10 [.tmp 4] func187 ?_
    |(refine aP ?_;simp only[aY,aK,bP,hf,EX,seval];first|(refine bB.any (hR _ ?_);clear hR;simp only[hf,EX,seval])|(refine bB.pure ?_;rfl))
    |refine bU 73 [.tmp 2] func188 ?_
    |refine bU 59 [.tmp 2] func125 ?_
    |clear hK)
theorem WZ:eG dR 126 [.isl 5 [[.int .i64 5, .int .i64 0, .int .u32 0, .str [], .isl 5 []]], .int .i64 2] (.bool true)∧eG dR 126 [.isl 5 [[.int .i64 5, .int .i64 0, .int .u32 0, .str [], .isl 5 []]], .int .i64 3] (.bool true)∧eG dR 126 [.isl 5 [[.int .i64 2, .int .i64 0, .int .u32 0, .str [97], .isl 5 []]], .int .i64 3] (.bool true)∧eG dR 126 [.isl 5 [[.int .i64 6, .int .i64 14, .int .u32 0, .str [], .isl 5 [[.int .i64 2, .int .i64 0, .int .u32 0, .str [97], .isl 5 []],[.int .i64 1, .int .i64 0, .int .u32 256, .str [], .isl 5 []]]]], .int .i64 2] (.bool true):=by
 obtain⟨p0_0,p0_1⟩:=OK;obtain⟨p1_0,p1_1,p1_2,p1_3,p1_4,p1_5,p1_6⟩:=TS;have hf:(1:Nat)≠2:=by decide
 refine⟨?_, ?_, ?_, ?_⟩<;>
  (repeat' first
    |refine pK fun K hK=>?_
    |(refine hK _ _ ?_;clear hK)
    |refine aG fun K hK=>?_
    |(refine aM ?_;simp only[hf,EX,seval])
    |refine cM ?_
    |refine bK ?_
    |(refine aL ?_;simp only[RR])
    |refine aQ ?_
    |refine lY 20 ?_
    |(refine cH ?_;simp only[RR,seval])
    |(refine aN fun b hn=>?_;have hf:=And.intro hn hf;clear hn;simp only[mD,mH,sW,LR]at hf;simp only[hf,EX,seval])
    |(refine dG ?_;simp only[hf,EX,seval])
    |(refine aI p1_0 ?_;simp only[hf,EX,seval])
    |(refine aI p1_1 ?_;simp only[hf,EX,seval])
    |(refine aI p1_2 ?_;simp only[hf,EX,seval])
    |(refine aI p1_3 ?_;simp only[hf,EX,seval])
    |refine kV fun R hR=>bU 32 [.tmp 4] func126 ?_
    |(refine aP ?_;simp only[aY,aK,bP,hf,EX,seval];first|(refine bB.any (hR _ ?_);clear hR;simp only[hf,EX,seval])|(refine bB.pure ?_;rfl))
    |refine bU 32 [.tmp 4] func126 ?_
    |clear hK)
theorem WY:eG dR 57 [.agg [.isl 1 [[.str [97]]], .isl 2 [], .isl 5 [[.str [109,97,105,110], .isl 1 [], .isl 1 [], .bool false, .isl 5 [[.int .i64 1, .str [97], .isl 5 [[.int .i64 5, .int .i64 0, .int .u32 0, .str [], .isl 5 []]], .isl 5 [], .isl 5 []],[.int .i64 5, .str [], .isl 5 [[.int .i64 6, .int .i64 14, .int .u32 0, .str [], .isl 5 [[.int .i64 2, .int .i64 0, .int .u32 0, .str [97], .isl 5 []],[.int .i64 1, .int .i64 0, .int .u32 256, .str [], .isl 5 []]]]], .isl 5 [[.int .i64 3, .str [], .isl 5 [[.int .i64 2, .int .i64 0, .int .u32 0, .str [97], .isl 5 []]], .isl 5 [], .isl 5 []],[.int .i64 1, .str [97], .isl 5 [[.int .i64 5, .int .i64 0, .int .u32 0, .str [], .isl 5 []]], .isl 5 [], .isl 5 []]], .isl 5 []]]]]]] (.bool true):=by
 obtain⟨p0_0,p0_1⟩:=OK;obtain⟨p1_0,p1_1,p1_2,p1_3,p1_4,p1_5,p1_6⟩:=TS;obtain⟨p2_0,p2_1,p2_2,p2_3⟩:=WZ;have hf:(1:Nat)≠2:=by decide
 repeat' first
  |refine pK fun K hK=>?_
  |(refine hK _ _ ?_;clear hK)
  |refine aG fun K hK=>?_
  |(refine aM ?_;simp only[hf,EX,seval])
  |refine cM ?_
  |refine bK ?_
  |(refine aL ?_;simp only[RR])
  |refine aQ ?_
  |refine lY 20 ?_
  |(refine cH ?_;simp only[RR,seval])
  |(refine aN fun b hn=>?_;have hf:=And.intro hn hf;clear hn;simp only[mD,mH,sW,LR]at hf;simp only[hf,EX,seval])
  |(refine dG ?_;simp only[hf,EX,seval])
  |(refine aI p0_0 ?_;simp only[hf,EX,seval])
  |(refine aI p0_1 ?_;simp only[hf,EX,seval])
  |(refine aI p1_0 ?_;simp only[hf,EX,seval])
  |(refine aI p1_1 ?_;simp only[hf,EX,seval])
  |(refine aI p1_2 ?_;simp only[hf,EX,seval])
  |(refine aI p1_3 ?_;simp only[hf,EX,seval])
  |(refine aI p1_4 ?_;simp only[hf,EX,seval])
  |(refine aI p1_5 ?_;simp only[hf,EX,seval])
  |(refine aI p1_6 ?_;simp only[hf,EX,seval])
  |(refine aI p2_0 ?_;simp only[hf,EX,seval])
  |(refine aI p2_1 ?_;simp only[hf,EX,seval])
  |(refine aI p2_2 ?_;simp only[hf,EX,seval])
  |(refine aI p2_3 ?_;simp only[hf,EX,seval])
  |refine kV fun R hR=>bU 46 [.tmp 4] func84 ?_
  |refine kV fun R hR=>bU 32 [.tmp 4] func126 ?_
  |refine kV fun R hR=>bU 15 [.tmp 2] func82 ?_
  |(refine aP ?_;simp only[aY,aK,bP,hf,EX,seval];first|(refine bB.any (hR _ ?_);clear hR;simp only[hf,EX,seval])|(refine bB.pure ?_;rfl))
  |refine bU 79 [.tmp 2] func57 ?_
  |clear hK
theorem YO:eG dR 57 [.agg [.isl 1 [], .isl 2 [], .isl 5 []]] (.bool false):=by
 obtain⟨p0_0,p0_1⟩:=OK;obtain⟨p1_0,p1_1,p1_2,p1_3,p1_4,p1_5,p1_6⟩:=TS;obtain⟨p2_0,p2_1,p2_2,p2_3⟩:=WZ;have p3_0:=WY;have hf:(1:Nat)≠2:=by decide
 repeat' first
  |refine pK fun K hK=>?_
  |(refine hK _ _ ?_;clear hK)
  |refine aG fun K hK=>?_
  |(refine aM ?_;simp only[hf,EX,seval])
  |refine cM ?_
  |refine bK ?_
  |(refine aL ?_;simp only[RR])
  |refine aQ ?_
  |refine lY 20 ?_
  |(refine cH ?_;simp only[RR,seval])
  |(refine aN fun b hn=>?_;have hf:=And.intro hn hf;clear hn;simp only[mD,mH,sW,LR]at hf;simp only[hf,EX,seval])
  |(refine dG ?_;simp only[hf,EX,seval])
  |(refine aI p0_0 ?_;simp only[hf,EX,seval])
  |(refine aI p0_1 ?_;simp only[hf,EX,seval])
  |(refine aP ?_;simp only[aY,aK,bP,hf,EX,seval];refine bB.pure ?_;rfl)
  |refine bU 79 [.tmp 2] func57 ?_
  |clear hK
theorem JY:eG dR 57 [.agg [.isl 1 [[.str [97]]], .isl 2 [], .isl 5 [[.str [109,97,105,110], .isl 1 [], .isl 1 [], .bool false, .isl 5 [[.int .i64 1, .str [97], .isl 5 [[.int .i64 5, .int .i64 0, .int .u32 0, .str [], .isl 5 []]], .isl 5 [], .isl 5 []],[.int .i64 5, .str [], .isl 5 [[.int .i64 6, .int .i64 14, .int .u32 0, .str [], .isl 5 [[.int .i64 2, .int .i64 0, .int .u32 0, .str [97], .isl 5 []],[.int .i64 1, .int .i64 0, .int .u32 256, .str [], .isl 5 []]]]], .isl 5 [[.int .i64 3, .str [], .isl 5 [[.int .i64 2, .int .i64 0, .int .u32 0, .str [97], .isl 5 []]], .isl 5 [], .isl 5 []],[.int .i64 1, .str [97], .isl 5 [[.int .i64 5, .int .i64 0, .int .u32 0, .str [], .isl 5 []]], .isl 5 [], .isl 5 []]], .isl 5 []]]]]]] (.bool true):=WY
theorem OI:eG dR 57 [.agg [.isl 1 [], .isl 2 [], .isl 5 []]] (.bool false):=YO
theorem Qa (p:Pg) (e:eG dR 57 [p.av] (.bool (fZ p))) (c:fZ p=true→eG dR 58 [p.av] (.int .i64 (lW p))) (d:fZ p=true→eG dR 59 [p.av] (.int .i64 (qP p))):eG dR 32 [p.av] (.int .i64 (gZ p)):=by
 have b:gZ p=if fZ p=true then(if lW p=0 then qP p else lW p)else 7:=rfl
 generalize gZ p=l at *;generalize qP p=k at *;generalize lW p=j at *;generalize fZ p=i at *;simp only[Pg.av,Pg.row]at *
 cases i with
 |false=>
  refine bU 14 [.tmp 2] func32 ?_;refine aA fun K a=>?_;simp only[RR,seval];refine aN fun g h=>?_;simp only[RR,seval];refine a _ _ (aH (aA fun K a=>?_));simp only[RR,seval];refine aI (e) ?_;simp only[RR,seval];refine a _ _ (cM (aA fun K a=>?_));simp only[RR,seval];apply a;refine aP ?_;simp only[aY,aK,bP,RR,seval];refine bB.pure ?_;rw[b];rfl
 |true=>
  have c:=c rfl;have d:=d rfl;rw[bF rfl]at b;refine bU 14 [.tmp 2] func32 ?_;refine aA fun K a=>?_;simp only[RR,seval];refine aN fun g h=>?_;simp only[RR,seval];refine a _ _ (aH (aA fun K a=>?_));simp only[RR,seval];refine aI (e) ?_;simp only[RR,seval];refine a _ _ (bK ?_);refine aL ?_;simp only[RR];refine aH (aA fun K a=>?_);simp only[RR,seval];refine aI (c) ?_;simp only[RR,seval];refine a _ _ (aA fun K a=>?_);simp only[RR,seval];refine a _ _ (aX ?_ ?_)<;>intro f
  ·refine aA fun K a=>?_
   simp only[RR,seval];apply a;refine aP ?_;simp only[aY,aK,bP,RR,seval];refine bB.pure ?_;rw[b,aO (by simpa using f)]
  refine aL ?_;try simp only[RR]
  refine aA fun K a=>?_;simp only[RR,seval];refine aI (d) ?_;simp only[RR,seval];apply a;refine aP ?_;simp only[aY,aK,bP,RR,seval];refine bB.pure ?_;rw[b,bF (by simpa using f)]
theorem Yd {H:Hp} {b:Nat} {o:iG} (h:H b=some o):sD (upd oN b (some o)) H:=fun b' o' e=>by
 unfold upd at e;split at e
 ·rename_i e2;cases e;rw[e2];exact h
 cases e
theorem Zh {E:kB} {Q:fF} {fr:Fr} {H:Hp} {F:Nat→Prop} {ds:List (Option Nat)} {d:Option Nat} {rest:List Oper} {g:FuncId} {args:List AV} {v:Nat→AV} {o:iG}
  (hc:pP E g args oN (fun ae H'=> ∃b,ae= .ret (v b)∧H'=upd oN b (some o))) (h: ∀b,H b=none→eC E F ds Q rest (fH fr d (v b)) (upd H b (some o))):pC E F ds Q d rest fr H g args:=by
 refine kW hc (gK.refl _) (qK _) (fun b hb=>absurd rfl hb) fun ae H' hr hb=>?_;obtain⟨b,rfl,rfl⟩:=hr
 have hn:H b=none:=by
  rcases hb b (by simp [upd])with h1|h1
  ·exact absurd rfl h1
  exact h1
 have hj:kT (upd oN b (some o)) oN H=upd H b (some o):=by
  funext k;by_cases e:k=b<;>simp [kT,upd,e,oN]
 simp only[hj];exact h b hn
theorem JH {H0 H1:Hp} {b:Nat} {o:Option iG} (h:H0 b=none) (h1:sD H0 H1):sD H0 (upd H1 b o):=fun b' o' e=>by
 unfold upd;split
 ·rename_i e2;rw[e2,h]at e;cases e
 exact h1 _ _ e
theorem OQ {E:kB} {Q:fF} {fr:Fr} {H:Hp} {F:Nat→Prop} {ds:List (Option Nat)} {d:Option Nat} {rest:List Oper} {g:FuncId} {args:List AV} (hF: ∀b,F b)
  (h: ∀R:sJ→Hp→Prop,(∀v,eC E F ds Q rest (fH fr d v) H→R (.ret v) H)→pP E g args H R):pC E F ds Q d rest fr H g args:=by
 refine kW (R:=fun ae H'=>H'=H∧ ∃v,ae= .ret v∧eC E F ds Q rest (fH fr d v) H) (h _ fun v hv=>⟨rfl,v,rfl,hv⟩) (gK.refl _) (fun b o h=>h) (fun b _=>hF b) fun ae H' hr _=>?_;obtain⟨rfl,v,rfl,hv⟩:=hr;simp only[zL];exact hv
theorem Vt {α:Type} {f:Nat→α} {i:Nat} {v u:α}:upd (upd f i v) i u=upd f i u:=by
 funext j;unfold upd;split<;>rfl
theorem Bm:type_of% (And.intro EX<|And.intro @List.cons.injEq.{0}<|And.intro @decide_false<|And.intro @sW<|And.intro @true_and<|And.intro @and_false<|And.intro @false_and<|And.intro @sI.{0}<|And.intro @List.set_cons_succ.{0}<|And.intro @cC.{0}<|And.intro @cU.{0}<|And.intro @eE.{0,0}<|And.intro @jF.{0,0}<|And.intro @mM.{0}<|And.intro @Vt @mK.{0}):=And.intro EX<|And.intro @List.cons.injEq.{0}<|And.intro @decide_false<|And.intro @sW<|And.intro @true_and<|And.intro @and_false<|And.intro @false_and<|And.intro @sI.{0}<|And.intro @List.set_cons_succ.{0}<|And.intro @cC.{0}<|And.intro @cU.{0}<|And.intro @eE.{0,0}<|And.intro @jF.{0,0}<|And.intro @mM.{0}<|And.intro @Vt @mK.{0}
theorem G6:pP dR 85 [.agg [.isl 1 [[.str [97]]], .isl 2 [], .isl 5 [[.str [109,97,105,110], .isl 1 [], .isl 1 [], .bool false, .isl 5 [[.int .i64 1, .str [97], .isl 5 [[.int .i64 5, .int .i64 0, .int .u32 0, .str [], .isl 5 []]], .isl 5 [], .isl 5 []],[.int .i64 5, .str [], .isl 5 [[.int .i64 6, .int .i64 14, .int .u32 0, .str [], .isl 5 [[.int .i64 2, .int .i64 0, .int .u32 0, .str [97], .isl 5 []],[.int .i64 1, .int .i64 0, .int .u32 256, .str [], .isl 5 []]]]], .isl 5 [[.int .i64 3, .str [], .isl 5 [[.int .i64 2, .int .i64 0, .int .u32 0, .str [97], .isl 5 []]], .isl 5 [], .isl 5 []],[.int .i64 1, .str [97], .isl 5 [[.int .i64 5, .int .i64 0, .int .u32 0, .str [], .isl 5 []]], .isl 5 [], .isl 5 []]], .isl 5 []]]]]]] oN (fun ae H'=> ∃b,ae= .ret (.tup [.mp b, .bool true])∧H'=upd oN b (some (.amap [(.str [97], .agg [.int .i64 2, .int .i64 0]),(.str [109,97,105,110], .agg [.int .i64 4, .int .i64 0])]))):=by
 have hf:(1:Nat)≠2:=by decide
 repeat' first
  |(with_reducible show mB _ _ _ _ _ _
    first
     |refine aG fun K hK=>?_
     |(refine aM ?_;simp only[hf,nV,nU,iR,reduceCtorEq,Bm,seval])
     |refine cM ?_
     |refine bK ?_
     |(refine aL ?_;simp only[RR])
     |refine aQ ?_
     |(refine cH ?_;simp only[RR,seval])
     |(refine aP ?_;simp only[aY,aK,bP,hf,nV,nU,iR,reduceCtorEq,Bm,seval];first|(refine bB.self (hR _ _ ?_);clear hR;simp only[hf,nV,nU,iR,reduceCtorEq,Bm,seval])|(refine⟨_,upd oN _ (some _),kY.drop (Yd ?_),_,rfl,rfl⟩;simp only[hf,nV,nU,iR,reduceCtorEq,Bm,seval]))
     |refine lY 20 ?_
     |(refine gF (fun _=>False) [(0,true),(1,true),(2,true),(3,true)] eB (by kernel_rfl) rfl ?_;simp only[uW,hf,nV,nU,iR,reduceCtorEq,Bm,seval]))
  |(with_reducible refine hK _ _ ?_;clear hK)
  |with_reducible refine pK fun K hK=>?_
  |(with_reducible refine aN fun b hn=>?_;have hf:=And.intro hn hf;clear hn;simp only[mD,mH,sW,LR]at hf;simp only[hf,nV,nU,iR,reduceCtorEq,Bm,seval])
  |(with_reducible show pC _ _ _ _ _ _ _ _ _ _
    first
     |refine xW (fun _=>trivial) fun R hR=>bU 18 [] func127 ?_)
  |(with_reducible refine dG ?_;simp only[hf,nV,nU,iR,reduceCtorEq,Bm,seval])
  |(simp only[aY,aK,bP,hf,nV,nU,iR,reduceCtorEq,Bm,seval];refine bB.self (hR _ _ ?_);clear hR;simp only[hf,nV,nU,iR,reduceCtorEq,Bm,seval])
  |refine bU 61 [.tmp 2, .tmp 3] func85 ?_
  |clear hK
theorem Y5:pP dR 86 [.agg [.str [109,97,105,110], .isl 1 [], .isl 1 [], .bool false, .isl 5 [[.int .i64 1, .str [97], .isl 5 [[.int .i64 5, .int .i64 0, .int .u32 0, .str [], .isl 5 []]], .isl 5 [], .isl 5 []],[.int .i64 5, .str [], .isl 5 [[.int .i64 6, .int .i64 14, .int .u32 0, .str [], .isl 5 [[.int .i64 2, .int .i64 0, .int .u32 0, .str [97], .isl 5 []],[.int .i64 1, .int .i64 0, .int .u32 256, .str [], .isl 5 []]]]], .isl 5 [[.int .i64 3, .str [], .isl 5 [[.int .i64 2, .int .i64 0, .int .u32 0, .str [97], .isl 5 []]], .isl 5 [], .isl 5 []],[.int .i64 1, .str [97], .isl 5 [[.int .i64 5, .int .i64 0, .int .u32 0, .str [], .isl 5 []]], .isl 5 [], .isl 5 []]], .isl 5 []]]]] oN (fun ae H'=> ∃b,ae= .ret (.tup [.mp b, .bool true])∧H'=upd oN b (some (.amap []))):=by
 have hf:(1:Nat)≠2:=by decide
 repeat' first
  |(with_reducible show mB _ _ _ _ _ _
    first
     |refine aG fun K hK=>?_
     |(refine aM ?_;simp only[hf,nV,nU,iR,reduceCtorEq,Bm,seval])
     |refine cM ?_
     |refine bK ?_
     |(refine aL ?_;simp only[RR])
     |refine aQ ?_
     |(refine cH ?_;simp only[RR,seval])
     |(refine aP ?_;simp only[aY,aK,bP,hf,nV,nU,iR,reduceCtorEq,Bm,seval];first|(refine bB.self (hR _ _ ?_);clear hR;simp only[hf,nV,nU,iR,reduceCtorEq,Bm,seval])|(refine⟨_,upd oN _ (some _),kY.drop (Yd ?_),_,rfl,rfl⟩;simp only[hf,nV,nU,iR,reduceCtorEq,Bm,seval]))
     |refine lY 20 ?_
     |(refine gF (fun _=>False) [(0,true),(1,true),(2,true),(3,true)] eB (by kernel_rfl) rfl ?_;simp only[uW,hf,nV,nU,iR,reduceCtorEq,Bm,seval]))
  |(with_reducible refine hK _ _ ?_;clear hK)
  |with_reducible refine pK fun K hK=>?_
  |(with_reducible refine aN fun b hn=>?_;have hf:=And.intro hn hf;clear hn;simp only[mD,mH,sW,LR]at hf;simp only[hf,nV,nU,iR,reduceCtorEq,Bm,seval])
  |(with_reducible show pC _ _ _ _ _ _ _ _ _ _
    first
     |refine xW (fun _=>trivial) fun R hR=>bU 19 [] func128 ?_)
  |(with_reducible refine dG ?_;simp only[hf,nV,nU,iR,reduceCtorEq,Bm,seval])
  |(simp only[aY,aK,bP,hf,nV,nU,iR,reduceCtorEq,Bm,seval];refine bB.self (hR _ _ ?_);clear hR;simp only[hf,nV,nU,iR,reduceCtorEq,Bm,seval])
  |refine bU 45 [.tmp 2, .tmp 3] func86 ?_
  |clear hK
theorem HE:eG dR 58 [.agg [.isl 1 [[.str [97]]], .isl 2 [], .isl 5 [[.str [109,97,105,110], .isl 1 [], .isl 1 [], .bool false, .isl 5 [[.int .i64 1, .str [97], .isl 5 [[.int .i64 5, .int .i64 0, .int .u32 0, .str [], .isl 5 []]], .isl 5 [], .isl 5 []],[.int .i64 5, .str [], .isl 5 [[.int .i64 6, .int .i64 14, .int .u32 0, .str [], .isl 5 [[.int .i64 2, .int .i64 0, .int .u32 0, .str [97], .isl 5 []],[.int .i64 1, .int .i64 0, .int .u32 256, .str [], .isl 5 []]]]], .isl 5 [[.int .i64 3, .str [], .isl 5 [[.int .i64 2, .int .i64 0, .int .u32 0, .str [97], .isl 5 []]], .isl 5 [], .isl 5 []],[.int .i64 1, .str [97], .isl 5 [[.int .i64 5, .int .i64 0, .int .u32 0, .str [], .isl 5 []]], .isl 5 [], .isl 5 []]], .isl 5 []]]]]]] (.int .i64 0):=by
 have hf:(1:Nat)≠2:=by decide
 repeat' first
  |(with_reducible show mB _ _ _ _ _ _
    first
     |refine aG fun K hK=>?_
     |(refine aM ?_;simp only[hf,nV,nU,iR,reduceCtorEq,Bm,seval])
     |refine cM ?_
     |refine bK ?_
     |(refine aL ?_;simp only[RR])
     |refine aQ ?_
     |(refine cH ?_;simp only[RR,seval])
     |(refine aP ?_;simp only[aY,aK,bP,hf,nV,nU,iR,reduceCtorEq,Bm,seval];first|(refine bB.cut _ ?_ (hQ _ ?_);clear hQ;rotate_left;simp only[hf,nV,nU,iR,reduceCtorEq,Bm,seval])|(refine bB.self (hR _ _ ?_);clear hR;simp only[hf,nV,nU,iR,reduceCtorEq,Bm,seval])|(refine bB.pure ?_;rfl))
     |refine lY 20 ?_)
  |(with_reducible refine hK _ _ ?_;clear hK)
  |with_reducible refine pK fun K hK=>?_
  |(with_reducible refine aN fun b hn=>?_;have hf:=And.intro hn hf;clear hn;simp only[mD,mH,sW,LR]at hf;simp only[hf,nV,nU,iR,reduceCtorEq,Bm,seval])
  |(with_reducible show pC _ _ _ _ _ _ _ _ _ _
    first
     |refine xW (fun _=>trivial) fun R hR=>bU 57 [] func88 ?_
     |refine xW (fun _=>trivial) fun R hR=>bU 43 [] func129 ?_
     |refine xW (fun _=>trivial) fun R hR=>bU 52 [] func130 ?_
     |refine xW (fun _=>trivial) fun R hR=>bU 12 [] func87 ?_
     |(refine Zh G6 fun b hn=>?_;have hf:=And.intro hn hf;clear hn;simp only[mD,mH,sW,LR]at hf;simp only[hf,nV,nU,iR,reduceCtorEq,Bm,seval])
     |(refine Zh Y5 fun b hn=>?_;have hf:=And.intro hn hf;clear hn;simp only[mD,mH,sW,LR]at hf;simp only[hf,nV,nU,iR,reduceCtorEq,Bm,seval])
     |refine OQ (fun _=>trivial) fun R hQ=>bU 28 [.cell 4 149] func89 ?_)
  |(with_reducible refine dG ?_;simp only[hf,nV,nU,iR,reduceCtorEq,Bm,seval])
  |(simp only[aY,aK,bP,hf,nV,nU,iR,reduceCtorEq,Bm,seval];refine bB.cut _ ?_ (hQ _ ?_);clear hQ;rotate_left;simp only[hf,nV,nU,iR,reduceCtorEq,Bm,seval])|(refine bB.self (hR _ _ ?_);clear hR;simp only[hf,nV,nU,iR,reduceCtorEq,Bm,seval])
  |exact fun _ _ h=>h
  |refine JH (by simp only[mD,mH,LR,hf,Gf,and_self]) ?_
  |refine bU 70 [.tmp 2] func58 ?_
  |clear hK
theorem W5 (h1:eG dR 32 [.agg [.isl 1 [[.str [97]]], .isl 2 [], .isl 5 [[.str [109,97,105,110], .isl 1 [], .isl 1 [], .bool false, .isl 5 [[.int .i64 1, .str [97], .isl 5 [[.int .i64 5, .int .i64 0, .int .u32 0, .str [], .isl 5 []]], .isl 5 [], .isl 5 []],[.int .i64 5, .str [], .isl 5 [[.int .i64 6, .int .i64 14, .int .u32 0, .str [], .isl 5 [[.int .i64 2, .int .i64 0, .int .u32 0, .str [97], .isl 5 []],[.int .i64 1, .int .i64 0, .int .u32 256, .str [], .isl 5 []]]]], .isl 5 [[.int .i64 3, .str [], .isl 5 [[.int .i64 2, .int .i64 0, .int .u32 0, .str [97], .isl 5 []]], .isl 5 [], .isl 5 []],[.int .i64 1, .str [97], .isl 5 [[.int .i64 5, .int .i64 0, .int .u32 0, .str [], .isl 5 []]], .isl 5 [], .isl 5 []]], .isl 5 []]]]]]] (.int .i64 0)) (h2:eG dR 32 [.agg [.isl 1 [], .isl 2 [], .isl 5 []]] (.int .i64 7)):eG dR 14 [.agg [.isl 1 [[.str [97]]], .isl 2 [], .isl 5 [[.str [109,97,105,110], .isl 1 [], .isl 1 [], .bool false, .isl 5 [[.int .i64 1, .str [97], .isl 5 [[.int .i64 5, .int .i64 0, .int .u32 0, .str [], .isl 5 []]], .isl 5 [], .isl 5 []],[.int .i64 5, .str [], .isl 5 [[.int .i64 6, .int .i64 14, .int .u32 0, .str [], .isl 5 [[.int .i64 2, .int .i64 0, .int .u32 0, .str [97], .isl 5 []],[.int .i64 1, .int .i64 0, .int .u32 256, .str [], .isl 5 []]]]], .isl 5 [[.int .i64 3, .str [], .isl 5 [[.int .i64 2, .int .i64 0, .int .u32 0, .str [97], .isl 5 []]], .isl 5 [], .isl 5 []],[.int .i64 1, .str [97], .isl 5 [[.int .i64 5, .int .i64 0, .int .u32 0, .str [], .isl 5 []]], .isl 5 [], .isl 5 []]], .isl 5 []]]]]]] (.bool true)∧eG dR 14 [.agg [.isl 1 [], .isl 2 [], .isl 5 []]] (.bool false):=by
 have hf:(1:Nat)≠2:=by decide
 refine⟨?_, ?_⟩<;>
  (repeat' first
    |refine pK fun K hK=>?_
    |(refine hK _ _ ?_;clear hK)
    |refine aG fun K hK=>?_
    |(refine aM ?_;simp only[hf,EX,seval])
    |refine cM ?_
    |refine bK ?_
    |(refine aL ?_;simp only[RR])
    |refine aQ ?_
    |refine lY 20 ?_
    |(refine cH ?_;simp only[RR,seval])
    |(refine aN fun b hn=>?_;have hf:=And.intro hn hf;clear hn;simp only[mD,mH,sW,LR]at hf;simp only[hf,EX,seval])
    |(refine dG ?_;simp only[hf,EX,seval])
    |(refine aI h1 ?_;simp only[hf,EX,seval])
    |(refine aI h2 ?_;simp only[hf,EX,seval])
    |refine kV fun R hR=>bU 35 [.tmp 2] func34 ?_
    |refine kV fun R hR=>bU 25 [.tmp 2] func60 ?_
    |refine kV fun R hR=>bU 20 [.tmp 2] func33 ?_
    |(refine aP ?_;simp only[aY,aK,bP,hf,EX,seval];first|(refine bB.any (hR _ ?_);clear hR;simp only[hf,EX,seval])|(refine bB.pure ?_;rfl))
    |refine bU 64 [.tmp 2] func14 ?_
    |clear hK)
end Go.Proofs.YtaecpjgmcffliaaGreatDoor
