/- Al3 -/
import Derived.Test.YtaecpjgmcffliaaGreatDoorAl2
import Derived.Orders
import Derived.IntWalk
import Derived.RowKit3
import Derived.Lib.LaidTab
import Derived.Carry
import Derived.OpenShut
set_option linter.unusedSimpArgs false
set_option linter.unusedVariables false
set_option maxRecDepth 10000
namespace Go.Al
section
variable (E : jV) (F : Nat → Prop) (ds : List (Option Nat)) (Q : fK) (d : Option Nat) (ty : TypeId) (pos : String) (af : Array Edge) (rest : List Oper) (fr : Fr) (H : Hp)
def rM (o:Option AV):Prop:=match o with |some v=>eA E F ds Q rest (fL fr d v) H|none=>False
theorem Ph (v:AV):rM E F ds Q d rest fr H (some v)=eA E F ds Q rest (fL fr d v) H:=Eq.trans rfl rfl
def VC (p:Option ((Nat→AV)×gY)):Prop:=match p with |some p=> ∀b,H b=none→eA E F ds Q rest (fL fr d (p.1 b)) (upd H b (some p.2))|none=>False
theorem Xo:eA E F ds Q [] fr H=Q .normal fr H:=Eq.trans rfl rfl
theorem Pm (x:Operand):eA E F ds Q (⟨d, .move x,ty,pos,af,none⟩::rest) fr H=eA E F ds Q rest (fL fr d (ev E.G fr x)) H:=Eq.trans rfl rfl
theorem Dv (x:Operand):eA E F ds Q (⟨d, .assign x,ty,pos,af,none⟩::rest) fr H=eA E F ds Q rest (fL fr d (ev E.G fr x)) H:=Eq.trans rfl rfl
theorem Pj (c x y:Operand):eA E F ds Q (⟨d, .pick c x y,ty,pos,af,none⟩::rest) fr H=rM E F ds Q d rest fr H (aq E H fr (.pick c x y)):=Eq.trans rfl rfl
theorem Pn (t:TypeId) (x:Operand):eA E F ds Q (⟨d, .load t x,ty,pos,af,none⟩::rest) fr H=rM E F ds Q d rest fr H (aq E H fr (.load t x)):=Eq.trans rfl rfl
theorem xP (x:Operand):eA E F ds Q (⟨d, .nilCheck x,ty,pos,af,none⟩::rest) fr H=rM E F ds Q d rest fr H (aq E H fr (.nilCheck x)):=Eq.trans rfl rfl
theorem Jc (o:BinOp) (t u:TypeId) (x y:Operand):eA E F ds Q (⟨d, .binOp o t x y u,ty,pos,af,none⟩::rest) fr H=rM E F ds Q d rest fr H (aq E H fr (.binOp o t x y u)):=Eq.trans rfl rfl
theorem Pi (o:UnOp) (t:TypeId) (x:Operand):eA E F ds Q (⟨d, .unOp o t x,ty,pos,af,none⟩::rest) fr H=rM E F ds Q d rest fr H (aq E H fr (.unOp o t x)):=Eq.trans rfl rfl
theorem zT (s t:TypeId) (x:Operand) (a:(t==69)=false):eA E F ds Q (⟨d, .convert s t x,ty,pos,af,none⟩::rest) fr H=rM E F ds Q d rest fr H (aq E H fr (.convert s t x)):=
 (Eq.trans rfl rfl:eA E F ds Q (⟨d, .convert s t x,ty,pos,af,none⟩::rest) fr H=if(t==69)=true then VC E F ds Q d rest fr H (iU E fr (.convert s t x))else rM E F ds Q d rest fr H (aq E H fr (.convert s t x))).trans (by rw[a];rfl)
theorem It (t:TypeId) (x:Operand) (l h m:Option Operand):eA E F ds Q (⟨d, .slice t x l h m,ty,pos,af,none⟩::rest) fr H=rM E F ds Q d rest fr H (aq E H fr (.slice t x l h m)):=Eq.trans rfl rfl
theorem vX (t:TypeId) (x:Operand) (f:Nat):eA E F ds Q (⟨d, .fieldAddr t x f,ty,pos,af,none⟩::rest) fr H=rM E F ds Q d rest fr H (aq E H fr (.fieldAddr t x f)):=Eq.trans rfl rfl
theorem Iy (t:TypeId) (x:Operand) (f:Nat):eA E F ds Q (⟨d, .field t x f,ty,pos,af,none⟩::rest) fr H=rM E F ds Q d rest fr H (aq E H fr (.field t x f)):=Eq.trans rfl rfl
theorem vW (t:TypeId) (x i:Operand):eA E F ds Q (⟨d, .indexAddr t x i,ty,pos,af,none⟩::rest) fr H=rM E F ds Q d rest fr H (aq E H fr (.indexAddr t x i)):=Eq.trans rfl rfl
theorem Iw (t:TypeId) (x i:Operand):eA E F ds Q (⟨d, .index t x i,ty,pos,af,none⟩::rest) fr H=rM E F ds Q d rest fr H (aq E H fr (.index t x i)):=Eq.trans rfl rfl
theorem zS (x:Operand) (i:Nat):eA E F ds Q (⟨d, .extract x i,ty,pos,af,none⟩::rest) fr H=rM E F ds Q d rest fr H (aq E H fr (.extract x i)):=Eq.trans rfl rfl
theorem rB (t:TypeId) (x:Operand):eA E F ds Q (⟨d, .makeInterface t x,ty,pos,af,none⟩::rest) fr H=rM E F ds Q d rest fr H (aq E H fr (.makeInterface t x)):=Eq.trans rfl rfl
theorem xQ (f:Fn) (x y:Array Operand):eA E F ds Q (⟨d, .makeFunc f x y,ty,pos,af,none⟩::rest) fr H=rM E F ds Q d rest fr H (aq E H fr (.makeFunc f x y)):=Eq.trans rfl rfl
theorem Dt (t:TypeId) (x k:Operand) (ok:Bool):eA E F ds Q (⟨d, .lookup t x k ok,ty,pos,af,none⟩::rest) fr H=rM E F ds Q d rest fr H (aq E H fr (.lookup t x k ok)):=Eq.trans rfl rfl
theorem Jb (t:TypeId) (a:Array (Nat×Operand)):eA E F ds Q (⟨d, .build t a,ty,pos,af,none⟩::rest) fr H=rM E F ds Q d rest fr H (aq E H fr (.build t a)):=Eq.trans rfl rfl
theorem Xs (args:Array Operand) (a:Array TypeId):eA E F ds Q (⟨d, .call ⟨.builtin .len,args,a⟩,ty,pos,af,none⟩::rest) fr H=rM E F ds Q d rest fr H (aq E H fr (.call ⟨.builtin .len,args,a⟩)):=Eq.trans rfl rfl
theorem Xp (args:Array Operand) (a:Array TypeId):eA E F ds Q (⟨d, .call ⟨.builtin .min,args,a⟩,ty,pos,af,none⟩::rest) fr H=rM E F ds Q d rest fr H (aq E H fr (.call ⟨.builtin .min,args,a⟩)):=Eq.trans rfl rfl
theorem Xq (args:Array Operand) (a:Array TypeId):eA E F ds Q (⟨d, .call ⟨.builtin .max,args,a⟩,ty,pos,af,none⟩::rest) fr H=rM E F ds Q d rest fr H (aq E H fr (.call ⟨.builtin .max,args,a⟩)):=Eq.trans rfl rfl
def X5 (b:Option Bool) (o:Oper):Prop:=match b with |some true=>eA E F ds Q (o::rest) fr H|some false=>eA E F ds Q rest (fL fr o.dst (.tup [])) H|none=>False
theorem Ix (o:Op) (g:Nat×Bool):eA E F ds Q (⟨d,o,ty,pos,af,some g⟩::rest) fr H=X5 E F ds Q rest fr H (lR ds fr (some g)) ⟨d,o,ty,pos,af,none⟩:=by
 simp only[eA,aop,X5];generalize lR ds fr (some g)=b
 cases b with
 |none=>cases o<;>rfl
 |some b=>cases b<;>cases o<;>rfl
theorem Px (o:Oper):X5 E F ds Q rest fr H (some true) o=eA E F ds Q (o::rest) fr H:=Eq.trans rfl rfl
theorem Je (o:Oper):X5 E F ds Q rest fr H (some false) o=eA E F ds Q rest (fL fr o.dst (.tup [])) H:=Eq.trans rfl rfl
variable {E F ds Q d ty pos af rest fr H}
theorem fF {b:Bool} {o:Oper} (a:b=true→eA E F ds Q (o::rest) fr H) (c:b=false→eA E F ds Q rest (fL fr o.dst (.tup [])) H):X5 E F ds Q rest fr H (some b) o:=by
 cases b
 ·exact c rfl
 exact a rfl
theorem cQ {b:Bool} {o:Oper} (a:b=false→eA E F ds Q (o::rest) fr H) (c:b=true→eA E F ds Q rest (fL fr o.dst (.tup [])) H):X5 E F ds Q rest fr H (some (!b)) o:=by
 cases b
 ·exact a rfl
 exact c rfl
variable (E F ds Q d ty pos af rest fr H)
def JC (p:Option ((Nat→AV)×gY)):Prop:=match p with |some p=> ∀b,H b=none→eA E F ds Q rest (fL fr d (p.1 b)) (upd H b (some p.2))|none=>False
theorem Jd (t:TypeId):eA E F ds Q (⟨d, .alloc t,ty,pos,af,none⟩::rest) fr H=JC E F ds Q d rest fr H (iU E fr (.alloc t)):=Eq.trans rfl rfl
theorem Xt (t:TypeId) (x:Operand):eA E F ds Q (⟨d, .box t x,ty,pos,af,none⟩::rest) fr H=JC E F ds Q d rest fr H (iU E fr (.box t x)):=Eq.trans rfl rfl
theorem zR (t:TypeId) (r:Option Operand):eA E F ds Q (⟨d, .makeMap t r,ty,pos,af,none⟩::rest) fr H=JC E F ds Q d rest fr H (iU E fr (.makeMap t r)):=Eq.trans rfl rfl
theorem vV (t:TypeId) (l c:Operand):eA E F ds Q (⟨d, .makeSlice t l c,ty,pos,af,none⟩::rest) fr H=JC E F ds Q d rest fr H (iU E fr (.makeSlice t l c)):=Eq.trans rfl rfl
variable {E F ds Q d ty pos af rest fr H}
theorem aQ {p:(Nat→AV)×gY} (h: ∀b,H b=none→eA E F ds Q rest (fL fr d (p.1 b)) (upd H b (some p.2))):JC E F ds Q d rest fr H (some p):=h
variable (E F ds Q d ty pos af rest fr H)
def RI (len:Nat) (p:Option (Nat×List (List AV))):Prop:=match p with
 |some p=>eA E F ds Q rest (fL fr d (.isl p.1 p.2)) H∨ ∀b,H b=none→eA E F ds Q rest (fL fr d (.osl p.1 b len)) (upd H b (some (.rows p.1 p.2)))
 |none=>False
theorem uQ (t:TypeId) (len:Nat) (a:Array (Nat×Operand)):eA E F ds Q (⟨d, .buildSlice t len a,ty,pos,af,none⟩::rest) fr H=RI E F ds Q d rest fr H len (Lr E fr t len a):=Eq.trans rfl rfl
variable {E F ds Q d ty pos af rest fr H}
theorem dK {len sz:Nat} {rows:List (List AV)} (h:eA E F ds Q rest (fL fr d (.isl sz rows)) H):RI E F ds Q d rest fr H len (some (sz,rows)):= .inl h
theorem Ji {len sz:Nat} {rows:List (List AV)} (h: ∀b,H b=none→eA E F ds Q rest (fL fr d (.osl sz b len)) (upd H b (some (.rows sz rows)))):RI E F ds Q d rest fr H len (some (sz,rows)):= .inr h
variable (E F ds Q d ty pos af rest fr H)
def Su (q:Option (Nat×Hp)):Prop:=match q with |some q=>F q.1∧eA E F ds Q rest (fL fr d (.tup [])) q.2|none=>False
theorem Pe (q:Nat×Hp):Su E F ds Q d rest fr (some q)=(F q.1∧eA E F ds Q rest (fL fr d (.tup [])) q.2):=Eq.trans rfl rfl
theorem Ir (t:TypeId) (p x:Operand):eA E F ds Q (⟨d, .store t p x,ty,pos,af,none⟩::rest) fr H=Su E F ds Q d rest fr (vY E H fr t p x):=by
 simp only[eA,aop,lR,kP,Su];split<;>simp [*]
theorem vU (t:TypeId) (m k x:Operand):eA E F ds Q (⟨d, .mapUpdate t m k x,ty,pos,af,none⟩::rest) fr H=Su E F ds Q d rest fr (pJ E H fr t m k x):=by
 simp only[eA,aop,lR,kP,Su];split<;>simp [*]
theorem Du (t:TypeId) (m k x:Operand):eA E F ds Q (⟨d, .insert t m k x,ty,pos,af,none⟩::rest) fr H=Su E F ds Q d rest fr (pJ E H fr t m k x):=by
 simp only[eA,aop,lR,kP,Su];split<;>simp [*]
def E0 (p:Option (Nat×Nat×AV×List (List AV))):Prop:=match p with
 |some (sz,by', .nsl,ys)=>ys.length *by'≤140737488355328∧(ys=[]→eA E F ds Q rest (fL fr d .nsl) H)∧(ys≠[]→ ∀b,H b=none→eA E F ds Q rest (fL fr d (.osl sz b ys.length)) (upd H b (some (.rows sz ys))))
 |some (sz,by', .osl sz' b len,ys)=>match H b with
  |some (.rows sz'' l)=>sz'=sz∧sz''=sz∧len=l.length∧(l.length+ys.length) *by'≤140737488355328∧F b∧
   ∀b',(b'=b∨H b'=none)→eA E F ds Q rest (fL fr d (.osl sz b' (l.length+ys.length))) (upd (upd H b none) b' (some (.rows sz (l++ys))))
  |_=>False
 |_=>False
theorem Iz (args:Array Operand) (a:Array TypeId):eA E F ds Q (⟨d, .call ⟨.builtin .clear,args,a⟩,ty,pos,af,none⟩::rest) fr H=Su E F ds Q d rest fr (sE E H fr args a):=by
 simp only[eA,aop,lR,kP,Su];split<;>simp [*]
def RG (q:Option (Nat×Hp×Nat)):Prop:=match q with |some q=>F q.1∧eA E F ds Q rest (fL fr d (.int .i64 q.2.2)) q.2.1|none=>False
theorem Oz (q:Nat×Hp×Nat):RG E F ds Q d rest fr (some q)=(F q.1∧eA E F ds Q rest (fL fr d (.int .i64 q.2.2)) q.2.1):=Eq.trans rfl rfl
theorem Po (args:Array Operand) (a:Array TypeId):eA E F ds Q (⟨d, .call ⟨.builtin .copy,args,a⟩,ty,pos,af,none⟩::rest) fr H=RG E F ds Q d rest fr (xT E H fr args a):=by
 simp only[eA,aop,lR,kP,RG];split<;>simp [*]
theorem Dw (args:Array Operand) (a:Array TypeId):eA E F ds Q (⟨d, .call ⟨.builtin .append,args,a⟩,ty,pos,af,none⟩::rest) fr H=E0 E F ds Q d rest fr H (Tf E H fr args a):=Eq.trans rfl rfl
def VB (v:AV):Prop:=match v with | .ifc t x=>Q (.pan (.ifc t x)) N6 H|_=>False
theorem Xn (t:TypeId) (x:AV):VB Q H (.ifc t x)=Q (.pan (.ifc t x)) N6 H:=Eq.trans rfl rfl
theorem Iu (x:Operand):eA E F ds Q (⟨d, .panic x,ty,pos,af,none⟩::rest) fr H=VB Q H (ev E.G fr x):=Eq.trans rfl rfl
def qK (g:FuncId) (args:List AV):Prop:= ∃args' H0 R,fJ args args'∧pK E g args' H0 R∧uY H0 H∧(∀b,H0 b≠none→F b)∧
 ∀ae H',R ae H'→(∀b,H' b≠none→H0 b≠none∨H b=none)→(match ae with | .ret v=>eA E F ds Q rest (fL fr d v) (lD H' H0 H)| .pan v=>Q (.pan v) N6 (lD H' H0 H))
def VD (f:AV) (args:List AV):Prop:=match f with | .fn (.func g) first cap=>qK E F ds Q d rest fr H g (first++args++cap)|_=>False
theorem O5 (g:FuncId) (first cap args:List AV):VD E F ds Q d rest fr H (.fn (.func g) first cap) args=qK E F ds Q d rest fr H g (first++args++cap):=Eq.trans rfl rfl
theorem Pq (f:Operand) (args:Array Operand) (a:Array TypeId):eA E F ds Q (⟨d, .call ⟨.value f,args,a⟩,ty,pos,af,none⟩::rest) fr H=VD E F ds Q d rest fr H (ev E.G fr f) (args.toList.map (ev E.G fr)):=Eq.trans rfl rfl
end
theorem mZ (next:Fr→Hp→Prop) (Q:fK) (fr:Fr) (H:Hp):bL next Q .normal fr H=next fr H:=Eq.trans rfl rfl
theorem aC {E:jV} {N:Nat} {Q:fK} {fr:Fr} {H:Hp} {x y:Code} (h: ∀K:Fr→Hp→Prop,(∀fr H,lW E N y Q fr H→K fr H)→lW E N x (bL K Q) fr H):lW E N (.seq x y) Q fr H:=
 aI (h _ fun _ _ h=>h)
theorem Xi (b x y:Bool):(if b=true then AV.bool x else AV.bool y)=AV.bool (if b=true then x else y):=by split<;>rfl
def eH (E:jV) (g:FuncId) (args:List AV) (v:AV):Prop:=pK E g args pX (fun ae H'=>ae= .ret v∧H'=pX)
section
variable {E : jV} {F : Nat → Prop} {ds : List (Option Nat)} {Q : fK} {d : Option Nat} {rest : List Oper} {fr : Fr} {H : Hp} {g : FuncId} {args : List AV}
theorem Py {a:List AV} {v:AV} (f:eH E g a v) (i:fJ args a) (h:eA E F ds Q rest (fL fr d v) H):qK E F ds Q d rest fr H g args:=
 ⟨a,pX,_,i,f,qY H,fun _ e=>absurd rfl e,fun j H' ⟨b,c⟩ _=>by subst b;subst c;rw[Om];exact h⟩
theorem aP {v:AV} (a:eH E g args v) (h:eA E F ds Q rest (fL fr d v) H):qK E F ds Q d rest fr H g args:=Py a (fJ.refl _) h
theorem mX {c:List AV} {a:Hp} {R:uZ→Hp→Prop} (i:pK E g c a R) (k:fJ args c) (j:uY a H) (f: ∀b,a b≠none→F b)
  (h: ∀e H',R e H'→(∀b,H' b≠none→a b≠none∨H b=none)→(match e with | .ret v=>eA E F ds Q rest (fL fr d v) (lD H' a H)| .pan v=>Q (.pan v) N6 (lD H' a H))):qK E F ds Q d rest fr H g args:=
 ⟨c,a,R,k,i,j,f,h⟩
end
def calm:Op→Bool
 | .move _| .assign _| .pick _ _ _| .load _ _| .nilCheck _| .binOp _ _ _ _ _| .unOp _ _ _| .slice _ _ _ _ none| .fieldAddr _ _ _| .field _ _ _| .indexAddr _ _ _| .index _ _ _
 | .makeInterface _ _| .makeFunc _ _ _| .lookup _ _ _ _| .extract _ _| .build _ _| .call ⟨.builtin .len,_,_⟩| .call ⟨.builtin .min,_,_⟩| .call ⟨.builtin .max,_,_⟩=>true
 | .convert _ t _=> !(t==69)
 |_=>false
def gL:Op→Option Operand
 | .load _ x=>some x
 | .lookup _ x _ _=>some x
 |_=>none
section
variable {E : jV} {F : Nat → Prop} {fr fr' : Fr} {H H' : Hp} {K Kp : AV → Hp → Prop}
theorem tQ {xs:List Operand} (h: ∀x∈xs,ev E.G fr x=ev E.G fr' x):xs.map (ev E.G fr)=xs.map (ev E.G fr'):=List.map_congr_left h
theorem tO {x:Option Operand} (h: ∀y,x=some y→ev E.G fr y=ev E.G fr' y):x.map (ev E.G fr)=x.map (ev E.G fr'):=by
 cases x with
 |none=>rfl
 |some y=>simp [h y rfl]
theorem uD {size:Nat}: ∀(a:List (Nat×Operand)) (k:Nat),(∀p∈a,ev E.G fr p.2=ev E.G fr' p.2)→nV E fr size k a=nV E fr' size k a
 |[],_,_=>rfl
 |(i,x)::r,k,h=>by
  simp only[nV,h (i,x) (by simp),uD r (k+1) fun p b=>h p (by simp [b])]
theorem Jk {o:Op} (h: ∀x∈o.operands,ev E.G fr x=ev E.G fr' x):aq E H fr o=aq E H fr' o:=by
 cases o<;>simp only[Op.operands]at h<;>try (rfl)
 case slice t x lo hi m=>
  cases m with
  |some m=>rfl
  |none=>
   have a:=h x (by simp);have j:lo.map (ev E.G fr)=lo.map (ev E.G fr'):=tO fun y k=>h y (by simp [k]);have l:hi.map (ev E.G fr)=hi.map (ev E.G fr'):=tO fun y k=>h y (by simp [k]);simp only[aq,a,j,l]
 case makeFunc f xs ys=>
  have a:=tQ (E:=E) (fr:=fr) (fr':=fr') (xs:=xs.toList) fun x i=>h x (by simp at i;simp [i]);have j:=tQ (E:=E) (fr:=fr) (fr':=fr') (xs:=ys.toList) fun x i=>h x (by simp at i;simp [i]);simp only[aq,a,j]
 case build t ps=>
  have a:(ps.toList.map fun p=>(p.1,ev E.G fr p.2))=ps.toList.map fun p=>(p.1,ev E.G fr' p.2):=List.map_congr_left fun p n=>by
   rw[h p.2 (by simp only[wF,kQ];exact⟨p,n,rfl⟩)]
  simp only[aq,a]
 case typeAssert x t u ok=>
  have a:=h x (by simp)
  cases ok with
  |false=>rfl
  |true=>simp only[aq,a]
 case call c=>
  obtain⟨f,args,v⟩:=c
  cases f with
  |value=>rfl
  |invoke=>rfl
  |builtin b=>
   have a: ∀x∈args.toList,ev E.G fr x=ev E.G fr' x:=fun x i=>h x (by simp at i;simp [Call.operands,i]);cases b<;>try rfl
   all_goals
    simp only[aq];split
    all_goals first
     |rfl
     |(rename_i e;rw[e]at a;simp only[bK,bM,dB,forall_eq_or_imp,QS]at a;simp only[a];done)
     |(rename_i e _;rw[e]at a;simp only[bK,bM,dB,QS]at a;simp only[a];done)
 all_goals
  simp only[wF,bK,bM,dB,forall_eq_or_imp,QS]at h;simp only[aq,h]
theorem Dx {o:Op} (h: ∀x∈o.operands,ev E.G fr x=ev E.G fr' x):kP E F o fr H K Kp=kP E F o fr' H K Kp:=by
 have l:=Jk (H:=H) h;cases o<;>simp only[Op.operands]at h
 case buildSlice t n ps=>
  have a:=fun size=>uD (E:=E) (fr:=fr) (fr':=fr') (size:=size) ps.toList 0 fun p u=>h p.2 (by simp only[wF,kQ];exact⟨p,u,rfl⟩);simp only[kP,Lr,a]
 case makeMap t r=>
  have a:r.map (ev E.G fr)=r.map (ev E.G fr'):=tO fun y v=>h y (by simp [v]);simp only[kP,iU,a]
 case convert s t x=>
  simp only[wF,bK,bM,dB,QS]at h;simp only[kP,iU,h,l]
 case call c=>
  obtain⟨f,args,j⟩:=c
  cases f with
  |invoke=>simp only[kP,l]
  |value f=>
   have a:=tQ (E:=E) (fr:=fr) (fr':=fr') (xs:=args.toList) fun x k=>h x (by simp at k;simp [Call.operands,k]);have i:=h f (by simp [Call.operands]);simp only[kP,a,i]
  |builtin b=>
   have a: ∀x∈args.toList,ev E.G fr x=ev E.G fr' x:=fun x k=>h x (by simp at k;simp [Call.operands,k]);cases b<;>try (simp only[kP,l];done)
   case append=>
    have i:Tf E H fr args j=Tf E H fr' args j:=by
     simp only[Tf];split
     ·rename_i e _;rw[e]at a;simp only[bK,bM,dB,forall_eq_or_imp,QS]at a;simp only[a]
     rfl
    simp only[kP,i]
   case clear=>
    have i:sE E H fr args j=sE E H fr' args j:=by
     simp only[sE];split
     ·rename_i e _;rw[e]at a;simp only[bK,bM,dB,QS]at a;simp only[a]
     rfl
    simp only[kP,i]
   case copy=>
    have i:xT E H fr args j=xT E H fr' args j:=by
     simp only[xT];split
     ·rename_i e _;rw[e]at a;simp only[bK,bM,dB,forall_eq_or_imp,QS]at a;simp only[a]
     rfl
    simp only[kP,i]
 all_goals first
  |(simp only[kP,l];done)
  |(simp only[wF,bK,bM,dB,forall_eq_or_imp,QS]at h
    simp only[kP,iU,vY,pJ,h])
  |(simp only[kP,iU])
def uU (F:Nat→Prop) (H H':Hp):Prop:= ∀b,H b≠none→ ¬F b→H' b=H b
theorem rD {o:Op} (a:calm o=true):kP E F o fr H K Kp=(match aq E H fr o with |some v=>K v H|none=>False):=by
 cases o<;>simp only[calm,cF]at a<;>try rfl
 case convert s t x=>
  have e:(t==69)=false:=by simpa using a
  simp only[kP,e,cF,dP];rfl
 case call c=>
  obtain⟨f,args,i⟩:=c
  cases f with
  |invoke=>simp at a
  |value=>simp at a
  |builtin b=>cases b<;>simp at a<;>rfl
theorem E2 {t:TypeId} {p x:Operand} {q:Nat×Hp} (h:vY E H fr t p x=some q): ∃o,q.2=upd H q.1 o:=by
 simp only[vY]at h;split at h<;>first|(cases h;done)|skip
 split at h<;>first|(cases h;done)|skip
 simp only[cH,eG]at h;obtain⟨_,_,_,_,_,_,_,h⟩:=h;cases h;exact⟨_,rfl⟩
theorem Ea {t:TypeId} {m k x:Operand} {q:Nat×Hp} (h:pJ E H fr t m k x=some q): ∃o,q.2=upd H q.1 o:=by
 simp only[pJ]at h;split at h<;>first|(cases h;done)|skip
 split at h<;>first|(cases h;done)|skip
 rw[bI]at h;obtain⟨_,_,rfl⟩:=h;exact⟨_,rfl⟩
theorem E7 {args:Array Operand} {a:Array TypeId} {q:Nat×Hp} (h:sE E H fr args a=some q): ∃o,q.2=upd H q.1 o:=by
 simp only[sE]at h;split at h<;>first|(cases h;done)|skip
 split at h<;>first|(cases h;done)|skip
 rw[cH]at h;obtain⟨_,_,h⟩:=h;split at h<;>first|(cases h;done)|skip
 split at h<;>first|(cases h;done)|skip
 cases h;exact⟨_,rfl⟩
theorem Y2 {args:Array Operand} {a:Array TypeId} {q:Nat×Hp×Nat} (h:xT E H fr args a=some q): ∃o,q.2.1=upd H q.1 o:=by
 simp only[xT]at h;split at h<;>first|(cases h;done)|skip
 split at h<;>first|(cases h;done)|skip
 rw[cH]at h;obtain⟨_,_,h⟩:=h;split at h<;>first|(cases h;done)|skip
 split at h<;>first|(cases h;done)|skip
 cases h;exact⟨_,rfl⟩
theorem uC {o:Op} {A B:AV→Hp→Prop} (a: ∀v H',uU F H H'→K v H'→A v H') (I: ∀v H',Kp v H'→B v H') (h:kP E F o fr H K Kp):kP E F o fr H A B:=by
 have new: ∀{b:Nat} {o:gY},H b=none→uU F H (upd H b (some o)):=fun {b o} hb i f _=>by
  have j:i≠b:=fun e=>f (e▸hb);simp [upd,j]
 have set: ∀{b:Nat} {o:Option gY},F b→uU F H (upd H b o):=fun {b o} hb i _ f=>by
  have j:i≠b:=fun e=>f (e▸hb);simp [upd,j]
 have same:uU F H H:=fun _ _ _=>rfl;unfold kP at *;split at h
 case h_9=>split at h<;>first|exact h.elim|exact I _ _ h
 case h_10=>
  split at h<;>first|exact h.elim|skip
  ·exact⟨h.1,fun e=>a _ _ same (h.2.1 e),fun e b hb=>a _ _ (new hb) (h.2.2 e b hb)⟩
  split at h<;>first|exact h.elim|skip
  obtain⟨f,y,z,k,l,M⟩:=h;refine⟨f,y,z,k,l,fun i hb=>a _ _ (fun D p u=>?_) (M i hb)⟩;have j:D≠_:=fun e=>u (e▸l)
  have O:D≠i:=fun e=>by
   rcases hb with hb|hb
   ·exact j (e.trans hb)
   exact p (e▸hb)
  simp [upd,j,O]
 case h_11=>
  split at h<;>first|exact h.elim|skip
  rename_i q c;obtain⟨o,e⟩:=E7 c;exact⟨h.1,a _ _ (by rw[e];exact set h.1) h.2⟩
 case h_12=>
  split at h<;>first|exact h.elim|skip
  rename_i q c;obtain⟨o,e⟩:=Y2 c;exact⟨h.1,a _ _ (by rw[e];exact set h.1) h.2⟩
 case h_13=>
  split at h<;>first|exact h.elim|skip
  obtain⟨J,n,R,f,y,z,k,l⟩:=h;refine⟨J,n,R,f,y,z,k,fun C H' S hb=>?_⟩;have:=l C H' S hb;cases C
  ·refine a _ _ (fun b p u=>?_) this
   have G:n b=none:=by
    cases e:n b with
    |none=>rfl
    |some o=>exact absurd (k b (by simp [e])) u
   have L:H' b=none:=by
    cases e:H' b with
    |none=>rfl
    |some o=>
     rcases hb b (by simp [e])with h|h
     ·exact absurd G h
     exact absurd h p
   simp [lD,G,L]
  exact I _ _ this
 case h_14=>
  rename_i s t x;by_cases hb:(t==69)=true
  ·simp only[bP hb]at h⊢
   split at h<;>first|exact h.elim|exact fun b hb=>a _ _ (new hb) (h b hb)
  simp only[aM hb]at h⊢;split at h<;>first|exact h.elim|exact a _ _ same h
 case h_6=>
  split at h<;>first|exact h.elim|skip
  rename_i q c;obtain⟨o,e⟩:=E2 c;exact⟨h.1,a _ _ (by rw[e];exact set h.1) h.2⟩
 case h_7=>
  split at h<;>first|exact h.elim|skip
  rename_i q c;obtain⟨o,e⟩:=Ea c;exact⟨h.1,a _ _ (by rw[e];exact set h.1) h.2⟩
 case h_8=>
  split at h<;>first|exact h.elim|skip
  rename_i q c;obtain⟨o,e⟩:=Ea c;exact⟨h.1,a _ _ (by rw[e];exact set h.1) h.2⟩
 all_goals
  split at h<;>first
   |exact h.elim
   |exact fun b hb=>a _ _ (new hb) (h b hb)
   |exact a _ _ same h
   |exact h.imp (a _ _ same) fun h b hb=>a _ _ (new hb) (h b hb)
end
def Yl (E:jV) (F:Nat→Prop) (ds:List (Option Nat)) (cm:Bool) (o:Oper) (v:AV) (fr:Fr) (H:Hp):Prop:=
 (lR ds fr o.guard=some false∧v= .tup [])∨
 (lR ds fr o.guard=some true∧aq E H fr o.op=some v∧(cm=true∨ ∀x,gL o.op=some x→ ∀b,pF (ev E.G fr x)=some b→ ¬F b))
def Tt (E:jV) (F:Nat→Prop) (ops:Array Oper) (Q:fK):Nat→Array Bool→Fr→Hp→Prop
 |0,L,fr,H=>Region.ready .any ops L=[]∧Q .normal fr H
 |fuel+1,L,fr,H=>(Region.ready .any ops L=[]→Q .normal fr H)∧
  ∀i∈Region.ready .any ops L, ∀o,ops[i]?=some o→aop E F (ops.toList.map (·.dst)) o fr H (Tt E F ops Q fuel (L.setIfInBounds i true)) (fun v H'=>Q (.pan v) N6 H')
section
variable {E : jV} {F : Nat → Prop} {ops : Array Oper} {Q : fK} {fr : Fr} {H : Hp}
theorem Jz {k:lF} {N:Nat} (hd:ops.toList.all (kZ N)=true): ∀(fuel:Nat) (L:Array Bool) (fr:Fr) (H:Hp) (a:Act) (w:World),Qc E k N fr H a w→Tt E F ops Q fuel L fr H→wpAny E.P .any ops (vN E k N Q) fuel L a w
 |0,_,fr,H,a,w,hs,h=>⟨h.1,fr,H,hs,h.2⟩
 |fuel+1,L,fr,H,a,w,hs,h=>by
  refine⟨fun e=>⟨fr,H,hs,h.1 e⟩,fun i f=>?_⟩;obtain⟨_,o,c,_⟩:=mem_ready.1 f;unfold wpOp;simp only[c]
  have t:kZ N o=true:=by
   rw[cD]at hd;exact hd o (XQ.2 (Ks c))
  have p:=hs.1;exact Bt hs t (h.2 i f o c) (fun fr' H' n j u b=>Jz hd fuel _ fr' H' n j u b) (fun v z l H' j x y b=>⟨p,v,z,l,H',rfl,x,y,b⟩)
theorem QW {d:Option Nat} {v:AV} {x:Operand} (h: ∀i,d=some i→x≠ .tmp i):ev E.G (fL fr d v) x=ev E.G fr x:=by
 cases d with
 |none=>rfl
 |some i=>
  cases x with
  |tmp t=>
   have :t≠i:=fun e=>h i rfl (by rw[e]);simp [ev,fL,upd,this]
  |_=>rfl
theorem tP {o:Oper} {d:Option Nat} {v:AV} (h: ∀i,d=some i→i∉o.looksAt ops): ∀x∈o.op.operands,ev E.G (fL fr d v) x=ev E.G fr x:=fun x b=>QW fun i a e=>h i a (by
 subst e
 exact Tm _ (List.mem_filterMap.2 ⟨.tmp i,by simpa using b,rfl⟩))
theorem wX {o:Oper} {d:Option Nat} {v:AV} (h: ∀i,d=some i→i∉o.looksAt ops):lR (ops.toList.map (·.dst)) (fL fr d v) o.guard=lR (ops.toList.map (·.dst)) fr o.guard:=by
 cases hg:o.guard with
 |none=>rfl
 |some g=>
  obtain⟨j,p⟩:=g;simp only[lR];split<;>try rfl
  rename_i t a
  have f: ∀i,d=some i→t≠i:=fun i c e=>h i c (by
   refine Kq _ ?_;rw[hg];rw[dH,bI]at a;obtain⟨n,k,b⟩:=a;have l:ops[j]?=some n:=by simpa using k
   simp only[l,cA,b]
   simp [e])
  have :fL fr d v t=fr t:=by
   cases d with
   |none=>rfl
   |some i=>simp [fL,upd,f i rfl]
  rw[this]
theorem sR {d e:Option Nat} {v u:AV} (h: ∀i,d=some i→e≠some i):fL (fL fr d v) e u=fL (fL fr e u) d v:=by
 cases d with
 |none=>rfl
 |some i=>
  cases e with
  |none=>rfl
  |some j=>exact AC _ _ _ fun c=>h i rfl (by rw[c])
theorem Vw {o:Op} {x:Operand} (h:gL o=some x):x∈o.operands:=by
 cases o<;>simp only[gL]at h<;>first|(cases h;done)|skip
 all_goals cases h;simp [Op.operands]
theorem Bq {o:Op} {H':Hp} {v:AV} (l:calm o=true) (h:aq E H fr o=some v) (n: ∀x,gL o=some x→ ∀b,pF (ev E.G fr x)=some b→H b≠none→H' b=H b):aq E H' fr o=some v:=by
 cases o<;>simp only[calm,cF]at l<;>try exact h
 case load t x=>
  simp only[aq,cH]at h⊢;obtain⟨z,y,a⟩:=h;refine⟨z,y, ?_⟩;have:=n x rfl;cases e:ev E.G fr x<;>rw[e]at a this<;>simp only[uT]at a⊢ <;>try (exact a)
  rename_i sz b i j;rw[this b rfl (fun c=>by rw[c]at a;cases a)];exact a
 case lookup t x k ok=>
  have:=n x rfl;simp only[aq]at h⊢;cases e:ev E.G fr x<;>rw[e]at h this<;>try (exact h)
  rename_i b;by_cases p:H b=none
  ·simp only[p]at h
   exfalso
   repeat' (split at h<;>try (cases h;done))
   all_goals simp_all
  have u:=this b rfl p;simp only[u];exact h
 case slice t x lo hi m=>cases m<;>simp at l;exact h
 case call c=>
  obtain⟨f,args,A⟩:=c
  cases f with
  |invoke=>simp at l
  |value=>simp at l
  |builtin b=>cases b<;>simp at l<;>exact h
theorem uU.refl:uU F H H:=fun _ _ _=>rfl
theorem Yl.step {a:Bool} {i n:Oper} {v u:AV} {H':Hp} (t:calm i.op=true) (j: ∀d,n.dst=some d→d∉i.looksAt ops) (k:Yl E F (ops.toList.map (·.dst)) a i v fr H) (p:uU F H H') (y:a=true→H'=H):
  Yl E F (ops.toList.map (·.dst)) a i v (fL fr n.dst u) H':=by
 unfold Yl at *;rw[wX j];rcases k with k|⟨o,l,c⟩
 ·exact .inl k
 refine .inr ⟨o, ?_, ?_⟩
 ·rw[Jk (tP j)]
  cases a with
  |true=>rw[y rfl];exact l
  |false=>exact Bq t l fun x f b e z=>p b z (by simpa using c|>.resolve_left (by simp) x f b e)
 refine c.imp id fun c x f b e=>?_;rw[tP j x (Vw f)]at e;exact c x f b e
theorem NB {b:Bool} {a c:Oper} {v:AV} {K:Fr→Hp→Prop} {Kp:AV→Hp→Prop} (o:a.apart ops c=true) (i:calm a.op=true) (p:b=true→calm c.op=true) (j:Yl E F (ops.toList.map (·.dst)) b a v fr H)
  (h:aop E F (ops.toList.map (·.dst)) c (fL fr a.dst v) H K Kp):aop E F (ops.toList.map (·.dst)) c fr H (fun fr' H'=>Yl E F (ops.toList.map (·.dst)) b a v fr' H'∧K (fL fr' a.dst v) H') Kp:=by
 obtain⟨k,e,f⟩:=Oper.apart_spec o;unfold aop at *;rw[wX k]at h;split at h
 ·rename_i x
  rw[Dx (tP k)]at h
  cases b with
  |true=>
   rw[rD (p rfl)]at h⊢;split at h<;>try (exact h.elim)
   rename_i u t;refine⟨j.step i f uU.refl fun _=>rfl, ?_⟩;rw[←sR e];exact h
  |false=>
   refine uC (fun u H' n l=>⟨j.step i f n (by simp), ?_⟩) (fun _ _ h=>h) h;rw[←sR e];exact l
 ·exact⟨j.step i f uU.refl fun _=>rfl,by rw[←sR e];exact h⟩
 exact h
theorem wB {ds:List (Option Nat)} {o:Oper} {K a:Fr→Hp→Prop} {Kp:AV→Hp→Prop} (b: ∀fr H,K fr H→a fr H) (h:aop E F ds o fr H K Kp):aop E F ds o fr H a Kp:=by
 unfold aop at *;split at h
 ·exact uC (fun _ _ _ h=>b _ _ h) (fun _ _ h=>h) h
 ·exact b _ _ h
 exact h
theorem Yl.aop {b:Bool} {o:Oper} {v:AV} {K:Fr→Hp→Prop} {Kp:AV→Hp→Prop} (e:calm o.op=true) (f:Yl E F (ops.toList.map (·.dst)) b o v fr H) (h:K (fL fr o.dst v) H):Al.aop E F (ops.toList.map (·.dst)) o fr H K Kp:=by
 unfold Al.aop;rcases f with⟨a,rfl⟩|⟨a,c,_⟩
 ·rw[a];exact h
 rw[a,rD e,c];exact h
theorem G1 {i:Nat} {l:Oper} {v:AV} {z:Bool} (hi:ops[i]?=some l) (D:calm l.op=true) (W:Nat→Bool) (T: ∀j a,ops[j]?=some a→W j=true→ ∃e∈a.after,Region.binds .any e=true∧(e.on=i∨W e.on=true)):
  ∀(b:Nat) (L:Array Bool) (fr:Fr) (H:Hp),
   (∀j a,ops[j]?=some a→j≠i→L.getD j true=false→W j=false→l.apart ops a=true∧(z=true→calm a.op=true))→
   (∀j,W j=true→L.getD j false=false)→i∈Region.ready .any ops L→Yl E F (ops.toList.map (·.dst)) z l v fr H→
   Tt E F ops Q b (L.setIfInBounds i true) (fL fr l.dst v) H→Tt E F ops Q (b+1) L fr H:=by
 have first: ∀{b:Nat} {L:Array Bool} {fr:Fr} {H:Hp} {j:Nat} {o:Oper},ops[j]?=some o→j=i→Yl E F (ops.toList.map (·.dst)) z l v fr H→Tt E F ops Q b (L.setIfInBounds i true) (fL fr l.dst v) H→
   Al.aop E F (ops.toList.map (·.dst)) o fr H (Tt E F ops Q b (L.setIfInBounds j true)) (fun v H'=>Q (.pan v) N6 H'):=fun {b L fr H j o} y e n h=>by
  subst e;rw[hi]at y;cases y;exact n.aop D h
 intro b
 induction b with
 |zero=>
  intro L fr H _ _ f n h;refine⟨fun e=>(by rw[e]at f;cases f),fun j x o y=>?_⟩;by_cases c:j=i
  ·exact first y c n h
  have:=ready_mono x c;rw[h.1]at this;cases this
 |succ b ih=>
  intro L fr H G R f n h;refine⟨fun e=>(by rw[e]at f;cases f),fun j x a t=>?_⟩;by_cases c:j=i
  ·exact first t c n h
  obtain⟨J,a5,O,U⟩:=mem_ready.1 x;rw[t]at O;cases O
  have a0:L.getD i false=false:=by
   have A:=(mem_ready.1 f).1;rcases wE i L.size with h'|h'
   ·simp [h']at A⊢;exact A
   simp [Array.getElem?_eq_none h']
  have C:W j=false:=by
   cases e:W j with
   |false=>rfl
   |true=>
    obtain⟨S,Z,X,a4⟩:=T j a t e;have u:=U S Z X;rcases a4 with h2|h2
    ·rw[h2,a0]at u;cases u
    rw[R _ h2]at u;cases u
  obtain⟨V,Y⟩:=G j a t c J C;have h2:=NB V D Y n (h.2 j (ready_mono x c) a t);refine wB (fun fr' H' B=>ih (L.setIfInBounds j true) fr' H' (fun k ok p a2 M a1=>G k ok p a2 ?_ a1) (fun k p=>?_) (ready_mono f (Ne.symm c)) B.1 ?_) h2
  ·by_cases I:j=k
   ·subst I;exact J
   rw[getD_set_ne true I]at M;exact M
  ·have a3:j≠k:=fun e=>by subst e;rw[C]at p;cases p
   rw[getD_set_ne false a3];exact R k p
  rw[Array.setIfInBounds_comm _ _ c];exact B.2
def wH (ops:Array Oper) (i:Nat):List Nat:=(List.range ops.size).foldl (fun acc j=>if(match ops[j]? with |some o=>o.after.any (fun e=>Region.binds .any e&&(e.on==i||acc.contains e.on))|none=>false)then j::acc else acc) []
def W9 (ops:Array Oper) (i:Nat) (ws:List Nat) (L:Array Bool):Bool:=
 ws.all fun j=> !L.getD j false&&match ops[j]? with |some o=>o.after.any (fun e=>Region.binds .any e&&(e.on==i||ws.contains e.on))|none=>true
def O0 (ops:Array Oper) (i:Nat) (oi:Oper) (cm:Bool) (ws:List Nat) (L:Array Bool):Bool:=
 (List.range ops.size).all fun j=>j==i||L.getD j true||ws.contains j||match ops[j]? with |some oj=>oi.apart ops oj&&(!cm||calm oj.op)|none=>true
def qI (ops:Array Oper):Array Bool→List (Nat×Bool)→Bool
 |L,[]=>Region.ready .any ops L==[]
 |L,(i,cm)::r=>(match ops[i]? with
  |none=>false
  |some o=>if calm o.op then(Region.ready .any ops L).contains i&&W9 ops i (wH ops i) L&&O0 ops i o cm (wH ops i) L else Region.ready .any ops L==[i])&&qI ops (L.setIfInBounds i true) r
def sZ (ops:List Oper):List (Nat×Bool)→List Oper
 |[]=>[]
 |(i,cm)::r=>match ops[i]? with
  |none=>[]
  |some o=>if cm then o::sZ ops r else match gL o.op with
   |some x=>⟨none, .entry x,o.type,o.pos,o.after,o.guard⟩::o::sZ ops r
   |none=>o::sZ ops r
theorem nY {N:Nat} {ds:List (Option Nat)} {o:Oper} (hd:kZ N o=true) (rest:List Oper) {fr:Fr} {H:Hp} (b:calm o.op=true) (h:eA E F ds Q (o::rest) fr H):
  ∃v,((lR ds fr o.guard=some false∧v= .tup [])∨(lR ds fr o.guard=some true∧aq E H fr o.op=some v))∧eA E F ds Q rest (fL fr o.dst v) H:=by
 rw[wV hd]at h;unfold aop at h;split at h
 ·rename_i a
  rw[rD b]at h;split at h<;>try (exact h.elim)
  rename_i v c;exact⟨v, .inr ⟨a,c⟩,h⟩
 ·rename_i a
  exact⟨_, .inl ⟨a,rfl⟩,h⟩
 exact h.elim
theorem Cb {N:Nat} (hd:ops.toList.all (kZ N)=true): ∀(C:List (Nat×Bool)) (L:Array Bool) (fr:Fr) (H:Hp),qI ops L C=true→eA E F (ops.toList.map (·.dst)) Q (sZ ops.toList C) fr H→Tt E F ops Q C.length L fr H
 |[],L,fr,H,c,h=>by
  simp only[qI,zO]at c;exact⟨c,h⟩
 |(i,cm)::r,L,fr,H,c,h=>by
  simp only[qI,aU]at c;obtain⟨c,I⟩:=c
  cases ho:ops[i]? with
  |none=>rw[ho]at c;simp at c
  |some o=>
   simp only[ho]at c
   have z:kZ N o=true:=by
    rw[cD]at hd;exact hd o (XQ.2 (Ks ho))
   have V:ops.toList[i]?=some o:=by simpa using ho
   simp only[sZ,V]at h;split at c
   ·rename_i k
    simp only[aU]at c;obtain⟨⟨R,A⟩,G⟩:=c
    have go: ∀v,Yl E F (ops.toList.map (·.dst)) cm o v fr H→eA E F (ops.toList.map (·.dst)) Q (sZ ops.toList r) (fL fr o.dst v) H→Tt E F ops Q (r.length+1) L fr H:=fun v p f=>by
     refine G1 ho k (fun j=>(wH ops i).contains j) (fun j M t l=>?_) r.length L fr H (fun j M t X Y W=>?_) (fun j l=>?_) (by simpa using R) p (Cb hd r _ _ _ I f)
     ·simp only[W9,cD]at A
      have:=A j (by simpa using l);simp only[t,aU]at this;obtain⟨O,T,B⟩:=Array.any_eq_true'.1 this.2;simp only[aU,jW,zO]at B;exact⟨O,T,B.1,B.2⟩
     ·simp only[O0,cD,List.mem_range]at G
      have:=G j (eJ.1 t).1;simp only[*,jW,zO,cF,dB,false_or,aU,eD]at this;refine⟨this.1,fun e=>?_⟩;rcases this.2 with h|h
      ·rw[e]at h;cases h
      exact h
     simp only[W9,cD]at A;have:=A j (by simpa using l);simp only[aU,eD]at this;exact this.1
    cases cm with
    |true=>
     simp only[cT]at h;obtain⟨v,n,f⟩:=nY z _ k h;exact go v (n.imp id fun⟨a,b⟩=>⟨a,b, .inl rfl⟩) f
    |false=>
     simp only[cF,dP]at h;split at h
     ·rename_i x u
      simp only[eA]at h;split at h
      ·rename_i J
       obtain⟨U,h⟩:=h;obtain⟨v,n,f⟩:=nY (fr:=fr) z _ k h;exact go v (n.imp id fun⟨a,b⟩=>⟨a,b, .inr fun y p=>by rw[u]at p;cases p;exact U⟩) f
      ·rename_i J
       obtain⟨v,n,f⟩:=nY (fr:=fr) z _ k h;exact go v (n.imp id fun⟨a,b⟩=>by rw[J]at a;cases a) f
      exact h.elim
     rename_i u;obtain⟨v,n,f⟩:=nY z _ k h;exact go v (n.imp id fun⟨a,b⟩=>⟨a,b, .inr fun y p=>by rw[u]at p;cases p⟩) f
   rename_i k;simp only[zO]at c
   have D:eA E F (ops.toList.map (·.dst)) Q (o::sZ ops.toList r) fr H:=by
    split at h
    ·exact h
    split at h
    ·rename_i x u
     exfalso;cases e:o.op<;>rw[e]at u k<;>simp [gL,calm]at u k
    exact h
   rw[wV z]at D;show Tt E F ops Q (r.length+1) L fr H;refine⟨fun e=>(by rw[c]at e;cases e),fun j l M t=>?_⟩;rw[c]at l;simp only[bA]at l;subst l;rw[ho]at t;cases t;exact wB (fun fr' H' S=>Cb hd r _ fr' H' I S) D
def O1 (N:Nat) (l:List Oper) (plan:List (Nat×Bool)):Bool:=l.all (kZ N)&&plan.length==l.length&&qI l.toArray (Array.replicate l.length false) plan
theorem Qc.drew {i:lF} {N:Nat} {a:Act} {w:World} (p:Qc E i N fr H a w):Qc E i N fr H a {w with drawn:=w.drawn+1}:=by
 obtain⟨j,l,S,c,n⟩:=p;have e:gS S S w {w with drawn:=w.drawn+1}:=c.keeps (nN.drew (fun _=>False) w) (fun _ h=>h.elim) (fun _ h=>h);refine⟨j,l,S, ?_,n.keeps e⟩;exact c.step (nN.drew (fun _=>False) w) (fun _ h=>h.elim) (fun _ h=>h) c.lt (fun k e=> .inl e) fun b o f=>⟨(c.obj b o f).2.1, .inl ⟨f,fun h=>h⟩⟩
theorem fS (F:Nat→Prop) (c:List (Nat×Bool)) {N id:Nat} {l l':List Oper} (i:E.P.follows .mixedOrders=true) (b:O1 N l c=true) (e:sZ l c=l') (h:eA E F (l.map (·.dst)) Q l' fr H):lW E N (.region id l.toArray true) Q fr H:=fun k a w j=>by
 subst e;simp only[O1,aU,zO]at b;obtain⟨⟨hd,f⟩,b⟩:=b;refine wp_region_any i (Jz (F:=F) (by simpa using hd) _ _ fr H a _ j.drew ?_);have:=Cb (E:=E) (F:=F) (Q:=Q) (ops:=l.toArray) (N:=N) (by simpa using hd) c _ fr H b (by simpa using h);rw[f]at this;simpa using this
end
section
variable {E : jV} {N : Nat} {F : Nat → Prop} {ds : List (Option Nat)} {Q : fK} {d : Option Nat} {rest : List Oper} {fr : Fr} {H : Hp}
theorem O4 {x y:Code} (M:Fr→Hp→Prop) (b:lW E N x (bL M Q) fr H) (c: ∀fr H,M fr H→lW E N y Q fr H):lW E N (.seq x y) Q fr H:=
 aI (Iq b fun e fr H a=>by cases e<;>first|exact c _ _ a|exact a)
theorem cI {x y:Code} (M:Fr→Hp→Prop) (a: ∀K:Fr→Hp→Prop,(∀fr H,M fr H→K fr H)→lW E N x (bL K Q) fr H) (b: ∀fr H,M fr H→lW E N y Q fr H):lW E N (.seq x y) Q fr H:=
 O4 M (a M fun _ _ h=>h) b
theorem eK {c:Code} (I:Nat→Fr→Hp→Prop) (n:Nat) (a:I n fr H) (f: ∀n fr H,I n fr H→ ∀K:Fr→Hp→Prop,(∀m fr' H',m<n→I m fr' H'→K fr' H')→lW E N c (bL K Q) fr H):lW E N (.loop c) Q fr H:=
 Xm I n a fun n fr H h=>f n fr H h _ fun m _ _ e b=>⟨m,e,b⟩
theorem dS {c:Operand} {x y:Code} (t:Bool) (e:ev E.G fr c= .bool t) (a:t=true→lW E N x Q fr H) (b:t=false→lW E N y Q fr H):lW E N (.cond c x y) Q fr H:=zQ e a b
theorem aZ.pure {v v':AV} {H:Hp} (h:v=v'):aZ (fun a H'=>a= .ret v'∧H'=pX) v H:=
 ⟨v,pX,lC.drop (fun b o h=>by cases h),by rw[h],rfl⟩
theorem aZ.turn {R:uZ→Hp→Prop} {v a:AV} {H H1:Hp} (e:lC v H a H1) (h:aZ R a H1):aZ R v H:=by
 obtain⟨f,H',b,c⟩:=h;exact⟨f,H',e.trans b,c⟩
def dW (sz:Nat) (v:AV) (rows:List (List AV)) (H:Hp):Prop:=(v= .nsl∧rows=[])∨ ∃b,v= .osl sz b rows.length∧H b=some (.rows sz rows)
theorem jH {sz l:Nat} {v:AV} {rows j:List (List AV)} (A:dW sz v rows H) (a:(rows.length+j.length) *l≤140737488355328) (x: ∀b,F b)
  (h: ∀t H',dW sz t (rows++j) H'→(∀b o,H b=some o→v≠ .osl sz b rows.length→H' b=some o)→eA E F ds Q rest (fL fr d t) H'):E0 E F ds Q d rest fr H (some (sz,l,v,j)):=by
 rcases A with⟨rfl,rfl⟩|⟨b,rfl,y⟩
 ·simp only[dE,aS,eC]at h a
  refine⟨a,fun e=>h _ _ (.inl ⟨rfl,e⟩) fun _ _ a _=>a,fun e b z=>h _ _ (.inr ⟨b,rfl,by simp [upd]⟩) fun i o f _=>?_⟩;have :i≠b:=fun c=>by rw[c,z]at f;cases f
  simp [upd,this,f]
 simp only[E0,y];refine⟨trivial,trivial,trivial,a,x b,fun i f=>?_⟩;refine h _ _ (.inr ⟨i,by simp,by simp [upd]⟩) fun k o n u=>?_;have p:k≠b:=fun c=>u (by rw[c])
 have B:k≠i:=fun c=>by
  rcases f with e|e
  ·exact p (c.trans e)
  rw[←c,n]at e;cases e
 simp [upd,p,B,n]
def frz (b sz:Nat) (l:List (List AV)):AV→AV
 | .osl sz' b' n=>if b'=b∧sz'=sz∧n=l.length then .isl sz l else .osl sz' b' n
 |v=>v
theorem MF (b sz:Nat) (l:List (List AV)) (v:AV):rH b sz l v (frz b sz l v):=by
 cases v<;>simp only[frz]<;>try exact rH.refl _ _ _ _
 split
 ·rename_i h
  obtain⟨rfl,rfl,rfl⟩:=h;exact rH.osl _ _ _
 exact rH.refl _ _ _ _
end
section
variable {E : jV} {N : Nat} {Q : fK} {fr : Fr} {H : Hp}
end
def VK (sz:Nat) (rows:List (List AV)):AV:=match rows with |[]=> .nsl|_=> .isl sz rows
def Js (sz:Nat) (v:AV) (rows:List (List AV)) (H:Hp):Prop:=(v= .nsl∧rows=[])∨(rows≠[]∧ ∃b,v= .osl sz b rows.length∧H b=some (.rows sz rows))
theorem Js.own {sz:Nat} {v:AV} {rows:List (List AV)} {H:Hp} (h:Js sz v rows H):dW sz v rows H:=h.imp id And.right
theorem dW.ne {sz:Nat} {v:AV} {rows:List (List AV)} {H:Hp} (h:dW sz v rows H) (a:rows≠[]):Js sz v rows H:=h.imp id fun h=>⟨a,h⟩
theorem Js.gives {sz:Nat} {v:AV} {rows:List (List AV)} {H:Hp} {vs:List AV} {v':AV} (h:Js sz v rows H) (e:v'= .tup (VK sz rows::vs)):aZ (fun a H'=>a= .ret v'∧H'=pX) (.tup (v::vs)) H:=by
 subst e;rcases h with⟨rfl,rfl⟩|⟨f,b,rfl,c⟩
 ·exact aZ.pure rfl
 refine aZ.turn (lC.freeze c (rH.cons (rH.osl b sz rows) (rH.refl _ _ _ _))) (aZ.pure ?_)
 cases rows with
 |nil=>exact absurd rfl f
 |cons=>rfl
theorem Js.gives1 {sz:Nat} {v:AV} {rows:List (List AV)} {H:Hp} {v':AV} (h:Js sz v rows H) (e:v'=VK sz rows):aZ (fun a H'=>a= .ret v'∧H'=pX) v H:=by
 subst e;rcases h with⟨rfl,rfl⟩|⟨f,b,rfl,c⟩
 ·exact aZ.pure rfl
 refine aZ.turn (lC.freeze c (rH.osl b sz rows)) (aZ.pure ?_)
 cases rows with
 |nil=>exact absurd rfl f
 |cons=>rfl
section
open Go.RowKit
theorem nN.below {W a:World} {M:Nat→Prop} (h:nN M W a) (b: ∀k, ¬M k):Below W.heap.size W a:=⟨h.os,h.tape,h.output,h.size,fun k c=>h.keep k c (b k)⟩
end
section
open Go.Lib
def Qp {H:Type} (ws:List (List UInt8)):DataW H:= .agg (ws.map fun s=> .lit (.string s))
theorem Lq {H:Type} {enc:TypeId×Value→H} {P:Program} {w:World} {l:Nat} {J:Nat→Bool} {A:Bool} {a:Nat} {t e:TypeId} {n:Nat} {cs:List Value} {ws:List (List UInt8)} {p:List MemPlace}
  (G:P.underlying t=some (.array n e)) (z:P.underlying e=some .string) (x:P.cellsOf e=1) (y:P.cellsOf t=n)
  (h:DataW.trod enc P w l J A a t cs=some (Qp ws,p)):cs=ws.map fun s=>Value.string ⟨s.toArray⟩:=by
 cases a with
 |zero=>simp [DataW.trod]at h
 |succ a=>
  simp only[DataW.trod,G,x,y,mP]at h;split at h
  ·rename_i L
   obtain⟨f,j,I⟩:=bI.1 h
   have k:f.map (·.1)=ws.map fun s=>(DataW.lit (.string s):DataW H):=by
    have:=congrArg Prod.fst I;simpa [Qp]using this
   have M:f.length=n:=by simpa using mapM_length j
   have O:ws.length=n:=by
    have:=congrArg List.length k;simp at this;omega
   apply kT;intro i;by_cases C:i<n
   ·obtain⟨b,u,B⟩:=mapM_at j i i (by simp [C])
    obtain⟨s,v,rfl,_⟩:=DataW.trod_string z B
    have o:cs[i]?=some (.string s):=by
     have:=congrArg (·[0]?) v;simpa [dZ,dR]using this
    have c:(f.map (·.1))[i]?=some (DataW.lit (.string s.data.toList):DataW H):=by simp [u]
    rw[k]at c;simp only[dH,bI,DataW.lit.injEq,Lit.string.injEq]at c;obtain⟨R,D,rfl⟩:=c;simp [o,D]
   rw[dM (by omega),dM (by simp;omega)]
  cases h
theorem yT {P:Program} {W:World} {name:String} {ws:List (List UInt8)} {g:Nat} {t e:TypeId} {n:Nat} (f:P.globalNamed name=some g) (j:(P.globals[g]?).map (·.type)=some t) (i:P.underlying t=some (.array n e)) (c:P.underlying e=some .string) (a:P.cellsOf e=1) (b:P.cellsOf t=n):
  ∀{l:List (String×DataW Unit)} {k:List MemPlace},DataW.LaidVars P W l k→(name,Qp ws)∈l→W.var? P name=some (ws.map fun s=>Value.string ⟨s.toArray⟩).toArray
 |[],_,_,hm=>by cases hm
 |(nm,d)::rest,k,h,hm=>by
  obtain⟨A,B,y,z,p,q,o,v,x,hd,u,_⟩:=h;rcases bK.1 hm with hm|hm
  ·cases hm
   obtain rfl:=Option.some.inj (f.symm.trans o);obtain rfl:=Option.some.inj (j.symm.trans v);rw[x,←Lq i c a b hd]
  exact yT f j i c a b u hm
end
section
open Go.RowKit Go.ChangeShapes
def old (W:World):fZ:=fun k=>k<W.heap.size
theorem A0 {E:jV} {g:FuncId} {args:List AV} {v:AV} (h:eH E g args v) {W:World} {a:fZ} {vs:List Value} (hst:St E ⟨W,IQ pX,a,[],fun _=>Go.undef⟩ a pX W) (n:cU a W args vs):
  Calls E.P g vs.toArray W fun e c=> ∃b x,e= .returned x∧bZ b c v x∧Below W.heap.size W c:=by
 refine(h.2 W a vs hst n).mono fun e c ⟨u,H',b,i,f,j,l⟩=>?_;subst j;subst l;simp only[uJ]at f;obtain⟨x,rfl,p⟩:=f;have t:=i.ext;exact⟨b,x,rfl,p,t.below fun k o=>o rfl⟩
section
variable {H : Type} {enc : TypeId × Value → H} {P : Program}
theorem xC (i:laidOutB P=true) {W f:World} {j:Nat→Bool}: ∀{c:List TypeId} {vs:List Value} {ds:List (DataW H)} {b:List MemPlace},(∀t∈c,P.readableRec t=true∧t<P.types.size)→
  DataW.TrodAll enc P W 0 (fun _=>true) true c vs ds b→(∀p∈b,W.sameAt f p)→(∀p∈b,j p.block=true)→DataW.TrodAll enc P f 0 j true c vs ds b
 |[],[],[],_,_,h,_,_=>h
 |t::c,v::vs,d::ds,b,hr,⟨p,q,h1,h2,e⟩,hs,hp=>by
  subst e
  exact⟨p,q,WideElems.Trod_stays i (hr t (by simp)).1 (hr t (by simp)).2 h1 (fun x a=>hs x (by simp [a])) (fun x a=>hp x (by simp [a])),
   xC i (fun t k=>hr t (by simp [k])) h2 (fun x a=>hs x (by simp [a])) (fun x a=>hp x (by simp [a])),rfl⟩
 |[],_::_,_,_,_,h,_,_=>by simp [DataW.TrodAll]at h
 |[],[],_::_,_,_,h,_,_=>by simp [DataW.TrodAll]at h
 |_::_,[],_,_,_,h,_,_=>by simp [DataW.TrodAll]at h
 |_::_,_::_,[],_,_,h,_,_=>by simp [DataW.TrodAll]at h
theorem Cd {W:World} {b:Nat} {f:Nat→Bool} {c:Bool}: ∀{a:List TypeId} {vs:List Value} {ds:List (DataW H)} {e:List MemPlace},DataW.TrodAll enc P W b f c a vs ds e→ds.length=a.length
 |[],[],[],_,_=>rfl
 |_::_,_::_,_::_,_,⟨_,_,_,h2,_⟩=>by simp [Cd h2]
 |[],_::_,_,_,h=>by simp [DataW.TrodAll]at h
 |[],[],_::_,_,h=>by simp [DataW.TrodAll]at h
 |_::_,[],_,_,h=>by simp [DataW.TrodAll]at h
 |_::_,_::_,[],_,h=>by simp [DataW.TrodAll]at h
theorem FU {f:Func} {s:ChangeSpec} {apart fresh B z:Bool} {W e:World} {args:Array Value} {v:Value} {ds gs:List (DataW H)} {a pa pv:List MemPlace}
  (l:DataW.Whole enc P f.params.toList s.vars apart W args.toList ds gs a)
  (x: ∀(b:Nat) (i:Nat→Bool) (hd:Bool),DataW.TrodAll enc P e b i hd f.resultTypes.toList (v.resultList f.resultTypes.size) (s.fn H (ds++gs)).results [])
  (n: ∀i:Nat→Bool,(∀p∈a,i p.block=true)→DataW.TrodAll enc P e 0 i true f.params.toList args.toList (s.fn H (ds++gs)).args pa)
  (y: ∀i:Nat→Bool,(∀p∈a,i p.block=true)→DataW.TrodVars enc P e i s.vars (s.fn H (ds++gs)).vars pv)
  (k:a=pa++pv) (D:W.keptBut e (· ∈a)) (C: ∀b off,MemPlace.cell b off∈a→e.frozen? ⟨b,off,none⟩=W.frozen? ⟨b,off,none⟩)
  (I: ∀(j:Nat) (t:TypeId) (r:Value),f.resultTypes[j]?=some t→(v.resultList f.resultTypes.size)[j]?=some r→Value.okWide P e .any 0 t r):
  s.post enc P f apart fresh B z W args v e:=by
 have o: ∀p∈a,(fun b=>decide (b<W.heap.size)) p.block=true:=fun p c=>by simpa using l.lt p c
 refine⟨ds,gs,a,[],pa,pv,l,x _ _ _,n _ o,y _ o,World.keptBut_mono (fun p c=>⟨c,by rw[k,eR]at c;exact Or.inr c⟩) D,fun _=>?_⟩;obtain⟨_,_,_,_,_,J,G⟩:=l;refine⟨I,_,_,([]++pa)++pv,⟨[]++pa,pv,trodAll_append (n _ (fun _ _=>rfl)) (x _ _ _),y _ (fun _ _=>rfl),rfl,fun b off c=>?_,fun A=>?_⟩,fun p c _=>by rw[k];simpa using c⟩
 ·have u:MemPlace.cell b off∈a:=by rw[k];simpa using c
  rw[C b off u];exact J b off u
 have:=G A;rw[k]at this;simpa using this
theorem GV {E:jV} {g:FuncId} {f:Func} {c:ChangeSpec} {J:TypeId} (R:laidOutB E.P=true) (T: ∀t∈f.params.toList,E.P.readableRec t=true∧t<E.P.types.size)
  (C:f.resultTypes= #[J]) (z:E.P.underlying J=some .bool) (G:c.vars=[])
  (U: ∀ds:List (DataW H),ds.length=f.params.toList.length→(c.fn H ds).results=[.lit (.bool true)]∧(c.fn H ds).args=ds∧(c.fn H ds).vars=[])
  {W:World} {args:Array Value} {ds gs:List (DataW H)} {L:List MemPlace}
  (y:DataW.Whole enc E.P f.params.toList c.vars false W args.toList ds gs L)
  {i:fZ} {xs:List AV} (hst:St E ⟨W,IQ pX,i,[],fun _=>Go.undef⟩ i pX W) (k:cU i W xs args.toList) (M:eH E g xs (.bool true)):
  Calls E.P g args W fun e n=> ∃v,e= .returned v∧c.post enc E.P f false true false false W args v n:=by
 have j:=y;obtain⟨p,q,o,u,rfl,_,_⟩:=y;rw[G]at u;obtain⟨rfl,rfl⟩:=trodVars_none u;have S:=Cd o;obtain⟨V,X,Y⟩:=U ds S;have A:=A0 M hst k;rw[eO]at A;refine A.mono fun e n ⟨Z,x,O,a,l⟩=>?_;subst O;simp only[bZ]at a;subst a;simp only[dO]at j;have B: ∀x∈p,x.block<W.heap.size:=fun x a=>j.lt x a;refine⟨_,rfl,FU (pa:=p) (pv:=[]) j ?_ ?_ ?_ (by simp) (l.frame _) (fun b off k=>by simp only[World.frozen?,l.block b (B _ k)]) (ok_one C rfl (okWide_bool_mk z _))⟩
 ·intro b I hd
  rw[C];simp only[dO,V];exact trodAll_cons_mk (shut_bool z _) trodAll_mk0
 ·intro I D
  simp only[dO,X];exact xC R T o (fun x a=>l.same (B x a)) (fun x a=>D x a)
 intro I D;simp only[dO,Y,G];rfl
end
end
theorem AL:type_of% (And.intro @Xo<|And.intro @Pm<|And.intro @Dv<|And.intro @Pj<|And.intro @Pn<|And.intro @xP<|And.intro @Jc<|And.intro @Pi<|And.intro @zT<|And.intro @It<|And.intro @vX<|And.intro @Iy<|And.intro @vW<|And.intro @Iw<|And.intro @zS<|And.intro @rB<|And.intro @xQ<|And.intro @Dt<|And.intro @Jb<|And.intro @Xs<|And.intro @Xp<|And.intro @Xq<|And.intro @Ix<|And.intro @Px<|And.intro @Je<|And.intro @Jd<|And.intro @Xt<|And.intro @zR<|And.intro @vV<|And.intro @uQ<|And.intro @Ir<|And.intro @Pe<|And.intro @vU<|And.intro @Du<|And.intro @Iz<|And.intro @Po<|And.intro @Oz<|And.intro @sE.eq_1<|And.intro @xT.eq_1<|And.intro @Dw<|And.intro @Iu<|And.intro @Xn<|And.intro @Pq<|And.intro @O5<|And.intro @Ph<|And.intro @mZ<|And.intro @Xi<|And.intro @cP.{0,0}<|And.intro @dD.{0,0}<|And.intro @gB.{0}<|And.intro @gP.{0}<|And.intro @List.getElem?_nil.{0}<|And.intro @List.getD_cons_zero.{0}<|And.intro @List.getD_cons_succ.{0}<|And.intro @List.getD_nil.{0}<|And.intro @eW.{0,0}<|And.intro @hQ.{0,0}<|And.intro @cA.{0,0}<|And.intro @Option.bind_none.{0,0}<|And.intro @Option.some_or.{0}<|And.intro @RP<|And.intro @true_and<|And.intro @and_false<|And.intro @false_and<|And.intro @beq_true<|And.intro @beq_false<|And.intro @Qg<|And.intro @Y7<|And.intro @BEq.rfl.{0}<|And.intro @Bool.true_beq<|And.intro @Bool.false_beq<|And.intro @List.toList_toArray.{0}<|And.intro @dO.{0}<|And.intro @dE.{0}<|And.intro @cN.{0}<|And.intro @eC<|And.intro @mB<|And.intro @Nat.succ_ne_self<|And.intro @not_true_eq_false<|And.intro @Eh<|And.intro @ne_eq.{1}<|And.intro @nS<|And.intro @UY<|And.intro @cF<|And.intro @if_false_right<|And.intro @if_true_left<|And.intro @Int.natCast_nonneg<|And.intro @dU<|And.intro @mP<|And.intro @rK<|And.intro @Int.cast_ofNat_Int<|And.intro @aJ.{0}<|And.intro @aS.{0}<|And.intro @eq_self.{1}<|And.intro @List.set_cons_zero.{0}<|And.intro @fR.{0}<|And.intro @fX.{0}<|And.intro @jI.{0}<|And.intro @dI.{0}<|And.intro @List.drop_nil.{0}<|And.intro @List.take_nil.{0}<|And.intro @dT.{0}<|And.intro @gN.{0}<|And.intro @mI<|And.intro @cJ<|And.intro @Bool.and_self<|And.intro @fW.{0}<|And.intro @eI.{0}<| @Bool.true_eq_false):=And.intro @Xo<|And.intro @Pm<|And.intro @Dv<|And.intro @Pj<|And.intro @Pn<|And.intro @xP<|And.intro @Jc<|And.intro @Pi<|And.intro @zT<|And.intro @It<|And.intro @vX<|And.intro @Iy<|And.intro @vW<|And.intro @Iw<|And.intro @zS<|And.intro @rB<|And.intro @xQ<|And.intro @Dt<|And.intro @Jb<|And.intro @Xs<|And.intro @Xp<|And.intro @Xq<|And.intro @Ix<|And.intro @Px<|And.intro @Je<|And.intro @Jd<|And.intro @Xt<|And.intro @zR<|And.intro @vV<|And.intro @uQ<|And.intro @Ir<|And.intro @Pe<|And.intro @vU<|And.intro @Du<|And.intro @Iz<|And.intro @Po<|And.intro @Oz<|And.intro @sE.eq_1<|And.intro @xT.eq_1<|And.intro @Dw<|And.intro @Iu<|And.intro @Xn<|And.intro @Pq<|And.intro @O5<|And.intro @Ph<|And.intro @mZ<|And.intro @Xi<|And.intro @cP.{0,0}<|And.intro @dD.{0,0}<|And.intro @gB.{0}<|And.intro @gP.{0}<|And.intro @List.getElem?_nil.{0}<|And.intro @List.getD_cons_zero.{0}<|And.intro @List.getD_cons_succ.{0}<|And.intro @List.getD_nil.{0}<|And.intro @eW.{0,0}<|And.intro @hQ.{0,0}<|And.intro @cA.{0,0}<|And.intro @Option.bind_none.{0,0}<|And.intro @Option.some_or.{0}<|And.intro @RP<|And.intro @true_and<|And.intro @and_false<|And.intro @false_and<|And.intro @beq_true<|And.intro @beq_false<|And.intro @Qg<|And.intro @Y7<|And.intro @BEq.rfl.{0}<|And.intro @Bool.true_beq<|And.intro @Bool.false_beq<|And.intro @List.toList_toArray.{0}<|And.intro @dO.{0}<|And.intro @dE.{0}<|And.intro @cN.{0}<|And.intro @eC<|And.intro @mB<|And.intro @Nat.succ_ne_self<|And.intro @not_true_eq_false<|And.intro @Eh<|And.intro @ne_eq.{1}<|And.intro @nS<|And.intro @UY<|And.intro @cF<|And.intro @if_false_right<|And.intro @if_true_left<|And.intro @Int.natCast_nonneg<|And.intro @dU<|And.intro @mP<|And.intro @rK<|And.intro @Int.cast_ofNat_Int<|And.intro @aJ.{0}<|And.intro @aS.{0}<|And.intro @eq_self.{1}<|And.intro @List.set_cons_zero.{0}<|And.intro @fR.{0}<|And.intro @fX.{0}<|And.intro @jI.{0}<|And.intro @dI.{0}<|And.intro @List.drop_nil.{0}<|And.intro @List.take_nil.{0}<|And.intro @dT.{0}<|And.intro @gN.{0}<|And.intro @mI<|And.intro @cJ<|And.intro @Bool.and_self<|And.intro @fW.{0}<|And.intro @eI.{0}<| @Bool.true_eq_false
section
variable {E : jV} {N : Nat} {Q : fK} {fr : Fr} {H : Hp}
theorem aA {id:Nat} {l:List Oper} {y:Code} (h: ∀K:Fr→Hp→Prop,(∀fr H,lW E N y Q fr H→K fr H)→eA E (fun _=>True) (l.map (·.dst)) (bL K Q) l fr H) (hd:l.all (kZ N)=true:=by exact rfl):lW E N (.seq (.region id l.toArray false) y) Q fr H:=
 aC fun K hK=>kN hd (h K hK)
theorem aG {id:Nat} {l:List Oper} (h:eA E (fun _=>True) (l.map (·.dst)) Q l fr H) (hd:l.all (kZ N)=true:=by exact rfl):lW E N (.region id l.toArray false) Q fr H:=kN hd h
theorem cL {c:Operand} {x y:Code} (h:lW E N x Q fr H) (hc:ev E.G fr c= .bool true:=by exact rfl):lW E N (.cond c x y) Q fr H:=zQ hc (fun _=>h) (fun e=>by cases e)
theorem bN {c:Operand} {x y:Code} (h:lW E N y Q fr H) (hc:ev E.G fr c= .bool false:=by exact rfl):lW E N (.cond c x y) Q fr H:=zQ hc (fun e=>by cases e) (fun _=>h)
theorem aX {c:Operand} {x y:Code} {t:Bool} (h1:t=true→lW E N x Q fr H) (h2:t=false→lW E N y Q fr H) (hc:ev E.G fr c= .bool t:=by exact rfl):lW E N (.cond c x y) Q fr H:=zQ hc h1 h2
theorem dG {a b:Nat} {o:gY} (h:H a=none) (h':H b=some o):a≠b:=fun e=>by rw[e,h']at h;cases h
end
theorem T8 {E:jV} {g:FuncId} {args:List AV} {v v':AV} (h:eH E g args v) (n:iR v v'):eH E g args v':=by
 refine⟨h.1,fun p b vs k l=>?_⟩;refine(h.2 p b vs k l).mono fun e w ⟨u,t,S',f,a,i,j⟩=>?_;subst i;subst j;simp only[uJ]at a;obtain⟨x,rfl,o⟩:=a;exact⟨.ret v',_,S',f,by simp only[uJ];exact⟨x,rfl,n _ _ _ o⟩,rfl,rfl⟩
theorem MG (b sz:Nat) (l:List (List AV)) (k:IntKind) (n:Int):frz b sz l (.int k n)= .int k n:=Eq.trans rfl rfl
theorem IA (b sz:Nat) (l:List (List AV)):frz b sz l (.osl sz b l.length)= .isl sz l:=by simp [frz]
def tG (sz:Nat) (v:AV) (rows:List (List AV)) (H:Hp):Prop:= ∃b,v= .osl sz b rows.length∧H b=some (.rows sz rows)
section
variable {E : jV} {F : Nat → Prop} {ds : List (Option Nat)} {Q : fK} {d : Option Nat} {rest : List Oper} {fr : Fr} {H : Hp}
theorem tB {sz k:Nat} {v:AV} {rows f:List (List AV)} (A:tG sz v rows H) (y:(rows.length+f.length) *k≤140737488355328) (u: ∀b,v= .osl sz b rows.length→F b)
  (h: ∀p a,tG sz p (rows++f) a→(∀b o,H b=some o→v≠ .osl sz b rows.length→a b=some o)→eA E F ds Q rest (fL fr d p) a):E0 E F ds Q d rest fr H (some (sz,k,v,f)):=by
 obtain⟨b,rfl,x⟩:=A;simp only[E0,x];refine⟨trivial,trivial,trivial,y,u b rfl,fun i z=>?_⟩;refine h _ _ ⟨i,by simp,by simp [upd]⟩ fun j o l t=>?_;have n:j≠b:=fun c=>t (by rw[c])
 have B:j≠i:=fun c=>by
  rcases z with e|e
  ·exact n (c.trans e)
  rw[←c,l]at e;cases e
 simp [upd,n,B,l]
theorem yJ (x:Operand) {ty:TypeId} {e:String} {a:Array Edge}:eA E F ds Q (⟨d, .entry x,ty,e,a,none⟩::rest) fr H=((∀b,pF (ev E.G fr x)=some b→ ¬F b)∧eA E F ds Q rest (fL fr d (.tup [])) H):=Eq.trans rfl rfl
theorem Ai (sz b i j:Nat):(∀x,pF (.ptr sz b i j)=some x→ ¬F x)= ¬F b:=by
 simp [pF]
theorem Na (r:List AV) (j:Nat):(∀x,pF (.ipt r j)=some x→ ¬F x)=True:=by
 simp [pF]
theorem tG.upd {sz:Nat} {v:AV} {rows:List (List AV)} (h:tG sz v rows H) {b:Nat} (i:H b=none) (o:Option gY):tG sz v rows (upd H b o):=by
 obtain⟨f,rfl,a⟩:=h;have j:f≠b:=fun e=>by rw[e,i]at a;cases a
 exact⟨f,rfl,by simp [Go.Al.upd,j,a]⟩
theorem tG.nb {sz:Nat} {v:AV} {rows:List (List AV)} (h:tG sz v rows H) {b:Nat} (f:H b=none) {n:Nat}:v≠ .osl sz b n:=by
 obtain⟨i,rfl,a⟩:=h;intro e;cases e;rw[f]at a;cases a
theorem tG.nb' {sz f:Nat} {v:AV} {rows k:List (List AV)} (h:tG sz v rows H) {b:Nat} (i:H b=some (.rows f k)) (j:f≠sz) {n:Nat}:v≠ .osl sz b n:=by
 obtain⟨l,rfl,a⟩:=h;intro e;cases e;rw[i]at a;cases a;exact j rfl
theorem tG.own {sz:Nat} {v:AV} {rows:List (List AV)} (h:tG sz v rows H):dW sz v rows H:=by
 obtain⟨b,a,e⟩:=h;exact .inr ⟨b,a,e⟩
theorem dW.upd {sz:Nat} {v:AV} {rows:List (List AV)} (h:dW sz v rows H) {b:Nat} (i:H b=none) (o:Option gY):dW sz v rows (upd H b o):=by
 rcases h with h|⟨f,rfl,a⟩
 ·exact .inl h
 have j:f≠b:=fun e=>by rw[e,i]at a;cases a
 exact .inr ⟨f,rfl,by simp [Go.Al.upd,j,a]⟩
theorem dW.nb {sz:Nat} {v:AV} {rows:List (List AV)} (h:dW sz v rows H) {b:Nat} (f:H b=none) {n:Nat}:v≠ .osl sz b n:=by
 rcases h with⟨rfl,_⟩|⟨i,rfl,a⟩
 ·intro e;cases e
 intro e;cases e;rw[f]at a;cases a
theorem dW.nb' {sz f:Nat} {v:AV} {rows k:List (List AV)} (h:dW sz v rows H) {b:Nat} (i:H b=some (.rows f k)) (j:f≠sz) {n:Nat}:v≠ .osl sz b n:=by
 rcases h with⟨rfl,_⟩|⟨l,rfl,a⟩
 ·intro e;cases e
 intro e;cases e;rw[i]at a;cases a;exact j rfl
theorem tG.far {sz a:Nat} {v:AV} {rows k:List (List AV)} (h:tG sz v rows H) {b:Nat} (f:H b=some (.rows a k)) (i:a≠sz) (x:Nat) {n:Nat} (j:v= .osl sz x n):x≠b:=fun e=>by
 subst e;exact h.nb' f i j
theorem dW.gives1 {sz:Nat} {v:AV} {rows:List (List AV)} {v':AV} (h:dW sz v rows H) (e:v'= .isl sz rows):aZ (fun f a=>f= .ret v'∧a=pX) v H:=by
 subst e;rcases h with⟨rfl,rfl⟩|⟨b,rfl,i⟩
 ·exact aZ.turn (lC.sub (iR.nsl sz)) (aZ.pure rfl)
 exact aZ.turn (lC.freeze i (rH.osl b sz rows)) (aZ.pure rfl)
end
def keeps (M:Nat→Prop) (H H':Hp):Prop:= ∀b o, ¬M b→H b=some o→H' b=some o
theorem keeps.refl (M:Nat→Prop) (H:Hp):keeps M H H:=fun _ _ _ h=>h
theorem keeps.trans {M:Nat→Prop} {H H1 H2:Hp} (h:keeps M H H1) (e:keeps M H1 H2):keeps M H H2:=fun b o a f=>e b o a (h b o a f)
theorem keeps.new {M:Nat→Prop} {H H1:Hp} (h:keeps M H H1) {b:Nat} (i:H b=none) (o:Option gY):keeps M H (upd H1 b o):=fun f k j a=>by
 have :f≠b:=fun e=>by rw[e,i]at a;cases a
 simp only[upd,aM this];exact h f k j a
theorem keeps.set {M:Nat→Prop} {H H1:Hp} (h:keeps M H H1) {b:Nat} (i:M b) (o:Option gY):keeps M H (upd H1 b o):=fun a k f j=>by
 have :a≠b:=fun e=>f (e▸i);simp only[upd,aM this];exact h a k f j
theorem keeps.mono {M a:Nat→Prop} {H H1:Hp} (h:keeps M H H1) (i: ∀b,M b→a b):keeps a H H1:=fun b o f e=>h b o (fun c=>f (i b c)) e
theorem Hq (H' H:Hp):lD H' H H=H':=by
 funext b;unfold lD
 cases h:H' b with
 |some o=>rfl
 |none=>
  cases h2:H b with
  |some o=>simp
  |none=>simp []
theorem gC {E:jV} {F:Nat→Prop} {ds:List (Option Nat)} {Q:fK} {d:Option Nat} {rest:List Oper} {fr:Fr} {H:Hp} {g:FuncId} {args i:List AV} {R:AV→Hp→Prop}
  (k:pK E g i H (fun f a=> ∃v,f= .ret v∧R v a)) (n:fJ args i) (j: ∀b,F b) (h: ∀v a,R v a→eA E F ds Q rest (fL fr d v) a):qK E F ds Q d rest fr H g args:=by
 refine mX k n (fun b o h=>h) (fun b _=>j b) fun f a ⟨v,e,l⟩ _=>?_;subst e;rw[Hq];exact h v a l
theorem tZ {E:jV} {F:Nat→Prop} {ds:List (Option Nat)} {Q:fK} {d:Option Nat} {rest:List Oper} {fr:Fr} {H:Hp} {g:FuncId} {args k:List AV} {R:AV→Hp→Prop}
  (l:pK E g k pX (fun j f=> ∃v,j= .ret v∧R v f)) (t:fJ args k)
  (h: ∀v f i,R v f→keeps (fun _=>False) H i→(∀b o,f b=some o→i b=some o∧H b=none)→eA E F ds Q rest (fL fr d v) i):qK E F ds Q d rest fr H g args:=by
 refine mX l t (qY H) (fun b a=>absurd rfl a) fun j f ⟨v,e,p⟩ n=>?_;subst e
 have fresh: ∀b o,f b=some o→H b=none:=fun b o a=>by
  rcases n b (by rw[a];simp)with h|h
  ·exact absurd rfl h
  exact h
 refine h v f _ p (fun b o _ a=>?_) (fun b o a=>⟨?_,fresh b o a⟩)
 ·unfold lD
  cases h2:f b with
  |some o'=>have:=fresh b o' h2;rw[a]at this;cases this
  |none=>simp [pX,a]
 simp only[lD,a]
theorem aZ.whole {R:AV→Hp→Prop} {v:AV} {H:Hp} (h:R v H):aZ (fun b a=> ∃v,b= .ret v∧R v a) v H:=
 aZ.self ⟨v,rfl,h⟩
def apart (v w:AV):Prop:= ∀b s n s' n',v= .osl s b n→w≠ .osl s' b n'
theorem apart.nsl (w:AV):apart .nsl w:=fun _ _ _ _ _ h=>by cases h
theorem apart.symm {v w:AV} (h:apart v w):apart w v:=fun b s n i f a e=>h b i f s n e a
theorem dW.there {sz:Nat} {v:AV} {rows:List (List AV)} {H:Hp} (h:dW sz v rows H): ∀s b n,v= .osl s b n→H b≠none:=fun s b n e=>by
 rcases h with⟨rfl,_⟩|⟨f,rfl,a⟩
 ·cases e
 cases e;rw[a];simp
theorem dW.keep {sz f:Nat} {v w:AV} {rows a:List (List AV)} {H H':Hp} (h:dW sz v rows H) (i:apart w v) (k: ∀b o,H b=some o→w≠ .osl f b a.length→H' b=some o):dW sz v rows H':=by
 rcases h with h|⟨b,rfl,j⟩
 ·exact .inl h
 exact .inr ⟨b,rfl,k b _ j fun e=>i b f a.length sz rows.length e rfl⟩
def off (v:AV) (b:Nat):Prop:= ∀s n,v≠ .osl s b n
def Ym (E:jV) (g:FuncId) (args:List AV) (sz:Nat) (rows:List (List AV)):Prop:=pK E g args pX (fun ae H'=> ∃v,ae= .ret v∧dW sz v rows H')
theorem Ym.pure {E:jV} {g:FuncId} {args:List AV} {sz:Nat} {rows:List (List AV)} (h:Ym E g args sz rows):eH E g args (.isl sz rows):=by
 refine⟨h.1,fun A b vs o p=>?_⟩;refine(h.2 A b vs o p).mono fun e w ⟨D,B,S',i,a,v,j,k⟩=>?_;subst j;simp only[uJ]at a;obtain⟨x,rfl,u⟩:=a;obtain⟨v',C,t,l,n⟩:=k.gives1 (v':= .isl sz rows) rfl;obtain⟨f,_,z,y⟩:=t _ _ _ _ _ i u;cases l;subst n;exact⟨.ret _,_,f,z,by simp only[uJ];exact⟨x,rfl,y⟩,rfl,rfl⟩
theorem JD {E:jV} {F:Nat→Prop} {ds:List (Option Nat)} {Q:fK} {d:Option Nat} {rest:List Oper} {fr:Fr} {H:Hp} {g:FuncId} {args:List AV} {sz:Nat} {rows:List (List AV)}
  (p:Ym E g args sz rows) (h: ∀v f,dW sz v rows f→(∀b o,H b=some o→f b=some o)→(∀b o,H b=some o→off v b)→eA E F ds Q rest (fL fr d v) f):qK E F ds Q d rest fr H g args:=by
 refine tZ p (fJ.refl _) fun v u f i t k=>?_;refine h v f ?_ (fun b o a=>t b o (fun h=>h) a) (fun b o a s n e=>?_)
 ·rcases i with i|⟨b,e,a⟩
  ·exact .inl i
  exact .inr ⟨b,e,(k b _ a).1⟩
 rcases i with⟨j,_⟩|⟨x,j,l⟩
 ·rw[j]at e;cases e
 rw[j]at e;cases e;rw[(k b _ l).2]at a;cases a
theorem Ym.gives {sz:Nat} {v:AV} {rows:List (List AV)} {H:Hp} (h:dW sz v rows H):aZ (fun b a=> ∃v,b= .ret v∧dW sz v rows a) v H:=aZ.whole h
def WU (op:UnOp) (v:AV):Option AV:=match op,v with
 | .not, .bool b=>some (.bool (!b))
 | .neg, .int k n=>some (.int k (k.wrap (0 -n)))
 |_,_=>none
theorem Xr (E:jV) (F:Nat→Prop) (ds:List (Option Nat)) (Q:fK) (d:Option Nat) (ty:TypeId) (b:String) (a:Array Edge) (rest:List Oper) (fr:Fr) (H:Hp) (c:Call):
  eA E F ds Q (⟨d, .go c,ty,b,a,none⟩::rest) fr H=rM E F ds Q d rest fr H (VE E fr c):=Eq.trans rfl rfl
theorem O9 (E:jV) (fr:Fr) (f:Callee) (l:List Operand) (t:TypeId):VE E fr ⟨f,l.toArray, #[t]⟩=(Lr E fr t l.length (xL 0 l).toArray).map fun p=> .isl p.1 p.2:=by simp [VE]
theorem P0 (E:jV) (H:Hp) (fr:Fr) (op:UnOp) (t:TypeId) (x:Operand):aq E H fr (.unOp op t x)=WU op (ev E.G fr x):=Eq.trans rfl rfl
theorem O7 (b:Bool):WU .not (.bool b)=some (.bool (!b)):=Eq.trans rfl rfl
theorem O8 (k:IntKind) (n:Int):WU .neg (.int k n)=some (.int k (k.wrap (0 -n))):=Eq.trans rfl rfl
theorem aV {a:Type} (f:Nat→a) (i j:Nat) (v:a):upd f i v j=if j=i then v else f j:=Eq.trans rfl rfl
theorem Nc (K:Fr→Hp→Prop) (Q:fK) (fr:Fr) (H:Hp):bL K Q .ret fr H=Q .ret fr H:=Eq.trans rfl rfl
theorem Fo (K:Fr→Hp→Prop) (Q:fK) (id:Nat) (fr:Fr) (H:Hp):bL K Q (.exit id) fr H=Q (.exit id) fr H:=Eq.trans rfl rfl
theorem xN (id:Nat) (Q:fK) (fr:Fr) (H:Hp):cG id Q .normal fr H=Q .normal fr H:=Eq.trans rfl rfl
theorem Im (id:Nat) (Q:fK) (fr:Fr) (H:Hp):cG id Q .ret fr H=Q .ret fr H:=Eq.trans rfl rfl
theorem Ds (id a:Nat) (Q:fK) (fr:Fr) (H:Hp):cG id Q (.exit a) fr H=if a=id then Q .normal fr H else Q (.exit a) fr H:=Eq.trans rfl rfl
theorem AX:type_of% (And.intro AL<|And.intro @aq.eq_1<|And.intro @aq.eq_2<|And.intro @aq.eq_3<|And.intro @aq.eq_4<|And.intro @aq.eq_5<|And.intro @aq.eq_6<|And.intro @P0<|And.intro @O7<|And.intro @O8<|And.intro @aq.eq_10<|And.intro @aq.eq_11<|And.intro @aq.eq_12<|And.intro @aq.eq_13<|And.intro @aq.eq_14<|And.intro @aq.eq_15<|And.intro @aq.eq_16<|And.intro @aq.eq_17<|And.intro @aq.eq_18<|And.intro @aq.eq_19<|And.intro @aq.eq_20<|And.intro @aq.eq_21<|And.intro @aq.eq_22<|And.intro @aq.eq_23<|And.intro @lY.eq_1<|And.intro @lY.eq_2<|And.intro @lY.eq_3<|And.intro @lY.eq_4<|And.intro @lY.eq_5<|And.intro @lY.eq_6<|And.intro @lY.eq_7<|And.intro @lY.eq_8<|And.intro @lY.eq_9<|And.intro @lY.eq_10<|And.intro @lY.eq_11<|And.intro @lY.eq_12<|And.intro @lY.eq_13<|And.intro @lY.eq_14<|And.intro @lY.eq_15<|And.intro @lY.eq_16<|And.intro @lY.eq_17<|And.intro @uB.eq_1<|And.intro @uB.eq_2<|And.intro @uB.eq_3<|And.intro @uB.eq_4<|And.intro @uB.eq_5<|And.intro @uB.eq_6<|And.intro @uB.eq_7<|And.intro @uB.eq_8<|And.intro @lR.eq_1<|And.intro @lR.eq_2<|And.intro @Di.eq_1<|And.intro @Di.eq_2<|And.intro @Di.eq_3<|And.intro @Ye.eq_1<|And.intro @NE.eq_1<|And.intro @NE.eq_2<|And.intro @NE.eq_3<|And.intro @ND.eq_1<|And.intro @ND.eq_2<|And.intro @ND.eq_3<|And.intro @uT.eq_1<|And.intro @uT.eq_2<|And.intro @uT.eq_3<|And.intro @rd.eq_1<|And.intro @iU.eq_1<|And.intro @iU.eq_2<|And.intro @iU.eq_3<|And.intro @iU.eq_4<|And.intro @iU.eq_5<|And.intro @Lr.eq_1<|And.intro @nV.eq_1<|And.intro @nV.eq_2<|And.intro @vY.eq_1<|And.intro @pJ.eq_1<|And.intro @cellsOf.eq_1<|And.intro @cellsOf.eq_2<|And.intro @cellsOf.eq_3<|And.intro @ev.eq_1<|And.intro @ev.eq_2<|And.intro @ev.eq_3<|And.intro @ev.eq_4<|And.intro @Em.eq_1<|And.intro @Em.eq_2<|And.intro @Jj.eq_1<|And.intro @Jj.eq_2<|And.intro @Jj.eq_3<|And.intro @Jj.eq_4<|And.intro @Jj.eq_5<|And.intro @Jj.eq_6<|And.intro @Jj.eq_7<|And.intro @Jj.eq_8<|And.intro @Jj.eq_9<|And.intro @fL.eq_1<|And.intro @fL.eq_2<|And.intro @aV<|And.intro @Y1.eq_1<|And.intro @TK.agg.eq_1<|And.intro @TK.agg.eq_2<|And.intro @TK.agg.eq_3<|And.intro @Tf.eq_1<|And.intro @Bo.eq_1<|And.intro @Bo.eq_2<|And.intro @Bo.eq_3<|And.intro @Bo.eq_4<|And.intro @one.eq_1<|And.intro @one.eq_2<|And.intro @one.eq_3<|And.intro @one.eq_4<|And.intro @Xr<|And.intro @O9<|And.intro @xL.eq_1<|And.intro @xL.eq_2<|And.intro @By.eq_1<|And.intro @By.eq_2<|And.intro @pC.eq_1<|And.intro @pC.eq_2<|And.intro @Ik.eq_1<|And.intro @aq.abuild.eq_1<|And.intro @aq.abuild.eq_2<|And.intro @cT.{1}<|And.intro @dP.{1}<|And.intro @cT.{1}<|And.intro @yJ<|And.intro @Ai<|And.intro @Na<|And.intro @mZ<|And.intro Nc<|And.intro Fo<|And.intro xN<|And.intro Im<|And.intro Ds trivial):=And.intro AL<|And.intro @aq.eq_1<|And.intro @aq.eq_2<|And.intro @aq.eq_3<|And.intro @aq.eq_4<|And.intro @aq.eq_5<|And.intro @aq.eq_6<|And.intro @P0<|And.intro @O7<|And.intro @O8<|And.intro @aq.eq_10<|And.intro @aq.eq_11<|And.intro @aq.eq_12<|And.intro @aq.eq_13<|And.intro @aq.eq_14<|And.intro @aq.eq_15<|And.intro @aq.eq_16<|And.intro @aq.eq_17<|And.intro @aq.eq_18<|And.intro @aq.eq_19<|And.intro @aq.eq_20<|And.intro @aq.eq_21<|And.intro @aq.eq_22<|And.intro @aq.eq_23<|And.intro @lY.eq_1<|And.intro @lY.eq_2<|And.intro @lY.eq_3<|And.intro @lY.eq_4<|And.intro @lY.eq_5<|And.intro @lY.eq_6<|And.intro @lY.eq_7<|And.intro @lY.eq_8<|And.intro @lY.eq_9<|And.intro @lY.eq_10<|And.intro @lY.eq_11<|And.intro @lY.eq_12<|And.intro @lY.eq_13<|And.intro @lY.eq_14<|And.intro @lY.eq_15<|And.intro @lY.eq_16<|And.intro @lY.eq_17<|And.intro @uB.eq_1<|And.intro @uB.eq_2<|And.intro @uB.eq_3<|And.intro @uB.eq_4<|And.intro @uB.eq_5<|And.intro @uB.eq_6<|And.intro @uB.eq_7<|And.intro @uB.eq_8<|And.intro @lR.eq_1<|And.intro @lR.eq_2<|And.intro @Di.eq_1<|And.intro @Di.eq_2<|And.intro @Di.eq_3<|And.intro @Ye.eq_1<|And.intro @NE.eq_1<|And.intro @NE.eq_2<|And.intro @NE.eq_3<|And.intro @ND.eq_1<|And.intro @ND.eq_2<|And.intro @ND.eq_3<|And.intro @uT.eq_1<|And.intro @uT.eq_2<|And.intro @uT.eq_3<|And.intro @rd.eq_1<|And.intro @iU.eq_1<|And.intro @iU.eq_2<|And.intro @iU.eq_3<|And.intro @iU.eq_4<|And.intro @iU.eq_5<|And.intro @Lr.eq_1<|And.intro @nV.eq_1<|And.intro @nV.eq_2<|And.intro @vY.eq_1<|And.intro @pJ.eq_1<|And.intro @cellsOf.eq_1<|And.intro @cellsOf.eq_2<|And.intro @cellsOf.eq_3<|And.intro @ev.eq_1<|And.intro @ev.eq_2<|And.intro @ev.eq_3<|And.intro @ev.eq_4<|And.intro @Em.eq_1<|And.intro @Em.eq_2<|And.intro @Jj.eq_1<|And.intro @Jj.eq_2<|And.intro @Jj.eq_3<|And.intro @Jj.eq_4<|And.intro @Jj.eq_5<|And.intro @Jj.eq_6<|And.intro @Jj.eq_7<|And.intro @Jj.eq_8<|And.intro @Jj.eq_9<|And.intro @fL.eq_1<|And.intro @fL.eq_2<|And.intro @aV<|And.intro @Y1.eq_1<|And.intro @TK.agg.eq_1<|And.intro @TK.agg.eq_2<|And.intro @TK.agg.eq_3<|And.intro @Tf.eq_1<|And.intro @Bo.eq_1<|And.intro @Bo.eq_2<|And.intro @Bo.eq_3<|And.intro @Bo.eq_4<|And.intro @one.eq_1<|And.intro @one.eq_2<|And.intro @one.eq_3<|And.intro @one.eq_4<|And.intro @Xr<|And.intro @O9<|And.intro @xL.eq_1<|And.intro @xL.eq_2<|And.intro @By.eq_1<|And.intro @By.eq_2<|And.intro @pC.eq_1<|And.intro @pC.eq_2<|And.intro @Ik.eq_1<|And.intro @aq.abuild.eq_1<|And.intro @aq.abuild.eq_2<|And.intro @cT.{1}<|And.intro @dP.{1}<|And.intro @cT.{1}<|And.intro @yJ<|And.intro @Ai<|And.intro @Na<|And.intro @mZ<|And.intro Nc<|And.intro Fo<|And.intro xN<|And.intro Im<|And.intro Ds trivial
def oQ (E:jV) (G:Nat→Nat→Prop) (ops:Array Oper) (Q:fK):Nat→Array Bool→Fr→Hp→Prop
 |0,L,fr,H=>Region.ready .any ops L=[]∧Q .normal fr H
 |fuel+1,L,fr,H=>(Region.ready .any ops L=[]→Q .normal fr H)∧
  ∀i∈Region.ready .any ops L, ∀o,ops[i]?=some o→aop E (G i) (ops.toList.map (·.dst)) o fr H (oQ E G ops Q fuel (L.setIfInBounds i true)) (fun v H'=>Q (.pan v) N6 H')
def D4 (len:Nat) (ps:Array (Nat×Operand)):Bool:=ps.toList.map (·.1)==List.range len
theorem N8: ∀(l:List (Nat×Operand)) (k:Nat),l.map (·.1)=List.range' k l.length→xL k (l.map (·.2))=l
 |[],_,_=>rfl
 |(i,x)::l,k,h=>by
  simp only[cP,aJ,List.range'_succ,List.cons.injEq]at h;simp only[cP,xL,h.1,N8 l (k+1) h.2]
theorem D3 {len:Nat} {a:Array (Nat×Operand)} (h:D4 len a=true):a.size=len∧(xL 0 (a.toList.map (·.2))).toArray=a:=by
 simp only[D4,zO]at h;have b:a.size=len:=by have:=congrArg List.length h;simpa using this
 refine⟨b, ?_⟩;rw[N8 a.toList 0 (by rw[h,List.range_eq_range',kU,b])]
def vT (f:Nat) (o:Op):Bool:=if f=2 then(match o with | .buildSlice _ len ps=>D4 len ps|_=>false)else calm o&&(f !=3||(gL o).isNone)
def Pv (E:jV) (H:Hp) (fr:Fr) (o:Op) (f:Nat):Option AV:=if f=2 then(match o with | .buildSlice t len ps=>(Lr E fr t len ps).map fun p=> .isl p.1 p.2|_=>none)else aq E H fr o
def Yf (E:jV) (F:Nat→Prop) (ds:List (Option Nat)) (f:Nat) (o:Oper) (v:AV) (fr:Fr) (H:Hp):Prop:=
 (lR ds fr o.guard=some false∧v= .tup [])∨
 (lR ds fr o.guard=some true∧Pv E H fr o.op f=some v∧(f=0→ ∀x,gL o.op=some x→ ∀b,pF (ev E.G fr x)=some b→ ¬F b))
section
variable {E : jV} {F : Nat → Prop} {G : Nat → Nat → Prop} {ops : Array Oper} {Q : fK} {fr : Fr} {H : Hp}
theorem wG {n:lF} {N:Nat} (hd:ops.toList.all (kZ N)=true): ∀(fuel:Nat) (L:Array Bool) (fr:Fr) (H:Hp) (a:Act) (w:World),Qc E n N fr H a w→oQ E G ops Q fuel L fr H→wpAny E.P .any ops (vN E n N Q) fuel L a w
 |0,_,fr,H,a,w,hs,h=>⟨h.1,fr,H,hs,h.2⟩
 |fuel+1,L,fr,H,a,w,hs,h=>by
  refine⟨fun e=>⟨fr,H,hs,h.1 e⟩,fun i k=>?_⟩;obtain⟨_,o,j,_⟩:=mem_ready.1 k;unfold wpOp;simp only[j]
  have x:kZ N o=true:=by
   rw[cD]at hd;exact hd o (XQ.2 (Ks j))
  have u:=hs.1;exact Bt hs x (h.2 i k o j) (fun t b p l y f=>wG hd fuel _ t b p l y f) (fun v B S' b l z A f=>⟨u,v,B,S',b,rfl,z,A,f⟩)
theorem Yf.step {f:Nat} {j z:Oper} {v u:AV} {H':Hp} (o:vT f j.op=true) (l: ∀d,z.dst=some d→d∉j.looksAt ops) (y:Yf E F (ops.toList.map (·.dst)) f j v fr H) (K:f=0→uU F H H') (L:f≠0→f≠2→f≠3→H'=H):
  Yf E F (ops.toList.map (·.dst)) f j v (fL fr z.dst u) H':=by
 unfold Yf at *;rw[wX l];rcases y with y|⟨J,a,D⟩
 ·exact .inl y
 refine .inr ⟨J, ?_, ?_⟩
 ·by_cases k:f=2
  ·subst k
   simp only[Pv,cT]at a⊢;obtain⟨dst,op,U,T,R,g⟩:=j;cases op<;>simp only[reduceCtorEq]at a⊢;rename_i t len A;have I:=tP (E:=E) (fr:=fr) (v:=u) l;simp only[Op.operands]at I;rw[←a]
   have P: ∀B,nV E (fL fr z.dst u) B 0 A.toList=nV E fr B 0 A.toList:=fun B=>uD A.toList 0 fun p O=>I p.2 (by
    simp only[wF,kQ];exact⟨p,O,rfl⟩)
   simp only[Lr,P]
  simp only[Pv,aM k]at a⊢;simp only[vT,aM k,aU]at o;rw[Jk (tP l)];by_cases i:f=0
  ·exact Bq o.1 a fun x e b n M=>K i b M (D i x e b n)
  by_cases C:f=3
  ·refine Bq o.1 a fun x e=>?_
   have:=o.2;rw[C,e]at this;simp at this
  rw[L i k C];exact a
 intro i x e b n;rw[tP l x (Vw e)]at n;exact D i x e b n
theorem JL {f:Nat} {F':Nat→Prop} {i k:Oper} {v:AV} {K:Fr→Hp→Prop} {x:AV→Hp→Prop} (D:i.apart ops k=true) (p:vT f i.op=true) (I:f≠0→f≠2→f≠3→calm k.op=true) (A:f=0→F'=F) (t:Yf E F (ops.toList.map (·.dst)) f i v fr H)
  (h:aop E F' (ops.toList.map (·.dst)) k (fL fr i.dst v) H K x):aop E F' (ops.toList.map (·.dst)) k fr H (fun y l=>Yf E F (ops.toList.map (·.dst)) f i v y l∧K (fL y i.dst v) l) x:=by
 obtain⟨z,n,o⟩:=Oper.apart_spec D;unfold aop at *;rw[wX z]at h;split at h
 ·rename_i L
  rw[Dx (tP z)]at h;by_cases j:f≠0∧f≠2∧f≠3
  ·rw[rD (I j.1 j.2.1 j.2.2)]at h⊢
   split at h<;>try (exact h.elim)
   rename_i u J;refine⟨t.step p o (fun _=>uU.refl) fun _ _ _=>rfl, ?_⟩;rw[←sR n];exact h
  refine uC (fun u l C B=>⟨t.step p o (fun e=>by rw[←A e];exact C) (fun a b c=>absurd ⟨a,b,c⟩ j), ?_⟩) (fun _ _ h=>h) h;rw[←sR n];exact B
 ·exact⟨t.step p o (fun _=>uU.refl) fun _ _ _=>rfl,by rw[←sR n];exact h⟩
 exact h
theorem Yf.aop {f:Nat} {F':Nat→Prop} {o:Oper} {v:AV} {K:Fr→Hp→Prop} {j:AV→Hp→Prop} (i:vT f o.op=true) (l:Yf E F (ops.toList.map (·.dst)) f o v fr H) (h:K (fL fr o.dst v) H):Al.aop E F' (ops.toList.map (·.dst)) o fr H K j:=by
 unfold Al.aop;rcases l with⟨e,rfl⟩|⟨e,a,_⟩
 ·rw[e];exact h
 rw[e];by_cases b:f=2
 ·subst b
  simp only[Pv,cT]at a;obtain⟨dst,op,u,t,n,g⟩:=o;cases op<;>simp only[reduceCtorEq]at a;rw[bI]at a;obtain⟨p,k,rfl⟩:=a;simp only[kP,k];exact .inl h
 simp only[Pv,aM b]at a;simp only[vT,aM b,aU]at i;simp only;rw[rD i.1,a];exact h
theorem Yt {i:Nat} {p:Oper} {v:AV} {f:Nat} (hi:ops[i]?=some p) (J:vT f p.op=true) (W:Nat→Bool) (Y: ∀j a,ops[j]?=some a→W j=true→ ∃e∈a.after,Region.binds .any e=true∧(e.on=i∨W e.on=true)):
  ∀(b:Nat) (L:Array Bool) (fr:Fr) (H:Hp),
   (∀j a,ops[j]?=some a→j≠i→L.getD j true=false→W j=false→p.apart ops a=true∧(f≠0→f≠2→f≠3→calm a.op=true)∧(f=0→G j=F))→
   (∀j,W j=true→L.getD j false=false)→i∈Region.ready .any ops L→Yf E F (ops.toList.map (·.dst)) f p v fr H→
   oQ E G ops Q b (L.setIfInBounds i true) (fL fr p.dst v) H→oQ E G ops Q (b+1) L fr H:=by
 have first: ∀{b:Nat} {L:Array Bool} {fr:Fr} {H:Hp} {j:Nat} {o:Oper},ops[j]?=some o→j=i→Yf E F (ops.toList.map (·.dst)) f p v fr H→oQ E G ops Q b (L.setIfInBounds i true) (fL fr p.dst v) H→
   Al.aop E (G j) (ops.toList.map (·.dst)) o fr H (oQ E G ops Q b (L.setIfInBounds j true)) (fun v B=>Q (.pan v) N6 B):=fun {b L fr H j o} A e t h=>by
  subst e;rw[hi]at A;cases A;exact t.aop J h
 intro b
 induction b with
 |zero=>
  intro L fr H _ _ n t h;refine⟨fun e=>(by rw[e]at n;cases n),fun j z o A=>?_⟩;by_cases l:j=i
  ·exact first A l t h
  have:=ready_mono z l;rw[h.1]at this;cases this
 |succ b ih=>
  intro L fr H K T n t h;refine⟨fun e=>(by rw[e]at n;cases n),fun j z a x=>?_⟩;by_cases l:j=i
  ·exact first x l t h
  obtain⟨O,a7,R,Z⟩:=mem_ready.1 z;rw[x]at R;cases R
  have a2:L.getD i false=false:=by
   have C:=(mem_ready.1 n).1;rcases wE i L.size with h'|h'
   ·simp [h']at C⊢;exact C
   simp [Array.getElem?_eq_none h']
  have I:W j=false:=by
   cases e:W j with
   |false=>rfl
   |true=>
    obtain⟨U,he,hb,a6⟩:=Y j a x e;have y:=Z U he hb;rcases a6 with h2|h2
    ·rw[h2,a2]at y;cases y
    rw[T _ h2]at y;cases y
  obtain⟨a0,a1,X⟩:=K j a x l O I;have h2:=JL a0 J a1 X t (h.2 j (ready_mono z l) a x);refine wB (fun V B D=>ih (L.setIfInBounds j true) V B (fun k ok u a4 P a3=>K k ok u a4 ?_ a3) (fun k u=>?_) (ready_mono n (Ne.symm l)) D.1 ?_) h2
  ·by_cases M:j=k
   ·subst M;exact O
   rw[getD_set_ne true M]at P;exact P
  ·have a5:j≠k:=fun e=>by subst e;rw[I]at u;cases u
   rw[getD_set_ne false a5];exact T k u
  rw[Array.setIfInBounds_comm _ _ l];exact D.2
def Xf (ops:Array Oper) (T:List Nat) (i:Nat) (oi:Oper) (f:Nat) (ws:List Nat) (L:Array Bool):Bool:=
 (List.range ops.size).all fun j=>j==i||L.getD j true||ws.contains j||match ops[j]? with |some oj=>oi.apart ops oj&&(f==0||f==2||f==3||calm oj.op)&&(f !=0|| !T.contains j)|none=>true
def X0 (ops:Array Oper) (T:List Nat):Array Bool→List (Nat×Nat)→Bool
 |_,[]=>true
 |L,(i,f)::r=>(match ops[i]? with
  |none=>false
  |some o=> !T.contains i&&if vT f o.op then(Region.ready .any ops L).contains i&&W9 ops i (wH ops i) L&&Xf ops T i o f (wH ops i) L else f !=2&&Region.ready .any ops L==[i])&&X0 ops T (L.setIfInBounds i true) r
def qC (L:Array Bool):List (Nat×Nat)→Array Bool
 |[]=>L
 |(i,_)::r=>qC (L.setIfInBounds i true) r
def eM (ops:List Oper):List (Nat×Nat)→List Oper
 |[]=>[]
 |(i,f)::r=>match ops[i]? with
  |none=>[]
  |some o=>match f with
   |0=>match gL o.op with
    |some x=>⟨none, .entry x,o.type,o.pos,o.after,o.guard⟩::o::eM ops r
    |none=>o::eM ops r
   |2=>match o.op with
    | .buildSlice t _ ps=>⟨o.dst, .go ⟨.value (.func 0),(ps.toList.map (·.2)).toArray, #[t]⟩,o.type,o.pos,o.after,o.guard⟩::eM ops r
    |_=>[]
   |_=>o::eM ops r
theorem rI {T:List Nat} {m N:Nat} (R: ∀j,T.contains j=false→G j=F) (hd:ops.toList.all (kZ N)=true): ∀(U:List (Nat×Nat)) (L:Array Bool) (fr:Fr) (H:Hp),X0 ops T L U=true→
  eA E F (ops.toList.map (·.dst)) (bL (fun p n=>oQ E G ops Q m (qC L U) p n) Q) (eM ops.toList U) fr H→oQ E G ops Q (U.length+m) L fr H
 |[],L,fr,H,k,h=>by
  simp only[eM,qC,aS,eC]at h⊢;exact h
 |(i,f)::r,L,fr,H,k,h=>by
  simp only[X0,aU]at k;obtain⟨k,Y⟩:=k;simp only[qC]at h;rw[show((i,f)::r).length+m=(r.length+m)+1 by simp only[aJ];omega]
  cases ho:ops[i]? with
  |none=>rw[ho]at k;simp at k
  |some o=>
   simp only[ho,aU,eD]at k;obtain⟨hT,k⟩:=k
   have M:kZ N o=true:=by
    rw[cD]at hd;exact hd o (XQ.2 (Ks ho))
   have a1:ops.toList[i]?=some o:=by simpa using ho
   simp only[eM,a1]at h;split at k
   ·rename_i l
    simp only[aU]at k;obtain⟨⟨h1,P⟩,X⟩:=k
    have go: ∀v,Yf E F (ops.toList.map (·.dst)) f o v fr H→eA E F (ops.toList.map (·.dst)) (bL (fun p n=>oQ E G ops Q m (qC (L.setIfInBounds i true) r) p n) Q) (eM ops.toList r) (fL fr o.dst v) H→oQ E G ops Q (r.length+m+1) L fr H:=fun v B u=>by
     refine Yt (F:=F) ho l (fun j=>(wH ops i).contains j) (fun j Z D A=>?_) (r.length+m) L fr H (fun j Z D a3 a4 a2=>?_) (fun j A=>?_) (by simpa using h1) B (rI R hd r _ _ _ Y u)
     ·simp only[W9,cD]at P
      have:=P j (by simpa using A);simp only[D,aU]at this;obtain⟨ed,he,W⟩:=Array.any_eq_true'.1 this.2;simp only[aU,jW,zO]at W;exact⟨ed,he,W.1,W.2⟩
     ·simp only[Xf,cD,List.mem_range]at X
      have:=X j (eJ.1 D).1;simp only[*,jW,zO,cF,dB,false_or,aU,eD,bne_iff_ne]at this;refine⟨this.1.1,fun e e' a0=>?_,fun e=>R j ?_⟩
      ·rcases this.1.2 with((h|h)|h)|h
       ·exact absurd h e
       ·exact absurd h e'
       ·exact absurd h a0
       exact h
      rcases this.2 with h|h
      ·exact absurd e h
      exact h
     simp only[W9,cD]at P;have:=P j (by simpa using A);simp only[aU,eD]at this;exact this.1
    by_cases V:f=0
    ·subst V
     have K:calm o.op=true:=by simpa [vT]using l
     have pv: ∀fr,Pv E H fr o.op 0=aq E H fr o.op:=fun fr=>by simp [Pv]
     simp only at h;split at h
     ·rename_i x J
      simp only[eA]at h;split at h
      ·rename_i I
       obtain⟨hm,h⟩:=h;obtain⟨v,z,u⟩:=nY (fr:=fr) M _ K h;exact go v (z.imp id fun⟨a,b⟩=>⟨a,by rw[pv];exact b,fun _ y B=>by rw[J]at B;cases B;exact hm⟩) u
      ·rename_i I
       obtain⟨v,z,u⟩:=nY (fr:=fr) M _ K h;exact go v (z.imp id fun⟨a,b⟩=>by rw[I]at a;cases a) u
      exact h.elim
     rename_i J;obtain⟨v,z,u⟩:=nY M _ K h;exact go v (z.imp id fun⟨a,b⟩=>⟨a,by rw[pv];exact b,fun _ y B=>by rw[J]at B;cases B⟩) u
    by_cases C:f=2
    ·subst C
     obtain⟨dst,op,ty,a5,af,g⟩:=o;simp only[vT,cT]at l;cases op<;>simp only[cF]at l;rename_i t len ps;obtain⟨d1,d2⟩:=D3 l;simp only[eA]at h;split at h
     ·rename_i I
      split at h
      ·rename_i v z
       refine go v (.inr ⟨I, ?_,fun e=>absurd e (by decide)⟩) h;simp only[Pv,cT];rw[←z];simp only[VE,d2];rw[show((ps.toList.map (·.2)).toArray).size=len by simpa using d1]
      exact h.elim
     ·rename_i I
      exact go _ (.inl ⟨I,rfl⟩) h
     exact h.elim
    have K:calm o.op=true:=by simp only[vT,aM C,aU]at l;exact l.1
    have O:eA E F (ops.toList.map (·.dst)) (bL (fun p n=>oQ E G ops Q m (qC (L.setIfInBounds i true) r) p n) Q) (o::eM ops.toList r) fr H:=by
     split at h
     ·exact absurd rfl V
     ·exact absurd rfl C
     exact h
    obtain⟨v,z,u⟩:=nY M _ K O;exact go v (z.imp id fun⟨a,b⟩=>⟨a,by simp only[Pv,aM C];exact b,fun e=>absurd e V⟩) u
   rename_i l;simp only[aU,bne_iff_ne,zO]at k;obtain⟨C,k⟩:=k
   have O:eA E F (ops.toList.map (·.dst)) (bL (fun p n=>oQ E G ops Q m (qC (L.setIfInBounds i true) r) p n) Q) (o::eM ops.toList r) fr H:=by
    split at h
    ·split at h
     ·rename_i x J
      exfalso;simp only[vT]at l;cases e:o.op<;>rw[e]at J l<;>simp [gL,calm]at J l
     exact h
    ·exact absurd rfl C
    exact h
   rw[wV M]at O;refine⟨fun e=>(by rw[k]at e;cases e),fun j A Z D=>?_⟩;rw[k]at A;simp only[bA]at A;subst A;rw[ho]at D;cases D;rw[R j hT];exact wB (fun p n hK=>rI R hd r _ p n Y hK) O
theorem Ie: ∀(p:List (Nat×Nat)) (L:Array Bool),(qC L p).size=L.size
 |[],L=>rfl
 |(i,c)::r,L=>by rw[qC,Ie r];simp
theorem nZ {ds:List (Option Nat)} {Q b:fK} (a: ∀e fr H,Q e fr H→b e fr H): ∀(l:List Oper) (fr:Fr) (H:Hp),eA E F ds Q l fr H→eA E F ds b l fr H
 |[],fr,H,h=>a _ _ _ h
 |o::r,fr,H,h=>by
  have i: ∀fr H,aop E F ds o fr H (eA E F ds Q r) (fun v f=>Q (.pan v) N6 f)→aop E F ds o fr H (eA E F ds b r) (fun v f=>b (.pan v) N6 f):=fun fr H h=>by
   unfold aop at *;split at h
   ·exact uC (fun _ _ _ h=>nZ a r _ _ h) (fun _ _ h=>a _ _ _ h) h
   ·exact nZ a r _ _ h
   exact h
  unfold eA at h⊢;split at h
  ·split at h
   ·exact⟨h.1,nZ a r _ _ h.2⟩
   ·exact nZ a r _ _ h
   exact h
  ·split at h
   ·split at h
    ·exact nZ a r _ _ h
    exact h
   ·exact nZ a r _ _ h
   exact h
  exact i _ _ h
def Xg (N:Nat) (l:List Oper) (plan plan2:List (Nat×Nat)):Bool:=
 l.all (kZ N)&&plan.length+plan2.length==l.length&&X0 l.toArray (plan2.map (·.1)) (Array.replicate l.length false) plan&&X0 l.toArray [] (qC (Array.replicate l.length false) plan) (plan2.map fun p=>(p.1,if p.2=2 then 2 else 1))&&Region.ready .any l.toArray (qC (qC (Array.replicate l.length false) plan) (plan2.map fun p=>(p.1,if p.2=2 then 2 else 1)))==[]&&(List.range l.length).all fun j=>(qC (Array.replicate l.length false) plan).getD j true||(plan2.map (·.1)).contains j
theorem bF (F:Nat→Prop) (x b:List (Nat×Nat)) {N id:Nat} {l I J:List Oper} (hm:E.P.follows .mixedOrders=true) (A:Xg N l x b=true) (Z:eM l x=I) (a0:eM l (b.map fun p=>(p.1,if p.2=2 then 2 else 1))=J)
  (h:eA E F (l.map (·.dst)) (bL (fun k f=>eA E (fun _=>True) (l.map (·.dst)) Q J k f) Q) I fr H):lW E N (.region id l.toArray true) Q fr H:=fun γ a w C=>by
 subst Z;subst a0;simp only[Xg,aU,zO]at A;obtain⟨⟨⟨⟨⟨hd,a1⟩,U⟩,V⟩,W⟩,X⟩:=A;have z:l.toArray.toList.all (kZ N)=true:=by simpa using hd
 refine wp_region_any hm (wG (G:=fun j=>if(b.map (·.1)).contains j then fun _=>True else F) z _ _ fr H a _ C.drew ?_)
 have a2: ∀k f,eA E (fun _=>True) (l.map (·.dst)) Q (eM l (b.map fun p=>(p.1,if p.2=2 then 2 else 1))) k f→oQ E (fun j=>if(b.map (·.1)).contains j then fun _=>True else F) l.toArray Q b.length (qC (Array.replicate l.length false) x) k f:=fun k f O=>by
  have mono: ∀(n:Nat) (L:Array Bool) fr H,oQ E (fun _ _=>True) l.toArray Q n L fr H→(∀j,L.getD j true=false→(b.map (·.1)).contains j=true)→oQ E (fun j=>if(b.map (·.1)).contains j then fun _=>True else F) l.toArray Q n L fr H:=by
   intro n
   induction n with
   |zero=>intro L fr H h _;exact h
   |succ n ih=>
    intro L fr H h y;refine⟨h.1,fun i B o ho=>?_⟩;have D:=(mem_ready.1 B).1;show aop E (if(b.map (·.1)).contains i=true then fun _=>True else F) _ _ _ _ _ _;rw[bP (y i D)];refine wB (fun k f R=>ih _ _ _ R fun j t=>?_) (h.2 i B o ho);by_cases e:i=j
    ·subst e;exact y i D
    rw[getD_set_ne true e]at t;exact y j t
  refine mono _ _ _ _ ?_ ?_
  ·have:=rI (E:=E) (F:=fun _=>True) (G:=fun _ _=>True) (Q:=Q) (ops:=l.toArray) (N:=N) (m:=0) (fun _ _=>rfl) z (b.map fun p=>(p.1,if p.2=2 then 2 else 1)) _ k f V (by
    refine nZ (Q:=Q) ?_ _ _ _ (by simpa using O);intro e M K u
    cases e<;>first|exact⟨W,u⟩|exact u)
   simpa using this
  intro j t;have C:(qC (Array.replicate l.length false) x).size=l.length:=by rw[Ie,To]
  have Y:j<l.length:=by
   rcases wE j l.length with h|h
   ·exact h
   rw[iJ,Array.getElem?_eq_none (by omega)]at t;cases t
  have:=cD.1 X j (List.mem_range.2 Y);rw[t,yM]at this;exact this
 have:=rI (E:=E) (F:=F) (G:=fun j=>if(b.map (·.1)).contains j then fun _=>True else F) (Q:=Q) (ops:=l.toArray) (N:=N) (m:=b.length) (T:=b.map (·.1)) (fun j t=>by rw[t];rfl) z x _ fr H U (by
  refine nZ (Q:=bL (fun k f=>eA E (fun _=>True) (l.map (·.dst)) Q (eM l (b.map fun p=>(p.1,if p.2=2 then 2 else 1))) k f) Q) ?_ _ _ _ (by simpa using h);intro e M K u
  cases e<;>first|exact a2 _ _ u|exact u)
 rw[a1]at this;simpa using this
end
section
variable {S S' : fZ} {w : World}
theorem eQ.sub: ∀{row e:List AV} {b off:Nat},eQ S w b off row→e.length=row.length→(∀(j:Nat) x f u,row[j]?=some x→e[j]?=some f→bZ S w x u→bZ S' w f u)→eQ S' w b off e
 |[],[],b,off,_,_,_=>by simp only[eQ]
 |x::row,y::e,b,off,h,hl,hs=>by
  simp only[eQ]at *;obtain⟨⟨u,i,k⟩,l⟩:=h;exact⟨⟨u,i,hs 0 x y u rfl rfl k⟩,eQ.sub l (by simpa using hl) fun j a c v n o=>hs (j+1) a c v (by simpa using n) (by simpa using o)⟩
 |[],_::_,_,_,_,hl,_=>by simp at hl
 |_::_,[],_,_,_,hl,_=>by simp at hl
theorem cX.sub {sz:Nat}: ∀{l f:List (List AV)} {b off:Nat},cX S w b off sz l→f.length=l.length→(∀(i:Nat) r e,l[i]?=some r→f[i]?=some e→e.length=r.length∧ ∀(j:Nat) x k u,r[j]?=some x→e[j]?=some k→bZ S w x u→bZ S' w k u)→cX S' w b off sz f
 |[],[],b,off,_,_,_=>by simp only[cX]
 |r::l,e::f,b,off,h,hl,hs=>by
  simp only[cX]at *;obtain⟨A,p,t⟩:=h;obtain⟨n,o⟩:=hs 0 r e rfl rfl;exact⟨by omega,eQ.sub p n o,cX.sub t (by simpa using hl) fun i a c y z=>hs (i+1) a c (by simpa using y) (by simpa using z)⟩
 |[],_::_,_,_,_,hl,_=>by simp at hl
 |_::_,[],_,_,_,hl,_=>by simp at hl
end
def V8 (b sz:Nat) (l:List (List AV)):gY→gY
 | .rows s r=> .rows s (r.map fun x=>x.map (frz b sz l))
 | .amap es=> .amap es
 | .bld ty g n=> .bld ty g n
 | .buf ty bs cap=> .buf ty bs cap
section
variable {E : jV} {N : Nat} {Q : fK} {c : Code} {fr : Fr} {H : Hp}
theorem xO {b sz:Nat} {l:List (List AV)} (J:H b=some (.rows sz l)) (h:lW E N c Q (fun t=>frz b sz l (fr t)) (fun x=>if x=b then none else(H x).map (V8 b sz l))):lW E N c Q fr H:=fun γ a w ⟨W,X,S,z,Z⟩=>by
 have hk:gS S (fun k=>S k∨k=b) w w:=⟨fun _ _=>rfl,fun _ _ h=>h,fun _ h=> .inl h⟩;have D:=(z.obj b _ J).1;have a0:=D.lt;simp only[jD]at D;obtain⟨cs,e,_,_,hr⟩:=D;have a2:=cX.mono hk l b 0 sz rfl hr;have L: ∀x u,bZ S w x u→bZ (fun k=>S k∨k=b) w (frz b sz l x) u:=fun x u I=>MF b sz l x _ w _ (.inr rfl) a2 (bZ.mono hk _ _ I);refine h γ a w ⟨W,X,_, ?_,fun t=>L _ _ (Z t)⟩;refine z.step (nN.refl (fun _=>False) w) (fun _ h=>h.elim) (fun _ h=> .inl h) (fun k hk=>?_) (fun k hk=>?_) fun R o p=>?_
 ·rcases hk with hk|hk
  ·exact z.lt k hk
  exact hk▸a0
 ·rcases hk with hk|hk
  ·exact .inl hk
  exact .inr (.inl (by rw[hk,J];simp))
 split at p
 ·cases p
 rename_i a1;rw[bI]at p;obtain⟨P,K,rfl⟩:=p;have f:=z.obj R P K;refine⟨fun hs=>?_, .inr ⟨?_, .inl (by rw[K];simp)⟩⟩
 ·rcases hs with hs|hs
  ·exact f.2.1 hs
  exact a1 hs
 cases P with
 |rows s r=>
  have A:=f.1;simp only[jD,V8]at *;obtain⟨U,V,B,C,Y⟩:=A;refine⟨U,V,B,by rw[aE];exact C,cX.sub Y (by simp) fun i x x' I M=>?_⟩;rw[dH,I]at M;cases M;refine⟨by simp,fun j y y' u hy O a3=>?_⟩;rw[dH,hy]at O;cases O;exact L _ _ a3
 |amap es=>
  have A:=f.1;simp only[jD,V8]at *;obtain⟨a4,T,B,C⟩:=A;exact⟨a4,T,B,fO.mono hk es _ C⟩
 |bld ty g n=>exact f.1
 |buf ty bs cap=>exact f.1
theorem Ss {b sz:Nat} {l l':List (List AV)} (z:H b=some (.rows sz l)) (A:l'.length=l.length) (V: ∀(i:Nat) r n,l[i]?=some r→l'[i]?=some n→n.length=r.length∧ ∀(j:Nat) x t,r[j]?=some x→n[j]?=some t→iR x t)
  (h:lW E N c Q fr (upd H b (some (.rows sz l')))):lW E N c Q fr H:=fun γ a w ⟨I,J,S,p,P⟩=>by
 refine h γ a w ⟨I,J,S, ?_,P⟩;refine p.step (nN.refl (fun _=>False) w) (fun _ h=>h.elim) (fun _ h=>h) p.lt (fun k R=> .inl R) fun y o f=>?_;by_cases e:y=b
 ·subst e
  rw[bG]at f;cases f;have B:=p.obj y _ z;refine⟨B.2.1, .inr ⟨?_, .inl (by rw[z];simp)⟩⟩;have K:=B.1;simp only[jD]at *;obtain⟨C,D,L,M,O⟩:=K;refine⟨C,D,L,by rw[A];exact M,cX.sub O A fun i r n T U=>?_⟩;obtain⟨Z,q2⟩:=V i r n T U;exact⟨Z,fun j x t u W X Y=>q2 j x t W X S w u Y⟩
 rw[cR _ _ e]at f;exact⟨(p.obj y o f).2.1, .inl ⟨f,fun h=>h⟩⟩
end
inductive iQ:List AV→List AV→Prop
 |nil:iQ [] []
 |cons {x y:AV} {xs ys:List AV}:iR x y→iQ xs ys→iQ (x::xs) (y::ys)
inductive Ed:List (List AV)→List (List AV)→Prop
 |nil:Ed [] []
 |cons {x y:List AV} {xs ys:List (List AV)}:iQ x y→Ed xs ys→Ed (x::xs) (y::ys)
theorem iQ.len {x y:List AV} (h:iQ x y):y.length=x.length:=by
 induction h with
 |nil=>rfl
 |cons _ _ ih=>simp [ih]
theorem Ed.len {x y:List (List AV)} (h:Ed x y):y.length=x.length:=by
 induction h with
 |nil=>rfl
 |cons _ _ ih=>simp [ih]
theorem iQ.list {x y:List AV} (h:iQ x y):fJ x y:=by
 induction h with
 |nil=>exact fJ.refl _
 |cons h _ ih=>exact fJ.cons h ih
theorem iQ.row {S:fZ} {w:World} {x y:List AV} (h:iQ x y): ∀{b off:Nat},eQ S w b off x→eQ S w b off y:=by
 induction h with
 |nil=>intro b off h;exact h
 |cons h _ ih=>
  intro b off i;simp only[eQ]at *;obtain⟨⟨u,a,e⟩,f⟩:=i;exact⟨⟨u,a,h _ _ _ e⟩,ih f⟩
theorem Ed.rows {S:fZ} {w:World} {sz:Nat} {x y:List (List AV)} (h:Ed x y): ∀{b off:Nat},cX S w b off sz x→cX S w b off sz y:=by
 induction h with
 |nil=>intro b off h;exact h
 |cons h _ ih=>
  intro b off i;simp only[cX]at *;obtain⟨a,e,f⟩:=i;exact⟨h.len.trans a,h.row e,ih f⟩
theorem iR.isl {sz:Nat} {x y:List (List AV)} (h:Ed x y):iR (.isl sz x) (.isl sz y):=by
 intro S w v p;simp only[bZ]at *;obtain⟨t,i,e,k,l,a⟩:=p;have f:=h.len;refine⟨t,i,by rw[f];exact e,by rw[f];exact k,l, ?_⟩;rcases a with a|⟨b,off,j,n,o⟩
 ·subst a;cases h;exact .inl rfl
 exact .inr ⟨b,off,j,n,h.rows o⟩
theorem iR.aggR {x y:List AV} (h:iQ x y):iR (.agg x) (.agg y):=iR.agg h.list
section
variable {E : jV} {N : Nat} {Q : fK} {fr : Fr} {H : Hp} {c : Code}
def bB (l:List Nat) (f g:Fr):Prop:= ∀t,l.elem t=true→g t=f t
theorem bB.refl (l:List Nat) (f:Fr):bB l f f:=fun _ _=>rfl
theorem bB.nil (f g:Fr):bB [] f g:=fun _ h=>by cases h
theorem bB.cons {l:List Nat} {f g:Fr} {t:Nat} (h:g t=f t) (j:bB l f g):bB (t::l) f g:=fun i k=>by
 by_cases e:i=t
 ·rw[e];exact h
 refine j i ?_;have a:i∈t::l:=by simpa using k
 have b:=(bK.1 a).resolve_left e;simpa using b
theorem bB.upd {l:List Nat} {f g:Fr} {i:Nat} {v:AV} (h:l.elem i=false) (b:bB l f g):bB l f (upd g i v):=fun t a=>by
 have :t≠i:=fun e=>by rw[e,h]at a;cases a
 rw[cR _ _ this];exact b t a
theorem bB.same {l:List Nat} {f g k:Fr} (h: ∀t,k t=g t) (a:bB l f g):bB l f k:=fun t b=>(h t).trans (a t b)
theorem bB.sub {l b:List Nat} {f g k:Fr} (h:bB b g k) (i:l.all b.elem=true) (e:bB l f g):bB l f k:=fun t a=>
 (h t (cD.1 i t (by simpa using a))).trans (e t a)
theorem bT (h: ∀e a,(∀t,e t=fr t)→(∀b,a b=H b)→lW E N c Q e a):lW E N c Q fr H:=h fr H (fun _=>rfl) (fun _=>rfl)
theorem iV (M:Fr→Hp→Prop) (b: ∀K:Fr→Hp→Prop,(∀fr H,M fr H→K fr H)→lW E N c (bL K Q) fr H) (f: ∀fr H,M fr H→Q .normal fr H):lW E N c Q fr H:=
 Iq (b M fun _ _ h=>h) fun e fr H a=>by cases e<;>first|exact f _ _ a|exact a
theorem eT (m:List Nat) (n:Nat) (I:Nat→Fr→Hp→Prop) (o:I 0 fr H)
  (B: ∀(k:Nat) a b,k≤n→I k a b→bB m fr a→ ∀K:Fr→Hp→Prop,(∀e f,k<n→I (k+1) e f→bB m a e→K e f)→lW E N c (bL K Q) a b):lW E N (.loop c) Q fr H:=by
 refine eK (fun l a b=> ∃k,l=n-k∧k≤n∧I k a b∧bB m fr a) n ⟨0,rfl,cM _,o,bB.refl _ _⟩ ?_;rintro l a b ⟨k,rfl,z,p,i⟩ K x;exact B k a b z p i K fun e f A u y=>x (n-(k+1)) e f (by omega) ⟨k+1,rfl,A,u,fun t j=>(y t j).trans (i t j)⟩
theorem iP (m:List Nat) (n:Nat) (I:Nat→Fr→Hp→Prop) (o:I n fr H)
  (B: ∀(k:Nat) a b,I k a b→bB m fr a→ ∀K:Fr→Hp→Prop,(∀i e f,i<k→I i e f→bB m a e→K e f)→lW E N c (bL K Q) a b):lW E N (.loop c) Q fr H:=by
 refine eK (fun A a b=>I A a b∧bB m fr a) n ⟨o,bB.refl _ _⟩ ?_;rintro k a b ⟨p,j⟩ K x;exact B k a b p j K fun i e f z u y=>x i e f z ⟨u,fun t l=>(y t l).trans (j t l)⟩
theorem Ro (b sz:Nat) (l:List (List AV)) (e a n:Nat):frz b sz l (.osl e a n)=if a=b∧e=sz∧n=l.length then .isl sz l else .osl e a n:=Eq.trans rfl rfl
theorem off.frz {v:AV} {b:Nat} (h:off v b) (sz:Nat) (l:List (List AV)):frz b sz l v=v:=by
 cases v<;>try rfl
 rename_i e a n;rw[Ro,aM];rintro⟨rfl,_,_⟩;exact h _ _ rfl
theorem dW.same {sz:Nat} {v:AV} {rows:List (List AV)} {H H':Hp} (h:dW sz v rows H) (a: ∀b,H' b=H b):dW sz v rows H':=by
 rcases h with h|⟨b,e,f⟩
 ·exact .inl h
 exact .inr ⟨b,e,(a b).trans f⟩
theorem dW.off {sz:Nat} {v:AV} {rows:List (List AV)} {H:Hp} (h:dW sz v rows H) {b:Nat} (i:off v b) (o:Option gY):dW sz v rows (Al.upd H b o):=by
 rcases h with h|⟨a,e,f⟩
 ·exact .inl h
 refine .inr ⟨a,e, ?_⟩;have :a≠b:=fun c=>i _ _ (by rw[e,c]);rw[cR _ _ this];exact f
theorem dW.new {sz:Nat} {v:AV} {rows:List (List AV)} {H:Hp} (h:dW sz v rows H) {b:Nat} (a:H b=none):Al.off v b:=fun s n e=>h.there s b n e a
theorem Uf (F:Nat→Prop) (b:Nat):(∀x,pF (.mp b)=some x→ ¬F x)= ¬F b:=by
 refine propext ⟨fun h=>h b rfl,fun h x a=>by cases a;exact h⟩
theorem Nb (F:Nat→Prop) (a vs:List AV):(∀x,pF (.imp a vs)=some x→ ¬F x)=True:=propext ⟨fun _=>trivial,fun _ _ h=>by cases h⟩
theorem Me (F:Nat→Prop):(∀x,pF .nmp=some x→ ¬F x)=True:=propext ⟨fun _=>trivial,fun _ _ h=>by cases h⟩
theorem Oo (b sz:Nat) (l:List (List AV)) (a:Nat) (r:List (List AV)):V8 b sz l (.rows a r)= .rows a (r.map fun x=>x.map (frz b sz l)):=Eq.trans rfl rfl
end
theorem EM:type_of% (And.intro @Uf (And.intro @Nb (And.intro @Me (And.intro (@ne_eq Nat) (And.intro not_true_eq_false (And.intro @and_false (And.intro @false_and Eh))))))):=⟨@Uf, @Nb, @Me, @ne_eq Nat,not_true_eq_false, @and_false, @false_and,Eh⟩
def uV (m:Nat) (es:List (AV×AV)):AV→AV
 | .mp b=>if b=m then .imp (es.map (·.1)) (es.map (·.2))else .mp b
 |v=>v
def Vb (m:Nat) (es:List (AV×AV)):gY→gY
 | .rows s r=> .rows s (r.map fun x=>x.map (uV m es))
 |o=>o
theorem fO.lists {S:fZ} {w:World}: ∀{es:List (AV×AV)} {a:List MapEntry},fO S w es a→cU S w (es.map (·.1)) (a.map fun e=>e.key)∧cU S w (es.map (·.2)) (a.map fun e=>e.val)
 |[],a,h=>by
  simp only[fO]at h;subst h;simp [cU]
 |(k,v)::es,a,h=>by
  simp only[fO]at h;obtain⟨e,n,rfl,b,f,i⟩:=h;obtain⟨j,l⟩:=fO.lists i;simp only[cP,cU];exact⟨⟨_,_,rfl,b,j⟩,⟨_,_,rfl,f,l⟩⟩
section
variable {E : jV} {N : Nat} {Q : fK} {c : Code} {fr : Fr} {H : Hp}
theorem Xl {m:Nat} {es:List (AV×AV)} (I:H m=some (.amap es)) (h:lW E N c Q (fun t=>uV m es (fr t)) (fun x=>if x=m then none else(H x).map (Vb m es))):lW E N c Q fr H:=fun γ a w ⟨X,Y,S,z,hf⟩=>by
 have hk:gS S (fun k=>S k∨k=m) w w:=⟨fun _ _=>rfl,fun _ _ h=>h,fun _ h=> .inl h⟩;have C:=(z.obj m _ I).1;have a0:=C.lt;simp only[jD]at C;obtain⟨a3,T,hm,he⟩:=C;have J:=(fO.mono hk es _ he).lists
 have L: ∀x u,bZ S w x u→bZ (fun k=>S k∨k=m) w (uV m es x) u:=fun x u D=>by
  have f:=bZ.mono hk _ _ D;cases x<;>try exact f
  rename_i b;simp only[uV];split
  ·rename_i e
   subst e;simp only[bZ]at f⊢;exact⟨b,f, .inr rfl,a3,T,hm,J.1,J.2⟩
  exact f
 refine h γ a w ⟨X,Y,_, ?_,fun t=>L _ _ (hf t)⟩;refine z.step (nN.refl (fun _=>False) w) (fun _ h=>h.elim) (fun _ h=> .inl h) (fun k hk=>?_) (fun k hk=>?_) fun R o p=>?_
 ·rcases hk with hk|hk
  ·exact z.lt k hk
  exact hk▸a0
 ·rcases hk with hk|hk
  ·exact .inl hk
  exact .inr (.inl (by rw[hk,I];simp))
 split at p
 ·cases p
 rename_i a1;rw[bI]at p;obtain⟨P,K,rfl⟩:=p;have l:=z.obj R P K;refine⟨fun hs=>?_, .inr ⟨?_, .inl (by rw[K];simp)⟩⟩
 ·rcases hs with hs|hs
  ·exact l.2.1 hs
  exact a1 hs
 cases P with
 |rows s r=>
  have f:=l.1;simp only[jD,Vb]at *;obtain⟨V,W,A,B,Z⟩:=f;refine⟨V,W,A,by rw[aE];exact B,cX.sub Z (by simp) fun i x x' D M=>?_⟩;rw[dH,D]at M;cases M;refine⟨by simp,fun j y y' u hy O a2=>?_⟩;rw[dH,hy]at O;cases O;exact L _ _ a2
 |amap es2=>
  have f:=l.1;simp only[jD,Vb]at *;obtain⟨a4,U,A,B⟩:=f;exact⟨a4,U,A,fO.mono hk es2 _ B⟩
 |bld ty g n=>exact l.1
 |buf ty bs cap=>exact l.1
theorem I3 (m:Nat) (es:List (AV×AV)):uV m es (.mp m)= .imp (es.map (·.1)) (es.map (·.2)):=by simp [uV]
theorem Uy (m:Nat) (es:List (AV×AV)) (s:Nat) (r:List (List AV)):uV m es (.isl s r)= .isl s r:=Eq.trans rfl rfl
theorem Uz (m:Nat) (es:List (AV×AV)) (k:IntKind) (n:Int):uV m es (.int k n)= .int k n:=Eq.trans rfl rfl
theorem Up (m:Nat) (es:List (AV×AV)) (s:List UInt8):uV m es (.str s)= .str s:=Eq.trans rfl rfl
theorem Np (m:Nat) (es:List (AV×AV)) (s:Bool):uV m es (.bool s)= .bool s:=Eq.trans rfl rfl
theorem Ur (m:Nat) (es:List (AV×AV)) (s b i j:Nat):uV m es (.ptr s b i j)= .ptr s b i j:=Eq.trans rfl rfl
theorem Uu (m:Nat) (es:List (AV×AV)):uV m es .nsl= .nsl:=Eq.trans rfl rfl
theorem Ux (m:Nat) (es:List (AV×AV)):uV m es .nfn= .nfn:=Eq.trans rfl rfl
theorem Uw (m:Nat) (es:List (AV×AV)):uV m es .npt= .npt:=Eq.trans rfl rfl
theorem Ut (m:Nat) (es:List (AV×AV)) (s b n:Nat):uV m es (.osl s b n)= .osl s b n:=Eq.trans rfl rfl
theorem I4 (m:Nat) (es:List (AV×AV)) (f:Fn) (x y:List AV):uV m es (.fn f x y)= .fn f x y:=Eq.trans rfl rfl
theorem Va (m:Nat) (es:List (AV×AV)) (x y:List AV):uV m es (.imp x y)= .imp x y:=Eq.trans rfl rfl
theorem Gf (m:Nat) (es:List (AV×AV)) (sz:Nat) (r:List (List AV)):Vb m es (.rows sz r)= .rows sz (r.map fun x=>x.map (uV m es)):=Eq.trans rfl rfl
theorem Nq (m:Nat) (es r:List (AV×AV)):Vb m es (.amap r)= .amap r:=Eq.trans rfl rfl
theorem SM:type_of% (And.intro I3<|And.intro Uy<|And.intro Uz<|And.intro Up<|And.intro Np<|And.intro Ur<|And.intro Uu<|And.intro Ux<|And.intro Uw<|And.intro Ut<|And.intro I4<|And.intro Va<|And.intro Gf Nq):=And.intro I3<|And.intro Uy<|And.intro Uz<|And.intro Up<|And.intro Np<|And.intro Ur<|And.intro Uu<|And.intro Ux<|And.intro Uw<|And.intro Ut<|And.intro I4<|And.intro Va<|And.intro Gf Nq
theorem oY (es:List (AV×AV)):(es.map (·.1)).zip (es.map (·.2))=es:=by
 induction es with
 |nil=>rfl
 |cons p es ih=>simp [ih]
def H1 (b:Nat) (o:gY):Hp:=Al.upd pX b (some o)
theorem nE (b:Nat) (o:gY):H1 b o b=some o:=bG _ _ _
theorem gA {b:Nat} {o:gY} (h:H b=some o):uY (H1 b o) H:=fun f i a=>by
 unfold H1 at a;by_cases e:f=b
 ·subst e
  rw[bG]at a;cases a;exact h
 rw[cR _ _ e]at a;cases a
def Bz (E:jV) (g:FuncId) (args:List AV) (H0:Hp) (v:AV):Prop:=pK E g args H0 (fun ae H'=>ae= .ret v∧H'=H0)
theorem aZ.q {v v':AV} {a:Hp} (h:v=v') (f:uY a H):aZ (fun e b=>e= .ret v'∧b=a) v H:=
 ⟨v,a,lC.drop f,by rw[h],rfl⟩
theorem Ol {a:Hp} (e:uY a H):lD a a H=H:=by
 funext b;unfold lD
 cases h:a b with
 |some o=>simp only;exact(e b o h).symm
 |none=>simp
end
section
variable {E : jV} {F : Nat → Prop} {ds : List (Option Nat)} {Q : fK} {d : Option Nat} {rest : List Oper} {fr : Fr} {H : Hp} {g : FuncId} {args : List AV} {v : AV}
theorem RH {a:Hp} (k:Bz E g args a v) (e:uY a H) (j: ∀b,a b≠none→F b) (h:eA E F ds Q rest (fL fr d v) H):qK E F ds Q d rest fr H g args:=by
 refine mX k (fJ.refl _) e j fun n l ⟨f,i⟩ _=>?_;subst f;subst i;simp only;rw[Ol e];exact h
theorem jM {b:Nat} {o:gY} (f:Bz E g args (H1 b o) v) (e:H b=some o) (a: ∀x,F x) (h:eA E F ds Q rest (fL fr d v) H):qK E F ds Q d rest fr H g args:=
 RH f (gA e) (fun x _=>a x) h
end
abbrev dC:=List UInt8
inductive Ex where
 |mk (kind op num:Int) (name:dC) (kids:List Ex)
inductive Sm where
 |mk (kind:Int) (name:dC) (es:List Ex) (thn els:List Sm)
structure Ar where
 name:dC
 size:Int
structure Fu where
 name:dC
 params:List dC
 locs:List dC
 word:Bool
 body:List Sm
structure Pg where
 vars:List dC
 arrs:List Ar
 funs:List Fu
def Ex.kind:Ex→Int| .mk k _ _ _ _=>k
def Ex.op:Ex→Int| .mk _ o _ _ _=>o
def Ex.num:Ex→Int| .mk _ _ n _ _=>n
def Ex.name:Ex→dC| .mk _ _ _ s _=>s
def Ex.kids:Ex→List Ex| .mk _ _ _ _ l=>l
def Sm.kind:Sm→Int| .mk k _ _ _ _=>k
def Sm.name:Sm→dC| .mk _ s _ _ _=>s
def Sm.es:Sm→List Ex| .mk _ _ l _ _=>l
def Sm.thn:Sm→List Sm| .mk _ _ _ l _=>l
def Sm.els:Sm→List Sm| .mk _ _ _ _ l=>l
def bH (s:dC):List AV:=[.str s]
def strs (l:List dC):AV:= .isl 1 (l.map bH)
mutual
def Ex.row:Ex→List AV
 | .mk k o n s l=>[.int .i64 k, .int .i64 o, .int .u32 n, .str s, .isl 5 (Vi l)]
def Vi:List Ex→List (List AV)
 |[]=>[]
 |e::l=>e.row::Vi l
end
theorem Nv: ∀l:List Ex,Vi l=l.map Ex.row
 |[]=>by simp only[Vi,dD]
 |e::l=>by simp only[Vi,cP,Nv l]
def exs (l:List Ex):AV:= .isl 5 (l.map Ex.row)
theorem Ex.row_eq (e:Ex):e.row=[.int .i64 e.kind, .int .i64 e.op, .int .u32 e.num, .str e.name, .isl 5 (e.kids.map Ex.row)]:=by
 cases e;simp only[Ex.row,Nv,Ex.kind,Ex.op,Ex.num,Ex.name,Ex.kids]
mutual
def Sm.row:Sm→List AV
 | .mk k s l t u=>[.int .i64 k, .str s,exs l, .isl 5 (Nu t), .isl 5 (Nu u)]
def Nu:List Sm→List (List AV)
 |[]=>[]
 |e::l=>e.row::Nu l
end
theorem Ns: ∀l:List Sm,Nu l=l.map Sm.row
 |[]=>by simp only[Nu,dD]
 |e::l=>by simp only[Nu,cP,Ns l]
def sms (l:List Sm):AV:= .isl 5 (l.map Sm.row)
theorem Sm.row_eq (s:Sm):s.row=[.int .i64 s.kind, .str s.name, .isl 5 (s.es.map Ex.row), .isl 5 (s.thn.map Sm.row), .isl 5 (s.els.map Sm.row)]:=by
 cases s;simp only[Sm.row,Ns,exs,Sm.kind,Sm.name,Sm.es,Sm.thn,Sm.els]
def Ar.row (a:Ar):List AV:=[.str a.name, .int .i64 a.size]
def ars (l:List Ar):AV:= .isl 2 (l.map Ar.row)
def Fu.row (f:Fu):List AV:=[.str f.name, .isl 1 (f.params.map bH), .isl 1 (f.locs.map bH), .bool f.word, .isl 5 (f.body.map Sm.row)]
def fus (l:List Fu):AV:= .isl 5 (l.map Fu.row)
def Pg.row (p:Pg):List AV:=[.isl 1 (p.vars.map bH), .isl 2 (p.arrs.map Ar.row), .isl 5 (p.funs.map Fu.row)]
def Pg.av (p:Pg):AV:= .agg p.row
mutual
def Ex.sz:Ex→Nat
 | .mk _ _ _ _ l=>1+pM l
def pM:List Ex→Nat
 |[]=>0
 |e::l=>e.sz+pM l
end
mutual
def Sm.sz:Sm→Nat
 | .mk _ _ l t u=>1+pM l+mQ t+mQ u
def mQ:List Sm→Nat
 |[]=>0
 |e::l=>e.sz+mQ l
end
theorem Ex.sz_eq (e:Ex):e.sz=1+pM e.kids:=by cases e;simp only[Ex.sz,Ex.kids]
theorem Sm.sz_eq (s:Sm):s.sz=1+pM s.es+mQ s.thn+mQ s.els:=by cases s;simp only[Sm.sz,Sm.es,Sm.thn,Sm.els]
theorem mK: ∀{l:List Ex} {e:Ex},e∈l→e.sz≤pM l
 |e::l,x,h=>by
  simp only[pM];rcases bK.1 h with rfl|h
  ·omega
  have:=mK h;omega
theorem lI: ∀{l:List Sm} {e:Sm},e∈l→e.sz≤mQ l
 |e::l,x,h=>by
  simp only[mQ];rcases bK.1 h with rfl|h
  ·omega
  have:=lI h;omega
def eV {α:Type} (l:List α):Prop:=l.length≤9223372036854775807
def eB (n:Int):Prop:=0≤n∧n<4294967296
def iK (n:Int):Prop:= -9223372036854775808≤n∧n<9223372036854775808
inductive Ex.ok:Ex→Prop where
 |mk (k o n:Int) (s:dC) (l:List Ex) (hk:iK k) (ho:iK o) (hn:eB n) (hs:eV s) (hl:eV l) (h: ∀e∈l,Ex.ok e):Ex.ok (.mk k o n s l)
structure Ae (l:List Ex):Prop where
 fit:eV l
 all: ∀e∈l,e.ok
inductive Sm.ok:Sm→Prop where
 |mk (k:Int) (s:dC) (l:List Ex) (t u:List Sm) (hk:iK k) (hs:eV s) (hl:Ae l) (ht:eV t) (hta: ∀e∈t,Sm.ok e) (hu:eV u) (hua: ∀e∈u,Sm.ok e):Sm.ok (.mk k s l t u)
structure xH (l:List Sm):Prop where
 fit:eV l
 all: ∀e∈l,e.ok
structure QH (l:List dC):Prop where
 fit:eV l
 all: ∀s∈l,eV s
structure Fu.ok (f:Fu):Prop where
 name:eV f.name
 params:QH f.params
 locs:QH f.locs
 body:xH f.body
structure Pg.ok (p:Pg):Prop where
 vars:QH p.vars
 afit:eV p.arrs
 arrs: ∀a∈p.arrs,eV a.name∧iK a.size
 ffit:eV p.funs
 funs: ∀f∈p.funs,f.ok
theorem Ex.ok.kids {e:Ex} (h:e.ok):Ae e.kids:=by cases h;exact⟨by assumption,by assumption⟩
theorem Ex.ok.name {e:Ex} (h:e.ok):eV e.name:=by cases h;assumption
theorem Ex.ok.num {e:Ex} (h:e.ok):eB e.num:=by cases h;assumption
theorem Ex.ok.kind {e:Ex} (h:e.ok):iK e.kind:=by cases h;assumption
theorem Ex.ok.op {e:Ex} (h:e.ok):iK e.op:=by cases h;assumption
theorem Sm.ok.es {s:Sm} (h:s.ok):Ae s.es:=by cases h;assumption
theorem Sm.ok.thn {s:Sm} (h:s.ok):xH s.thn:=by cases h;exact⟨by assumption,by assumption⟩
theorem Sm.ok.els {s:Sm} (h:s.ok):xH s.els:=by cases h;exact⟨by assumption,by assumption⟩
theorem Sm.ok.name {s:Sm} (h:s.ok):eV s.name:=by cases h;assumption
theorem Sm.ok.kind {s:Sm} (h:s.ok):iK s.kind:=by cases h;assumption
theorem tV {a:Type} (f:a→List AV) {l:List a} {i:Nat} {x:a} (h:l[i]?=some x):(l.map f)[i]?=some (f x):=by
 rw[dH,h];rfl
theorem pR {l:List Ex} {i:Nat} {e:Ex} (h:l[i]?=some e):(l.map Ex.row)[i]?=some [.int .i64 e.kind, .int .i64 e.op, .int .u32 e.num, .str e.name, .isl 5 (e.kids.map Ex.row)]:=by
 rw[tV _ h,e.row_eq]
theorem Hr {l:List Sm} {i:Nat} {s:Sm} (h:l[i]?=some s):(l.map Sm.row)[i]?=some [.int .i64 s.kind, .str s.name, .isl 5 (s.es.map Ex.row), .isl 5 (s.thn.map Sm.row), .isl 5 (s.els.map Sm.row)]:=by
 rw[tV _ h,s.row_eq]
theorem Wt {l:List dC} {i:Nat} {s:dC} (h:l[i]?=some s):(l.map bH)[i]?=some [.str s]:=tV _ h
theorem qH {l:List Fu} {i:Nat} {f:Fu} (h:l[i]?=some f):(l.map Fu.row)[i]?=some [.str f.name, .isl 1 (f.params.map bH), .isl 1 (f.locs.map bH), .bool f.word, .isl 5 (f.body.map Sm.row)]:=tV _ h
theorem HU {l:List Ar} {i:Nat} {a:Ar} (h:l[i]?=some a):(l.map Ar.row)[i]?=some [.str a.name, .int .i64 a.size]:=tV _ h
section
open Go.ChangeShapes Go.WideShapes
section
variable {H : Type} {enc : TypeId × Value → H} {P : Program} {w : World} {sp : Nat → Bool} {held : Bool}
theorem tU {d:Type} {Q:Nat→d→Prop}: ∀n:Nat,(∀i,i<n→ ∃a,Q i a)→ ∃l:List d,l.length=n∧ ∀(i:Nat) a,l[i]?=some a→Q i a
 |0,_=>⟨[],rfl,fun i a h=>by simp at h⟩
 |n+1,h=>by
  obtain⟨l,f,g⟩:=tU n fun i k=>h i (by omega);obtain⟨a,j⟩:=h n (by omega);refine⟨l++[a],by simp [f],fun i b c=>?_⟩;by_cases k:i<n
  ·rw[fB (by omega)]at c;exact g i b c
  rw[gQ (by omega)]at c
  have :i-l.length=0:=by
   by_cases e:i-l.length=0
   ·exact e
   rw[dM (by simp;omega)]at c;cases c
  rw[this]at c;simp at c;subst c;rw[show i=n by omega];exact j
theorem Gi {g:Type} {row:g→List AV} {ok:g→Prop} {t e:TypeId} {sz A:Nat} {cs:List Value} {x:DataW H×List MemPlace} (ht:P.underlying t=some (.slice e)) (U:P.cellsOf e=sz) (hz:0<sz)
  (a1: ∀a,(row a).length=sz) (h:DataW.trod enc P w 0 sp held A t cs=some x)
  (Q: ∀n cs y,n<A→DataW.trod enc P w 0 sp held n e cs=some y→ ∃a:g,ok a∧cU (old w) w (row a) cs):
  ∃l:List g,eV l∧(∀a∈l,ok a)∧ ∃v,cs=[v]∧bZ (old w) w (.isl sz (l.map row)) v:=by
 rcases DataW.trod_slice ht h with⟨rfl,_⟩|⟨a,len,M,a4,a7,n,rfl,rfl,_,_,hl,E,a6,X,_,_⟩
 ·refine⟨[],by simp [eV],by simp,_,rfl, ?_⟩
  simp only[bZ,dD];exact⟨none,0,rfl,bE _,by simp [maxLen], .inl trivial⟩
 have a2: ∀i,i<len→ ∃b:g,ok b∧ ∃d:List Value,d.length=sz∧cU (old w) w (row b) d∧ ∀j,j<sz→w.cell? ((a.add (i *sz)).add j)=d[j]?:=by
  intro i Z;have p:=X i Z;rw[U,aD (by omega),cH]at p;obtain⟨d,W,hy⟩:=p;obtain⟨_,u,S⟩:=World.cells?_some W;obtain⟨b,f,k⟩:=Q n d _ (by omega) hy;exact⟨b,f,d,u,k,S⟩
 obtain⟨l,D,z⟩:=tU len a2;refine⟨l,by simp only[eV,D];simp only[maxLen]at E;omega,fun b f=>?_,_,rfl, ?_⟩
 ·obtain⟨i,Y⟩:=gF f
  exact(z i b Y).1
 simp only[bZ,aE,List.map_eq_nil_iff];refine⟨some a,M,by rw[D],by omega,E, ?_⟩;by_cases F:l=[]
 ·exact .inl F
 right;obtain⟨o,J,rfl⟩: ∃o J,l=o::J:=by cases l with |nil=>exact absurd rfl F|cons b l=>exact⟨b,l,rfl⟩
 obtain⟨_,d,a5,_,V⟩:=z 0 o rfl;have c:=V 0 hz;rw[aD (by omega)]at c;simp only[Nat.zero_mul,Addr.add,cT]at c
 have I:a.spot=none:=by
  unfold World.cell? at c;split at c
  ·split at c
   ·cases c
   rename_i G;cases hh:a.spot with |none=>rfl|some y=>rw[hh]at G;simp at G
  cases c
 have B:a.block<w.heap.size:=by
  unfold World.cell? at c;split at c
  ·rename_i e;exact(eJ.1 e).1
  cases c
 obtain⟨K,L,a3⟩:=a;simp only at I B;subst I;refine⟨K,L,rfl,B,cX.of_get fun i r k=>?_⟩;rw[dH,bI]at k;obtain⟨b,f,rfl⟩:=k;obtain⟨_,d,p,R,u⟩:=z i b f;refine⟨a1 b,eQ.of_vals R fun j v C=>?_⟩;have a0:j<sz:=by have:=(bC.1 C).1;omega
 rw[←C,←u j a0];congr 1;simp only[Addr.add];by_cases N:i *sz=0<;>by_cases O:j=0<;>simp [N,O]
def nK (P:Program) (t:TypeId):Option (List (TypeId×Nat)):=match P.underlying t with
 |some (.struct fs)=>some (fs.toList.map fun f=>(f.type,f.offset))
 |_=>none
theorem Zm {t:TypeId} {c:List (TypeId×Nat)} {d:Nat} {cs:List Value} {x:DataW H×List MemPlace} (a:nK P t=some c) (h:DataW.trod enc P w 0 sp held d t cs=some x):
  ∃n,d=n+1∧cs.length=P.cellsOf t∧ ∀(i:Nat) b off,c[i]?=some (b,off)→ ∃y,DataW.trod enc P w 0 sp held n b ((cs.drop off).take (P.cellsOf b))=some y:=by
 unfold nK at a;split at a
 ·rename_i B A
  cases a;obtain⟨l,n,o,_,p,u,v⟩:=DataW.trod_struct A h;refine⟨n,o,p,fun i b off k=>?_⟩;rw[dH,bI]at k;obtain⟨f,j,e⟩:=k;simp only[Prod.mk.injEq]at e;have g:=v i f (by simpa using j);rw[e.1,e.2]at g
  have z:i<l.length:=by
   have:=(bC.1 j).1;rw[u];simpa using this
  exact⟨l[i],by rw[g,aD z]⟩
 cases a
theorem vP {t:TypeId} {k:IntKind} {a:Nat} {cs:List Value} {x:DataW H×List MemPlace} (d:P.underlying t=some (.int k)) (h:DataW.trod enc P w 0 sp held a t cs=some x): ∃n,cs=[.int k n]∧(Lit.int k n).wf=true:=by
 obtain⟨n,b,_,c⟩:=DataW.trod_int d h;exact⟨n,b,c⟩
theorem sM {t:TypeId} {a:Nat} {cs:List Value} {x:DataW H×List MemPlace} (d:P.underlying t=some .string) (h:DataW.trod enc P w 0 sp held a t cs=some x): ∃s:dC,cs=[.string ⟨s.toArray⟩]∧eV s:=by
 obtain⟨s,b,_,c⟩:=DataW.trod_string d h;refine⟨s.data.toList,b, ?_⟩;simp only[eV,kU];simp only[maxLen,ByteArray.size]at c;omega
theorem Qh {n:Int} (h:(Lit.int .i64 n).wf=true):iK n:=by
 have:=Go.bounds_i64 h;simp only[iK];omega
theorem PN {n:Int} (h:(Lit.int .u32 n).wf=true):eB n:=by
 have:=Go.bounds_u32 h;simp only[eB];omega
end
structure VQ (P:Program) where
 int:TypeId
 u32:TypeId
 str:TypeId
 bool:TypeId
 strs:TypeId
 ex:TypeId
 exs:TypeId
 sm:TypeId
 sms:TypeId
 ar:TypeId
 ars:TypeId
 fu:TypeId
 fus:TypeId
 pg:TypeId
 uInt:P.underlying int=some (.int .i64)
 uU32:P.underlying u32=some (.int .u32)
 uStr:P.underlying str=some .string
 uBool:P.underlying bool=some .bool
 uStrs:P.underlying strs=some (.slice str)
 uEx:nK P ex=some [(int,0),(int,1),(u32,2),(str,3),(exs,4)]
 uExs:P.underlying exs=some (.slice ex)
 uSm:nK P sm=some [(int,0),(str,1),(exs,2),(sms,3),(sms,4)]
 uSms:P.underlying sms=some (.slice sm)
 uAr:nK P ar=some [(str,0),(int,1)]
 uArs:P.underlying ars=some (.slice ar)
 uFu:nK P fu=some [(str,0),(strs,1),(strs,2),(bool,3),(sms,4)]
 uFus:P.underlying fus=some (.slice fu)
 uPg:nK P pg=some [(strs,0),(ars,1),(fus,2)]
 c1:[int,u32,str,bool,strs,exs,sms,ars,fus].all (fun t=>P.cellsOf t==1)=true
 cEx:P.cellsOf ex=5
 cSm:P.cellsOf sm=5
 cAr:P.cellsOf ar=2
 cFu:P.cellsOf fu=5
 cPg:P.cellsOf pg=3
section
variable {H : Type} {enc : TypeId × Value → H} {P : Program} {w : World} {sp : Nat → Bool} {held : Bool} (T : VQ P)
theorem VQ.one1 {t:TypeId} (h:t∈[T.int,T.u32,T.str,T.bool,T.strs,T.exs,T.sms,T.ars,T.fus]):P.cellsOf t=1:=by
 have:=cD.1 T.c1 t h;simpa using this
theorem QU {cs:List Value} (h:cs.length=5): ∃a b c d e,cs=[a,b,c,d,e]:=by
 match cs,h with
 |[a,b,c,d,e],_=>exact⟨a,b,c,d,e,rfl⟩
theorem TF {cs:List Value} (h:cs.length=3): ∃a b c,cs=[a,b,c]:=by
 match cs,h with
 |[a,b,c],_=>exact⟨a,b,c,rfl⟩
theorem Md {cs:List Value} (h:cs.length=2): ∃a b,cs=[a,b]:=by
 match cs,h with
 |[a,b],_=>exact⟨a,b,rfl⟩
theorem I0 {S:fZ} {w:World} (s:dC):cU S w (bH s) [.string ⟨s.toArray⟩]:=by
 simp only[bH,cU,bZ];exact⟨_,_,rfl,rfl,rfl⟩
theorem R1 {a:Nat} {cs:List Value} {x:DataW H×List MemPlace} (h:DataW.trod enc P w 0 sp held a T.strs cs=some x): ∃l:List dC,QH l∧ ∃v,cs=[v]∧bZ (old w) w (strs l) v:=by
 obtain⟨l,b,c,d⟩:=Gi (row:=bH) (ok:=eV) T.uStrs (T.one1 (by simp)) (by decide) (fun _=>rfl) h fun n cs y _ f=>by
  obtain⟨s,rfl,e⟩:=sM T.uStr f;exact⟨s,e,I0 s⟩
 exact⟨l,⟨b,c⟩,d⟩
theorem Ex.row_len (e:Ex):e.row.length=5:=by rw[e.row_eq];rfl
theorem Sm.row_len (s:Sm):s.row.length=5:=by rw[s.row_eq];rfl
theorem MY (j:Nat) (cs:List Value) (x:DataW H×List MemPlace) (h:DataW.trod enc P w 0 sp held j T.ar cs=some x): ∃a:Ar,(eV a.name∧iK a.size)∧cU (old w) w a.row cs:=by
 obtain⟨n,rfl,i,g⟩:=Zm T.uAr h;rw[T.cAr]at i;obtain⟨a,b,rfl⟩:=Md i;obtain⟨p,e⟩:=g 0 _ _ rfl;obtain⟨t,f⟩:=g 1 _ _ rfl;rw[T.one1 (by simp)]at e f;obtain⟨s,c,l⟩:=sM T.uStr e;obtain⟨k,d,o⟩:=vP T.uInt f;simp at c d;subst c;subst d;refine⟨⟨s,k⟩,⟨l,Qh o⟩, ?_⟩;simp only[Ar.row,cU,bZ];exact⟨_,_,rfl,rfl,_,_,rfl,rfl,rfl⟩
end
end
theorem iQ.get {x y:List AV} (h:iQ x y): ∀(j:Nat) a b,x[j]?=some a→y[j]?=some b→iR a b:=by
 induction h with
 |nil=>intro j a b c;simp at c
 |cons h _ ih=>
  intro j a b c d
  cases j with
  |zero=>simp at c d;subst c;subst d;exact h
  |succ j=>exact ih j a b (by simpa using c) (by simpa using d)
theorem X3 {E:jV} {N:Nat} {Q:fK} {c:Code} {fr:Fr} {H:Hp} {b sz:Nat} {r d:List AV} (g:H b=some (.rows sz [r])) (e:iQ r d) (h:lW E N c Q fr (upd H b (some (.rows sz [d])))):lW E N c Q fr H:=
 Ss (l':=[d]) g rfl (fun i x j a f=>by
  cases i with
  |zero=>simp at a f;subst a;subst f;exact⟨e.len,e.get⟩
  |succ i=>simp at a) h
def sX:AV→Bool
 | .osl _ _ _=>false
 |_=>true
theorem FY {b:Type} {f:b→List AV} (c: ∀a,(f a).all one=true) (xs:List b):(xs.map f).all (fun r=>r.all one)=true:=by
 simp only[List.all_map,cD];exact fun x _=>c x
end Go.Al
