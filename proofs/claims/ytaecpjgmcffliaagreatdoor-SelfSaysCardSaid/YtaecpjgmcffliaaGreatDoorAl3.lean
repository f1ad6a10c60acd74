/- Al3 -/
import Derived.Test.YtaecpjgmcffliaaGreatDoorAl2
import Derived.Orders
import Derived.IntWalk
import Derived.RowKit3
import Derived.Lib.LaidTab
import Derived.Carry
import Derived.OpenShut
set_option linter.unusedSimpArgs false
set_option linter.unusedVariables false
set_option maxRecDepth 10000
namespace Go.Al
section
variable (E : kC) (F : Nat → Prop) (ds : List (Option Nat)) (Q : fN) (d : Option Nat) (ty : TypeId) (pos : String) (af : Array Edge) (rest : List Oper) (fr : Fr) (H : Hp)
def sA (o:Option AV):Prop:=match o with |some v=>eI E F ds Q rest (eW fr d v) H|none=>False
theorem Qp (v:AV):sA E F ds Q d rest fr H (some v)=eI E F ds Q rest (eW fr d v) H:=Eq.trans rfl rfl
def XI (p:Option ((Nat→AV)×iG)):Prop:=match p with |some p=> ∀b,H b=none→eI E F ds Q rest (eW fr d (p.1 b)) (upd H b (some p.2))|none=>False
theorem Zn:eI E F ds Q [] fr H=Q .normal fr H:=Eq.trans rfl rfl
theorem Qs (x:Operand):eI E F ds Q (⟨d, .move x,ty,pos,af,none⟩::rest) fr H=eI E F ds Q rest (eW fr d (ev E.G fr x)) H:=Eq.trans rfl rfl
theorem Fo (x:Operand):eI E F ds Q (⟨d, .assign x,ty,pos,af,none⟩::rest) fr H=eI E F ds Q rest (eW fr d (ev E.G fr x)) H:=Eq.trans rfl rfl
theorem Qr (c x y:Operand):eI E F ds Q (⟨d, .pick c x y,ty,pos,af,none⟩::rest) fr H=sA E F ds Q d rest fr H (aq E H fr (.pick c x y)):=Eq.trans rfl rfl
theorem Qu (t:TypeId) (x:Operand):eI E F ds Q (⟨d, .load t x,ty,pos,af,none⟩::rest) fr H=sA E F ds Q d rest fr H (aq E H fr (.load t x)):=Eq.trans rfl rfl
theorem yT (x:Operand):eI E F ds Q (⟨d, .nilCheck x,ty,pos,af,none⟩::rest) fr H=sA E F ds Q d rest fr H (aq E H fr (.nilCheck x)):=Eq.trans rfl rfl
theorem Kv (o:BinOp) (t u:TypeId) (x y:Operand):eI E F ds Q (⟨d, .binOp o t x y u,ty,pos,af,none⟩::rest) fr H=sA E F ds Q d rest fr H (aq E H fr (.binOp o t x y u)):=Eq.trans rfl rfl
theorem Qq (o:UnOp) (t:TypeId) (x:Operand):eI E F ds Q (⟨d, .unOp o t x,ty,pos,af,none⟩::rest) fr H=sA E F ds Q d rest fr H (aq E H fr (.unOp o t x)):=Eq.trans rfl rfl
theorem Bf (s t:TypeId) (x:Operand) (a:(t==69)=false):eI E F ds Q (⟨d, .convert s t x,ty,pos,af,none⟩::rest) fr H=sA E F ds Q d rest fr H (aq E H fr (.convert s t x)):=
 (Eq.trans rfl rfl:eI E F ds Q (⟨d, .convert s t x,ty,pos,af,none⟩::rest) fr H=if(t==69)=true then XI E F ds Q d rest fr H (iU E fr (.convert s t x))else sA E F ds Q d rest fr H (aq E H fr (.convert s t x))).trans (by rw[a];rfl)
theorem Jz (t:TypeId) (x:Operand) (l h m:Option Operand):eI E F ds Q (⟨d, .slice t x l h m,ty,pos,af,none⟩::rest) fr H=sA E F ds Q d rest fr H (aq E H fr (.slice t x l h m)):=Eq.trans rfl rfl
theorem wV (t:TypeId) (x:Operand) (f:Nat):eI E F ds Q (⟨d, .fieldAddr t x f,ty,pos,af,none⟩::rest) fr H=sA E F ds Q d rest fr H (aq E H fr (.fieldAddr t x f)):=Eq.trans rfl rfl
theorem Ks (t:TypeId) (x:Operand) (f:Nat):eI E F ds Q (⟨d, .field t x f,ty,pos,af,none⟩::rest) fr H=sA E F ds Q d rest fr H (aq E H fr (.field t x f)):=Eq.trans rfl rfl
theorem wU (t:TypeId) (x i:Operand):eI E F ds Q (⟨d, .indexAddr t x i,ty,pos,af,none⟩::rest) fr H=sA E F ds Q d rest fr H (aq E H fr (.indexAddr t x i)):=Eq.trans rfl rfl
theorem Kq (t:TypeId) (x i:Operand):eI E F ds Q (⟨d, .index t x i,ty,pos,af,none⟩::rest) fr H=sA E F ds Q d rest fr H (aq E H fr (.index t x i)):=Eq.trans rfl rfl
theorem Be (x:Operand) (i:Nat):eI E F ds Q (⟨d, .extract x i,ty,pos,af,none⟩::rest) fr H=sA E F ds Q d rest fr H (aq E H fr (.extract x i)):=Eq.trans rfl rfl
theorem rN (t:TypeId) (x:Operand):eI E F ds Q (⟨d, .makeInterface t x,ty,pos,af,none⟩::rest) fr H=sA E F ds Q d rest fr H (aq E H fr (.makeInterface t x)):=Eq.trans rfl rfl
theorem yU (f:Fn) (x y:Array Operand):eI E F ds Q (⟨d, .makeFunc f x y,ty,pos,af,none⟩::rest) fr H=sA E F ds Q d rest fr H (aq E H fr (.makeFunc f x y)):=Eq.trans rfl rfl
theorem Fh (t:TypeId) (x k:Operand) (ok:Bool):eI E F ds Q (⟨d, .lookup t x k ok,ty,pos,af,none⟩::rest) fr H=sA E F ds Q d rest fr H (aq E H fr (.lookup t x k ok)):=Eq.trans rfl rfl
theorem Ku (t:TypeId) (a:Array (Nat×Operand)):eI E F ds Q (⟨d, .build t a,ty,pos,af,none⟩::rest) fr H=sA E F ds Q d rest fr H (aq E H fr (.build t a)):=Eq.trans rfl rfl
theorem Zr (args:Array Operand) (a:Array TypeId):eI E F ds Q (⟨d, .call ⟨.builtin .len,args,a⟩,ty,pos,af,none⟩::rest) fr H=sA E F ds Q d rest fr H (aq E H fr (.call ⟨.builtin .len,args,a⟩)):=Eq.trans rfl rfl
theorem Zo (args:Array Operand) (a:Array TypeId):eI E F ds Q (⟨d, .call ⟨.builtin .min,args,a⟩,ty,pos,af,none⟩::rest) fr H=sA E F ds Q d rest fr H (aq E H fr (.call ⟨.builtin .min,args,a⟩)):=Eq.trans rfl rfl
theorem Zp (args:Array Operand) (a:Array TypeId):eI E F ds Q (⟨d, .call ⟨.builtin .max,args,a⟩,ty,pos,af,none⟩::rest) fr H=sA E F ds Q d rest fr H (aq E H fr (.call ⟨.builtin .max,args,a⟩)):=Eq.trans rfl rfl
def CH (b:Option Bool) (o:Oper):Prop:=match b with |some true=>eI E F ds Q (o::rest) fr H|some false=>eI E F ds Q rest (eW fr o.dst (.tup [])) H|none=>False
theorem Kr (o:Op) (g:Nat×Bool):eI E F ds Q (⟨d,o,ty,pos,af,some g⟩::rest) fr H=CH E F ds Q rest fr H (mH ds fr (some g)) ⟨d,o,ty,pos,af,none⟩:=by
 simp only[eI,aop,CH];generalize mH ds fr (some g)=b
 cases b with
 |none=>cases o<;>rfl
 |some b=>cases b<;>cases o<;>rfl
theorem Qx (o:Oper):CH E F ds Q rest fr H (some true) o=eI E F ds Q (o::rest) fr H:=Eq.trans rfl rfl
theorem Ky (o:Oper):CH E F ds Q rest fr H (some false) o=eI E F ds Q rest (eW fr o.dst (.tup [])) H:=Eq.trans rfl rfl
variable {E F ds Q d ty pos af rest fr H}
theorem eE {b:Bool} {o:Oper} (a:b=true→eI E F ds Q (o::rest) fr H) (c:b=false→eI E F ds Q rest (eW fr o.dst (.tup [])) H):CH E F ds Q rest fr H (some b) o:=by
 cases b
 ·exact c rfl
 exact a rfl
theorem bZ {b:Bool} {o:Oper} (a:b=false→eI E F ds Q (o::rest) fr H) (c:b=true→eI E F ds Q rest (eW fr o.dst (.tup [])) H):CH E F ds Q rest fr H (some (!b)) o:=by
 cases b
 ·exact a rfl
 exact c rfl
variable (E F ds Q d ty pos af rest fr H)
def CG (p:Option ((Nat→AV)×iG)):Prop:=match p with |some p=> ∀b,H b=none→eI E F ds Q rest (eW fr d (p.1 b)) (upd H b (some p.2))|none=>False
theorem rO (s:TypeId) (x:Operand):eI E F ds Q (⟨d, .convert s 69 x,ty,pos,af,none⟩::rest) fr H=CG E F ds Q d rest fr H (iU E fr (.convert s 69 x)):=Eq.trans rfl rfl
theorem Kx (t:TypeId):eI E F ds Q (⟨d, .alloc t,ty,pos,af,none⟩::rest) fr H=CG E F ds Q d rest fr H (iU E fr (.alloc t)):=Eq.trans rfl rfl
theorem Zt (t:TypeId) (x:Operand):eI E F ds Q (⟨d, .box t x,ty,pos,af,none⟩::rest) fr H=CG E F ds Q d rest fr H (iU E fr (.box t x)):=Eq.trans rfl rfl
theorem Bd (t:TypeId) (r:Option Operand):eI E F ds Q (⟨d, .makeMap t r,ty,pos,af,none⟩::rest) fr H=CG E F ds Q d rest fr H (iU E fr (.makeMap t r)):=Eq.trans rfl rfl
theorem wT (t:TypeId) (l c:Operand):eI E F ds Q (⟨d, .makeSlice t l c,ty,pos,af,none⟩::rest) fr H=CG E F ds Q d rest fr H (iU E fr (.makeSlice t l c)):=Eq.trans rfl rfl
variable {E F ds Q d ty pos af rest fr H}
theorem aM {p:(Nat→AV)×iG} (h: ∀b,H b=none→eI E F ds Q rest (eW fr d (p.1 b)) (upd H b (some p.2))):CG E F ds Q d rest fr H (some p):=h
variable (E F ds Q d ty pos af rest fr H)
def UR (len:Nat) (p:Option (Nat×List (List AV))):Prop:=match p with
 |some p=>eI E F ds Q rest (eW fr d (.isl p.1 p.2)) H∨ ∀b,H b=none→eI E F ds Q rest (eW fr d (.osl p.1 b len)) (upd H b (some (.rows p.1 p.2)))
 |none=>False
theorem vJ (t:TypeId) (len:Nat) (a:Array (Nat×Operand)):eI E F ds Q (⟨d, .buildSlice t len a,ty,pos,af,none⟩::rest) fr H=UR E F ds Q d rest fr H len (Nz E fr t len a):=Eq.trans rfl rfl
variable {E F ds Q d ty pos af rest fr H}
theorem eG {len sz:Nat} {rows:List (List AV)} (h:eI E F ds Q rest (eW fr d (.isl sz rows)) H):UR E F ds Q d rest fr H len (some (sz,rows)):= .inl h
theorem wW {len sz:Nat} {rows:List (List AV)} (h: ∀b,H b=none→eI E F ds Q rest (eW fr d (.osl sz b len)) (upd H b (some (.rows sz rows)))):UR E F ds Q d rest fr H len (some (sz,rows)):= .inr h
variable (E F ds Q d ty pos af rest fr H)
def Ur (q:Option (Nat×Hp)):Prop:=match q with |some q=>F q.1∧eI E F ds Q rest (eW fr d (.tup [])) q.2|none=>False
theorem Qo (q:Nat×Hp):Ur E F ds Q d rest fr (some q)=(F q.1∧eI E F ds Q rest (eW fr d (.tup [])) q.2):=Eq.trans rfl rfl
theorem Jx (t:TypeId) (p x:Operand):eI E F ds Q (⟨d, .store t p x,ty,pos,af,none⟩::rest) fr H=Ur E F ds Q d rest fr (wX E H fr t p x):=by
 simp only[eI,aop,mH,lD,Ur];split<;>simp [*]
theorem wS (t:TypeId) (m k x:Operand):eI E F ds Q (⟨d, .mapUpdate t m k x,ty,pos,af,none⟩::rest) fr H=Ur E F ds Q d rest fr (pW E H fr t m k x):=by
 simp only[eI,aop,mH,lD,Ur];split<;>simp [*]
theorem Fj (t:TypeId) (m k x:Operand):eI E F ds Q (⟨d, .insert t m k x,ty,pos,af,none⟩::rest) fr H=Ur E F ds Q d rest fr (pW E H fr t m k x):=by
 simp only[eI,aop,mH,lD,Ur];split<;>simp [*]
def Uu (p:Option (Nat×Nat×AV×List (List AV))):Prop:=match p with
 |some (sz,by', .nsl,ys)=>ys.length *by'≤140737488355328∧(ys=[]→eI E F ds Q rest (eW fr d .nsl) H)∧(ys≠[]→ ∀b,H b=none→eI E F ds Q rest (eW fr d (.osl sz b ys.length)) (upd H b (some (.rows sz ys))))
 |some (sz,by', .osl sz' b len,ys)=>match H b with
  |some (.rows sz'' l)=>sz'=sz∧sz''=sz∧len=l.length∧(l.length+ys.length) *by'≤140737488355328∧F b∧
   ∀b',(b'=b∨H b'=none)→eI E F ds Q rest (eW fr d (.osl sz b' (l.length+ys.length))) (upd (upd H b none) b' (some (.rows sz (l++ys))))
  |_=>False
 |_=>False
theorem Kt (args:Array Operand) (a:Array TypeId):eI E F ds Q (⟨d, .call ⟨.builtin .clear,args,a⟩,ty,pos,af,none⟩::rest) fr H=Ur E F ds Q d rest fr (sT E H fr args a):=by
 simp only[eI,aop,mH,lD,Ur];split<;>simp [*]
def UP (q:Option (Nat×Hp×Nat)):Prop:=match q with |some q=>F q.1∧eI E F ds Q rest (eW fr d (.int .i64 q.2.2)) q.2.1|none=>False
theorem Qn (q:Nat×Hp×Nat):UP E F ds Q d rest fr (some q)=(F q.1∧eI E F ds Q rest (eW fr d (.int .i64 q.2.2)) q.2.1):=Eq.trans rfl rfl
theorem Qv (args:Array Operand) (a:Array TypeId):eI E F ds Q (⟨d, .call ⟨.builtin .copy,args,a⟩,ty,pos,af,none⟩::rest) fr H=UP E F ds Q d rest fr (yW E H fr args a):=by
 simp only[eI,aop,mH,lD,UP];split<;>simp [*]
theorem Fp (args:Array Operand) (a:Array TypeId):eI E F ds Q (⟨d, .call ⟨.builtin .append,args,a⟩,ty,pos,af,none⟩::rest) fr H=Uu E F ds Q d rest fr H (Va E H fr args a):=Eq.trans rfl rfl
def XH (v:AV):Prop:=match v with | .ifc t x=>Q (.pan (.ifc t x)) V8 H|_=>False
theorem Zm (t:TypeId) (x:AV):XH Q H (.ifc t x)=Q (.pan (.ifc t x)) V8 H:=Eq.trans rfl rfl
theorem Ko (x:Operand):eI E F ds Q (⟨d, .panic x,ty,pos,af,none⟩::rest) fr H=XH Q H (ev E.G fr x):=Eq.trans rfl rfl
def qU (g:FuncId) (args:List AV):Prop:= ∃args' H0 R,fF args args'∧oN E g args' H0 R∧sR H0 H∧(∀b,H0 b≠none→F b)∧
 ∀ae H',R ae H'→(∀b,H' b≠none→H0 b≠none∨H b=none)→(match ae with | .ret v=>eI E F ds Q rest (eW fr d v) (lJ H' H0 H)| .pan v=>Q (.pan v) V8 (lJ H' H0 H))
def XJ (f:AV) (args:List AV):Prop:=match f with | .fn (.func g) first cap=>qU E F ds Q d rest fr H g (first++args++cap)|_=>False
theorem W7 (g:FuncId) (first cap args:List AV):XJ E F ds Q d rest fr H (.fn (.func g) first cap) args=qU E F ds Q d rest fr H g (first++args++cap):=Eq.trans rfl rfl
theorem Qw (f:Operand) (args:Array Operand) (a:Array TypeId):eI E F ds Q (⟨d, .call ⟨.value f,args,a⟩,ty,pos,af,none⟩::rest) fr H=XJ E F ds Q d rest fr H (ev E.G fr f) (args.toList.map (ev E.G fr)):=Eq.trans rfl rfl
end
theorem iL (next:Fr→Hp→Prop) (Q:fN) (fr:Fr) (H:Hp):bK next Q .normal fr H=next fr H:=Eq.trans rfl rfl
theorem aC {E:kC} {N:Nat} {Q:fN} {fr:Fr} {H:Hp} {x y:Code} (h: ∀K:Fr→Hp→Prop,(∀fr H,mD E N y Q fr H→K fr H)→mD E N x (bK K Q) fr H):mD E N (.seq x y) Q fr H:=
 aI (h _ fun _ _ h=>h)
theorem Zh (b x y:Bool):(if b=true then AV.bool x else AV.bool y)=AV.bool (if b=true then x else y):=by split<;>rfl
def eN (E:kC) (g:FuncId) (args:List AV) (v:AV):Prop:=oN E g args qZ (fun ae H'=>ae= .ret v∧H'=qZ)
section
variable {E : kC} {F : Nat → Prop} {ds : List (Option Nat)} {Q : fN} {d : Option Nat} {rest : List Oper} {fr : Fr} {H : Hp} {g : FuncId} {args : List AV}
theorem Dx {a:List AV} {v:AV} (f:eN E g a v) (i:fF args a) (h:eI E F ds Q rest (eW fr d v) H):qU E F ds Q d rest fr H g args:=
 ⟨a,qZ,_,i,f,tI H,fun _ e=>absurd rfl e,fun j H' ⟨b,c⟩ _=>by subst b;subst c;rw[BH];exact h⟩
theorem aO {v:AV} (a:eN E g args v) (h:eI E F ds Q rest (eW fr d v) H):qU E F ds Q d rest fr H g args:=Dx a (fF.refl _) h
theorem nG {c:List AV} {a:Hp} {R:xE→Hp→Prop} (i:oN E g c a R) (k:fF args c) (j:sR a H) (f: ∀b,a b≠none→F b)
  (h: ∀e H',R e H'→(∀b,H' b≠none→a b≠none∨H b=none)→(match e with | .ret v=>eI E F ds Q rest (eW fr d v) (lJ H' a H)| .pan v=>Q (.pan v) V8 (lJ H' a H))):qU E F ds Q d rest fr H g args:=
 ⟨c,a,R,k,i,j,f,h⟩
end
def calm:Op→Bool
 | .move _| .assign _| .pick _ _ _| .load _ _| .nilCheck _| .binOp _ _ _ _ _| .unOp _ _ _| .slice _ _ _ _ none| .fieldAddr _ _ _| .field _ _ _| .indexAddr _ _ _| .index _ _ _
 | .makeInterface _ _| .makeFunc _ _ _| .lookup _ _ _ _| .extract _ _| .build _ _| .call ⟨.builtin .len,_,_⟩| .call ⟨.builtin .min,_,_⟩| .call ⟨.builtin .max,_,_⟩=>true
 | .convert _ t _=> !(t==69)
 |_=>false
def fX:Op→Option Operand
 | .load _ x=>some x
 | .lookup _ x _ _=>some x
 |_=>none
section
variable {E : kC} {F : Nat → Prop} {fr fr' : Fr} {H H' : Hp} {K Kp : AV → Hp → Prop}
theorem uI {xs:List Operand} (h: ∀x∈xs,ev E.G fr x=ev E.G fr' x):xs.map (ev E.G fr)=xs.map (ev E.G fr'):=List.map_congr_left h
theorem uF {x:Option Operand} (h: ∀y,x=some y→ev E.G fr y=ev E.G fr' y):x.map (ev E.G fr)=x.map (ev E.G fr'):=by
 cases x with
 |none=>rfl
 |some y=>simp [h y rfl]
theorem uV {size:Nat}: ∀(a:List (Nat×Operand)) (k:Nat),(∀p∈a,ev E.G fr p.2=ev E.G fr' p.2)→oM E fr size k a=oM E fr' size k a
 |[],_,_=>rfl
 |(i,x)::r,k,h=>by
  simp only[oM,h (i,x) (by simp),uV r (k+1) fun p b=>h p (by simp [b])]
theorem Le {o:Op} (h: ∀x∈o.operands,ev E.G fr x=ev E.G fr' x):aq E H fr o=aq E H fr' o:=by
 cases o<;>simp only[Op.operands]at h<;>try (rfl)
 case slice t x lo hi m=>
  cases m with
  |some m=>rfl
  |none=>
   have a:=h x (by simp);have j:lo.map (ev E.G fr)=lo.map (ev E.G fr'):=uF fun y k=>h y (by simp [k]);have l:hi.map (ev E.G fr)=hi.map (ev E.G fr'):=uF fun y k=>h y (by simp [k]);simp only[aq,a,j,l]
 case makeFunc f xs ys=>
  have a:=uI (E:=E) (fr:=fr) (fr':=fr') (xs:=xs.toList) fun x i=>h x (by simp at i;simp [i]);have j:=uI (E:=E) (fr:=fr) (fr':=fr') (xs:=ys.toList) fun x i=>h x (by simp at i;simp [i]);simp only[aq,a,j]
 case build t ps=>
  have a:(ps.toList.map fun p=>(p.1,ev E.G fr p.2))=ps.toList.map fun p=>(p.1,ev E.G fr' p.2):=List.map_congr_left fun p n=>by
   rw[h p.2 (by simp only[xC,jL];exact⟨p,n,rfl⟩)]
  simp only[aq,a]
 case typeAssert x t u ok=>
  have a:=h x (by simp)
  cases ok with
  |false=>rfl
  |true=>simp only[aq,a]
 case call c=>
  obtain⟨f,args,v⟩:=c
  cases f with
  |value=>rfl
  |invoke=>rfl
  |builtin b=>
   have a: ∀x∈args.toList,ev E.G fr x=ev E.G fr' x:=fun x i=>h x (by simp at i;simp [Call.operands,i]);cases b<;>try rfl
   all_goals
    simp only[aq];split
    all_goals first
     |rfl
     |(rename_i e;rw[e]at a;simp only[bP,bO,dF,forall_eq_or_imp,UD]at a;simp only[a];done)
     |(rename_i e _;rw[e]at a;simp only[bP,bO,dF,UD]at a;simp only[a];done)
 all_goals
  simp only[xC,bP,bO,dF,forall_eq_or_imp,UD]at h;simp only[aq,h]
theorem Fq {o:Op} (h: ∀x∈o.operands,ev E.G fr x=ev E.G fr' x):lD E F o fr H K Kp=lD E F o fr' H K Kp:=by
 have l:=Le (H:=H) h;cases o<;>simp only[Op.operands]at h
 case buildSlice t n ps=>
  have a:=fun size=>uV (E:=E) (fr:=fr) (fr':=fr') (size:=size) ps.toList 0 fun p u=>h p.2 (by simp only[xC,jL];exact⟨p,u,rfl⟩);simp only[lD,Nz,a]
 case makeMap t r=>
  have a:r.map (ev E.G fr)=r.map (ev E.G fr'):=uF fun y v=>h y (by simp [v]);simp only[lD,iU,a]
 case convert s t x=>
  simp only[xC,bP,bO,dF,UD]at h;simp only[lD,iU,h,l]
 case call c=>
  obtain⟨f,args,j⟩:=c
  cases f with
  |invoke=>simp only[lD,l]
  |value f=>
   have a:=uI (E:=E) (fr:=fr) (fr':=fr') (xs:=args.toList) fun x k=>h x (by simp at k;simp [Call.operands,k]);have i:=h f (by simp [Call.operands]);simp only[lD,a,i]
  |builtin b=>
   have a: ∀x∈args.toList,ev E.G fr x=ev E.G fr' x:=fun x k=>h x (by simp at k;simp [Call.operands,k]);cases b<;>try (simp only[lD,l];done)
   case append=>
    have i:Va E H fr args j=Va E H fr' args j:=by
     simp only[Va];split
     ·rename_i e _;rw[e]at a;simp only[bP,bO,dF,forall_eq_or_imp,UD]at a;simp only[a]
     rfl
    simp only[lD,i]
   case clear=>
    have i:sT E H fr args j=sT E H fr' args j:=by
     simp only[sT];split
     ·rename_i e _;rw[e]at a;simp only[bP,bO,dF,UD]at a;simp only[a]
     rfl
    simp only[lD,i]
   case copy=>
    have i:yW E H fr args j=yW E H fr' args j:=by
     simp only[yW];split
     ·rename_i e _;rw[e]at a;simp only[bP,bO,dF,forall_eq_or_imp,UD]at a;simp only[a]
     rfl
    simp only[lD,i]
 all_goals first
  |(simp only[lD,l];done)
  |(simp only[xC,bP,bO,dF,forall_eq_or_imp,UD]at h
    simp only[lD,iU,wX,pW,h])
  |(simp only[lD,iU])
def vN (F:Nat→Prop) (H H':Hp):Prop:= ∀b,H b≠none→ ¬F b→H' b=H b
theorem rQ {o:Op} (a:calm o=true):lD E F o fr H K Kp=(match aq E H fr o with |some v=>K v H|none=>False):=by
 cases o<;>simp only[calm,cH]at a<;>try rfl
 case convert s t x=>
  have e:(t==69)=false:=by simpa using a
  simp only[lD,e,cH,dK];rfl
 case call c=>
  obtain⟨f,args,i⟩:=c
  cases f with
  |invoke=>simp at a
  |value=>simp at a
  |builtin b=>cases b<;>simp at a<;>rfl
theorem P0 {t:TypeId} {p x:Operand} {q:Nat×Hp} (h:wX E H fr t p x=some q): ∃o,q.2=upd H q.1 o:=by
 simp only[wX]at h;split at h<;>first|(cases h;done)|skip
 split at h<;>first|(cases h;done)|skip
 simp only[cV,eM]at h;obtain⟨_,_,_,_,_,_,_,h⟩:=h;cases h;exact⟨_,rfl⟩
theorem Fz {t:TypeId} {m k x:Operand} {q:Nat×Hp} (h:pW E H fr t m k x=some q): ∃o,q.2=upd H q.1 o:=by
 simp only[pW]at h;split at h<;>first|(cases h;done)|skip
 split at h<;>first|(cases h;done)|skip
 rw[bR]at h;obtain⟨_,_,rfl⟩:=h;exact⟨_,rfl⟩
theorem P6 {args:Array Operand} {a:Array TypeId} {q:Nat×Hp} (h:sT E H fr args a=some q): ∃o,q.2=upd H q.1 o:=by
 simp only[sT]at h;split at h<;>first|(cases h;done)|skip
 split at h<;>first|(cases h;done)|skip
 rw[cV]at h;obtain⟨_,_,h⟩:=h;split at h<;>first|(cases h;done)|skip
 split at h<;>first|(cases h;done)|skip
 cases h;exact⟨_,rfl⟩
theorem CS {args:Array Operand} {a:Array TypeId} {q:Nat×Hp×Nat} (h:yW E H fr args a=some q): ∃o,q.2.1=upd H q.1 o:=by
 simp only[yW]at h;split at h<;>first|(cases h;done)|skip
 split at h<;>first|(cases h;done)|skip
 rw[cV]at h;obtain⟨_,_,h⟩:=h;split at h<;>first|(cases h;done)|skip
 split at h<;>first|(cases h;done)|skip
 cases h;exact⟨_,rfl⟩
theorem uU {o:Op} {A B:AV→Hp→Prop} (a: ∀v H',vN F H H'→K v H'→A v H') (I: ∀v H',Kp v H'→B v H') (h:lD E F o fr H K Kp):lD E F o fr H A B:=by
 have new: ∀{b:Nat} {o:iG},H b=none→vN F H (upd H b (some o)):=fun {b o} hb i f _=>by
  have j:i≠b:=fun e=>f (e▸hb);simp [upd,j]
 have set: ∀{b:Nat} {o:Option iG},F b→vN F H (upd H b o):=fun {b o} hb i _ f=>by
  have j:i≠b:=fun e=>f (e▸hb);simp [upd,j]
 have same:vN F H H:=fun _ _ _=>rfl;unfold lD at *;split at h
 case h_9=>split at h<;>first|exact h.elim|exact I _ _ h
 case h_10=>
  split at h<;>first|exact h.elim|skip
  ·exact⟨h.1,fun e=>a _ _ same (h.2.1 e),fun e b hb=>a _ _ (new hb) (h.2.2 e b hb)⟩
  split at h<;>first|exact h.elim|skip
  obtain⟨f,y,z,k,l,M⟩:=h;refine⟨f,y,z,k,l,fun i hb=>a _ _ (fun D p u=>?_) (M i hb)⟩;have j:D≠_:=fun e=>u (e▸l)
  have O:D≠i:=fun e=>by
   rcases hb with hb|hb
   ·exact j (e.trans hb)
   exact p (e▸hb)
  simp [upd,j,O]
 case h_11=>
  split at h<;>first|exact h.elim|skip
  rename_i q c;obtain⟨o,e⟩:=P6 c;exact⟨h.1,a _ _ (by rw[e];exact set h.1) h.2⟩
 case h_12=>
  split at h<;>first|exact h.elim|skip
  rename_i q c;obtain⟨o,e⟩:=CS c;exact⟨h.1,a _ _ (by rw[e];exact set h.1) h.2⟩
 case h_13=>
  split at h<;>first|exact h.elim|skip
  obtain⟨J,n,R,f,y,z,k,l⟩:=h;refine⟨J,n,R,f,y,z,k,fun C H' S hb=>?_⟩;have:=l C H' S hb;cases C
  ·refine a _ _ (fun b p u=>?_) this
   have G:n b=none:=by
    cases e:n b with
    |none=>rfl
    |some o=>exact absurd (k b (by simp [e])) u
   have L:H' b=none:=by
    cases e:H' b with
    |none=>rfl
    |some o=>
     rcases hb b (by simp [e])with h|h
     ·exact absurd G h
     exact absurd h p
   simp [lJ,G,L]
  exact I _ _ this
 case h_14=>
  rename_i s t x;by_cases hb:(t==69)=true
  ·simp only[bH hb]at h⊢
   split at h<;>first|exact h.elim|exact fun b hb=>a _ _ (new hb) (h b hb)
  simp only[aL hb]at h⊢;split at h<;>first|exact h.elim|exact a _ _ same h
 case h_6=>
  split at h<;>first|exact h.elim|skip
  rename_i q c;obtain⟨o,e⟩:=P0 c;exact⟨h.1,a _ _ (by rw[e];exact set h.1) h.2⟩
 case h_7=>
  split at h<;>first|exact h.elim|skip
  rename_i q c;obtain⟨o,e⟩:=Fz c;exact⟨h.1,a _ _ (by rw[e];exact set h.1) h.2⟩
 case h_8=>
  split at h<;>first|exact h.elim|skip
  rename_i q c;obtain⟨o,e⟩:=Fz c;exact⟨h.1,a _ _ (by rw[e];exact set h.1) h.2⟩
 all_goals
  split at h<;>first
   |exact h.elim
   |exact fun b hb=>a _ _ (new hb) (h b hb)
   |exact a _ _ same h
   |exact h.imp (a _ _ same) fun h b hb=>a _ _ (new hb) (h b hb)
end
def Yl (E:kC) (F:Nat→Prop) (ds:List (Option Nat)) (cm:Bool) (o:Oper) (v:AV) (fr:Fr) (H:Hp):Prop:=
 (mH ds fr o.guard=some false∧v= .tup [])∨
 (mH ds fr o.guard=some true∧aq E H fr o.op=some v∧(cm=true∨ ∀x,fX o.op=some x→ ∀b,qI (ev E.G fr x)=some b→ ¬F b))
def Vj (E:kC) (F:Nat→Prop) (ops:Array Oper) (Q:fN):Nat→Array Bool→Fr→Hp→Prop
 |0,L,fr,H=>Region.ready .any ops L=[]∧Q .normal fr H
 |fuel+1,L,fr,H=>(Region.ready .any ops L=[]→Q .normal fr H)∧
  ∀i∈Region.ready .any ops L, ∀o,ops[i]?=some o→aop E F (ops.toList.map (·.dst)) o fr H (Vj E F ops Q fuel (L.setIfInBounds i true)) (fun v H'=>Q (.pan v) V8 H')
section
variable {E : kC} {F : Nat → Prop} {ops : Array Oper} {Q : fN} {fr : Fr} {H : Hp}
theorem Me {k:lS} {N:Nat} (hd:ops.toList.all (kY N)=true): ∀(fuel:Nat) (L:Array Bool) (fr:Fr) (H:Hp) (a:Act) (w:World),Hf E k N fr H a w→Vj E F ops Q fuel L fr H→wpAny E.P .any ops (wI E k N Q) fuel L a w
 |0,_,fr,H,a,w,hs,h=>⟨h.1,fr,H,hs,h.2⟩
 |fuel+1,L,fr,H,a,w,hs,h=>by
  refine⟨fun e=>⟨fr,H,hs,h.1 e⟩,fun i f=>?_⟩;obtain⟨_,o,c,_⟩:=mem_ready.1 f;unfold wpOp;simp only[c]
  have t:kY N o=true:=by
   rw[dB]at hd;exact hd o (Vh.2 (tV c))
  have p:=hs.1;exact Eb hs t (h.2 i f o c) (fun fr' H' n j u b=>Me hd fuel _ fr' H' n j u b) (fun v z l H' j x y b=>⟨p,v,z,l,H',rfl,x,y,b⟩)
theorem UF {d:Option Nat} {v:AV} {x:Operand} (h: ∀i,d=some i→x≠ .tmp i):ev E.G (eW fr d v) x=ev E.G fr x:=by
 cases d with
 |none=>rfl
 |some i=>
  cases x with
  |tmp t=>
   have :t≠i:=fun e=>h i rfl (by rw[e]);simp [ev,eW,upd,this]
  |_=>rfl
theorem uG {o:Oper} {d:Option Nat} {v:AV} (h: ∀i,d=some i→i∉o.looksAt ops): ∀x∈o.op.operands,ev E.G (eW fr d v) x=ev E.G fr x:=fun x b=>UF fun i a e=>h i a (by
 subst e
 exact List.mem_append_left _ (List.mem_filterMap.2 ⟨.tmp i,by simpa using b,rfl⟩))
theorem xY {o:Oper} {d:Option Nat} {v:AV} (h: ∀i,d=some i→i∉o.looksAt ops):mH (ops.toList.map (·.dst)) (eW fr d v) o.guard=mH (ops.toList.map (·.dst)) fr o.guard:=by
 cases hg:o.guard with
 |none=>rfl
 |some g=>
  obtain⟨j,p⟩:=g;simp only[mH];split<;>try rfl
  rename_i t a
  have f: ∀i,d=some i→t≠i:=fun i c e=>h i c (by
   refine List.mem_append_right _ ?_;rw[hg];rw[dT,bR]at a;obtain⟨n,k,b⟩:=a;have l:ops[j]?=some n:=by simpa using k
   simp only[l,cA,b]
   simp [e])
  have :eW fr d v t=fr t:=by
   cases d with
   |none=>rfl
   |some i=>simp [eW,upd,f i rfl]
  rw[this]
theorem tA {d e:Option Nat} {v u:AV} (h: ∀i,d=some i→e≠some i):eW (eW fr d v) e u=eW (eW fr e u) d v:=by
 cases d with
 |none=>rfl
 |some i=>
  cases e with
  |none=>rfl
  |some j=>exact DV _ _ _ fun c=>h i rfl (by rw[c])
theorem Yb {o:Op} {x:Operand} (h:fX o=some x):x∈o.operands:=by
 cases o<;>simp only[fX]at h<;>first|(cases h;done)|skip
 all_goals cases h;simp [Op.operands]
theorem Dz {o:Op} {H':Hp} {v:AV} (l:calm o=true) (h:aq E H fr o=some v) (n: ∀x,fX o=some x→ ∀b,qI (ev E.G fr x)=some b→H b≠none→H' b=H b):aq E H' fr o=some v:=by
 cases o<;>simp only[calm,cH]at l<;>try exact h
 case load t x=>
  simp only[aq,cV]at h⊢;obtain⟨z,y,a⟩:=h;refine⟨z,y, ?_⟩;have:=n x rfl;cases e:ev E.G fr x<;>rw[e]at a this<;>simp only[vM]at a⊢ <;>try (exact a)
  rename_i sz b i j;rw[this b rfl (fun c=>by rw[c]at a;cases a)];exact a
 case lookup t x k ok=>
  have:=n x rfl;simp only[aq]at h⊢;cases e:ev E.G fr x<;>rw[e]at h this<;>try (exact h)
  rename_i b;by_cases p:H b=none
  ·simp only[p]at h
   exfalso
   repeat' (split at h<;>try (cases h;done))
   all_goals simp_all
  have u:=this b rfl p;simp only[u];exact h
 case slice t x lo hi m=>cases m<;>simp at l;exact h
 case call c=>
  obtain⟨f,args,A⟩:=c
  cases f with
  |invoke=>simp at l
  |value=>simp at l
  |builtin b=>cases b<;>simp at l<;>exact h
theorem vN.refl:vN F H H:=fun _ _ _=>rfl
theorem Yl.step {a:Bool} {i n:Oper} {v u:AV} {H':Hp} (t:calm i.op=true) (j: ∀d,n.dst=some d→d∉i.looksAt ops) (k:Yl E F (ops.toList.map (·.dst)) a i v fr H) (p:vN F H H') (y:a=true→H'=H):
  Yl E F (ops.toList.map (·.dst)) a i v (eW fr n.dst u) H':=by
 unfold Yl at *;rw[xY j];rcases k with k|⟨o,l,c⟩
 ·exact .inl k
 refine .inr ⟨o, ?_, ?_⟩
 ·rw[Le (uG j)]
  cases a with
  |true=>rw[y rfl];exact l
  |false=>exact Dz t l fun x f b e z=>p b z (by simpa using c|>.resolve_left (by simp) x f b e)
 refine c.imp id fun c x f b e=>?_;rw[uG j x (Yb f)]at e;exact c x f b e
theorem PT {b:Bool} {a c:Oper} {v:AV} {K:Fr→Hp→Prop} {Kp:AV→Hp→Prop} (o:a.apart ops c=true) (i:calm a.op=true) (p:b=true→calm c.op=true) (j:Yl E F (ops.toList.map (·.dst)) b a v fr H)
  (h:aop E F (ops.toList.map (·.dst)) c (eW fr a.dst v) H K Kp):aop E F (ops.toList.map (·.dst)) c fr H (fun fr' H'=>Yl E F (ops.toList.map (·.dst)) b a v fr' H'∧K (eW fr' a.dst v) H') Kp:=by
 obtain⟨k,e,f⟩:=Oper.apart_spec o;unfold aop at *;rw[xY k]at h;split at h
 ·rename_i x
  rw[Fq (uG k)]at h
  cases b with
  |true=>
   rw[rQ (p rfl)]at h⊢;split at h<;>try (exact h.elim)
   rename_i u t;refine⟨j.step i f vN.refl fun _=>rfl, ?_⟩;rw[←tA e];exact h
  |false=>
   refine uU (fun u H' n l=>⟨j.step i f n (by simp), ?_⟩) (fun _ _ h=>h) h;rw[←tA e];exact l
 ·exact⟨j.step i f vN.refl fun _=>rfl,by rw[←tA e];exact h⟩
 exact h
theorem xA {ds:List (Option Nat)} {o:Oper} {K a:Fr→Hp→Prop} {Kp:AV→Hp→Prop} (b: ∀fr H,K fr H→a fr H) (h:aop E F ds o fr H K Kp):aop E F ds o fr H a Kp:=by
 unfold aop at *;split at h
 ·exact uU (fun _ _ _ h=>b _ _ h) (fun _ _ h=>h) h
 ·exact b _ _ h
 exact h
theorem Yl.aop {b:Bool} {o:Oper} {v:AV} {K:Fr→Hp→Prop} {Kp:AV→Hp→Prop} (e:calm o.op=true) (f:Yl E F (ops.toList.map (·.dst)) b o v fr H) (h:K (eW fr o.dst v) H):Al.aop E F (ops.toList.map (·.dst)) o fr H K Kp:=by
 unfold Al.aop;rcases f with⟨a,rfl⟩|⟨a,c,_⟩
 ·rw[a];exact h
 rw[a,rQ e,c];exact h
theorem Q2 {i:Nat} {l:Oper} {v:AV} {z:Bool} (hi:ops[i]?=some l) (D:calm l.op=true) (W:Nat→Bool) (T: ∀j a,ops[j]?=some a→W j=true→ ∃e∈a.after,Region.binds .any e=true∧(e.on=i∨W e.on=true)):
  ∀(b:Nat) (L:Array Bool) (fr:Fr) (H:Hp),
   (∀j a,ops[j]?=some a→j≠i→L.getD j true=false→W j=false→l.apart ops a=true∧(z=true→calm a.op=true))→
   (∀j,W j=true→L.getD j false=false)→i∈Region.ready .any ops L→Yl E F (ops.toList.map (·.dst)) z l v fr H→
   Vj E F ops Q b (L.setIfInBounds i true) (eW fr l.dst v) H→Vj E F ops Q (b+1) L fr H:=by
 have first: ∀{b:Nat} {L:Array Bool} {fr:Fr} {H:Hp} {j:Nat} {o:Oper},ops[j]?=some o→j=i→Yl E F (ops.toList.map (·.dst)) z l v fr H→Vj E F ops Q b (L.setIfInBounds i true) (eW fr l.dst v) H→
   Al.aop E F (ops.toList.map (·.dst)) o fr H (Vj E F ops Q b (L.setIfInBounds j true)) (fun v H'=>Q (.pan v) V8 H'):=fun {b L fr H j o} y e n h=>by
  subst e;rw[hi]at y;cases y;exact n.aop D h
 intro b
 induction b with
 |zero=>
  intro L fr H _ _ f n h;refine⟨fun e=>(by rw[e]at f;cases f),fun j x o y=>?_⟩;by_cases c:j=i
  ·exact first y c n h
  have:=ready_mono x c;rw[h.1]at this;cases this
 |succ b ih=>
  intro L fr H G R f n h;refine⟨fun e=>(by rw[e]at f;cases f),fun j x a t=>?_⟩;by_cases c:j=i
  ·exact first t c n h
  obtain⟨J,a5,O,U⟩:=mem_ready.1 x;rw[t]at O;cases O
  have a0:L.getD i false=false:=by
   have A:=(mem_ready.1 f).1;rcases pR i L.size with h'|h'
   ·simp [h']at A⊢;exact A
   simp [Array.getElem?_eq_none h']
  have C:W j=false:=by
   cases e:W j with
   |false=>rfl
   |true=>
    obtain⟨S,Z,X,a4⟩:=T j a t e;have u:=U S Z X;rcases a4 with h2|h2
    ·rw[h2,a0]at u;cases u
    rw[R _ h2]at u;cases u
  obtain⟨V,Y⟩:=G j a t c J C;have h2:=PT V D Y n (h.2 j (ready_mono x c) a t);refine xA (fun fr' H' B=>ih (L.setIfInBounds j true) fr' H' (fun k ok p a2 M a1=>G k ok p a2 ?_ a1) (fun k p=>?_) (ready_mono f (Ne.symm c)) B.1 ?_) h2
  ·by_cases I:j=k
   ·subst I;exact J
   rw[getD_set_ne true I]at M;exact M
  ·have a3:j≠k:=fun e=>by subst e;rw[C]at p;cases p
   rw[getD_set_ne false a3];exact R k p
  rw[Array.setIfInBounds_comm _ _ c];exact B.2
def xG (ops:Array Oper) (i:Nat):List Nat:=(List.range ops.size).foldl (fun acc j=>if(match ops[j]? with |some o=>o.after.any (fun e=>Region.binds .any e&&(e.on==i||acc.contains e.on))|none=>false)then j::acc else acc) []
def BV (ops:Array Oper) (i:Nat) (ws:List Nat) (L:Array Bool):Bool:=
 ws.all fun j=> !L.getD j false&&match ops[j]? with |some o=>o.after.any (fun e=>Region.binds .any e&&(e.on==i||ws.contains e.on))|none=>true
def W2 (ops:Array Oper) (i:Nat) (oi:Oper) (cm:Bool) (ws:List Nat) (L:Array Bool):Bool:=
 (List.range ops.size).all fun j=>j==i||L.getD j true||ws.contains j||match ops[j]? with |some oj=>oi.apart ops oj&&(!cm||calm oj.op)|none=>true
def qS (ops:Array Oper):Array Bool→List (Nat×Bool)→Bool
 |L,[]=>Region.ready .any ops L==[]
 |L,(i,cm)::r=>(match ops[i]? with
  |none=>false
  |some o=>if calm o.op then(Region.ready .any ops L).contains i&&BV ops i (xG ops i) L&&W2 ops i o cm (xG ops i) L else Region.ready .any ops L==[i])&&qS ops (L.setIfInBounds i true) r
def tM (ops:List Oper):List (Nat×Bool)→List Oper
 |[]=>[]
 |(i,cm)::r=>match ops[i]? with
  |none=>[]
  |some o=>if cm then o::tM ops r else match fX o.op with
   |some x=>⟨none, .entry x,o.type,o.pos,o.after,o.guard⟩::o::tM ops r
   |none=>o::tM ops r
theorem oQ {N:Nat} {ds:List (Option Nat)} {o:Oper} (hd:kY N o=true) (rest:List Oper) {fr:Fr} {H:Hp} (b:calm o.op=true) (h:eI E F ds Q (o::rest) fr H):
  ∃v,((mH ds fr o.guard=some false∧v= .tup [])∨(mH ds fr o.guard=some true∧aq E H fr o.op=some v))∧eI E F ds Q rest (eW fr o.dst v) H:=by
 rw[tO hd]at h;unfold aop at h;split at h
 ·rename_i a
  rw[rQ b]at h;split at h<;>try (exact h.elim)
  rename_i v c;exact⟨v, .inr ⟨a,c⟩,h⟩
 ·rename_i a
  exact⟨_, .inl ⟨a,rfl⟩,h⟩
 exact h.elim
theorem Ee {N:Nat} (hd:ops.toList.all (kY N)=true): ∀(C:List (Nat×Bool)) (L:Array Bool) (fr:Fr) (H:Hp),qS ops L C=true→eI E F (ops.toList.map (·.dst)) Q (tM ops.toList C) fr H→Vj E F ops Q C.length L fr H
 |[],L,fr,H,c,h=>by
  simp only[qS,Ax]at c;exact⟨c,h⟩
 |(i,cm)::r,L,fr,H,c,h=>by
  simp only[qS,bC]at c;obtain⟨c,I⟩:=c
  cases ho:ops[i]? with
  |none=>rw[ho]at c;simp at c
  |some o=>
   simp only[ho]at c
   have z:kY N o=true:=by
    rw[dB]at hd;exact hd o (Vh.2 (tV ho))
   have V:ops.toList[i]?=some o:=by simpa using ho
   simp only[tM,V]at h;split at c
   ·rename_i k
    simp only[bC]at c;obtain⟨⟨R,A⟩,G⟩:=c
    have go: ∀v,Yl E F (ops.toList.map (·.dst)) cm o v fr H→eI E F (ops.toList.map (·.dst)) Q (tM ops.toList r) (eW fr o.dst v) H→Vj E F ops Q (r.length+1) L fr H:=fun v p f=>by
     refine Q2 ho k (fun j=>(xG ops i).contains j) (fun j M t l=>?_) r.length L fr H (fun j M t X Y W=>?_) (fun j l=>?_) (by simpa using R) p (Ee hd r _ _ _ I f)
     ·simp only[BV,dB]at A
      have:=A j (by simpa using l);simp only[t,bC]at this;obtain⟨O,T,B⟩:=Array.any_eq_true'.1 this.2;simp only[bC,B8,Ax]at B;exact⟨O,T,B.1,B.2⟩
     ·simp only[W2,dB,List.mem_range]at G
      have:=G j (fD.1 t).1;simp only[*,B8,Ax,cH,dF,false_or,bC,dE]at this;refine⟨this.1,fun e=>?_⟩;rcases this.2 with h|h
      ·rw[e]at h;cases h
      exact h
     simp only[BV,dB]at A;have:=A j (by simpa using l);simp only[bC,dE]at this;exact this.1
    cases cm with
    |true=>
     simp only[cT]at h;obtain⟨v,n,f⟩:=oQ z _ k h;exact go v (n.imp id fun⟨a,b⟩=>⟨a,b, .inl rfl⟩) f
    |false=>
     simp only[cH,dK]at h;split at h
     ·rename_i x u
      simp only[eI]at h;split at h
      ·rename_i J
       obtain⟨U,h⟩:=h;obtain⟨v,n,f⟩:=oQ (fr:=fr) z _ k h;exact go v (n.imp id fun⟨a,b⟩=>⟨a,b, .inr fun y p=>by rw[u]at p;cases p;exact U⟩) f
      ·rename_i J
       obtain⟨v,n,f⟩:=oQ (fr:=fr) z _ k h;exact go v (n.imp id fun⟨a,b⟩=>by rw[J]at a;cases a) f
      exact h.elim
     rename_i u;obtain⟨v,n,f⟩:=oQ z _ k h;exact go v (n.imp id fun⟨a,b⟩=>⟨a,b, .inr fun y p=>by rw[u]at p;cases p⟩) f
   rename_i k;simp only[Ax]at c
   have D:eI E F (ops.toList.map (·.dst)) Q (o::tM ops.toList r) fr H:=by
    split at h
    ·exact h
    split at h
    ·rename_i x u
     exfalso;cases e:o.op<;>rw[e]at u k<;>simp [fX,calm]at u k
    exact h
   rw[tO z]at D;show Vj E F ops Q (r.length+1) L fr H;refine⟨fun e=>(by rw[c]at e;cases e),fun j l M t=>?_⟩;rw[c]at l;simp only[bD]at l;subst l;rw[ho]at t;cases t;exact xA (fun fr' H' S=>Ee hd r _ fr' H' I S) D
def W3 (N:Nat) (l:List Oper) (plan:List (Nat×Bool)):Bool:=l.all (kY N)&&plan.length==l.length&&qS l.toArray (Array.replicate l.length false) plan
theorem Hf.drew {i:lS} {N:Nat} {a:Act} {w:World} (p:Hf E i N fr H a w):Hf E i N fr H a {w with drawn:=w.drawn+1}:=by
 obtain⟨j,l,S,c,n⟩:=p;have e:hJ S S w {w with drawn:=w.drawn+1}:=c.keeps (nU.drew (fun _=>False) w) (fun _ h=>h.elim) (fun _ h=>h);refine⟨j,l,S, ?_,n.keeps e⟩;exact c.step (nU.drew (fun _=>False) w) (fun _ h=>h.elim) (fun _ h=>h) c.lt (fun k e=> .inl e) fun b o f=>⟨(c.obj b o f).2.1, .inl ⟨f,fun h=>h⟩⟩
theorem gB (F:Nat→Prop) (c:List (Nat×Bool)) {N id:Nat} {l l':List Oper} (i:E.P.follows .mixedOrders=true) (b:W3 N l c=true) (e:tM l c=l') (h:eI E F (l.map (·.dst)) Q l' fr H):mD E N (.region id l.toArray true) Q fr H:=fun k a w j=>by
 subst e;simp only[W3,bC,Ax]at b;obtain⟨⟨hd,f⟩,b⟩:=b;refine wp_region_any i (Me (F:=F) (by simpa using hd) _ _ fr H a _ j.drew ?_);have:=Ee (E:=E) (F:=F) (Q:=Q) (ops:=l.toArray) (N:=N) (by simpa using hd) c _ fr H b (by simpa using h);rw[f]at this;simpa using this
end
section
variable {E : kC} {N : Nat} {F : Nat → Prop} {ds : List (Option Nat)} {Q : fN} {d : Option Nat} {rest : List Oper} {fr : Fr} {H : Hp}
theorem Ba {x y:Code} (M:Fr→Hp→Prop) (b:mD E N x (bK M Q) fr H) (c: ∀fr H,M fr H→mD E N y Q fr H):mD E N (.seq x y) Q fr H:=
 aI (Zl b fun e fr H a=>by cases e<;>first|exact c _ _ a|exact a)
theorem cP {x y:Code} (M:Fr→Hp→Prop) (a: ∀K:Fr→Hp→Prop,(∀fr H,M fr H→K fr H)→mD E N x (bK K Q) fr H) (b: ∀fr H,M fr H→mD E N y Q fr H):mD E N (.seq x y) Q fr H:=
 Ba M (a M fun _ _ h=>h) b
theorem eS {c:Code} (I:Nat→Fr→Hp→Prop) (n:Nat) (a:I n fr H) (f: ∀n fr H,I n fr H→ ∀K:Fr→Hp→Prop,(∀m fr' H',m<n→I m fr' H'→K fr' H')→mD E N c (bK K Q) fr H):mD E N (.loop c) Q fr H:=
 Az I n a fun n fr H h=>f n fr H h _ fun m _ _ e b=>⟨m,e,b⟩
theorem dN {c:Operand} {x y:Code} (t:Bool) (e:ev E.G fr c= .bool t) (a:t=true→mD E N x Q fr H) (b:t=false→mD E N y Q fr H):mD E N (.cond c x y) Q fr H:=Bc e a b
theorem aY.pure {v v':AV} {H:Hp} (h:v=v'):aY (fun a H'=>a= .ret v'∧H'=qZ) v H:=
 ⟨v,qZ,lN.drop (fun b o h=>by cases h),by rw[h],rfl⟩
theorem aY.turn {R:xE→Hp→Prop} {v a:AV} {H H1:Hp} (e:lN v H a H1) (h:aY R a H1):aY R v H:=by
 obtain⟨f,H',b,c⟩:=h;exact⟨f,H',e.trans b,c⟩
def eB (sz:Nat) (v:AV) (rows:List (List AV)) (H:Hp):Prop:=(v= .nsl∧rows=[])∨ ∃b,v= .osl sz b rows.length∧H b=some (.rows sz rows)
theorem jF {sz l:Nat} {v:AV} {rows j:List (List AV)} (A:eB sz v rows H) (a:(rows.length+j.length) *l≤140737488355328) (x: ∀b,F b)
  (h: ∀t H',eB sz t (rows++j) H'→(∀b o,H b=some o→v≠ .osl sz b rows.length→H' b=some o)→eI E F ds Q rest (eW fr d t) H'):Uu E F ds Q d rest fr H (some (sz,l,v,j)):=by
 rcases A with⟨rfl,rfl⟩|⟨b,rfl,y⟩
 ·simp only[cQ,aV,bT]at h a
  refine⟨a,fun e=>h _ _ (.inl ⟨rfl,e⟩) fun _ _ a _=>a,fun e b z=>h _ _ (.inr ⟨b,rfl,by simp [upd]⟩) fun i o f _=>?_⟩;have :i≠b:=fun c=>by rw[c,z]at f;cases f
  simp [upd,this,f]
 simp only[Uu,y];refine⟨trivial,trivial,trivial,a,x b,fun i f=>?_⟩;refine h _ _ (.inr ⟨i,by simp,by simp [upd]⟩) fun k o n u=>?_;have p:k≠b:=fun c=>u (by rw[c])
 have B:k≠i:=fun c=>by
  rcases f with e|e
  ·exact p (c.trans e)
  rw[←c,n]at e;cases e
 simp [upd,p,B,n]
def frz (b sz:Nat) (l:List (List AV)):AV→AV
 | .osl sz' b' n=>if b'=b∧sz'=sz∧n=l.length then .isl sz l else .osl sz' b' n
 |v=>v
theorem V6 (b sz:Nat) (l:List (List AV)) (v:AV):rU b sz l v (frz b sz l v):=by
 cases v<;>simp only[frz]<;>try exact rU.refl _ _ _ _
 split
 ·rename_i h
  obtain⟨rfl,rfl,rfl⟩:=h;exact rU.osl _ _ _
 exact rU.refl _ _ _ _
theorem O8 {c:Code} {b sz:Nat} {l:List (List AV)} (n:H b=some (.rows sz l)) (h:mD E N c Q (fun t=>frz b sz l (fr t)) (upd H b none)):mD E N c Q fr H:=fun B a w ⟨u,v,S,i,x⟩=>by
 have hk:hJ S (fun k=>S k∨k=b) w w:=⟨fun _ _=>rfl,fun _ _ h=>h,fun _ h=> .inl h⟩;have j:=(i.obj b _ n).1;have y:=j.lt;simp only[jK]at j;obtain⟨C,e,_,_,A⟩:=j;refine h B a w ⟨u,v,_, ?_,fun t=>V6 b sz l (fr t) _ w _ (.inr rfl) (dI.mono hk l b 0 sz rfl A) (cK.mono hk _ _ (x t))⟩;refine i.step (nU.refl (fun _=>False) w) (fun _ h=>h.elim) (fun _ h=> .inl h) (fun k hk=>?_) (fun k hk=>?_) fun p o f=>?_
 ·rcases hk with hk|hk
  ·exact i.lt k hk
  exact hk▸y
 ·rcases hk with hk|hk
  ·exact .inl hk
  exact .inr (.inl (by rw[hk,n];simp))
 simp only[upd]at f;split at f
 ·cases f
 rename_i z;refine⟨fun hs=>?_, .inl ⟨f,fun h=>h⟩⟩;rcases hs with hs|hs
 ·exact(i.obj p o f).2.1 hs
 exact z hs
end
section
variable {E : kC} {N : Nat} {Q : fN} {fr : Fr} {H : Hp}
end
def XR (sz:Nat) (rows:List (List AV)):AV:=match rows with |[]=> .nsl|_=> .isl sz rows
def Ls (sz:Nat) (v:AV) (rows:List (List AV)) (H:Hp):Prop:=(v= .nsl∧rows=[])∨(rows≠[]∧ ∃b,v= .osl sz b rows.length∧H b=some (.rows sz rows))
theorem Ls.own {sz:Nat} {v:AV} {rows:List (List AV)} {H:Hp} (h:Ls sz v rows H):eB sz v rows H:=h.imp id And.right
theorem eB.ne {sz:Nat} {v:AV} {rows:List (List AV)} {H:Hp} (h:eB sz v rows H) (a:rows≠[]):Ls sz v rows H:=h.imp id fun h=>⟨a,h⟩
theorem Ls.gives {sz:Nat} {v:AV} {rows:List (List AV)} {H:Hp} {vs:List AV} {v':AV} (h:Ls sz v rows H) (e:v'= .tup (XR sz rows::vs)):aY (fun a H'=>a= .ret v'∧H'=qZ) (.tup (v::vs)) H:=by
 subst e;rcases h with⟨rfl,rfl⟩|⟨f,b,rfl,c⟩
 ·exact aY.pure rfl
 refine aY.turn (lN.freeze c (rU.cons (rU.osl b sz rows) (rU.refl _ _ _ _))) (aY.pure ?_)
 cases rows with
 |nil=>exact absurd rfl f
 |cons=>rfl
theorem Ls.gives1 {sz:Nat} {v:AV} {rows:List (List AV)} {H:Hp} {v':AV} (h:Ls sz v rows H) (e:v'=XR sz rows):aY (fun a H'=>a= .ret v'∧H'=qZ) v H:=by
 subst e;rcases h with⟨rfl,rfl⟩|⟨f,b,rfl,c⟩
 ·exact aY.pure rfl
 refine aY.turn (lN.freeze c (rU.osl b sz rows)) (aY.pure ?_)
 cases rows with
 |nil=>exact absurd rfl f
 |cons=>rfl
section
open Go.RowKit
theorem nU.below {W a:World} {M:Nat→Prop} (h:nU M W a) (b: ∀k, ¬M k):Below W.heap.size W a:=⟨h.os,h.tape,h.output,h.size,fun k c=>h.keep k c (b k)⟩
end
section
open Go.Lib
def Rt {H:Type} (ws:List (List UInt8)):DataW H:= .agg (ws.map fun s=> .lit (.string s))
theorem Ny {H:Type} {enc:TypeId×Value→H} {P:Program} {w:World} {l:Nat} {J:Nat→Bool} {A:Bool} {a:Nat} {t e:TypeId} {n:Nat} {cs:List Value} {ws:List (List UInt8)} {p:List MemPlace}
  (G:P.underlying t=some (.array n e)) (z:P.underlying e=some .string) (x:P.cellsOf e=1) (y:P.cellsOf t=n)
  (h:DataW.trod enc P w l J A a t cs=some (Rt ws,p)):cs=ws.map fun s=>Value.string ⟨s.toArray⟩:=by
 cases a with
 |zero=>simp [DataW.trod]at h
 |succ a=>
  simp only[DataW.trod,G,x,y,nA]at h;split at h
  ·rename_i L
   obtain⟨f,j,I⟩:=bR.1 h
   have k:f.map (·.1)=ws.map fun s=>(DataW.lit (.string s):DataW H):=by
    have:=congrArg Prod.fst I;simpa [Rt]using this
   have M:f.length=n:=by simpa using mapM_length j
   have O:ws.length=n:=by
    have:=congrArg List.length k;simp at this;omega
   apply lF;intro i;by_cases C:i<n
   ·obtain⟨b,u,B⟩:=mapM_at j i i (by simp [C])
    obtain⟨s,v,rfl,_⟩:=DataW.trod_string z B
    have o:cs[i]?=some (.string s):=by
     have:=congrArg (·[0]?) v;simpa [eJ,eA]using this
    have c:(f.map (·.1))[i]?=some (DataW.lit (.string s.data.toList):DataW H):=by simp [u]
    rw[k]at c;simp only[dT,bR,DataW.lit.injEq,Lit.string.injEq]at c;obtain⟨R,D,rfl⟩:=c;simp [o,D]
   rw[dS (by omega),dS (by simp;omega)]
  cases h
theorem zU {P:Program} {W:World} {name:String} {ws:List (List UInt8)} {g:Nat} {t e:TypeId} {n:Nat} (f:P.globalNamed name=some g) (j:(P.globals[g]?).map (·.type)=some t) (i:P.underlying t=some (.array n e)) (c:P.underlying e=some .string) (a:P.cellsOf e=1) (b:P.cellsOf t=n):
  ∀{l:List (String×DataW Unit)} {k:List MemPlace},DataW.LaidVars P W l k→(name,Rt ws)∈l→W.var? P name=some (ws.map fun s=>Value.string ⟨s.toArray⟩).toArray
 |[],_,_,hm=>by cases hm
 |(nm,d)::rest,k,h,hm=>by
  obtain⟨A,B,y,z,p,q,o,v,x,hd,u,_⟩:=h;rcases bP.1 hm with hm|hm
  ·cases hm
   obtain rfl:=Option.some.inj (f.symm.trans o);obtain rfl:=Option.some.inj (j.symm.trans v);rw[x,←Ny i c a b hd]
  exact zU f j i c a b u hm
end
section
open Go.RowKit Go.ChangeShapes
def old (W:World):gK:=fun k=>k<W.heap.size
theorem I4 {E:kC} {g:FuncId} {args:List AV} {v:AV} (h:eN E g args v) {W:World} {a:gK} {vs:List Value} (hst:St E ⟨W,LF qZ,a,[],fun _=>Go.undef⟩ a qZ W) (n:dJ a W args vs):
  Calls E.P g vs.toArray W fun e c=> ∃b x,e= .returned x∧cK b c v x∧Below W.heap.size W c:=by
 refine(h.2 W a vs hst n).mono fun e c ⟨u,H',b,i,f,j,l⟩=>?_;subst j;subst l;simp only[vB]at f;obtain⟨x,rfl,p⟩:=f;have t:=i.ext;exact⟨b,x,rfl,p,t.below fun k o=>o rfl⟩
section
variable {H : Type} {enc : TypeId × Value → H} {P : Program}
theorem yH (i:laidOutB P=true) {W f:World} {j:Nat→Bool}: ∀{c:List TypeId} {vs:List Value} {ds:List (DataW H)} {b:List MemPlace},(∀t∈c,P.readableRec t=true∧t<P.types.size)→
  DataW.TrodAll enc P W 0 (fun _=>true) true c vs ds b→(∀p∈b,W.sameAt f p)→(∀p∈b,j p.block=true)→DataW.TrodAll enc P f 0 j true c vs ds b
 |[],[],[],_,_,h,_,_=>h
 |t::c,v::vs,d::ds,b,hr,⟨p,q,h1,h2,e⟩,hs,hp=>by
  subst e
  exact⟨p,q,WideElems.Trod_stays i (hr t (by simp)).1 (hr t (by simp)).2 h1 (fun x a=>hs x (by simp [a])) (fun x a=>hp x (by simp [a])),
   yH i (fun t k=>hr t (by simp [k])) h2 (fun x a=>hs x (by simp [a])) (fun x a=>hp x (by simp [a])),rfl⟩
 |[],_::_,_,_,_,h,_,_=>by simp [DataW.TrodAll]at h
 |[],[],_::_,_,_,h,_,_=>by simp [DataW.TrodAll]at h
 |_::_,[],_,_,_,h,_,_=>by simp [DataW.TrodAll]at h
 |_::_,_::_,[],_,_,h,_,_=>by simp [DataW.TrodAll]at h
theorem Eg {W:World} {b:Nat} {f:Nat→Bool} {c:Bool}: ∀{a:List TypeId} {vs:List Value} {ds:List (DataW H)} {e:List MemPlace},DataW.TrodAll enc P W b f c a vs ds e→ds.length=a.length
 |[],[],[],_,_=>rfl
 |_::_,_::_,_::_,_,⟨_,_,_,h2,_⟩=>by simp [Eg h2]
 |[],_::_,_,_,h=>by simp [DataW.TrodAll]at h
 |[],[],_::_,_,h=>by simp [DataW.TrodAll]at h
 |_::_,[],_,_,h=>by simp [DataW.TrodAll]at h
 |_::_,_::_,[],_,h=>by simp [DataW.TrodAll]at h
theorem IX {f:Func} {s:ChangeSpec} {apart fresh B z:Bool} {W e:World} {args:Array Value} {v:Value} {ds gs:List (DataW H)} {a pa pv:List MemPlace}
  (l:DataW.Whole enc P f.params.toList s.vars apart W args.toList ds gs a)
  (x: ∀(b:Nat) (i:Nat→Bool) (hd:Bool),DataW.TrodAll enc P e b i hd f.resultTypes.toList (v.resultList f.resultTypes.size) (s.fn H (ds++gs)).results [])
  (n: ∀i:Nat→Bool,(∀p∈a,i p.block=true)→DataW.TrodAll enc P e 0 i true f.params.toList args.toList (s.fn H (ds++gs)).args pa)
  (y: ∀i:Nat→Bool,(∀p∈a,i p.block=true)→DataW.TrodVars enc P e i s.vars (s.fn H (ds++gs)).vars pv)
  (k:a=pa++pv) (D:W.keptBut e (· ∈a)) (C: ∀b off,MemPlace.cell b off∈a→e.frozen? ⟨b,off,none⟩=W.frozen? ⟨b,off,none⟩)
  (I: ∀(j:Nat) (t:TypeId) (r:Value),f.resultTypes[j]?=some t→(v.resultList f.resultTypes.size)[j]?=some r→Value.okWide P e .any 0 t r):
  s.post enc P f apart fresh B z W args v e:=by
 have o: ∀p∈a,(fun b=>decide (b<W.heap.size)) p.block=true:=fun p c=>by simpa using l.lt p c
 refine⟨ds,gs,a,[],pa,pv,l,x _ _ _,n _ o,y _ o,World.keptBut_mono (fun p c=>⟨c,by rw[k,eV]at c;exact Or.inr c⟩) D,fun _=>?_⟩;obtain⟨_,_,_,_,_,J,G⟩:=l;refine⟨I,_,_,([]++pa)++pv,⟨[]++pa,pv,trodAll_append (n _ (fun _ _=>rfl)) (x _ _ _),y _ (fun _ _=>rfl),rfl,fun b off c=>?_,fun A=>?_⟩,fun p c _=>by rw[k];simpa using c⟩
 ·have u:MemPlace.cell b off∈a:=by rw[k];simpa using c
  rw[C b off u];exact J b off u
 have:=G A;rw[k]at this;simpa using this
theorem JP {E:kC} {g:FuncId} {f:Func} {c:ChangeSpec} {J:TypeId} (R:laidOutB E.P=true) (T: ∀t∈f.params.toList,E.P.readableRec t=true∧t<E.P.types.size)
  (C:f.resultTypes= #[J]) (z:E.P.underlying J=some .bool) (G:c.vars=[])
  (U: ∀ds:List (DataW H),ds.length=f.params.toList.length→(c.fn H ds).results=[.lit (.bool true)]∧(c.fn H ds).args=ds∧(c.fn H ds).vars=[])
  {W:World} {args:Array Value} {ds gs:List (DataW H)} {L:List MemPlace}
  (y:DataW.Whole enc E.P f.params.toList c.vars false W args.toList ds gs L)
  {i:gK} {xs:List AV} (hst:St E ⟨W,LF qZ,i,[],fun _=>Go.undef⟩ i qZ W) (k:dJ i W xs args.toList) (M:eN E g xs (.bool true)):
  Calls E.P g args W fun e n=> ∃v,e= .returned v∧c.post enc E.P f false true false false W args v n:=by
 have j:=y;obtain⟨p,q,o,u,rfl,_,_⟩:=y;rw[G]at u;obtain⟨rfl,rfl⟩:=trodVars_none u;have S:=Eg o;obtain⟨V,X,Y⟩:=U ds S;have A:=I4 M hst k;rw[eU]at A;refine A.mono fun e n ⟨Z,x,O,a,l⟩=>?_;subst O;simp only[cK]at a;subst a;simp only[dZ]at j;have B: ∀x∈p,x.block<W.heap.size:=fun x a=>j.lt x a;refine⟨_,rfl,IX (pa:=p) (pv:=[]) j ?_ ?_ ?_ (by simp) (l.frame _) (fun b off k=>by simp only[World.frozen?,l.block b (B _ k)]) (ok_one C rfl (okWide_bool_mk z _))⟩
 ·intro b I hd
  rw[C];simp only[dZ,V];exact trodAll_cons_mk (shut_bool z _) trodAll_mk0
 ·intro I D
  simp only[dZ,X];exact yH R T o (fun x a=>l.same (B x a)) (fun x a=>D x a)
 intro I D;simp only[dZ,Y,G];rfl
end
end
theorem AL:type_of% (And.intro @Zn<|And.intro @Qs<|And.intro @Fo<|And.intro @Qr<|And.intro @Qu<|And.intro @yT<|And.intro @Kv<|And.intro @Qq<|And.intro @Bf<|And.intro @Jz<|And.intro @wV<|And.intro @Ks<|And.intro @wU<|And.intro @Kq<|And.intro @Be<|And.intro @rN<|And.intro @yU<|And.intro @Fh<|And.intro @Ku<|And.intro @Zr<|And.intro @Zo<|And.intro @Zp<|And.intro @Kr<|And.intro @Qx<|And.intro @Ky<|And.intro @Kx<|And.intro @Zt<|And.intro @Bd<|And.intro @wT<|And.intro @vJ<|And.intro @Jx<|And.intro @Qo<|And.intro @wS<|And.intro @Fj<|And.intro @Kt<|And.intro @Qv<|And.intro @Qn<|And.intro @sT.eq_1<|And.intro @yW.eq_1<|And.intro @Fp<|And.intro @Ko<|And.intro @Zm<|And.intro @Qw<|And.intro @W7<|And.intro @Qp<|And.intro @iL<|And.intro @Zh<|And.intro @cN.{0,0}<|And.intro @dO.{0,0}<|And.intro @fA.{0}<|And.intro @kV.{0}<|And.intro @List.getElem?_nil.{0}<|And.intro @List.getD_cons_zero.{0}<|And.intro @List.getD_cons_succ.{0}<|And.intro @List.getD_nil.{0}<|And.intro @dY.{0,0}<|And.intro @iI.{0,0}<|And.intro @cA.{0,0}<|And.intro @Option.bind_none.{0,0}<|And.intro @Option.some_or.{0}<|And.intro @and_true<|And.intro @true_and<|And.intro @and_false<|And.intro @false_and<|And.intro @beq_true<|And.intro @beq_false<|And.intro @Ri<|And.intro @DG<|And.intro @BEq.rfl.{0}<|And.intro @Bool.true_beq<|And.intro @Bool.false_beq<|And.intro @List.toList_toArray.{0}<|And.intro @dZ.{0}<|And.intro @cQ.{0}<|And.intro @dM.{0}<|And.intro @bT<|And.intro @mR<|And.intro @Nat.succ_ne_self<|And.intro @not_true_eq_false<|And.intro @Gj<|And.intro @ne_eq.{1}<|And.intro @mZ<|And.intro @Gl<|And.intro @cH<|And.intro @if_false_right<|And.intro @if_true_left<|And.intro @Int.natCast_nonneg<|And.intro @cC<|And.intro @nA<|And.intro @rY<|And.intro @Int.cast_ofNat_Int<|And.intro @aQ.{0}<|And.intro @aV.{0}<|And.intro @eq_self.{1}<|And.intro @CY.{0}<|And.intro @gW.{0}<|And.intro @kB.{0}<|And.intro @nT.{0}<|And.intro @dL.{0}<|And.intro @List.drop_nil.{0}<|And.intro @List.take_nil.{0}<|And.intro @dG.{0}<|And.intro @fO.{0}<|And.intro @hY<|And.intro @cB<|And.intro @Bool.and_self<|And.intro @gG.{0}<|And.intro @eQ.{0}<| @Bool.true_eq_false):=And.intro @Zn<|And.intro @Qs<|And.intro @Fo<|And.intro @Qr<|And.intro @Qu<|And.intro @yT<|And.intro @Kv<|And.intro @Qq<|And.intro @Bf<|And.intro @Jz<|And.intro @wV<|And.intro @Ks<|And.intro @wU<|And.intro @Kq<|And.intro @Be<|And.intro @rN<|And.intro @yU<|And.intro @Fh<|And.intro @Ku<|And.intro @Zr<|And.intro @Zo<|And.intro @Zp<|And.intro @Kr<|And.intro @Qx<|And.intro @Ky<|And.intro @Kx<|And.intro @Zt<|And.intro @Bd<|And.intro @wT<|And.intro @vJ<|And.intro @Jx<|And.intro @Qo<|And.intro @wS<|And.intro @Fj<|And.intro @Kt<|And.intro @Qv<|And.intro @Qn<|And.intro @sT.eq_1<|And.intro @yW.eq_1<|And.intro @Fp<|And.intro @Ko<|And.intro @Zm<|And.intro @Qw<|And.intro @W7<|And.intro @Qp<|And.intro @iL<|And.intro @Zh<|And.intro @cN.{0,0}<|And.intro @dO.{0,0}<|And.intro @fA.{0}<|And.intro @kV.{0}<|And.intro @List.getElem?_nil.{0}<|And.intro @List.getD_cons_zero.{0}<|And.intro @List.getD_cons_succ.{0}<|And.intro @List.getD_nil.{0}<|And.intro @dY.{0,0}<|And.intro @iI.{0,0}<|And.intro @cA.{0,0}<|And.intro @Option.bind_none.{0,0}<|And.intro @Option.some_or.{0}<|And.intro @and_true<|And.intro @true_and<|And.intro @and_false<|And.intro @false_and<|And.intro @beq_true<|And.intro @beq_false<|And.intro @Ri<|And.intro @DG<|And.intro @BEq.rfl.{0}<|And.intro @Bool.true_beq<|And.intro @Bool.false_beq<|And.intro @List.toList_toArray.{0}<|And.intro @dZ.{0}<|And.intro @cQ.{0}<|And.intro @dM.{0}<|And.intro @bT<|And.intro @mR<|And.intro @Nat.succ_ne_self<|And.intro @not_true_eq_false<|And.intro @Gj<|And.intro @ne_eq.{1}<|And.intro @mZ<|And.intro @Gl<|And.intro @cH<|And.intro @if_false_right<|And.intro @if_true_left<|And.intro @Int.natCast_nonneg<|And.intro @cC<|And.intro @nA<|And.intro @rY<|And.intro @Int.cast_ofNat_Int<|And.intro @aQ.{0}<|And.intro @aV.{0}<|And.intro @eq_self.{1}<|And.intro @CY.{0}<|And.intro @gW.{0}<|And.intro @kB.{0}<|And.intro @nT.{0}<|And.intro @dL.{0}<|And.intro @List.drop_nil.{0}<|And.intro @List.take_nil.{0}<|And.intro @dG.{0}<|And.intro @fO.{0}<|And.intro @hY<|And.intro @cB<|And.intro @Bool.and_self<|And.intro @gG.{0}<|And.intro @eQ.{0}<| @Bool.true_eq_false
section
variable {E : kC} {N : Nat} {Q : fN} {fr : Fr} {H : Hp}
theorem aA {id:Nat} {l:List Oper} {y:Code} (h: ∀K:Fr→Hp→Prop,(∀fr H,mD E N y Q fr H→K fr H)→eI E (fun _=>True) (l.map (·.dst)) (bK K Q) l fr H) (hd:l.all (kY N)=true:=by exact rfl):mD E N (.seq (.region id l.toArray false) y) Q fr H:=
 aC fun K hK=>uP hd (h K hK)
theorem aG {id:Nat} {l:List Oper} (h:eI E (fun _=>True) (l.map (·.dst)) Q l fr H) (hd:l.all (kY N)=true:=by exact rfl):mD E N (.region id l.toArray false) Q fr H:=uP hd h
theorem cR {c:Operand} {x y:Code} (h:mD E N x Q fr H) (hc:ev E.G fr c= .bool true:=by exact rfl):mD E N (.cond c x y) Q fr H:=Bc hc (fun _=>h) (fun e=>by cases e)
theorem bL {c:Operand} {x y:Code} (h:mD E N y Q fr H) (hc:ev E.G fr c= .bool false:=by exact rfl):mD E N (.cond c x y) Q fr H:=Bc hc (fun e=>by cases e) (fun _=>h)
theorem aU {c:Operand} {x y:Code} {t:Bool} (h1:t=true→mD E N x Q fr H) (h2:t=false→mD E N y Q fr H) (hc:ev E.G fr c= .bool t:=by exact rfl):mD E N (.cond c x y) Q fr H:=Bc hc h1 h2
theorem cY {a b:Nat} {o:iG} (h:H a=none) (h':H b=some o):a≠b:=fun e=>by rw[e,h']at h;cases h
end
theorem Z8 {E:kC} {g:FuncId} {args:List AV} {v v':AV} (h:eN E g args v) (n:hP v v'):eN E g args v':=by
 refine⟨h.1,fun p b vs k l=>?_⟩;refine(h.2 p b vs k l).mono fun e w ⟨u,t,S',f,a,i,j⟩=>?_;subst i;subst j;simp only[vB]at a;obtain⟨x,rfl,o⟩:=a;exact⟨.ret v',_,S',f,by simp only[vB];exact⟨x,rfl,n _ _ _ o⟩,rfl,rfl⟩
theorem Uc (b sz:Nat) (l:List (List AV)) (s:Nat) (r:List (List AV)):frz b sz l (.isl s r)= .isl s r:=Eq.trans rfl rfl
theorem Gz (b sz:Nat) (l:List (List AV)) (k:IntKind) (n:Int):frz b sz l (.int k n)= .int k n:=Eq.trans rfl rfl
theorem OZ (b sz:Nat) (l:List (List AV)) (s:List UInt8):frz b sz l (.str s)= .str s:=Eq.trans rfl rfl
theorem PC (b sz:Nat) (l:List (List AV)) (s a i j:Nat):frz b sz l (.ptr s a i j)= .ptr s a i j:=Eq.trans rfl rfl
theorem Ub (b sz:Nat) (l:List (List AV)):frz b sz l .nsl= .nsl:=Eq.trans rfl rfl
theorem Yt (b sz:Nat) (l:List (List AV)):frz b sz l (.osl sz b l.length)= .isl sz l:=by simp [frz]
def tU (sz:Nat) (v:AV) (rows:List (List AV)) (H:Hp):Prop:= ∃b,v= .osl sz b rows.length∧H b=some (.rows sz rows)
section
variable {E : kC} {F : Nat → Prop} {ds : List (Option Nat)} {Q : fN} {d : Option Nat} {rest : List Oper} {fr : Fr} {H : Hp}
theorem tP {sz k:Nat} {v:AV} {rows f:List (List AV)} (A:tU sz v rows H) (y:(rows.length+f.length) *k≤140737488355328) (u: ∀b,v= .osl sz b rows.length→F b)
  (h: ∀p a,tU sz p (rows++f) a→(∀b o,H b=some o→v≠ .osl sz b rows.length→a b=some o)→eI E F ds Q rest (eW fr d p) a):Uu E F ds Q d rest fr H (some (sz,k,v,f)):=by
 obtain⟨b,rfl,x⟩:=A;simp only[Uu,x];refine⟨trivial,trivial,trivial,y,u b rfl,fun i z=>?_⟩;refine h _ _ ⟨i,by simp,by simp [upd]⟩ fun j o l t=>?_;have n:j≠b:=fun c=>t (by rw[c])
 have B:j≠i:=fun c=>by
  rcases z with e|e
  ·exact n (c.trans e)
  rw[←c,l]at e;cases e
 simp [upd,n,B,l]
theorem zN (x:Operand) {ty:TypeId} {e:String} {a:Array Edge}:eI E F ds Q (⟨d, .entry x,ty,e,a,none⟩::rest) fr H=((∀b,qI (ev E.G fr x)=some b→ ¬F b)∧eI E F ds Q rest (eW fr d (.tup [])) H):=Eq.trans rfl rfl
theorem Bz (sz b i j:Nat):(∀x,qI (.ptr sz b i j)=some x→ ¬F x)= ¬F b:=by
 simp [qI]
theorem Og (r:List AV) (j:Nat):(∀x,qI (.ipt r j)=some x→ ¬F x)=True:=by
 simp [qI]
theorem tU.upd {sz:Nat} {v:AV} {rows:List (List AV)} (h:tU sz v rows H) {b:Nat} (i:H b=none) (o:Option iG):tU sz v rows (upd H b o):=by
 obtain⟨f,rfl,a⟩:=h;have j:f≠b:=fun e=>by rw[e,i]at a;cases a
 exact⟨f,rfl,by simp [Go.Al.upd,j,a]⟩
theorem tU.nb {sz:Nat} {v:AV} {rows:List (List AV)} (h:tU sz v rows H) {b:Nat} (f:H b=none) {n:Nat}:v≠ .osl sz b n:=by
 obtain⟨i,rfl,a⟩:=h;intro e;cases e;rw[f]at a;cases a
theorem tU.nb' {sz f:Nat} {v:AV} {rows k:List (List AV)} (h:tU sz v rows H) {b:Nat} (i:H b=some (.rows f k)) (j:f≠sz) {n:Nat}:v≠ .osl sz b n:=by
 obtain⟨l,rfl,a⟩:=h;intro e;cases e;rw[i]at a;cases a;exact j rfl
theorem tU.own {sz:Nat} {v:AV} {rows:List (List AV)} (h:tU sz v rows H):eB sz v rows H:=by
 obtain⟨b,a,e⟩:=h;exact .inr ⟨b,a,e⟩
theorem eB.upd {sz:Nat} {v:AV} {rows:List (List AV)} (h:eB sz v rows H) {b:Nat} (i:H b=none) (o:Option iG):eB sz v rows (upd H b o):=by
 rcases h with h|⟨f,rfl,a⟩
 ·exact .inl h
 have j:f≠b:=fun e=>by rw[e,i]at a;cases a
 exact .inr ⟨f,rfl,by simp [Go.Al.upd,j,a]⟩
theorem eB.nb {sz:Nat} {v:AV} {rows:List (List AV)} (h:eB sz v rows H) {b:Nat} (f:H b=none) {n:Nat}:v≠ .osl sz b n:=by
 rcases h with⟨rfl,_⟩|⟨i,rfl,a⟩
 ·intro e;cases e
 intro e;cases e;rw[f]at a;cases a
theorem eB.nb' {sz f:Nat} {v:AV} {rows k:List (List AV)} (h:eB sz v rows H) {b:Nat} (i:H b=some (.rows f k)) (j:f≠sz) {n:Nat}:v≠ .osl sz b n:=by
 rcases h with⟨rfl,_⟩|⟨l,rfl,a⟩
 ·intro e;cases e
 intro e;cases e;rw[i]at a;cases a;exact j rfl
theorem tU.far {sz a:Nat} {v:AV} {rows k:List (List AV)} (h:tU sz v rows H) {b:Nat} (f:H b=some (.rows a k)) (i:a≠sz) (x:Nat) {n:Nat} (j:v= .osl sz x n):x≠b:=fun e=>by
 subst e;exact h.nb' f i j
theorem eB.gives1 {sz:Nat} {v:AV} {rows:List (List AV)} {v':AV} (h:eB sz v rows H) (e:v'= .isl sz rows):aY (fun f a=>f= .ret v'∧a=qZ) v H:=by
 subst e;rcases h with⟨rfl,rfl⟩|⟨b,rfl,i⟩
 ·exact aY.turn (lN.sub (hP.nsl sz)) (aY.pure rfl)
 exact aY.turn (lN.freeze i (rU.osl b sz rows)) (aY.pure rfl)
end
def keeps (M:Nat→Prop) (H H':Hp):Prop:= ∀b o, ¬M b→H b=some o→H' b=some o
theorem keeps.refl (M:Nat→Prop) (H:Hp):keeps M H H:=fun _ _ _ h=>h
theorem keeps.trans {M:Nat→Prop} {H H1 H2:Hp} (h:keeps M H H1) (e:keeps M H1 H2):keeps M H H2:=fun b o a f=>e b o a (h b o a f)
theorem keeps.new {M:Nat→Prop} {H H1:Hp} (h:keeps M H H1) {b:Nat} (i:H b=none) (o:Option iG):keeps M H (upd H1 b o):=fun f k j a=>by
 have :f≠b:=fun e=>by rw[e,i]at a;cases a
 simp only[upd,aL this];exact h f k j a
theorem keeps.set {M:Nat→Prop} {H H1:Hp} (h:keeps M H H1) {b:Nat} (i:M b) (o:Option iG):keeps M H (upd H1 b o):=fun a k f j=>by
 have :a≠b:=fun e=>f (e▸i);simp only[upd,aL this];exact h a k f j
theorem keeps.mono {M a:Nat→Prop} {H H1:Hp} (h:keeps M H H1) (i: ∀b,M b→a b):keeps a H H1:=fun b o f e=>h b o (fun c=>f (i b c)) e
theorem Je (H' H:Hp):lJ H' H H=H':=by
 funext b;unfold lJ
 cases h:H' b with
 |some o=>rfl
 |none=>
  cases h2:H b with
  |some o=>simp
  |none=>simp []
theorem gN {E:kC} {F:Nat→Prop} {ds:List (Option Nat)} {Q:fN} {d:Option Nat} {rest:List Oper} {fr:Fr} {H:Hp} {g:FuncId} {args i:List AV} {R:AV→Hp→Prop}
  (k:oN E g i H (fun f a=> ∃v,f= .ret v∧R v a)) (n:fF args i) (j: ∀b,F b) (h: ∀v a,R v a→eI E F ds Q rest (eW fr d v) a):qU E F ds Q d rest fr H g args:=by
 refine nG k n (fun b o h=>h) (fun b _=>j b) fun f a ⟨v,e,l⟩ _=>?_;subst e;rw[Je];exact h v a l
theorem uR {E:kC} {F:Nat→Prop} {ds:List (Option Nat)} {Q:fN} {d:Option Nat} {rest:List Oper} {fr:Fr} {H:Hp} {g:FuncId} {args k:List AV} {R:AV→Hp→Prop}
  (l:oN E g k qZ (fun j f=> ∃v,j= .ret v∧R v f)) (t:fF args k)
  (h: ∀v f i,R v f→keeps (fun _=>False) H i→(∀b o,f b=some o→i b=some o∧H b=none)→eI E F ds Q rest (eW fr d v) i):qU E F ds Q d rest fr H g args:=by
 refine nG l t (tI H) (fun b a=>absurd rfl a) fun j f ⟨v,e,p⟩ n=>?_;subst e
 have fresh: ∀b o,f b=some o→H b=none:=fun b o a=>by
  rcases n b (by rw[a];simp)with h|h
  ·exact absurd rfl h
  exact h
 refine h v f _ p (fun b o _ a=>?_) (fun b o a=>⟨?_,fresh b o a⟩)
 ·unfold lJ
  cases h2:f b with
  |some o'=>have:=fresh b o' h2;rw[a]at this;cases this
  |none=>simp [qZ,a]
 simp only[lJ,a]
theorem aY.whole {R:AV→Hp→Prop} {v:AV} {H:Hp} (h:R v H):aY (fun b a=> ∃v,b= .ret v∧R v a) v H:=
 aY.self ⟨v,rfl,h⟩
def apart (v w:AV):Prop:= ∀b s n s' n',v= .osl s b n→w≠ .osl s' b n'
theorem apart.nsl (w:AV):apart .nsl w:=fun _ _ _ _ _ h=>by cases h
theorem apart.symm {v w:AV} (h:apart v w):apart w v:=fun b s n i f a e=>h b i f s n e a
theorem eB.there {sz:Nat} {v:AV} {rows:List (List AV)} {H:Hp} (h:eB sz v rows H): ∀s b n,v= .osl s b n→H b≠none:=fun s b n e=>by
 rcases h with⟨rfl,_⟩|⟨f,rfl,a⟩
 ·cases e
 cases e;rw[a];simp
theorem eB.keep {sz f:Nat} {v w:AV} {rows a:List (List AV)} {H H':Hp} (h:eB sz v rows H) (i:apart w v) (k: ∀b o,H b=some o→w≠ .osl f b a.length→H' b=some o):eB sz v rows H':=by
 rcases h with h|⟨b,rfl,j⟩
 ·exact .inl h
 exact .inr ⟨b,rfl,k b _ j fun e=>i b f a.length sz rows.length e rfl⟩
theorem CE {E:kC} {N:Nat} {Q:fN} {c:Code} {fr:Fr} {H:Hp} {sz:Nat} {rows:List (List AV)} {i:Nat} (y:eB sz (fr i) rows H)
  (h: ∀fr' k,fr' i= .isl sz rows→(∀j,j≠i→apart (fr i) (fr j)→fr' j=fr j)→(∀b o,H b=some o→fr i≠ .osl sz b rows.length→k b=some o)→mD E N c Q fr' k):mD E N c Q fr H:=by
 rcases y with⟨a,rfl⟩|⟨b,a,x⟩
 ·refine LN (fr':=upd fr i (.isl sz [])) (fun t=>?_) (fun b o h=>h) (h _ H (bE _ _ _) (fun j l _=>cI _ _ l) (fun b o h _=>h))
  by_cases e:t=i
  ·subst e;rw[bE,a];exact hP.nsl sz
  rw[cI _ _ e];exact hP.refl _
 refine O8 x (h _ _ ?_ (fun j l u=>?_) (fun f o n p=>?_))
 ·rw[a];exact Yt b sz rows
 ·cases hf:fr j<;>try rfl
  rename_i A f z;simp only[frz];rw[aL];rintro⟨rfl,_,_⟩;exact u f _ _ A z a hf
 have :f≠b:=fun e=>p (by rw[a,e]);simp only[upd,aL this,n]
theorem CQ (v:AV) (s:List UInt8):apart v (.str s):=fun _ _ _ _ _ _ h=>by cases h
theorem P2 (v:AV) (b:Bool):apart v (.bool b):=fun _ _ _ _ _ _ h=>by cases h
def off (v:AV) (b:Nat):Prop:= ∀s n,v≠ .osl s b n
def B0 (E:kC) (g:FuncId) (args:List AV) (sz:Nat) (rows:List (List AV)):Prop:=oN E g args qZ (fun ae H'=> ∃v,ae= .ret v∧eB sz v rows H')
theorem B0.pure {E:kC} {g:FuncId} {args:List AV} {sz:Nat} {rows:List (List AV)} (h:B0 E g args sz rows):eN E g args (.isl sz rows):=by
 refine⟨h.1,fun A b vs o p=>?_⟩;refine(h.2 A b vs o p).mono fun e w ⟨D,B,S',i,a,v,j,k⟩=>?_;subst j;simp only[vB]at a;obtain⟨x,rfl,u⟩:=a;obtain⟨v',C,t,l,n⟩:=k.gives1 (v':= .isl sz rows) rfl;obtain⟨f,_,z,y⟩:=t _ _ _ _ _ i u;cases l;subst n;exact⟨.ret _,_,f,z,by simp only[vB];exact⟨x,rfl,y⟩,rfl,rfl⟩
theorem LP {E:kC} {F:Nat→Prop} {ds:List (Option Nat)} {Q:fN} {d:Option Nat} {rest:List Oper} {fr:Fr} {H:Hp} {g:FuncId} {args:List AV} {sz:Nat} {rows:List (List AV)}
  (p:B0 E g args sz rows) (h: ∀v f,eB sz v rows f→(∀b o,H b=some o→f b=some o)→(∀b o,H b=some o→off v b)→eI E F ds Q rest (eW fr d v) f):qU E F ds Q d rest fr H g args:=by
 refine uR p (fF.refl _) fun v u f i t k=>?_;refine h v f ?_ (fun b o a=>t b o (fun h=>h) a) (fun b o a s n e=>?_)
 ·rcases i with i|⟨b,e,a⟩
  ·exact .inl i
  exact .inr ⟨b,e,(k b _ a).1⟩
 rcases i with⟨j,_⟩|⟨x,j,l⟩
 ·rw[j]at e;cases e
 rw[j]at e;cases e;rw[(k b _ l).2]at a;cases a
theorem B0.gives {sz:Nat} {v:AV} {rows:List (List AV)} {H:Hp} (h:eB sz v rows H):aY (fun b a=> ∃v,b= .ret v∧eB sz v rows a) v H:=aY.whole h
def YW (op:UnOp) (v:AV):Option AV:=match op,v with
 | .not, .bool b=>some (.bool (!b))
 | .neg, .int k n=>some (.int k (k.wrap (0 -n)))
 |_,_=>none
theorem Zq (E:kC) (F:Nat→Prop) (ds:List (Option Nat)) (Q:fN) (d:Option Nat) (ty:TypeId) (b:String) (a:Array Edge) (rest:List Oper) (fr:Fr) (H:Hp) (c:Call):
  eI E F ds Q (⟨d, .go c,ty,b,a,none⟩::rest) fr H=sA E F ds Q d rest fr H (XK E fr c):=Eq.trans rfl rfl
theorem X2 (E:kC) (fr:Fr) (f:Callee) (l:List Operand) (t:TypeId):XK E fr ⟨f,l.toArray, #[t]⟩=(Nz E fr t l.length (yQ 0 l).toArray).map fun p=> .isl p.1 p.2:=by simp [XK]
theorem X3 (E:kC) (H:Hp) (fr:Fr) (op:UnOp) (t:TypeId) (x:Operand):aq E H fr (.unOp op t x)=YW op (ev E.G fr x):=Eq.trans rfl rfl
theorem W9 (b:Bool):YW .not (.bool b)=some (.bool (!b)):=Eq.trans rfl rfl
theorem X0 (k:IntKind) (n:Int):YW .neg (.int k n)=some (.int k (k.wrap (0 -n))):=Eq.trans rfl rfl
theorem aT {a:Type} (f:Nat→a) (i j:Nat) (v:a):upd f i v j=if j=i then v else f j:=Eq.trans rfl rfl
theorem Oi (K:Fr→Hp→Prop) (Q:fN) (fr:Fr) (H:Hp):bK K Q .ret fr H=Q .ret fr H:=Eq.trans rfl rfl
theorem Hm (K:Fr→Hp→Prop) (Q:fN) (id:Nat) (fr:Fr) (H:Hp):bK K Q (.exit id) fr H=Q (.exit id) fr H:=Eq.trans rfl rfl
theorem yS (id:Nat) (Q:fN) (fr:Fr) (H:Hp):cM id Q .normal fr H=Q .normal fr H:=Eq.trans rfl rfl
theorem Jv (id:Nat) (Q:fN) (fr:Fr) (H:Hp):cM id Q .ret fr H=Q .ret fr H:=Eq.trans rfl rfl
theorem Fg (id a:Nat) (Q:fN) (fr:Fr) (H:Hp):cM id Q (.exit a) fr H=if a=id then Q .normal fr H else Q (.exit a) fr H:=Eq.trans rfl rfl
theorem AX:type_of% (And.intro AL<|And.intro @aq.eq_1<|And.intro @aq.eq_2<|And.intro @aq.eq_3<|And.intro @aq.eq_4<|And.intro @aq.eq_5<|And.intro @aq.eq_6<|And.intro @X3<|And.intro @W9<|And.intro @X0<|And.intro @aq.eq_10<|And.intro @aq.eq_11<|And.intro @aq.eq_12<|And.intro @aq.eq_13<|And.intro @aq.eq_14<|And.intro @aq.eq_15<|And.intro @aq.eq_16<|And.intro @aq.eq_17<|And.intro @aq.eq_18<|And.intro @aq.eq_19<|And.intro @aq.eq_20<|And.intro @aq.eq_21<|And.intro @aq.eq_22<|And.intro @aq.eq_23<|And.intro @mP.eq_1<|And.intro @mP.eq_2<|And.intro @mP.eq_3<|And.intro @mP.eq_4<|And.intro @mP.eq_5<|And.intro @mP.eq_6<|And.intro @mP.eq_7<|And.intro @mP.eq_8<|And.intro @mP.eq_9<|And.intro @mP.eq_10<|And.intro @mP.eq_11<|And.intro @mP.eq_12<|And.intro @mP.eq_13<|And.intro @mP.eq_14<|And.intro @mP.eq_15<|And.intro @mP.eq_16<|And.intro @mP.eq_17<|And.intro @uT.eq_1<|And.intro @uT.eq_2<|And.intro @uT.eq_3<|And.intro @uT.eq_4<|And.intro @uT.eq_5<|And.intro @uT.eq_6<|And.intro @uT.eq_7<|And.intro @uT.eq_8<|And.intro @mH.eq_1<|And.intro @mH.eq_2<|And.intro @Et.eq_1<|And.intro @Et.eq_2<|And.intro @Et.eq_3<|And.intro @A5.eq_1<|And.intro @PY.eq_1<|And.intro @PY.eq_2<|And.intro @PY.eq_3<|And.intro @PX.eq_1<|And.intro @PX.eq_2<|And.intro @PX.eq_3<|And.intro @vM.eq_1<|And.intro @vM.eq_2<|And.intro @vM.eq_3<|And.intro @rd.eq_1<|And.intro @iU.eq_1<|And.intro @iU.eq_2<|And.intro @iU.eq_3<|And.intro @iU.eq_4<|And.intro @iU.eq_5<|And.intro @Nz.eq_1<|And.intro @oM.eq_1<|And.intro @oM.eq_2<|And.intro @wX.eq_1<|And.intro @pW.eq_1<|And.intro @cellsOf.eq_1<|And.intro @cellsOf.eq_2<|And.intro @cellsOf.eq_3<|And.intro @ev.eq_1<|And.intro @ev.eq_2<|And.intro @ev.eq_3<|And.intro @ev.eq_4<|And.intro @Gn.eq_1<|And.intro @Gn.eq_2<|And.intro @Ld.eq_1<|And.intro @Ld.eq_2<|And.intro @Ld.eq_3<|And.intro @Ld.eq_4<|And.intro @Ld.eq_5<|And.intro @Ld.eq_6<|And.intro @Ld.eq_7<|And.intro @Ld.eq_8<|And.intro @Ld.eq_9<|And.intro @eW.eq_1<|And.intro @eW.eq_2<|And.intro @aT<|And.intro @CP.eq_1<|And.intro @TK.agg.eq_1<|And.intro @TK.agg.eq_2<|And.intro @TK.agg.eq_3<|And.intro @Va.eq_1<|And.intro @Dy.eq_1<|And.intro @Dy.eq_2<|And.intro @Dy.eq_3<|And.intro @Dy.eq_4<|And.intro @one.eq_1<|And.intro @one.eq_2<|And.intro @one.eq_3<|And.intro @one.eq_4<|And.intro @Zq<|And.intro @X2<|And.intro @yQ.eq_1<|And.intro @yQ.eq_2<|And.intro @Ec.eq_1<|And.intro @Ec.eq_2<|And.intro @pO.eq_1<|And.intro @pO.eq_2<|And.intro @Ju.eq_1<|And.intro @aq.abuild.eq_1<|And.intro @aq.abuild.eq_2<|And.intro @cT.{1}<|And.intro @dK.{1}<|And.intro @cT.{1}<|And.intro @zN<|And.intro @Bz<|And.intro @Og<|And.intro @iL<|And.intro Oi<|And.intro Hm<|And.intro yS<|And.intro Jv<|And.intro Fg trivial):=And.intro AL<|And.intro @aq.eq_1<|And.intro @aq.eq_2<|And.intro @aq.eq_3<|And.intro @aq.eq_4<|And.intro @aq.eq_5<|And.intro @aq.eq_6<|And.intro @X3<|And.intro @W9<|And.intro @X0<|And.intro @aq.eq_10<|And.intro @aq.eq_11<|And.intro @aq.eq_12<|And.intro @aq.eq_13<|And.intro @aq.eq_14<|And.intro @aq.eq_15<|And.intro @aq.eq_16<|And.intro @aq.eq_17<|And.intro @aq.eq_18<|And.intro @aq.eq_19<|And.intro @aq.eq_20<|And.intro @aq.eq_21<|And.intro @aq.eq_22<|And.intro @aq.eq_23<|And.intro @mP.eq_1<|And.intro @mP.eq_2<|And.intro @mP.eq_3<|And.intro @mP.eq_4<|And.intro @mP.eq_5<|And.intro @mP.eq_6<|And.intro @mP.eq_7<|And.intro @mP.eq_8<|And.intro @mP.eq_9<|And.intro @mP.eq_10<|And.intro @mP.eq_11<|And.intro @mP.eq_12<|And.intro @mP.eq_13<|And.intro @mP.eq_14<|And.intro @mP.eq_15<|And.intro @mP.eq_16<|And.intro @mP.eq_17<|And.intro @uT.eq_1<|And.intro @uT.eq_2<|And.intro @uT.eq_3<|And.intro @uT.eq_4<|And.intro @uT.eq_5<|And.intro @uT.eq_6<|And.intro @uT.eq_7<|And.intro @uT.eq_8<|And.intro @mH.eq_1<|And.intro @mH.eq_2<|And.intro @Et.eq_1<|And.intro @Et.eq_2<|And.intro @Et.eq_3<|And.intro @A5.eq_1<|And.intro @PY.eq_1<|And.intro @PY.eq_2<|And.intro @PY.eq_3<|And.intro @PX.eq_1<|And.intro @PX.eq_2<|And.intro @PX.eq_3<|And.intro @vM.eq_1<|And.intro @vM.eq_2<|And.intro @vM.eq_3<|And.intro @rd.eq_1<|And.intro @iU.eq_1<|And.intro @iU.eq_2<|And.intro @iU.eq_3<|And.intro @iU.eq_4<|And.intro @iU.eq_5<|And.intro @Nz.eq_1<|And.intro @oM.eq_1<|And.intro @oM.eq_2<|And.intro @wX.eq_1<|And.intro @pW.eq_1<|And.intro @cellsOf.eq_1<|And.intro @cellsOf.eq_2<|And.intro @cellsOf.eq_3<|And.intro @ev.eq_1<|And.intro @ev.eq_2<|And.intro @ev.eq_3<|And.intro @ev.eq_4<|And.intro @Gn.eq_1<|And.intro @Gn.eq_2<|And.intro @Ld.eq_1<|And.intro @Ld.eq_2<|And.intro @Ld.eq_3<|And.intro @Ld.eq_4<|And.intro @Ld.eq_5<|And.intro @Ld.eq_6<|And.intro @Ld.eq_7<|And.intro @Ld.eq_8<|And.intro @Ld.eq_9<|And.intro @eW.eq_1<|And.intro @eW.eq_2<|And.intro @aT<|And.intro @CP.eq_1<|And.intro @TK.agg.eq_1<|And.intro @TK.agg.eq_2<|And.intro @TK.agg.eq_3<|And.intro @Va.eq_1<|And.intro @Dy.eq_1<|And.intro @Dy.eq_2<|And.intro @Dy.eq_3<|And.intro @Dy.eq_4<|And.intro @one.eq_1<|And.intro @one.eq_2<|And.intro @one.eq_3<|And.intro @one.eq_4<|And.intro @Zq<|And.intro @X2<|And.intro @yQ.eq_1<|And.intro @yQ.eq_2<|And.intro @Ec.eq_1<|And.intro @Ec.eq_2<|And.intro @pO.eq_1<|And.intro @pO.eq_2<|And.intro @Ju.eq_1<|And.intro @aq.abuild.eq_1<|And.intro @aq.abuild.eq_2<|And.intro @cT.{1}<|And.intro @dK.{1}<|And.intro @cT.{1}<|And.intro @zN<|And.intro @Bz<|And.intro @Og<|And.intro @iL<|And.intro Oi<|And.intro Hm<|And.intro yS<|And.intro Jv<|And.intro Fg trivial
def nQ (E:kC) (G:Nat→Nat→Prop) (ops:Array Oper) (Q:fN):Nat→Array Bool→Fr→Hp→Prop
 |0,L,fr,H=>Region.ready .any ops L=[]∧Q .normal fr H
 |fuel+1,L,fr,H=>(Region.ready .any ops L=[]→Q .normal fr H)∧
  ∀i∈Region.ready .any ops L, ∀o,ops[i]?=some o→aop E (G i) (ops.toList.map (·.dst)) o fr H (nQ E G ops Q fuel (L.setIfInBounds i true)) (fun v H'=>Q (.pan v) V8 H')
def O2 (len:Nat) (ps:Array (Nat×Operand)):Bool:=ps.toList.map (·.1)==List.range len
theorem W0: ∀(l:List (Nat×Operand)) (k:Nat),l.map (·.1)=List.range' k l.length→yQ k (l.map (·.2))=l
 |[],_,_=>rfl
 |(i,x)::l,k,h=>by
  simp only[cN,aQ,List.range'_succ,List.cons.injEq]at h;simp only[cN,yQ,h.1,W0 l (k+1) h.2]
theorem O1 {len:Nat} {a:Array (Nat×Operand)} (h:O2 len a=true):a.size=len∧(yQ 0 (a.toList.map (·.2))).toArray=a:=by
 simp only[O2,Ax]at h;have b:a.size=len:=by have:=congrArg List.length h;simpa using this
 refine⟨b, ?_⟩;rw[W0 a.toList 0 (by rw[h,List.range_eq_range',nV,b])]
def wR (f:Nat) (o:Op):Bool:=if f=2 then(match o with | .buildSlice _ len ps=>O2 len ps|_=>false)else calm o&&(f !=3||(fX o).isNone)
def Pv (E:kC) (H:Hp) (fr:Fr) (o:Op) (f:Nat):Option AV:=if f=2 then(match o with | .buildSlice t len ps=>(Nz E fr t len ps).map fun p=> .isl p.1 p.2|_=>none)else aq E H fr o
def Yf (E:kC) (F:Nat→Prop) (ds:List (Option Nat)) (f:Nat) (o:Oper) (v:AV) (fr:Fr) (H:Hp):Prop:=
 (mH ds fr o.guard=some false∧v= .tup [])∨
 (mH ds fr o.guard=some true∧Pv E H fr o.op f=some v∧(f=0→ ∀x,fX o.op=some x→ ∀b,qI (ev E.G fr x)=some b→ ¬F b))
section
variable {E : kC} {F : Nat → Prop} {G : Nat → Nat → Prop} {ops : Array Oper} {Q : fN} {fr : Fr} {H : Hp}
theorem xF {n:lS} {N:Nat} (hd:ops.toList.all (kY N)=true): ∀(fuel:Nat) (L:Array Bool) (fr:Fr) (H:Hp) (a:Act) (w:World),Hf E n N fr H a w→nQ E G ops Q fuel L fr H→wpAny E.P .any ops (wI E n N Q) fuel L a w
 |0,_,fr,H,a,w,hs,h=>⟨h.1,fr,H,hs,h.2⟩
 |fuel+1,L,fr,H,a,w,hs,h=>by
  refine⟨fun e=>⟨fr,H,hs,h.1 e⟩,fun i k=>?_⟩;obtain⟨_,o,j,_⟩:=mem_ready.1 k;unfold wpOp;simp only[j]
  have x:kY N o=true:=by
   rw[dB]at hd;exact hd o (Vh.2 (tV j))
  have u:=hs.1;exact Eb hs x (h.2 i k o j) (fun t b p l y f=>xF hd fuel _ t b p l y f) (fun v B S' b l z A f=>⟨u,v,B,S',b,rfl,z,A,f⟩)
theorem Yf.step {f:Nat} {j z:Oper} {v u:AV} {H':Hp} (o:wR f j.op=true) (l: ∀d,z.dst=some d→d∉j.looksAt ops) (y:Yf E F (ops.toList.map (·.dst)) f j v fr H) (K:f=0→vN F H H') (L:f≠0→f≠2→f≠3→H'=H):
  Yf E F (ops.toList.map (·.dst)) f j v (eW fr z.dst u) H':=by
 unfold Yf at *;rw[xY l];rcases y with y|⟨J,a,D⟩
 ·exact .inl y
 refine .inr ⟨J, ?_, ?_⟩
 ·by_cases k:f=2
  ·subst k
   simp only[Pv,cT]at a⊢;obtain⟨dst,op,U,T,R,g⟩:=j;cases op<;>simp only[reduceCtorEq]at a⊢;rename_i t len A;have I:=uG (E:=E) (fr:=fr) (v:=u) l;simp only[Op.operands]at I;rw[←a]
   have P: ∀B,oM E (eW fr z.dst u) B 0 A.toList=oM E fr B 0 A.toList:=fun B=>uV A.toList 0 fun p O=>I p.2 (by
    simp only[xC,jL];exact⟨p,O,rfl⟩)
   simp only[Nz,P]
  simp only[Pv,aL k]at a⊢;simp only[wR,aL k,bC]at o;rw[Le (uG l)];by_cases i:f=0
  ·exact Dz o.1 a fun x e b n M=>K i b M (D i x e b n)
  by_cases C:f=3
  ·refine Dz o.1 a fun x e=>?_
   have:=o.2;rw[C,e]at this;simp at this
  rw[L i k C];exact a
 intro i x e b n;rw[uG l x (Yb e)]at n;exact D i x e b n
theorem LX {f:Nat} {F':Nat→Prop} {i k:Oper} {v:AV} {K:Fr→Hp→Prop} {x:AV→Hp→Prop} (D:i.apart ops k=true) (p:wR f i.op=true) (I:f≠0→f≠2→f≠3→calm k.op=true) (A:f=0→F'=F) (t:Yf E F (ops.toList.map (·.dst)) f i v fr H)
  (h:aop E F' (ops.toList.map (·.dst)) k (eW fr i.dst v) H K x):aop E F' (ops.toList.map (·.dst)) k fr H (fun y l=>Yf E F (ops.toList.map (·.dst)) f i v y l∧K (eW y i.dst v) l) x:=by
 obtain⟨z,n,o⟩:=Oper.apart_spec D;unfold aop at *;rw[xY z]at h;split at h
 ·rename_i L
  rw[Fq (uG z)]at h;by_cases j:f≠0∧f≠2∧f≠3
  ·rw[rQ (I j.1 j.2.1 j.2.2)]at h⊢
   split at h<;>try (exact h.elim)
   rename_i u J;refine⟨t.step p o (fun _=>vN.refl) fun _ _ _=>rfl, ?_⟩;rw[←tA n];exact h
  refine uU (fun u l C B=>⟨t.step p o (fun e=>by rw[←A e];exact C) (fun a b c=>absurd ⟨a,b,c⟩ j), ?_⟩) (fun _ _ h=>h) h;rw[←tA n];exact B
 ·exact⟨t.step p o (fun _=>vN.refl) fun _ _ _=>rfl,by rw[←tA n];exact h⟩
 exact h
theorem Yf.aop {f:Nat} {F':Nat→Prop} {o:Oper} {v:AV} {K:Fr→Hp→Prop} {j:AV→Hp→Prop} (i:wR f o.op=true) (l:Yf E F (ops.toList.map (·.dst)) f o v fr H) (h:K (eW fr o.dst v) H):Al.aop E F' (ops.toList.map (·.dst)) o fr H K j:=by
 unfold Al.aop;rcases l with⟨e,rfl⟩|⟨e,a,_⟩
 ·rw[e];exact h
 rw[e];by_cases b:f=2
 ·subst b
  simp only[Pv,cT]at a;obtain⟨dst,op,u,t,n,g⟩:=o;cases op<;>simp only[reduceCtorEq]at a;rw[bR]at a;obtain⟨p,k,rfl⟩:=a;simp only[lD,k];exact .inl h
 simp only[Pv,aL b]at a;simp only[wR,aL b,bC]at i;simp only;rw[rQ i.1,a];exact h
theorem C5 {i:Nat} {p:Oper} {v:AV} {f:Nat} (hi:ops[i]?=some p) (J:wR f p.op=true) (W:Nat→Bool) (Y: ∀j a,ops[j]?=some a→W j=true→ ∃e∈a.after,Region.binds .any e=true∧(e.on=i∨W e.on=true)):
  ∀(b:Nat) (L:Array Bool) (fr:Fr) (H:Hp),
   (∀j a,ops[j]?=some a→j≠i→L.getD j true=false→W j=false→p.apart ops a=true∧(f≠0→f≠2→f≠3→calm a.op=true)∧(f=0→G j=F))→
   (∀j,W j=true→L.getD j false=false)→i∈Region.ready .any ops L→Yf E F (ops.toList.map (·.dst)) f p v fr H→
   nQ E G ops Q b (L.setIfInBounds i true) (eW fr p.dst v) H→nQ E G ops Q (b+1) L fr H:=by
 have first: ∀{b:Nat} {L:Array Bool} {fr:Fr} {H:Hp} {j:Nat} {o:Oper},ops[j]?=some o→j=i→Yf E F (ops.toList.map (·.dst)) f p v fr H→nQ E G ops Q b (L.setIfInBounds i true) (eW fr p.dst v) H→
   Al.aop E (G j) (ops.toList.map (·.dst)) o fr H (nQ E G ops Q b (L.setIfInBounds j true)) (fun v B=>Q (.pan v) V8 B):=fun {b L fr H j o} A e t h=>by
  subst e;rw[hi]at A;cases A;exact t.aop J h
 intro b
 induction b with
 |zero=>
  intro L fr H _ _ n t h;refine⟨fun e=>(by rw[e]at n;cases n),fun j z o A=>?_⟩;by_cases l:j=i
  ·exact first A l t h
  have:=ready_mono z l;rw[h.1]at this;cases this
 |succ b ih=>
  intro L fr H K T n t h;refine⟨fun e=>(by rw[e]at n;cases n),fun j z a x=>?_⟩;by_cases l:j=i
  ·exact first x l t h
  obtain⟨O,a7,R,Z⟩:=mem_ready.1 z;rw[x]at R;cases R
  have a2:L.getD i false=false:=by
   have C:=(mem_ready.1 n).1;rcases pR i L.size with h'|h'
   ·simp [h']at C⊢;exact C
   simp [Array.getElem?_eq_none h']
  have I:W j=false:=by
   cases e:W j with
   |false=>rfl
   |true=>
    obtain⟨U,he,hb,a6⟩:=Y j a x e;have y:=Z U he hb;rcases a6 with h2|h2
    ·rw[h2,a2]at y;cases y
    rw[T _ h2]at y;cases y
  obtain⟨a0,a1,X⟩:=K j a x l O I;have h2:=LX a0 J a1 X t (h.2 j (ready_mono z l) a x);refine xA (fun V B D=>ih (L.setIfInBounds j true) V B (fun k ok u a4 P a3=>K k ok u a4 ?_ a3) (fun k u=>?_) (ready_mono n (Ne.symm l)) D.1 ?_) h2
  ·by_cases M:j=k
   ·subst M;exact O
   rw[getD_set_ne true M]at P;exact P
  ·have a5:j≠k:=fun e=>by subst e;rw[I]at u;cases u
   rw[getD_set_ne false a5];exact T k u
  rw[Array.setIfInBounds_comm _ _ l];exact D.2
def Ze (ops:Array Oper) (T:List Nat) (i:Nat) (oi:Oper) (f:Nat) (ws:List Nat) (L:Array Bool):Bool:=
 (List.range ops.size).all fun j=>j==i||L.getD j true||ws.contains j||match ops[j]? with |some oj=>oi.apart ops oj&&(f==0||f==2||f==3||calm oj.op)&&(f !=0|| !T.contains j)|none=>true
def BW (ops:Array Oper) (T:List Nat):Array Bool→List (Nat×Nat)→Bool
 |_,[]=>true
 |L,(i,f)::r=>(match ops[i]? with
  |none=>false
  |some o=> !T.contains i&&if wR f o.op then(Region.ready .any ops L).contains i&&BV ops i (xG ops i) L&&Ze ops T i o f (xG ops i) L else f !=2&&Region.ready .any ops L==[i])&&BW ops T (L.setIfInBounds i true) r
def qM (L:Array Bool):List (Nat×Nat)→Array Bool
 |[]=>L
 |(i,_)::r=>qM (L.setIfInBounds i true) r
def dR (ops:List Oper):List (Nat×Nat)→List Oper
 |[]=>[]
 |(i,f)::r=>match ops[i]? with
  |none=>[]
  |some o=>match f with
   |0=>match fX o.op with
    |some x=>⟨none, .entry x,o.type,o.pos,o.after,o.guard⟩::o::dR ops r
    |none=>o::dR ops r
   |2=>match o.op with
    | .buildSlice t _ ps=>⟨o.dst, .go ⟨.value (.func 0),(ps.toList.map (·.2)).toArray, #[t]⟩,o.type,o.pos,o.after,o.guard⟩::dR ops r
    |_=>[]
   |_=>o::dR ops r
theorem rV {T:List Nat} {m N:Nat} (R: ∀j,T.contains j=false→G j=F) (hd:ops.toList.all (kY N)=true): ∀(U:List (Nat×Nat)) (L:Array Bool) (fr:Fr) (H:Hp),BW ops T L U=true→
  eI E F (ops.toList.map (·.dst)) (bK (fun p n=>nQ E G ops Q m (qM L U) p n) Q) (dR ops.toList U) fr H→nQ E G ops Q (U.length+m) L fr H
 |[],L,fr,H,k,h=>by
  simp only[dR,qM,aV,bT]at h⊢;exact h
 |(i,f)::r,L,fr,H,k,h=>by
  simp only[BW,bC]at k;obtain⟨k,Y⟩:=k;simp only[qM]at h;rw[show((i,f)::r).length+m=(r.length+m)+1 by simp only[aQ];omega]
  cases ho:ops[i]? with
  |none=>rw[ho]at k;simp at k
  |some o=>
   simp only[ho,bC,dE]at k;obtain⟨hT,k⟩:=k
   have M:kY N o=true:=by
    rw[dB]at hd;exact hd o (Vh.2 (tV ho))
   have a1:ops.toList[i]?=some o:=by simpa using ho
   simp only[dR,a1]at h;split at k
   ·rename_i l
    simp only[bC]at k;obtain⟨⟨h1,P⟩,X⟩:=k
    have go: ∀v,Yf E F (ops.toList.map (·.dst)) f o v fr H→eI E F (ops.toList.map (·.dst)) (bK (fun p n=>nQ E G ops Q m (qM (L.setIfInBounds i true) r) p n) Q) (dR ops.toList r) (eW fr o.dst v) H→nQ E G ops Q (r.length+m+1) L fr H:=fun v B u=>by
     refine C5 (F:=F) ho l (fun j=>(xG ops i).contains j) (fun j Z D A=>?_) (r.length+m) L fr H (fun j Z D a3 a4 a2=>?_) (fun j A=>?_) (by simpa using h1) B (rV R hd r _ _ _ Y u)
     ·simp only[BV,dB]at P
      have:=P j (by simpa using A);simp only[D,bC]at this;obtain⟨ed,he,W⟩:=Array.any_eq_true'.1 this.2;simp only[bC,B8,Ax]at W;exact⟨ed,he,W.1,W.2⟩
     ·simp only[Ze,dB,List.mem_range]at X
      have:=X j (fD.1 D).1;simp only[*,B8,Ax,cH,dF,false_or,bC,dE,bne_iff_ne]at this;refine⟨this.1.1,fun e e' a0=>?_,fun e=>R j ?_⟩
      ·rcases this.1.2 with((h|h)|h)|h
       ·exact absurd h e
       ·exact absurd h e'
       ·exact absurd h a0
       exact h
      rcases this.2 with h|h
      ·exact absurd e h
      exact h
     simp only[BV,dB]at P;have:=P j (by simpa using A);simp only[bC,dE]at this;exact this.1
    by_cases V:f=0
    ·subst V
     have K:calm o.op=true:=by simpa [wR]using l
     have pv: ∀fr,Pv E H fr o.op 0=aq E H fr o.op:=fun fr=>by simp [Pv]
     simp only at h;split at h
     ·rename_i x J
      simp only[eI]at h;split at h
      ·rename_i I
       obtain⟨hm,h⟩:=h;obtain⟨v,z,u⟩:=oQ (fr:=fr) M _ K h;exact go v (z.imp id fun⟨a,b⟩=>⟨a,by rw[pv];exact b,fun _ y B=>by rw[J]at B;cases B;exact hm⟩) u
      ·rename_i I
       obtain⟨v,z,u⟩:=oQ (fr:=fr) M _ K h;exact go v (z.imp id fun⟨a,b⟩=>by rw[I]at a;cases a) u
      exact h.elim
     rename_i J;obtain⟨v,z,u⟩:=oQ M _ K h;exact go v (z.imp id fun⟨a,b⟩=>⟨a,by rw[pv];exact b,fun _ y B=>by rw[J]at B;cases B⟩) u
    by_cases C:f=2
    ·subst C
     obtain⟨dst,op,ty,a5,af,g⟩:=o;simp only[wR,cT]at l;cases op<;>simp only[cH]at l;rename_i t len ps;obtain⟨d1,d2⟩:=O1 l;simp only[eI]at h;split at h
     ·rename_i I
      split at h
      ·rename_i v z
       refine go v (.inr ⟨I, ?_,fun e=>absurd e (by decide)⟩) h;simp only[Pv,cT];rw[←z];simp only[XK,d2];rw[show((ps.toList.map (·.2)).toArray).size=len by simpa using d1]
      exact h.elim
     ·rename_i I
      exact go _ (.inl ⟨I,rfl⟩) h
     exact h.elim
    have K:calm o.op=true:=by simp only[wR,aL C,bC]at l;exact l.1
    have O:eI E F (ops.toList.map (·.dst)) (bK (fun p n=>nQ E G ops Q m (qM (L.setIfInBounds i true) r) p n) Q) (o::dR ops.toList r) fr H:=by
     split at h
     ·exact absurd rfl V
     ·exact absurd rfl C
     exact h
    obtain⟨v,z,u⟩:=oQ M _ K O;exact go v (z.imp id fun⟨a,b⟩=>⟨a,by simp only[Pv,aL C];exact b,fun e=>absurd e V⟩) u
   rename_i l;simp only[bC,bne_iff_ne,Ax]at k;obtain⟨C,k⟩:=k
   have O:eI E F (ops.toList.map (·.dst)) (bK (fun p n=>nQ E G ops Q m (qM (L.setIfInBounds i true) r) p n) Q) (o::dR ops.toList r) fr H:=by
    split at h
    ·split at h
     ·rename_i x J
      exfalso;simp only[wR]at l;cases e:o.op<;>rw[e]at J l<;>simp [fX,calm]at J l
     exact h
    ·exact absurd rfl C
    exact h
   rw[tO M]at O;refine⟨fun e=>(by rw[k]at e;cases e),fun j A Z D=>?_⟩;rw[k]at A;simp only[bD]at A;subst A;rw[ho]at D;cases D;rw[R j hT];exact xA (fun p n hK=>rV R hd r _ p n Y hK) O
theorem Jo: ∀(p:List (Nat×Nat)) (L:Array Bool),(qM L p).size=L.size
 |[],L=>rfl
 |(i,c)::r,L=>by rw[qM,Jo r];simp
theorem oR {ds:List (Option Nat)} {Q b:fN} (a: ∀e fr H,Q e fr H→b e fr H): ∀(l:List Oper) (fr:Fr) (H:Hp),eI E F ds Q l fr H→eI E F ds b l fr H
 |[],fr,H,h=>a _ _ _ h
 |o::r,fr,H,h=>by
  have i: ∀fr H,aop E F ds o fr H (eI E F ds Q r) (fun v f=>Q (.pan v) V8 f)→aop E F ds o fr H (eI E F ds b r) (fun v f=>b (.pan v) V8 f):=fun fr H h=>by
   unfold aop at *;split at h
   ·exact uU (fun _ _ _ h=>oR a r _ _ h) (fun _ _ h=>a _ _ _ h) h
   ·exact oR a r _ _ h
   exact h
  unfold eI at h⊢;split at h
  ·split at h
   ·exact⟨h.1,oR a r _ _ h.2⟩
   ·exact oR a r _ _ h
   exact h
  ·split at h
   ·split at h
    ·exact oR a r _ _ h
    exact h
   ·exact oR a r _ _ h
   exact h
  exact i _ _ h
def Zf (N:Nat) (l:List Oper) (plan plan2:List (Nat×Nat)):Bool:=
 l.all (kY N)&&plan.length+plan2.length==l.length&&BW l.toArray (plan2.map (·.1)) (Array.replicate l.length false) plan&&BW l.toArray [] (qM (Array.replicate l.length false) plan) (plan2.map fun p=>(p.1,if p.2=2 then 2 else 1))&&Region.ready .any l.toArray (qM (qM (Array.replicate l.length false) plan) (plan2.map fun p=>(p.1,if p.2=2 then 2 else 1)))==[]&&(List.range l.length).all fun j=>(qM (Array.replicate l.length false) plan).getD j true||(plan2.map (·.1)).contains j
theorem bB (F:Nat→Prop) (x b:List (Nat×Nat)) {N id:Nat} {l I J:List Oper} (hm:E.P.follows .mixedOrders=true) (A:Zf N l x b=true) (Z:dR l x=I) (a0:dR l (b.map fun p=>(p.1,if p.2=2 then 2 else 1))=J)
  (h:eI E F (l.map (·.dst)) (bK (fun k f=>eI E (fun _=>True) (l.map (·.dst)) Q J k f) Q) I fr H):mD E N (.region id l.toArray true) Q fr H:=fun γ a w C=>by
 subst Z;subst a0;simp only[Zf,bC,Ax]at A;obtain⟨⟨⟨⟨⟨hd,a1⟩,U⟩,V⟩,W⟩,X⟩:=A;have z:l.toArray.toList.all (kY N)=true:=by simpa using hd
 refine wp_region_any hm (xF (G:=fun j=>if(b.map (·.1)).contains j then fun _=>True else F) z _ _ fr H a _ C.drew ?_)
 have a2: ∀k f,eI E (fun _=>True) (l.map (·.dst)) Q (dR l (b.map fun p=>(p.1,if p.2=2 then 2 else 1))) k f→nQ E (fun j=>if(b.map (·.1)).contains j then fun _=>True else F) l.toArray Q b.length (qM (Array.replicate l.length false) x) k f:=fun k f O=>by
  have mono: ∀(n:Nat) (L:Array Bool) fr H,nQ E (fun _ _=>True) l.toArray Q n L fr H→(∀j,L.getD j true=false→(b.map (·.1)).contains j=true)→nQ E (fun j=>if(b.map (·.1)).contains j then fun _=>True else F) l.toArray Q n L fr H:=by
   intro n
   induction n with
   |zero=>intro L fr H h _;exact h
   |succ n ih=>
    intro L fr H h y;refine⟨h.1,fun i B o ho=>?_⟩;have D:=(mem_ready.1 B).1;show aop E (if(b.map (·.1)).contains i=true then fun _=>True else F) _ _ _ _ _ _;rw[bH (y i D)];refine xA (fun k f R=>ih _ _ _ R fun j t=>?_) (h.2 i B o ho);by_cases e:i=j
    ·subst e;exact y i D
    rw[getD_set_ne true e]at t;exact y j t
  refine mono _ _ _ _ ?_ ?_
  ·have:=rV (E:=E) (F:=fun _=>True) (G:=fun _ _=>True) (Q:=Q) (ops:=l.toArray) (N:=N) (m:=0) (fun _ _=>rfl) z (b.map fun p=>(p.1,if p.2=2 then 2 else 1)) _ k f V (by
    refine oR (Q:=Q) ?_ _ _ _ (by simpa using O);intro e M K u
    cases e<;>first|exact⟨W,u⟩|exact u)
   simpa using this
  intro j t;have C:(qM (Array.replicate l.length false) x).size=l.length:=by rw[Jo,Vg]
  have Y:j<l.length:=by
   rcases pR j l.length with h|h
   ·exact h
   rw[iP,Array.getElem?_eq_none (by omega)]at t;cases t
  have:=dB.1 X j (List.mem_range.2 Y);rw[t,oJ]at this;exact this
 have:=rV (E:=E) (F:=F) (G:=fun j=>if(b.map (·.1)).contains j then fun _=>True else F) (Q:=Q) (ops:=l.toArray) (N:=N) (m:=b.length) (T:=b.map (·.1)) (fun j t=>by rw[t];rfl) z x _ fr H U (by
  refine oR (Q:=bK (fun k f=>eI E (fun _=>True) (l.map (·.dst)) Q (dR l (b.map fun p=>(p.1,if p.2=2 then 2 else 1))) k f) Q) ?_ _ _ _ (by simpa using h);intro e M K u
  cases e<;>first|exact a2 _ _ u|exact u)
 rw[a1]at this;simpa using this
end
section
variable {S S' : gK} {w : World}
theorem eY.sub: ∀{row e:List AV} {b off:Nat},eY S w b off row→e.length=row.length→(∀(j:Nat) x f u,row[j]?=some x→e[j]?=some f→cK S w x u→cK S' w f u)→eY S' w b off e
 |[],[],b,off,_,_,_=>by simp only[eY]
 |x::row,y::e,b,off,h,hl,hs=>by
  simp only[eY]at *;obtain⟨⟨u,i,k⟩,l⟩:=h;exact⟨⟨u,i,hs 0 x y u rfl rfl k⟩,eY.sub l (by simpa using hl) fun j a c v n o=>hs (j+1) a c v (by simpa using n) (by simpa using o)⟩
 |[],_::_,_,_,_,hl,_=>by simp at hl
 |_::_,[],_,_,_,hl,_=>by simp at hl
theorem dI.sub {sz:Nat}: ∀{l f:List (List AV)} {b off:Nat},dI S w b off sz l→f.length=l.length→(∀(i:Nat) r e,l[i]?=some r→f[i]?=some e→e.length=r.length∧ ∀(j:Nat) x k u,r[j]?=some x→e[j]?=some k→cK S w x u→cK S' w k u)→dI S' w b off sz f
 |[],[],b,off,_,_,_=>by simp only[dI]
 |r::l,e::f,b,off,h,hl,hs=>by
  simp only[dI]at *;obtain⟨A,p,t⟩:=h;obtain⟨n,o⟩:=hs 0 r e rfl rfl;exact⟨by omega,eY.sub p n o,dI.sub t (by simpa using hl) fun i a c y z=>hs (i+1) a c (by simpa using y) (by simpa using z)⟩
 |[],_::_,_,_,_,hl,_=>by simp at hl
 |_::_,[],_,_,_,hl,_=>by simp at hl
end
def BI (b sz:Nat) (l:List (List AV)):iG→iG
 | .rows s r=> .rows s (r.map fun x=>x.map (frz b sz l))
 | .amap es=> .amap es
 | .bld ty g n=> .bld ty g n
 | .buf ty bs cap=> .buf ty bs cap
section
variable {E : kC} {N : Nat} {Q : fN} {c : Code} {fr : Fr} {H : Hp}
theorem oC {b sz:Nat} {l:List (List AV)} (J:H b=some (.rows sz l)) (h:mD E N c Q (fun t=>frz b sz l (fr t)) (fun x=>if x=b then none else(H x).map (BI b sz l))):mD E N c Q fr H:=fun γ a w ⟨W,X,S,z,Z⟩=>by
 have hk:hJ S (fun k=>S k∨k=b) w w:=⟨fun _ _=>rfl,fun _ _ h=>h,fun _ h=> .inl h⟩;have D:=(z.obj b _ J).1;have a0:=D.lt;simp only[jK]at D;obtain⟨cs,e,_,_,hr⟩:=D;have a2:=dI.mono hk l b 0 sz rfl hr;have L: ∀x u,cK S w x u→cK (fun k=>S k∨k=b) w (frz b sz l x) u:=fun x u I=>V6 b sz l x _ w _ (.inr rfl) a2 (cK.mono hk _ _ I);refine h γ a w ⟨W,X,_, ?_,fun t=>L _ _ (Z t)⟩;refine z.step (nU.refl (fun _=>False) w) (fun _ h=>h.elim) (fun _ h=> .inl h) (fun k hk=>?_) (fun k hk=>?_) fun R o p=>?_
 ·rcases hk with hk|hk
  ·exact z.lt k hk
  exact hk▸a0
 ·rcases hk with hk|hk
  ·exact .inl hk
  exact .inr (.inl (by rw[hk,J];simp))
 split at p
 ·cases p
 rename_i a1;rw[bR]at p;obtain⟨P,K,rfl⟩:=p;have f:=z.obj R P K;refine⟨fun hs=>?_, .inr ⟨?_, .inl (by rw[K];simp)⟩⟩
 ·rcases hs with hs|hs
  ·exact f.2.1 hs
  exact a1 hs
 cases P with
 |rows s r=>
  have A:=f.1;simp only[jK,BI]at *;obtain⟨U,V,B,C,Y⟩:=A;refine⟨U,V,B,by rw[aE];exact C,dI.sub Y (by simp) fun i x x' I M=>?_⟩;rw[dT,I]at M;cases M;refine⟨by simp,fun j y y' u hy O a3=>?_⟩;rw[dT,hy]at O;cases O;exact L _ _ a3
 |amap es=>
  have A:=f.1;simp only[jK,BI]at *;obtain⟨a4,T,B,C⟩:=A;exact⟨a4,T,B,fV.mono hk es _ C⟩
 |bld ty g n=>exact f.1
 |buf ty bs cap=>exact f.1
theorem Up {b sz:Nat} {l l':List (List AV)} (z:H b=some (.rows sz l)) (A:l'.length=l.length) (V: ∀(i:Nat) r n,l[i]?=some r→l'[i]?=some n→n.length=r.length∧ ∀(j:Nat) x t,r[j]?=some x→n[j]?=some t→hP x t)
  (h:mD E N c Q fr (upd H b (some (.rows sz l')))):mD E N c Q fr H:=fun γ a w ⟨I,J,S,p,P⟩=>by
 refine h γ a w ⟨I,J,S, ?_,P⟩;refine p.step (nU.refl (fun _=>False) w) (fun _ h=>h.elim) (fun _ h=>h) p.lt (fun k R=> .inl R) fun y o f=>?_;by_cases e:y=b
 ·subst e
  rw[bE]at f;cases f;have B:=p.obj y _ z;refine⟨B.2.1, .inr ⟨?_, .inl (by rw[z];simp)⟩⟩;have K:=B.1;simp only[jK]at *;obtain⟨C,D,L,M,O⟩:=K;refine⟨C,D,L,by rw[A];exact M,dI.sub O A fun i r n T U=>?_⟩;obtain⟨Z,q2⟩:=V i r n T U;exact⟨Z,fun j x t u W X Y=>q2 j x t W X S w u Y⟩
 rw[cI _ _ e]at f;exact⟨(p.obj y o f).2.1, .inl ⟨f,fun h=>h⟩⟩
end
inductive iY:List AV→List AV→Prop
 |nil:iY [] []
 |cons {x y:AV} {xs ys:List AV}:hP x y→iY xs ys→iY (x::xs) (y::ys)
inductive yX:List (List AV)→List (List AV)→Prop
 |nil:yX [] []
 |cons {x y:List AV} {xs ys:List (List AV)}:iY x y→yX xs ys→yX (x::xs) (y::ys)
theorem iY.len {x y:List AV} (h:iY x y):y.length=x.length:=by
 induction h with
 |nil=>rfl
 |cons _ _ ih=>simp [ih]
theorem yX.len {x y:List (List AV)} (h:yX x y):y.length=x.length:=by
 induction h with
 |nil=>rfl
 |cons _ _ ih=>simp [ih]
theorem iY.list {x y:List AV} (h:iY x y):fF x y:=by
 induction h with
 |nil=>exact fF.refl _
 |cons h _ ih=>exact fF.cons h ih
theorem iY.row {S:gK} {w:World} {x y:List AV} (h:iY x y): ∀{b off:Nat},eY S w b off x→eY S w b off y:=by
 induction h with
 |nil=>intro b off h;exact h
 |cons h _ ih=>
  intro b off i;simp only[eY]at *;obtain⟨⟨u,a,e⟩,f⟩:=i;exact⟨⟨u,a,h _ _ _ e⟩,ih f⟩
theorem yX.rows {S:gK} {w:World} {sz:Nat} {x y:List (List AV)} (h:yX x y): ∀{b off:Nat},dI S w b off sz x→dI S w b off sz y:=by
 induction h with
 |nil=>intro b off h;exact h
 |cons h _ ih=>
  intro b off i;simp only[dI]at *;obtain⟨a,e,f⟩:=i;exact⟨h.len.trans a,h.row e,ih f⟩
theorem hP.isl {sz:Nat} {x y:List (List AV)} (h:yX x y):hP (.isl sz x) (.isl sz y):=by
 intro S w v p;simp only[cK]at *;obtain⟨t,i,e,k,l,a⟩:=p;have f:=h.len;refine⟨t,i,by rw[f];exact e,by rw[f];exact k,l, ?_⟩;rcases a with a|⟨b,off,j,n,o⟩
 ·subst a;cases h;exact .inl rfl
 exact .inr ⟨b,off,j,n,h.rows o⟩
theorem hP.aggR {x y:List AV} (h:iY x y):hP (.agg x) (.agg y):=hP.agg h.list
section
variable {E : kC} {N : Nat} {Q : fN} {fr : Fr} {H : Hp} {c : Code}
def aX (l:List Nat) (f g:Fr):Prop:= ∀t,l.elem t=true→g t=f t
theorem aX.refl (l:List Nat) (f:Fr):aX l f f:=fun _ _=>rfl
theorem aX.nil (f g:Fr):aX [] f g:=fun _ h=>by cases h
theorem aX.cons {l:List Nat} {f g:Fr} {t:Nat} (h:g t=f t) (j:aX l f g):aX (t::l) f g:=fun i k=>by
 by_cases e:i=t
 ·rw[e];exact h
 refine j i ?_;have a:i∈t::l:=by simpa using k
 have b:=(bP.1 a).resolve_left e;simpa using b
theorem aX.upd {l:List Nat} {f g:Fr} {i:Nat} {v:AV} (h:l.elem i=false) (b:aX l f g):aX l f (upd g i v):=fun t a=>by
 have :t≠i:=fun e=>by rw[e,h]at a;cases a
 rw[cI _ _ this];exact b t a
theorem aX.same {l:List Nat} {f g k:Fr} (h: ∀t,k t=g t) (a:aX l f g):aX l f k:=fun t b=>(h t).trans (a t b)
theorem aX.sub {l b:List Nat} {f g k:Fr} (h:aX b g k) (i:l.all b.elem=true) (e:aX l f g):aX l f k:=fun t a=>
 (h t (dB.1 i t (by simpa using a))).trans (e t a)
theorem bM (h: ∀e a,(∀t,e t=fr t)→(∀b,a b=H b)→mD E N c Q e a):mD E N c Q fr H:=h fr H (fun _=>rfl) (fun _=>rfl)
theorem fQ (M:Fr→Hp→Prop) (b: ∀K:Fr→Hp→Prop,(∀fr H,M fr H→K fr H)→mD E N c (bK K Q) fr H) (f: ∀fr H,M fr H→Q .normal fr H):mD E N c Q fr H:=
 Zl (b M fun _ _ h=>h) fun e fr H a=>by cases e<;>first|exact f _ _ a|exact a
theorem eO (m:List Nat) (n:Nat) (I:Nat→Fr→Hp→Prop) (o:I 0 fr H)
  (B: ∀(k:Nat) a b,k≤n→I k a b→aX m fr a→ ∀K:Fr→Hp→Prop,(∀e f,k<n→I (k+1) e f→aX m a e→K e f)→mD E N c (bK K Q) a b):mD E N (.loop c) Q fr H:=by
 refine eS (fun l a b=> ∃k,l=n-k∧k≤n∧I k a b∧aX m fr a) n ⟨0,rfl,cJ _,o,aX.refl _ _⟩ ?_;rintro l a b ⟨k,rfl,z,p,i⟩ K x;exact B k a b z p i K fun e f A u y=>x (n-(k+1)) e f (by omega) ⟨k+1,rfl,A,u,fun t j=>(y t j).trans (i t j)⟩
theorem iV (m:List Nat) (n:Nat) (I:Nat→Fr→Hp→Prop) (o:I n fr H)
  (B: ∀(k:Nat) a b,I k a b→aX m fr a→ ∀K:Fr→Hp→Prop,(∀i e f,i<k→I i e f→aX m a e→K e f)→mD E N c (bK K Q) a b):mD E N (.loop c) Q fr H:=by
 refine eS (fun A a b=>I A a b∧aX m fr a) n ⟨o,aX.refl _ _⟩ ?_;rintro k a b ⟨p,j⟩ K x;exact B k a b p j K fun i e f z u y=>x i e f z ⟨u,fun t l=>(y t l).trans (j t l)⟩
theorem xR (b sz:Nat) (l:List (List AV)) (e a n:Nat):frz b sz l (.osl e a n)=if a=b∧e=sz∧n=l.length then .isl sz l else .osl e a n:=Eq.trans rfl rfl
theorem off.frz {v:AV} {b:Nat} (h:off v b) (sz:Nat) (l:List (List AV)):frz b sz l v=v:=by
 cases v<;>try rfl
 rename_i e a n;rw[xR,aL];rintro⟨rfl,_,_⟩;exact h _ _ rfl
theorem eB.same {sz:Nat} {v:AV} {rows:List (List AV)} {H H':Hp} (h:eB sz v rows H) (a: ∀b,H' b=H b):eB sz v rows H':=by
 rcases h with h|⟨b,e,f⟩
 ·exact .inl h
 exact .inr ⟨b,e,(a b).trans f⟩
theorem eB.off {sz:Nat} {v:AV} {rows:List (List AV)} {H:Hp} (h:eB sz v rows H) {b:Nat} (i:off v b) (o:Option iG):eB sz v rows (Al.upd H b o):=by
 rcases h with h|⟨a,e,f⟩
 ·exact .inl h
 refine .inr ⟨a,e, ?_⟩;have :a≠b:=fun c=>i _ _ (by rw[e,c]);rw[cI _ _ this];exact f
theorem eB.new {sz:Nat} {v:AV} {rows:List (List AV)} {H:Hp} (h:eB sz v rows H) {b:Nat} (a:H b=none):Al.off v b:=fun s n e=>h.there s b n e a
theorem Vz (F:Nat→Prop) (b:Nat):(∀x,qI (.mp b)=some x→ ¬F x)= ¬F b:=by
 refine propext ⟨fun h=>h b rfl,fun h x a=>by cases a;exact h⟩
theorem Oh (F:Nat→Prop) (a vs:List AV):(∀x,qI (.imp a vs)=some x→ ¬F x)=True:=propext ⟨fun _=>trivial,fun _ _ h=>by cases h⟩
theorem Of (F:Nat→Prop):(∀x,qI .nmp=some x→ ¬F x)=True:=propext ⟨fun _=>trivial,fun _ _ h=>by cases h⟩
theorem Lc {F:Nat→Prop} {ds:List (Option Nat)} {d:Option Nat} {rest:List Oper} {b sz f len:Nat} {l e:List (List AV)} (j:H b=some (.rows sz l)) (n:len=l.length) (k:(l.length+e.length) *f≤140737488355328) (i:F b)
  (h: ∀a,(a=b∨H a=none)→eI E F ds Q rest (eW fr d (.osl sz a (l.length+e.length))) (Al.upd (Al.upd H b none) a (some (.rows sz (l++e))))):Uu E F ds Q d rest fr H (some (sz,f, .osl sz b len,e)):=by
 subst n;simp only[Uu,j];exact⟨trivial,trivial,trivial,k,i,h⟩
theorem tJ (b sz:Nat) (l:List (List AV)) (a:Nat) (r:List (List AV)):BI b sz l (.rows a r)= .rows a (r.map fun x=>x.map (frz b sz l)):=Eq.trans rfl rfl
end
theorem EM:type_of% (And.intro @Vz (And.intro @Oh (And.intro @Of (And.intro (@ne_eq Nat) (And.intro not_true_eq_false (And.intro @and_false (And.intro @false_and Gj))))))):=⟨@Vz, @Oh, @Of, @ne_eq Nat,not_true_eq_false, @and_false, @false_and,Gj⟩
def vO (m:Nat) (es:List (AV×AV)):AV→AV
 | .mp b=>if b=m then .imp (es.map (·.1)) (es.map (·.2))else .mp b
 |v=>v
def Xa (m:Nat) (es:List (AV×AV)):iG→iG
 | .rows s r=> .rows s (r.map fun x=>x.map (vO m es))
 |o=>o
theorem fV.lists {S:gK} {w:World}: ∀{es:List (AV×AV)} {a:List MapEntry},fV S w es a→dJ S w (es.map (·.1)) (a.map fun e=>e.key)∧dJ S w (es.map (·.2)) (a.map fun e=>e.val)
 |[],a,h=>by
  simp only[fV]at h;subst h;simp [dJ]
 |(k,v)::es,a,h=>by
  simp only[fV]at h;obtain⟨e,n,rfl,b,f,i⟩:=h;obtain⟨j,l⟩:=fV.lists i;simp only[cN,dJ];exact⟨⟨_,_,rfl,b,j⟩,⟨_,_,rfl,f,l⟩⟩
section
variable {E : kC} {N : Nat} {Q : fN} {c : Code} {fr : Fr} {H : Hp}
theorem Zk {m:Nat} {es:List (AV×AV)} (I:H m=some (.amap es)) (h:mD E N c Q (fun t=>vO m es (fr t)) (fun x=>if x=m then none else(H x).map (Xa m es))):mD E N c Q fr H:=fun γ a w ⟨X,Y,S,z,hf⟩=>by
 have hk:hJ S (fun k=>S k∨k=m) w w:=⟨fun _ _=>rfl,fun _ _ h=>h,fun _ h=> .inl h⟩;have C:=(z.obj m _ I).1;have a0:=C.lt;simp only[jK]at C;obtain⟨a3,T,hm,he⟩:=C;have J:=(fV.mono hk es _ he).lists
 have L: ∀x u,cK S w x u→cK (fun k=>S k∨k=m) w (vO m es x) u:=fun x u D=>by
  have f:=cK.mono hk _ _ D;cases x<;>try exact f
  rename_i b;simp only[vO];split
  ·rename_i e
   subst e;simp only[cK]at f⊢;exact⟨b,f, .inr rfl,a3,T,hm,J.1,J.2⟩
  exact f
 refine h γ a w ⟨X,Y,_, ?_,fun t=>L _ _ (hf t)⟩;refine z.step (nU.refl (fun _=>False) w) (fun _ h=>h.elim) (fun _ h=> .inl h) (fun k hk=>?_) (fun k hk=>?_) fun R o p=>?_
 ·rcases hk with hk|hk
  ·exact z.lt k hk
  exact hk▸a0
 ·rcases hk with hk|hk
  ·exact .inl hk
  exact .inr (.inl (by rw[hk,I];simp))
 split at p
 ·cases p
 rename_i a1;rw[bR]at p;obtain⟨P,K,rfl⟩:=p;have l:=z.obj R P K;refine⟨fun hs=>?_, .inr ⟨?_, .inl (by rw[K];simp)⟩⟩
 ·rcases hs with hs|hs
  ·exact l.2.1 hs
  exact a1 hs
 cases P with
 |rows s r=>
  have f:=l.1;simp only[jK,Xa]at *;obtain⟨V,W,A,B,Z⟩:=f;refine⟨V,W,A,by rw[aE];exact B,dI.sub Z (by simp) fun i x x' D M=>?_⟩;rw[dT,D]at M;cases M;refine⟨by simp,fun j y y' u hy O a2=>?_⟩;rw[dT,hy]at O;cases O;exact L _ _ a2
 |amap es2=>
  have f:=l.1;simp only[jK,Xa]at *;obtain⟨a4,U,A,B⟩:=f;exact⟨a4,U,A,fV.mono hk es2 _ B⟩
 |bld ty g n=>exact l.1
 |buf ty bs cap=>exact l.1
theorem R9 (m:Nat) (es:List (AV×AV)):vO m es (.mp m)= .imp (es.map (·.1)) (es.map (·.2)):=by simp [vO]
theorem Wx (m:Nat) (es:List (AV×AV)) (s:Nat) (r:List (List AV)):vO m es (.isl s r)= .isl s r:=Eq.trans rfl rfl
theorem Wy (m:Nat) (es:List (AV×AV)) (k:IntKind) (n:Int):vO m es (.int k n)= .int k n:=Eq.trans rfl rfl
theorem Wq (m:Nat) (es:List (AV×AV)) (s:List UInt8):vO m es (.str s)= .str s:=Eq.trans rfl rfl
theorem On (m:Nat) (es:List (AV×AV)) (s:Bool):vO m es (.bool s)= .bool s:=Eq.trans rfl rfl
theorem Ws (m:Nat) (es:List (AV×AV)) (s b i j:Nat):vO m es (.ptr s b i j)= .ptr s b i j:=Eq.trans rfl rfl
theorem Wu (m:Nat) (es:List (AV×AV)):vO m es .nsl= .nsl:=Eq.trans rfl rfl
theorem Ww (m:Nat) (es:List (AV×AV)):vO m es .nfn= .nfn:=Eq.trans rfl rfl
theorem Wv (m:Nat) (es:List (AV×AV)):vO m es .npt= .npt:=Eq.trans rfl rfl
theorem Wt (m:Nat) (es:List (AV×AV)) (s b n:Nat):vO m es (.osl s b n)= .osl s b n:=Eq.trans rfl rfl
theorem S1 (m:Nat) (es:List (AV×AV)) (f:Fn) (x y:List AV):vO m es (.fn f x y)= .fn f x y:=Eq.trans rfl rfl
theorem Wz (m:Nat) (es:List (AV×AV)) (x y:List AV):vO m es (.imp x y)= .imp x y:=Eq.trans rfl rfl
theorem Hu (m:Nat) (es:List (AV×AV)) (sz:Nat) (r:List (List AV)):Xa m es (.rows sz r)= .rows sz (r.map fun x=>x.map (vO m es)):=Eq.trans rfl rfl
theorem Oo (m:Nat) (es r:List (AV×AV)):Xa m es (.amap r)= .amap r:=Eq.trans rfl rfl
theorem SM:type_of% (And.intro R9<|And.intro Wx<|And.intro Wy<|And.intro Wq<|And.intro On<|And.intro Ws<|And.intro Wu<|And.intro Ww<|And.intro Wv<|And.intro Wt<|And.intro S1<|And.intro Wz<|And.intro Hu Oo):=And.intro R9<|And.intro Wx<|And.intro Wy<|And.intro Wq<|And.intro On<|And.intro Ws<|And.intro Wu<|And.intro Ww<|And.intro Wv<|And.intro Wt<|And.intro S1<|And.intro Wz<|And.intro Hu Oo
theorem pJ (es:List (AV×AV)):(es.map (·.1)).zip (es.map (·.2))=es:=by
 induction es with
 |nil=>rfl
 |cons p es ih=>simp [ih]
def H1 (b:Nat) (o:iG):Hp:=Al.upd qZ b (some o)
theorem nN (b:Nat) (o:iG):H1 b o b=some o:=bE _ _ _
theorem gJ {b:Nat} {o:iG} (h:H b=some o):sR (H1 b o) H:=fun f i a=>by
 unfold H1 at a;by_cases e:f=b
 ·subst e
  rw[bE]at a;cases a;exact h
 rw[cI _ _ e]at a;cases a
def Ed (E:kC) (g:FuncId) (args:List AV) (H0:Hp) (v:AV):Prop:=oN E g args H0 (fun ae H'=>ae= .ret v∧H'=H0)
theorem aY.q {v v':AV} {a:Hp} (h:v=v') (f:sR a H):aY (fun e b=>e= .ret v'∧b=a) v H:=
 ⟨v,a,lN.drop f,by rw[h],rfl⟩
theorem Qc {a:Hp} (e:sR a H):lJ a a H=H:=by
 funext b;unfold lJ
 cases h:a b with
 |some o=>simp only;exact(e b o h).symm
 |none=>simp
end
section
variable {E : kC} {F : Nat → Prop} {ds : List (Option Nat)} {Q : fN} {d : Option Nat} {rest : List Oper} {fr : Fr} {H : Hp} {g : FuncId} {args : List AV} {v : AV}
theorem UQ {a:Hp} (k:Ed E g args a v) (e:sR a H) (j: ∀b,a b≠none→F b) (h:eI E F ds Q rest (eW fr d v) H):qU E F ds Q d rest fr H g args:=by
 refine nG k (fF.refl _) e j fun n l ⟨f,i⟩ _=>?_;subst f;subst i;simp only;rw[Qc e];exact h
theorem kA {b:Nat} {o:iG} (f:Ed E g args (H1 b o) v) (e:H b=some o) (a: ∀x,F x) (h:eI E F ds Q rest (eW fr d v) H):qU E F ds Q d rest fr H g args:=
 UQ f (gJ e) (fun x _=>a x) h
end
abbrev dC:=List UInt8
inductive Ex where
 |mk (kind op num:Int) (name:dC) (kids:List Ex)
inductive Sm where
 |mk (kind:Int) (name:dC) (es:List Ex) (thn els:List Sm)
structure Ar where
 name:dC
 size:Int
structure Fu where
 name:dC
 params:List dC
 locs:List dC
 word:Bool
 body:List Sm
structure Pg where
 vars:List dC
 arrs:List Ar
 funs:List Fu
def Ex.kind:Ex→Int| .mk k _ _ _ _=>k
def Ex.op:Ex→Int| .mk _ o _ _ _=>o
def Ex.num:Ex→Int| .mk _ _ n _ _=>n
def Ex.name:Ex→dC| .mk _ _ _ s _=>s
def Ex.kids:Ex→List Ex| .mk _ _ _ _ l=>l
def Sm.kind:Sm→Int| .mk k _ _ _ _=>k
def Sm.name:Sm→dC| .mk _ s _ _ _=>s
def Sm.es:Sm→List Ex| .mk _ _ l _ _=>l
def Sm.thn:Sm→List Sm| .mk _ _ _ l _=>l
def Sm.els:Sm→List Sm| .mk _ _ _ _ l=>l
def bQ (s:dC):List AV:=[.str s]
def strs (l:List dC):AV:= .isl 1 (l.map bQ)
mutual
def Ex.row:Ex→List AV
 | .mk k o n s l=>[.int .i64 k, .int .i64 o, .int .u32 n, .str s, .isl 5 (Xh l)]
def Xh:List Ex→List (List AV)
 |[]=>[]
 |e::l=>e.row::Xh l
end
theorem Ox: ∀l:List Ex,Xh l=l.map Ex.row
 |[]=>by simp only[Xh,dO]
 |e::l=>by simp only[Xh,cN,Ox l]
def exs (l:List Ex):AV:= .isl 5 (l.map Ex.row)
theorem Ex.row_eq (e:Ex):e.row=[.int .i64 e.kind, .int .i64 e.op, .int .u32 e.num, .str e.name, .isl 5 (e.kids.map Ex.row)]:=by
 cases e;simp only[Ex.row,Ox,Ex.kind,Ex.op,Ex.num,Ex.name,Ex.kids]
mutual
def Sm.row:Sm→List AV
 | .mk k s l t u=>[.int .i64 k, .str s,exs l, .isl 5 (Ov t), .isl 5 (Ov u)]
def Ov:List Sm→List (List AV)
 |[]=>[]
 |e::l=>e.row::Ov l
end
theorem Ou: ∀l:List Sm,Ov l=l.map Sm.row
 |[]=>by simp only[Ov,dO]
 |e::l=>by simp only[Ov,cN,Ou l]
def sms (l:List Sm):AV:= .isl 5 (l.map Sm.row)
theorem Sm.row_eq (s:Sm):s.row=[.int .i64 s.kind, .str s.name, .isl 5 (s.es.map Ex.row), .isl 5 (s.thn.map Sm.row), .isl 5 (s.els.map Sm.row)]:=by
 cases s;simp only[Sm.row,Ou,exs,Sm.kind,Sm.name,Sm.es,Sm.thn,Sm.els]
def Ar.row (a:Ar):List AV:=[.str a.name, .int .i64 a.size]
def ars (l:List Ar):AV:= .isl 2 (l.map Ar.row)
def Fu.row (f:Fu):List AV:=[.str f.name, .isl 1 (f.params.map bQ), .isl 1 (f.locs.map bQ), .bool f.word, .isl 5 (f.body.map Sm.row)]
def fus (l:List Fu):AV:= .isl 5 (l.map Fu.row)
def Pg.row (p:Pg):List AV:=[.isl 1 (p.vars.map bQ), .isl 2 (p.arrs.map Ar.row), .isl 5 (p.funs.map Fu.row)]
def Pg.av (p:Pg):AV:= .agg p.row
mutual
def Ex.sz:Ex→Nat
 | .mk _ _ _ _ l=>1+sN l
def sN:List Ex→Nat
 |[]=>0
 |e::l=>e.sz+sN l
end
mutual
def Sm.sz:Sm→Nat
 | .mk _ _ l t u=>1+sN l+oZ t+oZ u
def oZ:List Sm→Nat
 |[]=>0
 |e::l=>e.sz+oZ l
end
theorem Ex.sz_eq (e:Ex):e.sz=1+sN e.kids:=by cases e;simp only[Ex.sz,Ex.kids]
theorem Sm.sz_eq (s:Sm):s.sz=1+sN s.es+oZ s.thn+oZ s.els:=by cases s;simp only[Sm.sz,Sm.es,Sm.thn,Sm.els]
theorem nJ: ∀{l:List Ex} {e:Ex},e∈l→e.sz≤sN l
 |e::l,x,h=>by
  simp only[sN];rcases bP.1 h with rfl|h
  ·omega
  have:=nJ h;omega
theorem lU: ∀{l:List Sm} {e:Sm},e∈l→e.sz≤oZ l
 |e::l,x,h=>by
  simp only[oZ];rcases bP.1 h with rfl|h
  ·omega
  have:=lU h;omega
def fC {α:Type} (l:List α):Prop:=l.length≤9223372036854775807
def dX (n:Int):Prop:=0≤n∧n<4294967296
def jH (n:Int):Prop:= -9223372036854775808≤n∧n<9223372036854775808
inductive Ex.ok:Ex→Prop where
 |mk (k o n:Int) (s:dC) (l:List Ex) (hk:jH k) (ho:jH o) (hn:dX n) (hs:fC s) (hl:fC l) (h: ∀e∈l,Ex.ok e):Ex.ok (.mk k o n s l)
structure Bt (l:List Ex):Prop where
 fit:fC l
 all: ∀e∈l,e.ok
inductive Sm.ok:Sm→Prop where
 |mk (k:Int) (s:dC) (l:List Ex) (t u:List Sm) (hk:jH k) (hs:fC s) (hl:Bt l) (ht:fC t) (hta: ∀e∈t,Sm.ok e) (hu:fC u) (hua: ∀e∈u,Sm.ok e):Sm.ok (.mk k s l t u)
structure yM (l:List Sm):Prop where
 fit:fC l
 all: ∀e∈l,e.ok
structure WI (l:List dC):Prop where
 fit:fC l
 all: ∀s∈l,fC s
structure Fu.ok (f:Fu):Prop where
 name:fC f.name
 params:WI f.params
 locs:WI f.locs
 body:yM f.body
structure Pg.ok (p:Pg):Prop where
 vars:WI p.vars
 afit:fC p.arrs
 arrs: ∀a∈p.arrs,fC a.name∧jH a.size
 ffit:fC p.funs
 funs: ∀f∈p.funs,f.ok
theorem Ex.ok.kids {e:Ex} (h:e.ok):Bt e.kids:=by cases h;exact⟨by assumption,by assumption⟩
theorem Ex.ok.name {e:Ex} (h:e.ok):fC e.name:=by cases h;assumption
theorem Ex.ok.num {e:Ex} (h:e.ok):dX e.num:=by cases h;assumption
theorem Ex.ok.kind {e:Ex} (h:e.ok):jH e.kind:=by cases h;assumption
theorem Ex.ok.op {e:Ex} (h:e.ok):jH e.op:=by cases h;assumption
theorem Sm.ok.es {s:Sm} (h:s.ok):Bt s.es:=by cases h;assumption
theorem Sm.ok.thn {s:Sm} (h:s.ok):yM s.thn:=by cases h;exact⟨by assumption,by assumption⟩
theorem Sm.ok.els {s:Sm} (h:s.ok):yM s.els:=by cases h;exact⟨by assumption,by assumption⟩
theorem Sm.ok.name {s:Sm} (h:s.ok):fC s.name:=by cases h;assumption
theorem Sm.ok.kind {s:Sm} (h:s.ok):jH s.kind:=by cases h;assumption
theorem uK {a:Type} (f:a→List AV) {l:List a} {i:Nat} {x:a} (h:l[i]?=some x):(l.map f)[i]?=some (f x):=by
 rw[dT,h];rfl
theorem qG {l:List Ex} {i:Nat} {e:Ex} (h:l[i]?=some e):(l.map Ex.row)[i]?=some [.int .i64 e.kind, .int .i64 e.op, .int .u32 e.num, .str e.name, .isl 5 (e.kids.map Ex.row)]:=by
 rw[uK _ h,e.row_eq]
theorem Jg {l:List Sm} {i:Nat} {s:Sm} (h:l[i]?=some s):(l.map Sm.row)[i]?=some [.int .i64 s.kind, .str s.name, .isl 5 (s.es.map Ex.row), .isl 5 (s.thn.map Sm.row), .isl 5 (s.els.map Sm.row)]:=by
 rw[uK _ h,s.row_eq]
theorem Nv {l:List dC} {i:Nat} {s:dC} (h:l[i]?=some s):(l.map bQ)[i]?=some [.str s]:=uK _ h
theorem qF {l:List Fu} {i:Nat} {f:Fu} (h:l[i]?=some f):(l.map Fu.row)[i]?=some [.str f.name, .isl 1 (f.params.map bQ), .isl 1 (f.locs.map bQ), .bool f.word, .isl 5 (f.body.map Sm.row)]:=uK _ h
theorem N2 {l:List Ar} {i:Nat} {a:Ar} (h:l[i]?=some a):(l.map Ar.row)[i]?=some [.str a.name, .int .i64 a.size]:=uK _ h
section
open Go.ChangeShapes Go.WideShapes
section
variable {H : Type} {enc : TypeId × Value → H} {P : Program} {w : World} {sp : Nat → Bool} {held : Bool}
def vY (P:Program) (t:TypeId):Option (List (TypeId×Nat)):=match P.underlying t with
 |some (.struct fs)=>some (fs.toList.map fun f=>(f.type,f.offset))
 |_=>none
end
structure YX (P:Program) where
 int:TypeId
 u32:TypeId
 str:TypeId
 bool:TypeId
 strs:TypeId
 ex:TypeId
 exs:TypeId
 sm:TypeId
 sms:TypeId
 ar:TypeId
 ars:TypeId
 fu:TypeId
 fus:TypeId
 pg:TypeId
 uInt:P.underlying int=some (.int .i64)
 uU32:P.underlying u32=some (.int .u32)
 VM:P.underlying str=some .string
 QI:P.underlying bool=some .bool
 uStrs:P.underlying strs=some (.slice str)
 uEx:vY P ex=some [(int,0),(int,1),(u32,2),(str,3),(exs,4)]
 uExs:P.underlying exs=some (.slice ex)
 uSm:vY P sm=some [(int,0),(str,1),(exs,2),(sms,3),(sms,4)]
 uSms:P.underlying sms=some (.slice sm)
 uAr:vY P ar=some [(str,0),(int,1)]
 uArs:P.underlying ars=some (.slice ar)
 uFu:vY P fu=some [(str,0),(strs,1),(strs,2),(bool,3),(sms,4)]
 uFus:P.underlying fus=some (.slice fu)
 uPg:vY P pg=some [(strs,0),(ars,1),(fus,2)]
 c1:[int,u32,str,bool,strs,exs,sms,ars,fus].all (fun t=>P.cellsOf t==1)=true
 cEx:P.cellsOf ex=5
 cSm:P.cellsOf sm=5
 cAr:P.cellsOf ar=2
 cFu:P.cellsOf fu=5
 cPg:P.cellsOf pg=3
section
variable {H : Type} {enc : TypeId × Value → H} {P : Program} {w : World} {sp : Nat → Bool} {held : Bool} (T : YX P)
theorem YX.one1 {t:TypeId} (h:t∈[T.int,T.u32,T.str,T.bool,T.strs,T.exs,T.sms,T.ars,T.fus]):P.cellsOf t=1:=by
 have:=dB.1 T.c1 t h;simpa using this
theorem Rm {cs:List Value} (h:cs.length=2): ∃a b,cs=[a,b]:=by
 match cs,h with
 |[a,b],_=>exact⟨a,b,rfl⟩
theorem Ex.row_len (e:Ex):e.row.length=5:=by rw[e.row_eq];rfl
theorem Sm.row_len (s:Sm):s.row.length=5:=by rw[s.row_eq];rfl
end
end
theorem iY.get {x y:List AV} (h:iY x y): ∀(j:Nat) a b,x[j]?=some a→y[j]?=some b→hP a b:=by
 induction h with
 |nil=>intro j a b c;simp at c
 |cons h _ ih=>
  intro j a b c d
  cases j with
  |zero=>simp at c d;subst c;subst d;exact h
  |succ j=>exact ih j a b (by simpa using c) (by simpa using d)
theorem CB {E:kC} {N:Nat} {Q:fN} {c:Code} {fr:Fr} {H:Hp} {b sz:Nat} {r d:List AV} (g:H b=some (.rows sz [r])) (e:iY r d) (h:mD E N c Q fr (upd H b (some (.rows sz [d])))):mD E N c Q fr H:=
 Up (l':=[d]) g rfl (fun i x j a f=>by
  cases i with
  |zero=>simp at a f;subst a;subst f;exact⟨e.len,e.get⟩
  |succ i=>simp at a) h
def tK:AV→Bool
 | .osl _ _ _=>false
 |_=>true
theorem JB {b:Type} {f:b→List AV} (c: ∀a,(f a).all one=true) (xs:List b):(xs.map f).all (fun r=>r.all one)=true:=by
 simp only[List.all_map,dB];exact fun x _=>c x
end Go.Al
