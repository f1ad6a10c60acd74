/- The little logic, fifteenth part: how a list of operations is gone through, one rule an operation, each by unfolding. The little logic, sixteenth part: what an operation looks at, and what it leaves alone. The little logic, seventeenth part: regions that draw their order. The little logic, eighteenth part: rules for use. The little logic, nineteenth part: lists that are built by append and handed back. The little logic, twentieth part: what a contract says to the kit's cards. Tables of texts that a row lists: their cells. The little logic: from a law's contract to the card's step, for arguments of whatever types. The little logic: the rewriting rules that every walk uses, as one. -/
import Derived.Test.YtaecpjgmcffliaaGreatDoorAl2
import Derived.Orders
import Derived.IntWalk
import Derived.RowKit3
import Derived.Lib.LaidTab
import Derived.Carry
import Derived.OpenShut
set_option linter.unusedSimpArgs false
set_option linter.unusedVariables false
set_option maxRecDepth 10000
namespace Go.Al
section
variable (E : fR) (F : Nat → Prop) (ds : List (Option Nat)) (Q : dN) (d : Option Nat) (ty : TypeId) (pos : String) (af : Array Edge) (rest : List Oper) (fr : Fr) (H : Hp)
def lS (o:Option AV):Prop:=match o with |some v=>cI E F ds Q rest (dF fr d v) H|none=>False
theorem Br (v:AV):lS E F ds Q d rest fr H (some v)=cI E F ds Q rest (dF fr d v) H:=Eq.trans rfl rfl
theorem Jh:cI E F ds Q [] fr H=Q .normal fr H:=Eq.trans rfl rfl
theorem Bw (x:Operand):cI E F ds Q (⟨d, .move x,ty,pos,af,none⟩::rest) fr H=cI E F ds Q rest (dF fr d (ev E.G fr x)) H:=Eq.trans rfl rfl
theorem uV (x:Operand):cI E F ds Q (⟨d, .assign x,ty,pos,af,none⟩::rest) fr H=cI E F ds Q rest (dF fr d (ev E.G fr x)) H:=Eq.trans rfl rfl
theorem Bv (c x y:Operand):cI E F ds Q (⟨d, .pick c x y,ty,pos,af,none⟩::rest) fr H=lS E F ds Q d rest fr H (aq E H fr (.pick c x y)):=Eq.trans rfl rfl
theorem By (t:TypeId) (x:Operand):cI E F ds Q (⟨d, .load t x,ty,pos,af,none⟩::rest) fr H=lS E F ds Q d rest fr H (aq E H fr (.load t x)):=Eq.trans rfl rfl
theorem qO (x:Operand):cI E F ds Q (⟨d, .nilCheck x,ty,pos,af,none⟩::rest) fr H=lS E F ds Q d rest fr H (aq E H fr (.nilCheck x)):=Eq.trans rfl rfl
theorem yI (o:BinOp) (t u:TypeId) (x y:Operand):cI E F ds Q (⟨d, .binOp o t x y u,ty,pos,af,none⟩::rest) fr H=lS E F ds Q d rest fr H (aq E H fr (.binOp o t x y u)):=Eq.trans rfl rfl
theorem Bt (o:UnOp) (t:TypeId) (x:Operand):cI E F ds Q (⟨d, .unOp o t x,ty,pos,af,none⟩::rest) fr H=lS E F ds Q d rest fr H (aq E H fr (.unOp o t x)):=Eq.trans rfl rfl
theorem sS (s t:TypeId) (x:Operand):cI E F ds Q (⟨d, .convert s t x,ty,pos,af,none⟩::rest) fr H=lS E F ds Q d rest fr H (aq E H fr (.convert s t x)):=Eq.trans rfl rfl
theorem yB (t:TypeId) (x:Operand) (l h m:Option Operand):cI E F ds Q (⟨d, .slice t x l h m,ty,pos,af,none⟩::rest) fr H=lS E F ds Q d rest fr H (aq E H fr (.slice t x l h m)):=Eq.trans rfl rfl
theorem pJ (t:TypeId) (x:Operand) (f:Nat):cI E F ds Q (⟨d, .fieldAddr t x f,ty,pos,af,none⟩::rest) fr H=lS E F ds Q d rest fr H (aq E H fr (.fieldAddr t x f)):=Eq.trans rfl rfl
theorem yF (t:TypeId) (x:Operand) (f:Nat):cI E F ds Q (⟨d, .field t x f,ty,pos,af,none⟩::rest) fr H=lS E F ds Q d rest fr H (aq E H fr (.field t x f)):=Eq.trans rfl rfl
theorem pI (t:TypeId) (x i:Operand):cI E F ds Q (⟨d, .indexAddr t x i,ty,pos,af,none⟩::rest) fr H=lS E F ds Q d rest fr H (aq E H fr (.indexAddr t x i)):=Eq.trans rfl rfl
theorem yD (t:TypeId) (x i:Operand):cI E F ds Q (⟨d, .index t x i,ty,pos,af,none⟩::rest) fr H=lS E F ds Q d rest fr H (aq E H fr (.index t x i)):=Eq.trans rfl rfl
theorem sR (x:Operand) (i:Nat):cI E F ds Q (⟨d, .extract x i,ty,pos,af,none⟩::rest) fr H=lS E F ds Q d rest fr H (aq E H fr (.extract x i)):=Eq.trans rfl rfl
theorem kW (t:TypeId) (x:Operand):cI E F ds Q (⟨d, .makeInterface t x,ty,pos,af,none⟩::rest) fr H=lS E F ds Q d rest fr H (aq E H fr (.makeInterface t x)):=Eq.trans rfl rfl
theorem qP (f:Fn) (x y:Array Operand):cI E F ds Q (⟨d, .makeFunc f x y,ty,pos,af,none⟩::rest) fr H=lS E F ds Q d rest fr H (aq E H fr (.makeFunc f x y)):=Eq.trans rfl rfl
theorem uT (t:TypeId) (x k:Operand) (ok:Bool):cI E F ds Q (⟨d, .lookup t x k ok,ty,pos,af,none⟩::rest) fr H=lS E F ds Q d rest fr H (aq E H fr (.lookup t x k ok)):=Eq.trans rfl rfl
theorem yH (t:TypeId) (ps:Array (Nat×Operand)):cI E F ds Q (⟨d, .build t ps,ty,pos,af,none⟩::rest) fr H=lS E F ds Q d rest fr H (aq E H fr (.build t ps)):=Eq.trans rfl rfl
theorem Jl (args:Array Operand) (ts:Array TypeId):cI E F ds Q (⟨d, .call ⟨.builtin .len,args,ts⟩,ty,pos,af,none⟩::rest) fr H=lS E F ds Q d rest fr H (aq E H fr (.call ⟨.builtin .len,args,ts⟩)):=Eq.trans rfl rfl
theorem Ji (args:Array Operand) (ts:Array TypeId):cI E F ds Q (⟨d, .call ⟨.builtin .min,args,ts⟩,ty,pos,af,none⟩::rest) fr H=lS E F ds Q d rest fr H (aq E H fr (.call ⟨.builtin .min,args,ts⟩)):=Eq.trans rfl rfl
theorem Jj (args:Array Operand) (ts:Array TypeId):cI E F ds Q (⟨d, .call ⟨.builtin .max,args,ts⟩,ty,pos,af,none⟩::rest) fr H=lS E F ds Q d rest fr H (aq E H fr (.call ⟨.builtin .max,args,ts⟩)):=Eq.trans rfl rfl
def Uw (b:Option Bool) (o:Oper):Prop:=match b with |some true=>cI E F ds Q (o::rest) fr H|some false=>cI E F ds Q rest (dF fr o.dst (.tup [])) H|none=>False
theorem yE (o:Op) (g:Nat×Bool):cI E F ds Q (⟨d,o,ty,pos,af,some g⟩::rest) fr H=Uw E F ds Q rest fr H (gI ds fr (some g)) ⟨d,o,ty,pos,af,none⟩:=by
 simp only[cI,aop,Uw];generalize gI ds fr (some g)=b
 cases b with
 |none=>cases o<;>rfl
 |some b=>cases b<;>cases o<;>rfl
theorem Cc (o:Oper):Uw E F ds Q rest fr H (some true) o=cI E F ds Q (o::rest) fr H:=Eq.trans rfl rfl
theorem yK (o:Oper):Uw E F ds Q rest fr H (some false) o=cI E F ds Q rest (dF fr o.dst (.tup [])) H:=Eq.trans rfl rfl
variable {E F ds Q d ty pos af rest fr H}
theorem aR {b:Bool} {o:Oper} (h1:b=true→cI E F ds Q (o::rest) fr H) (h2:b=false→cI E F ds Q rest (dF fr o.dst (.tup [])) H):Uw E F ds Q rest fr H (some b) o:=by
 cases b
 ·exact h2 rfl
 exact h1 rfl
theorem aO {b:Bool} {o:Oper} (h1:b=false→cI E F ds Q (o::rest) fr H) (h2:b=true→cI E F ds Q rest (dF fr o.dst (.tup [])) H):Uw E F ds Q rest fr H (some (!b)) o:=by
 cases b
 ·exact h1 rfl
 exact h2 rfl
variable (E F ds Q d ty pos af rest fr H)
def H9 (p:Option ((Nat→AV)×iG)):Prop:=match p with |some p=> ∀b,H b=none→cI E F ds Q rest (dF fr d (p.1 b)) (upd H b (some p.2))|none=>False
theorem yJ (t:TypeId):cI E F ds Q (⟨d, .alloc t,ty,pos,af,none⟩::rest) fr H=H9 E F ds Q d rest fr H (fF E fr (.alloc t)):=Eq.trans rfl rfl
theorem Jm (t:TypeId) (x:Operand):cI E F ds Q (⟨d, .box t x,ty,pos,af,none⟩::rest) fr H=H9 E F ds Q d rest fr H (fF E fr (.box t x)):=Eq.trans rfl rfl
theorem sQ (t:TypeId) (r:Option Operand):cI E F ds Q (⟨d, .makeMap t r,ty,pos,af,none⟩::rest) fr H=H9 E F ds Q d rest fr H (fF E fr (.makeMap t r)):=Eq.trans rfl rfl
theorem pH (t:TypeId) (l c:Operand):cI E F ds Q (⟨d, .makeSlice t l c,ty,pos,af,none⟩::rest) fr H=H9 E F ds Q d rest fr H (fF E fr (.makeSlice t l c)):=Eq.trans rfl rfl
variable {E F ds Q d ty pos af rest fr H}
theorem aT {p:(Nat→AV)×iG} (h: ∀b,H b=none→cI E F ds Q rest (dF fr d (p.1 b)) (upd H b (some p.2))):H9 E F ds Q d rest fr H (some p):=h
variable (E F ds Q d ty pos af rest fr H)
def Z3 (len:Nat) (p:Option (Nat×List (List AV))):Prop:=match p with
 |some p=>cI E F ds Q rest (dF fr d (.isl p.1 p.2)) H∨ ∀b,H b=none→cI E F ds Q rest (dF fr d (.osl p.1 b len)) (upd H b (some (.rows p.1 p.2)))
 |none=>False
theorem nZ (t:TypeId) (len:Nat) (ps:Array (Nat×Operand)):cI E F ds Q (⟨d, .buildSlice t len ps,ty,pos,af,none⟩::rest) fr H=Z3 E F ds Q d rest fr H len (zT E fr t len ps):=Eq.trans rfl rfl
variable {E F ds Q d ty pos af rest fr H}
theorem cK {len sz:Nat} {rows:List (List AV)} (h:cI E F ds Q rest (dF fr d (.isl sz rows)) H):Z3 E F ds Q d rest fr H len (some (sz,rows)):= .inl h
theorem yM {len sz:Nat} {rows:List (List AV)} (h: ∀b,H b=none→cI E F ds Q rest (dF fr d (.osl sz b len)) (upd H b (some (.rows sz rows)))):Z3 E F ds Q d rest fr H len (some (sz,rows)):= .inr h
variable (E F ds Q d ty pos af rest fr H)
def Et (q:Option (Nat×Hp)):Prop:=match q with |some q=>F q.1∧cI E F ds Q rest (dF fr d (.tup [])) q.2|none=>False
theorem Bq (q:Nat×Hp):Et E F ds Q d rest fr (some q)=(F q.1∧cI E F ds Q rest (dF fr d (.tup [])) q.2):=Eq.trans rfl rfl
theorem xZ (t:TypeId) (p x:Operand):cI E F ds Q (⟨d, .store t p x,ty,pos,af,none⟩::rest) fr H=Et E F ds Q d rest fr (pK E H fr t p x):=by
 simp only[cI,aop,gI,gC,Et];split<;>simp [*]
theorem pG (t:TypeId) (m k x:Operand):cI E F ds Q (⟨d, .mapUpdate t m k x,ty,pos,af,none⟩::rest) fr H=Et E F ds Q d rest fr (jW E H fr t m k x):=by
 simp only[cI,aop,gI,gC,Et];split<;>simp [*]
theorem uU (t:TypeId) (m k x:Operand):cI E F ds Q (⟨d, .insert t m k x,ty,pos,af,none⟩::rest) fr H=Et E F ds Q d rest fr (jW E H fr t m k x):=by
 simp only[cI,aop,gI,gC,Et];split<;>simp [*]
def Oh (p:Option (Nat×Nat×AV×List (List AV))):Prop:=match p with
 |some (sz,by', .nsl,ys)=>ys.length *by'≤140737488355328∧(ys=[]→cI E F ds Q rest (dF fr d .nsl) H)∧(ys≠[]→ ∀b,H b=none→cI E F ds Q rest (dF fr d (.osl sz b ys.length)) (upd H b (some (.rows sz ys))))
 |some (sz,by', .osl sz' b len,ys)=>match H b with
  |some (.rows sz'' l)=>sz'=sz∧sz''=sz∧len=l.length∧(l.length+ys.length) *by'≤140737488355328∧F b∧
   ∀b',(b'=b∨H b'=none)→cI E F ds Q rest (dF fr d (.osl sz b' (l.length+ys.length))) (upd (upd H b none) b' (some (.rows sz (l++ys))))
  |_=>False
 |_=>False
theorem yG (args:Array Operand) (ts:Array TypeId):cI E F ds Q (⟨d, .call ⟨.builtin .clear,args,ts⟩,ty,pos,af,none⟩::rest) fr H=Et E F ds Q d rest fr (lU E H fr args ts):=by
 simp only[cI,aop,gI,gC,Et];split<;>simp [*]
def Z1 (q:Option (Nat×Hp×Nat)):Prop:=match q with |some q=>F q.1∧cI E F ds Q rest (dF fr d (.int .i64 q.2.2)) q.2.1|none=>False
theorem Bo (q:Nat×Hp×Nat):Z1 E F ds Q d rest fr (some q)=(F q.1∧cI E F ds Q rest (dF fr d (.int .i64 q.2.2)) q.2.1):=Eq.trans rfl rfl
theorem Bz (args:Array Operand) (ts:Array TypeId):cI E F ds Q (⟨d, .call ⟨.builtin .copy,args,ts⟩,ty,pos,af,none⟩::rest) fr H=Z1 E F ds Q d rest fr (qR E H fr args ts):=by
 simp only[cI,aop,gI,gC,Z1];split<;>simp [*]
theorem uW (args:Array Operand) (ts:Array TypeId):cI E F ds Q (⟨d, .call ⟨.builtin .append,args,ts⟩,ty,pos,af,none⟩::rest) fr H=Oh E F ds Q d rest fr H (Fb E H fr args ts):=Eq.trans rfl rfl
def BH (v:AV):Prop:=match v with | .ifc t x=>Q (.pan (.ifc t x)) Ud H|_=>False
theorem Jg (t:TypeId) (x:AV):BH Q H (.ifc t x)=Q (.pan (.ifc t x)) Ud H:=Eq.trans rfl rfl
theorem yC (x:Operand):cI E F ds Q (⟨d, .panic x,ty,pos,af,none⟩::rest) fr H=BH Q H (ev E.G fr x):=Eq.trans rfl rfl
def oJ (g:FuncId) (args:List AV):Prop:= ∃args' H0 R,cY args args'∧rK E g args' H0 R∧mQ H0 H∧(∀b,H0 b≠none→F b)∧
 ∀ae H',R ae H'→(∀b,H' b≠none→H0 b≠none∨H b=none)→(match ae with | .ret v=>cI E F ds Q rest (dF fr d v) (gA H' H0 H)| .pan v=>Q (.pan v) Ud (gA H' H0 H))
def BI (f:AV) (args:List AV):Prop:=match f with | .fn (.func g) first cap=>oJ E F ds Q d rest fr H g (first++args++cap)|_=>False
theorem Qu (g:FuncId) (first cap args:List AV):BI E F ds Q d rest fr H (.fn (.func g) first cap) args=oJ E F ds Q d rest fr H g (first++args++cap):=Eq.trans rfl rfl
theorem Cb (f:Operand) (args:Array Operand) (ts:Array TypeId):cI E F ds Q (⟨d, .call ⟨.value f,args,ts⟩,ty,pos,af,none⟩::rest) fr H=BI E F ds Q d rest fr H (ev E.G fr f) (args.toList.map (ev E.G fr)):=Eq.trans rfl rfl
end
theorem jB (next:Fr→Hp→Prop) (Q:dN) (fr:Fr) (H:Hp):aU next Q .normal fr H=next fr H:=Eq.trans rfl rfl
theorem aB {E:fR} {N:Nat} {Q:dN} {fr:Fr} {H:Hp} {x y:Code} (h: ∀K:Fr→Hp→Prop,(∀fr H,jV E N y Q fr H→K fr H)→jV E N x (aU K Q) fr H):jV E N (.seq x y) Q fr H:=
 aJ (h _ fun _ _ h=>h)
theorem Jc (b x y:Bool):(if b=true then AV.bool x else AV.bool y)=AV.bool (if b=true then x else y):=by split<;>rfl
def cM (E:fR) (g:FuncId) (args:List AV) (v:AV):Prop:=rK E g args lG (fun ae H'=>ae= .ret v∧H'=lG)
section
variable {E : fR} {F : Nat → Prop} {ds : List (Option Nat)} {Q : dN} {d : Option Nat} {rest : List Oper} {fr : Fr} {H : Hp} {g : FuncId} {args : List AV}
theorem Cd {args':List AV} {v:AV} (hc:cM E g args' v) (hs:cY args args') (h:cI E F ds Q rest (dF fr d v) H):oJ E F ds Q d rest fr H g args:=
 ⟨args',lG,_,hs,hc,mP H,fun _ hb=>absurd rfl hb,fun ae H' ⟨e1,e2⟩ _=>by subst e1;subst e2;rw[Ua];exact h⟩
theorem aP {v:AV} (hc:cM E g args v) (h:cI E F ds Q rest (dF fr d v) H):oJ E F ds Q d rest fr H g args:=Cd hc (cY.refl _) h
theorem jH {args':List AV} {H0:Hp} {R:vK→Hp→Prop} (hc:rK E g args' H0 R) (hs:cY args args') (hh:mQ H0 H) (hF: ∀b,H0 b≠none→F b)
  (h: ∀ae H',R ae H'→(∀b,H' b≠none→H0 b≠none∨H b=none)→(match ae with | .ret v=>cI E F ds Q rest (dF fr d v) (gA H' H0 H)| .pan v=>Q (.pan v) Ud (gA H' H0 H))):oJ E F ds Q d rest fr H g args:=
 ⟨args',H0,R,hs,hc,hh,hF,h⟩
end
end Go.Al
namespace Go.Al
def calm:Op→Bool
 | .move _| .assign _| .pick _ _ _| .load _ _| .nilCheck _| .binOp _ _ _ _ _| .unOp _ _ _| .convert _ _ _| .slice _ _ _ _ none| .fieldAddr _ _ _| .field _ _ _| .indexAddr _ _ _| .index _ _ _
 | .makeInterface _ _| .makeFunc _ _ _| .lookup _ _ _ _| .extract _ _| .build _ _| .call ⟨.builtin .len,_,_⟩| .call ⟨.builtin .min,_,_⟩| .call ⟨.builtin .max,_,_⟩=>true
 |_=>false
def dG:Op→Option Operand
 | .load _ x=>some x
 | .lookup _ x _ _=>some x
 |_=>none
section
variable {E : fR} {F : Nat → Prop} {fr fr' : Fr} {H H' : Hp} {K Kp : AV → Hp → Prop}
theorem nH {xs:List Operand} (h: ∀x∈xs,ev E.G fr x=ev E.G fr' x):xs.map (ev E.G fr)=xs.map (ev E.G fr'):=List.map_congr_left h
theorem nF {x:Option Operand} (h: ∀y,x=some y→ev E.G fr y=ev E.G fr' y):x.map (ev E.G fr)=x.map (ev E.G fr'):=by
 cases x with
 |none=>rfl
 |some y=>simp [h y rfl]
theorem nS {size:Nat}: ∀(ps:List (Nat×Operand)) (k:Nat),(∀p∈ps,ev E.G fr p.2=ev E.G fr' p.2)→iQ E fr size k ps=iQ E fr' size k ps
 |[],_,_=>rfl
 |(i,x)::r,k,h=>by
  simp only[iQ,h (i,x) (by simp),nS r (k+1) fun p hp=>h p (by simp [hp])]
theorem yO {o:Op} (h: ∀x∈o.operands,ev E.G fr x=ev E.G fr' x):aq E H fr o=aq E H fr' o:=by
 cases o<;>simp only[Op.operands]at h<;>try (first|rfl|(simp only[aq];done))
 case slice t x lo hi m=>
  cases m with
  |some m=>rfl
  |none=>
   have h1:=h x (by simp);have h2:lo.map (ev E.G fr)=lo.map (ev E.G fr'):=nF fun y hy=>h y (by simp [hy]);have h3:hi.map (ev E.G fr)=hi.map (ev E.G fr'):=nF fun y hy=>h y (by simp [hy]);simp only[aq,h1,h2,h3]
 case makeFunc f xs ys=>
  have h1:=nH (E:=E) (fr:=fr) (fr':=fr') (xs:=xs.toList) fun x hx=>h x (by simp at hx;simp [hx]);have h2:=nH (E:=E) (fr:=fr) (fr':=fr') (xs:=ys.toList) fun x hx=>h x (by simp at hx;simp [hx]);simp only[aq,h1,h2]
 case build t ps=>
  have h1:(ps.toList.map fun p=>(p.1,ev E.G fr p.2))=ps.toList.map fun p=>(p.1,ev E.G fr' p.2):=List.map_congr_left fun p hp=>by
   rw[h p.2 (by simp only[List.mem_toArray,List.mem_map];exact⟨p,hp,rfl⟩)]
  simp only[aq,h1]
 case typeAssert x t u ok=>
  have h1:=h x (by simp)
  cases ok with
  |false=>rfl
  |true=>simp only[aq,h1]
 case call c=>
  obtain⟨f,args,ts⟩:=c
  cases f with
  |value=>rfl
  |invoke=>rfl
  |builtin b=>
   have h1: ∀x∈args.toList,ev E.G fr x=ev E.G fr' x:=fun x hx=>h x (by simp at hx;simp [Call.operands,hx]);cases b<;>try rfl
   all_goals
    simp only[aq];split
    all_goals first
     |rfl
     |(rename_i e;rw[e]at h1;simp only[List.mem_cons,List.not_mem_nil,or_false,forall_eq_or_imp,forall_eq]at h1;simp only[h1];done)
     |(rename_i e _;rw[e]at h1;simp only[List.mem_cons,List.not_mem_nil,or_false,forall_eq]at h1;simp only[h1];done)
 all_goals
  simp only[List.mem_toArray,List.mem_cons,List.not_mem_nil,or_false,forall_eq_or_imp,forall_eq]at h;simp only[aq,h]
theorem uX {o:Op} (h: ∀x∈o.operands,ev E.G fr x=ev E.G fr' x):gC E F o fr H K Kp=gC E F o fr' H K Kp:=by
 have hq:=yO (H:=H) h;cases o<;>simp only[Op.operands]at h
 case buildSlice t n ps=>
  have h1:=fun size=>nS (E:=E) (fr:=fr) (fr':=fr') (size:=size) ps.toList 0 fun p hp=>h p.2 (by simp only[List.mem_toArray,List.mem_map];exact⟨p,hp,rfl⟩);simp only[gC,zT,h1]
 case makeMap t r=>
  have h1:r.map (ev E.G fr)=r.map (ev E.G fr'):=nF fun y hy=>h y (by simp [hy]);simp only[gC,fF,h1]
 case call c=>
  obtain⟨f,args,ts⟩:=c
  cases f with
  |invoke=>simp only[gC,hq]
  |value f=>
   have h1:=nH (E:=E) (fr:=fr) (fr':=fr') (xs:=args.toList) fun x hx=>h x (by simp at hx;simp [Call.operands,hx]);have h2:=h f (by simp [Call.operands]);simp only[gC,h1,h2]
  |builtin b=>
   have h1: ∀x∈args.toList,ev E.G fr x=ev E.G fr' x:=fun x hx=>h x (by simp at hx;simp [Call.operands,hx]);cases b<;>try (simp only[gC,hq];done)
   case append=>
    have h2:Fb E H fr args ts=Fb E H fr' args ts:=by
     simp only[Fb];split
     ·rename_i e _;rw[e]at h1;simp only[List.mem_cons,List.not_mem_nil,or_false,forall_eq_or_imp,forall_eq]at h1;simp only[h1]
     rfl
    simp only[gC,h2]
   case clear=>
    have h2:lU E H fr args ts=lU E H fr' args ts:=by
     simp only[lU];split
     ·rename_i e _;rw[e]at h1;simp only[List.mem_cons,List.not_mem_nil,or_false,forall_eq]at h1;simp only[h1]
     rfl
    simp only[gC,h2]
   case copy=>
    have h2:qR E H fr args ts=qR E H fr' args ts:=by
     simp only[qR];split
     ·rename_i e _;rw[e]at h1;simp only[List.mem_cons,List.not_mem_nil,or_false,forall_eq_or_imp,forall_eq]at h1;simp only[h1]
     rfl
    simp only[gC,h2]
 all_goals first
  |(simp only[gC,hq];done)
  |(simp only[List.mem_toArray,List.mem_cons,List.not_mem_nil,or_false,forall_eq_or_imp,forall_eq]at h
    simp only[gC,fF,pK,jW,h])
  |(simp only[gC,fF])
def oH (F:Nat→Prop) (H H':Hp):Prop:= ∀b,H b≠none→ ¬F b→H' b=H b
theorem kY {o:Op} (hc:calm o=true):gC E F o fr H K Kp=(match aq E H fr o with |some v=>K v H|none=>False):=by
 cases o<;>simp only[calm,Bool.false_eq_true]at hc<;>try rfl
 case call c=>
  obtain⟨f,args,ts⟩:=c
  cases f with
  |invoke=>simp at hc
  |value=>simp at hc
  |builtin b=>cases b<;>simp at hc<;>rfl
theorem Oj {t:TypeId} {p x:Operand} {q:Nat×Hp} (h:pK E H fr t p x=some q): ∃o,q.2=upd H q.1 o:=by
 simp only[pK]at h;split at h<;>first|(cases h;done)|skip
 split at h<;>first|(cases h;done)|skip
 simp only[bU,Option.ite_none_right_eq_some]at h;obtain⟨_,_,_,_,_,_,_,h⟩:=h;cases h;exact⟨_,rfl⟩
theorem uZ {t:TypeId} {m k x:Operand} {q:Nat×Hp} (h:jW E H fr t m k x=some q): ∃o,q.2=upd H q.1 o:=by
 simp only[jW]at h;split at h<;>first|(cases h;done)|skip
 split at h<;>first|(cases h;done)|skip
 rw[bH]at h;obtain⟨_,_,rfl⟩:=h;exact⟨_,rfl⟩
theorem On {args:Array Operand} {ts:Array TypeId} {q:Nat×Hp} (h:lU E H fr args ts=some q): ∃o,q.2=upd H q.1 o:=by
 simp only[lU]at h;split at h<;>first|(cases h;done)|skip
 split at h<;>first|(cases h;done)|skip
 rw[bU]at h;obtain⟨_,_,h⟩:=h;split at h<;>first|(cases h;done)|skip
 split at h<;>first|(cases h;done)|skip
 cases h;exact⟨_,rfl⟩
theorem Vb {args:Array Operand} {ts:Array TypeId} {q:Nat×Hp×Nat} (h:qR E H fr args ts=some q): ∃o,q.2.1=upd H q.1 o:=by
 simp only[qR]at h;split at h<;>first|(cases h;done)|skip
 split at h<;>first|(cases h;done)|skip
 rw[bU]at h;obtain⟨_,_,h⟩:=h;split at h<;>first|(cases h;done)|skip
 split at h<;>first|(cases h;done)|skip
 cases h;exact⟨_,rfl⟩
theorem nR {o:Op} {K' Kp':AV→Hp→Prop} (hk: ∀v H',oH F H H'→K v H'→K' v H') (hp: ∀v H',Kp v H'→Kp' v H') (h:gC E F o fr H K Kp):gC E F o fr H K' Kp':=by
 have new: ∀{b:Nat} {o:iG},H b=none→oH F H (upd H b (some o)):=fun {b o} hb b' h1 _=>by
  have hne:b'≠b:=fun e=>h1 (e▸hb);simp [upd,hne]
 have set: ∀{b:Nat} {o:Option iG},F b→oH F H (upd H b o):=fun {b o} hb b' _ h1=>by
  have hne:b'≠b:=fun e=>h1 (e▸hb);simp [upd,hne]
 have same:oH F H H:=fun _ _ _=>rfl;unfold gC at *;split at h
 case h_9=>split at h<;>first|exact h.elim|exact hp _ _ h
 case h_10=>
  split at h<;>first|exact h.elim|skip
  ·exact⟨h.1,fun e=>hk _ _ same (h.2.1 e),fun e b hb=>hk _ _ (new hb) (h.2.2 e b hb)⟩
  split at h<;>first|exact h.elim|skip
  obtain⟨h1,h2,h3,h4,h5,h6⟩:=h;refine⟨h1,h2,h3,h4,h5,fun b' hb=>hk _ _ (fun b'' g1 g2=>?_) (h6 b' hb)⟩;have hne:b''≠_:=fun e=>g2 (e▸h5)
  have hne2:b''≠b':=fun e=>by
   rcases hb with hb|hb
   ·exact hne (e.trans hb)
   exact g1 (e▸hb)
  simp [upd,hne,hne2]
 case h_11=>
  split at h<;>first|exact h.elim|skip
  rename_i q hq;obtain⟨o,e⟩:=On hq;exact⟨h.1,hk _ _ (by rw[e];exact set h.1) h.2⟩
 case h_12=>
  split at h<;>first|exact h.elim|skip
  rename_i q hq;obtain⟨o,e⟩:=Vb hq;exact⟨h.1,hk _ _ (by rw[e];exact set h.1) h.2⟩
 case h_13=>
  split at h<;>first|exact h.elim|skip
  obtain⟨args',H0,R,h1,h2,h3,h4,h5⟩:=h;refine⟨args',H0,R,h1,h2,h3,h4,fun ae H' hr hb=>?_⟩;have:=h5 ae H' hr hb;cases ae
  ·refine hk _ _ (fun b g1 g2=>?_) this
   have e0:H0 b=none:=by
    cases e:H0 b with
    |none=>rfl
    |some o=>exact absurd (h4 b (by simp [e])) g2
   have e1:H' b=none:=by
    cases e:H' b with
    |none=>rfl
    |some o=>
     rcases hb b (by simp [e])with h|h
     ·exact absurd e0 h
     exact absurd h g1
   simp [gA,e0,e1]
  exact hp _ _ this
 case h_6=>
  split at h<;>first|exact h.elim|skip
  rename_i q hq;obtain⟨o,e⟩:=Oj hq;exact⟨h.1,hk _ _ (by rw[e];exact set h.1) h.2⟩
 case h_7=>
  split at h<;>first|exact h.elim|skip
  rename_i q hq;obtain⟨o,e⟩:=uZ hq;exact⟨h.1,hk _ _ (by rw[e];exact set h.1) h.2⟩
 case h_8=>
  split at h<;>first|exact h.elim|skip
  rename_i q hq;obtain⟨o,e⟩:=uZ hq;exact⟨h.1,hk _ _ (by rw[e];exact set h.1) h.2⟩
 all_goals
  split at h<;>first
   |exact h.elim
   |exact fun b hb=>hk _ _ (new hb) (h b hb)
   |exact hk _ _ same h
   |exact h.imp (hk _ _ same) fun h b hb=>hk _ _ (new hb) (h b hb)
end
end Go.Al
namespace Go.Al
def Yl (E:fR) (F:Nat→Prop) (ds:List (Option Nat)) (cm:Bool) (o:Oper) (v:AV) (fr:Fr) (H:Hp):Prop:=
 (gI ds fr o.guard=some false∧v= .tup [])∨
 (gI ds fr o.guard=some true∧aq E H fr o.op=some v∧(cm=true∨ ∀x,dG o.op=some x→ ∀b,jR (ev E.G fr x)=some b→ ¬F b))
def Fh (E:fR) (F:Nat→Prop) (ops:Array Oper) (Q:dN):Nat→Array Bool→Fr→Hp→Prop
 |0,L,fr,H=>Region.ready .any ops L=[]∧Q .normal fr H
 |fuel+1,L,fr,H=>(Region.ready .any ops L=[]→Q .normal fr H)∧
  ∀i∈Region.ready .any ops L, ∀o,ops[i]?=some o→aop E F (ops.toList.map (·.dst)) o fr H (Fh E F ops Q fuel (L.setIfInBounds i true)) (fun v H'=>Q (.pan v) Ud H')
section
variable {E : fR} {F : Nat → Prop} {ops : Array Oper} {Q : dN} {fr : Fr} {H : Hp}
theorem zB {γ:gD} {N:Nat} (hd:ops.toList.all (iI N)=true): ∀(fuel:Nat) (L:Array Bool) (fr:Fr) (H:Hp) (a:Act) (w:World),Ff E γ N fr H a w→Fh E F ops Q fuel L fr H→wpAny E.P .any ops (oY E γ N Q) fuel L a w
 |0,_,fr,H,a,w,hs,h=>⟨h.1,fr,H,hs,h.2⟩
 |fuel+1,L,fr,H,a,w,hs,h=>by
  refine⟨fun e=>⟨fr,H,hs,h.1 e⟩,fun i hi=>?_⟩;obtain⟨_,o,ho,_⟩:=mem_ready.1 hi;unfold wpOp;simp only[ho]
  have hdo:iI N o=true:=by
   rw[List.all_eq_true]at hd;exact hd o (Array.mem_toList_iff.2 (Array.mem_of_getElem? ho))
  have h1:=hs.1;exact tX hs hdo (h.2 i hi o ho) (fun fr' H' a' w' hs' z=>zB hd fuel _ fr' H' a' w' hs' z) (fun v v' S' H' w' hst hv z=>⟨h1,v,v',S',H',rfl,hst,hv,z⟩)
theorem Y6 {d:Option Nat} {v:AV} {x:Operand} (h: ∀i,d=some i→x≠ .tmp i):ev E.G (dF fr d v) x=ev E.G fr x:=by
 cases d with
 |none=>rfl
 |some i=>
  cases x with
  |tmp t=>
   have :t≠i:=fun e=>h i rfl (by rw[e]);simp [ev,dF,upd,this]
  |_=>rfl
theorem nG {o:Oper} {d:Option Nat} {v:AV} (h: ∀i,d=some i→i∉o.looksAt ops): ∀x∈o.op.operands,ev E.G (dF fr d v) x=ev E.G fr x:=fun x hx=>Y6 fun i hi e=>h i hi (by
 subst e
 exact List.mem_append_left _ (List.mem_filterMap.2 ⟨.tmp i,by simpa using hx,rfl⟩))
theorem qA {o:Oper} {d:Option Nat} {v:AV} (h: ∀i,d=some i→i∉o.looksAt ops):gI (ops.toList.map (·.dst)) (dF fr d v) o.guard=gI (ops.toList.map (·.dst)) fr o.guard:=by
 cases hg:o.guard with
 |none=>rfl
 |some g=>
  obtain⟨j,want⟩:=g;simp only[gI];split<;>try rfl
  rename_i t ht
  have hne: ∀i,d=some i→t≠i:=fun i hi e=>h i hi (by
   refine List.mem_append_right _ ?_;rw[hg];rw[cE,bH]at ht;obtain⟨o',ho,e2⟩:=ht;have ho2:ops[j]?=some o':=by simpa using ho
   simp only[ho2,Option.bind_some,e2]
   simp [e])
  have :dF fr d v t=fr t:=by
   cases d with
   |none=>rfl
   |some i=>simp [dF,upd,hne i rfl]
  rw[this]
theorem mJ {d e:Option Nat} {v u:AV} (h: ∀i,d=some i→e≠some i):dF (dF fr d v) e u=dF (dF fr e u) d v:=by
 cases d with
 |none=>rfl
 |some i=>
  cases e with
  |none=>rfl
  |some j=>exact Vl _ _ _ fun c=>h i rfl (by rw[c])
theorem Ib {o:Op} {x:Operand} (h:dG o=some x):x∈o.operands:=by
 cases o<;>simp only[dG]at h<;>first|(cases h;done)|skip
 all_goals cases h;simp [Op.operands]
theorem tW {o:Op} {H':Hp} {v:AV} (hc:calm o=true) (h:aq E H fr o=some v) (hag: ∀x,dG o=some x→ ∀b,jR (ev E.G fr x)=some b→H b≠none→H' b=H b):aq E H' fr o=some v:=by
 cases o<;>simp only[calm,Bool.false_eq_true]at hc<;>try exact h
 case load t x=>
  simp only[aq,bU]at h⊢;obtain⟨ti,h1,h2⟩:=h;refine⟨ti,h1, ?_⟩;have:=hag x rfl;cases e:ev E.G fr x<;>rw[e]at h2 this<;>simp only[oG]at h2⊢ <;>try (exact h2)
  rename_i sz b i j;rw[this b rfl (fun c=>by rw[c]at h2;cases h2)];exact h2
 case lookup t x k ok=>
  have:=hag x rfl;simp only[aq]at h⊢;cases e:ev E.G fr x<;>rw[e]at h this<;>try (exact h)
  rename_i b;by_cases hb:H b=none
  ·simp only[hb]at h
   exfalso
   repeat' (split at h<;>try (cases h;done))
   all_goals simp_all
  have e3:=this b rfl hb;simp only[e3];exact h
 case slice t x lo hi m=>cases m<;>simp at hc;exact h
 case call c=>
  obtain⟨f,args,ts⟩:=c
  cases f with
  |invoke=>simp at hc
  |value=>simp at hc
  |builtin b=>cases b<;>simp at hc<;>exact h
theorem oH.refl:oH F H H:=fun _ _ _=>rfl
theorem Yl.step {cm:Bool} {oi oj:Oper} {v u:AV} {H':Hp} (hci:calm oi.op=true) (hap: ∀d,oj.dst=some d→d∉oi.looksAt ops) (hy:Yl E F (ops.toList.map (·.dst)) cm oi v fr H) (hag:oH F H H') (hcm:cm=true→H'=H):
  Yl E F (ops.toList.map (·.dst)) cm oi v (dF fr oj.dst u) H':=by
 unfold Yl at *;rw[qA hap];rcases hy with hy|⟨h1,h2,h3⟩
 ·exact .inl hy
 refine .inr ⟨h1, ?_, ?_⟩
 ·rw[yO (nG hap)]
  cases cm with
  |true=>rw[hcm rfl];exact h2
  |false=>exact tW hci h2 fun x hx b hb hne=>hag b hne (by simpa using h3|>.resolve_left (by simp) x hx b hb)
 refine h3.imp id fun h3 x hx b hb=>?_;rw[nG hap x (Ib hx)]at hb;exact h3 x hx b hb
theorem Q8 {cm:Bool} {oi oj:Oper} {v:AV} {K:Fr→Hp→Prop} {Kp:AV→Hp→Prop} (hap:oi.apart ops oj=true) (hci:calm oi.op=true) (hcm:cm=true→calm oj.op=true) (hy:Yl E F (ops.toList.map (·.dst)) cm oi v fr H)
  (h:aop E F (ops.toList.map (·.dst)) oj (dF fr oi.dst v) H K Kp):aop E F (ops.toList.map (·.dst)) oj fr H (fun fr' H'=>Yl E F (ops.toList.map (·.dst)) cm oi v fr' H'∧K (dF fr' oi.dst v) H') Kp:=by
 obtain⟨h1,h2,h3⟩:=Oper.apart_spec hap;unfold aop at *;rw[qA h1]at h;split at h
 ·rename_i hw
  rw[uX (nG h1)]at h
  cases cm with
  |true=>
   rw[kY (hcm rfl)]at h⊢;split at h<;>try (exact h.elim)
   rename_i u hu;refine⟨hy.step hci h3 oH.refl fun _=>rfl, ?_⟩;rw[←mJ h2];exact h
  |false=>
   refine nR (fun u H' hag z=>⟨hy.step hci h3 hag (by simp), ?_⟩) (fun _ _ h=>h) h;rw[←mJ h2];exact z
 ·exact⟨hy.step hci h3 oH.refl fun _=>rfl,by rw[←mJ h2];exact h⟩
 exact h
theorem pL {ds:List (Option Nat)} {o:Oper} {K K':Fr→Hp→Prop} {Kp:AV→Hp→Prop} (hk: ∀fr H,K fr H→K' fr H) (h:aop E F ds o fr H K Kp):aop E F ds o fr H K' Kp:=by
 unfold aop at *;split at h
 ·exact nR (fun _ _ _ h=>hk _ _ h) (fun _ _ h=>h) h
 ·exact hk _ _ h
 exact h
theorem Yl.aop {cm:Bool} {o:Oper} {v:AV} {K:Fr→Hp→Prop} {Kp:AV→Hp→Prop} (hc:calm o.op=true) (hy:Yl E F (ops.toList.map (·.dst)) cm o v fr H) (h:K (dF fr o.dst v) H):Al.aop E F (ops.toList.map (·.dst)) o fr H K Kp:=by
 unfold Al.aop;rcases hy with⟨h1,rfl⟩|⟨h1,h2,_⟩
 ·rw[h1];exact h
 rw[h1,kY hc,h2];exact h
theorem Ou {i:Nat} {oi:Oper} {v:AV} {cm:Bool} (hi:ops[i]?=some oi) (hci:calm oi.op=true) (W:Nat→Bool) (hW: ∀j oj,ops[j]?=some oj→W j=true→ ∃e∈oj.after,Region.binds .any e=true∧(e.on=i∨W e.on=true)):
  ∀(fuel:Nat) (L:Array Bool) (fr:Fr) (H:Hp),
   (∀j oj,ops[j]?=some oj→j≠i→L.getD j true=false→W j=false→oi.apart ops oj=true∧(cm=true→calm oj.op=true))→
   (∀j,W j=true→L.getD j false=false)→i∈Region.ready .any ops L→Yl E F (ops.toList.map (·.dst)) cm oi v fr H→
   Fh E F ops Q fuel (L.setIfInBounds i true) (dF fr oi.dst v) H→Fh E F ops Q (fuel+1) L fr H:=by
 have first: ∀{fuel:Nat} {L:Array Bool} {fr:Fr} {H:Hp} {j:Nat} {o:Oper},ops[j]?=some o→j=i→Yl E F (ops.toList.map (·.dst)) cm oi v fr H→Fh E F ops Q fuel (L.setIfInBounds i true) (dF fr oi.dst v) H→
   Al.aop E F (ops.toList.map (·.dst)) o fr H (Fh E F ops Q fuel (L.setIfInBounds j true)) (fun v H'=>Q (.pan v) Ud H'):=fun {fuel L fr H j o} ho e hy h=>by
  subst e;rw[hi]at ho;cases ho;exact hy.aop hci h
 intro fuel
 induction fuel with
 |zero=>
  intro L fr H _ _ hr hy h;refine⟨fun e=>(by rw[e]at hr;cases hr),fun j hj o ho=>?_⟩;by_cases hji:j=i
  ·exact first ho hji hy h
  have:=ready_mono hj hji;rw[h.1]at this;cases this
 |succ fuel ih=>
  intro L fr H hfree hun hr hy h;refine⟨fun e=>(by rw[e]at hr;cases hr),fun j hj oj hoj=>?_⟩;by_cases hji:j=i
  ·exact first hoj hji hy h
  obtain⟨hjun,oj',hoj',hall⟩:=mem_ready.1 hj;rw[hoj]at hoj';cases hoj'
  have hi0:L.getD i false=false:=by
   have h0:=(mem_ready.1 hr).1;rcases Nat.lt_or_ge i L.size with h'|h'
   ·simp [h']at h0⊢;exact h0
   simp [Array.getElem?_eq_none h']
  have hWj:W j=false:=by
   cases e:W j with
   |false=>rfl
   |true=>
    obtain⟨ed,he,hb,hor⟩:=hW j oj hoj e;have h1:=hall ed he hb;rcases hor with h2|h2
    ·rw[h2,hi0]at h1;cases h1
    rw[hun _ h2]at h1;cases h1
  obtain⟨hap,hcm⟩:=hfree j oj hoj hji hjun hWj;have h2:=Q8 hap hci hcm hy (h.2 j (ready_mono hj hji) oj hoj);refine pL (fun fr' H' h3=>ih (L.setIfInBounds j true) fr' H' (fun k ok hk hki hku hkW=>hfree k ok hk hki ?_ hkW) (fun k hk=>?_) (ready_mono hr (Ne.symm hji)) h3.1 ?_) h2
  ·by_cases hjk:j=k
   ·subst hjk;exact hjun
   rw[getD_set_ne true hjk]at hku;exact hku
  ·have hne:j≠k:=fun e=>by subst e;rw[hWj]at hk;cases hk
   rw[getD_set_ne false hne];exact hun k hk
  rw[Array.setIfInBounds_comm _ _ hji];exact h3.2
def pN (ops:Array Oper) (i:Nat):List Nat:=(List.range ops.size).foldl (fun acc j=>if(match ops[j]? with |some o=>o.after.any (fun e=>Region.binds .any e&&(e.on==i||acc.contains e.on))|none=>false)then j::acc else acc) []
def Uo (ops:Array Oper) (i:Nat) (ws:List Nat) (L:Array Bool):Bool:=
 ws.all fun j=> !L.getD j false&&match ops[j]? with |some o=>o.after.any (fun e=>Region.binds .any e&&(e.on==i||ws.contains e.on))|none=>true
def Qp (ops:Array Oper) (i:Nat) (oi:Oper) (cm:Bool) (ws:List Nat) (L:Array Bool):Bool:=
 (List.range ops.size).all fun j=>j==i||L.getD j true||ws.contains j||match ops[j]? with |some oj=>oi.apart ops oj&&(!cm||calm oj.op)|none=>true
def kK (ops:Array Oper):Array Bool→List (Nat×Bool)→Bool
 |L,[]=>Region.ready .any ops L==[]
 |L,(i,cm)::r=>(match ops[i]? with
  |none=>false
  |some o=>if calm o.op then(Region.ready .any ops L).contains i&&Uo ops i (pN ops i) L&&Qp ops i o cm (pN ops i) L else Region.ready .any ops L==[i])&&kK ops (L.setIfInBounds i true) r
def mR (ops:List Oper):List (Nat×Bool)→List Oper
 |[]=>[]
 |(i,cm)::r=>match ops[i]? with
  |none=>[]
  |some o=>if cm then o::mR ops r else match dG o.op with
   |some x=>⟨none, .entry x,o.type,o.pos,o.after,o.guard⟩::o::mR ops r
   |none=>o::mR ops r
theorem iU {N:Nat} {ds:List (Option Nat)} {o:Oper} (hd:iI N o=true) (rest:List Oper) {fr:Fr} {H:Hp} (hc:calm o.op=true) (h:cI E F ds Q (o::rest) fr H):
  ∃v,((gI ds fr o.guard=some false∧v= .tup [])∨(gI ds fr o.guard=some true∧aq E H fr o.op=some v))∧cI E F ds Q rest (dF fr o.dst v) H:=by
 rw[pY hd]at h;unfold aop at h;split at h
 ·rename_i hw
  rw[kY hc]at h;split at h<;>try (exact h.elim)
  rename_i v hv;exact⟨v, .inr ⟨hw,hv⟩,h⟩
 ·rename_i hw
  exact⟨_, .inl ⟨hw,rfl⟩,h⟩
 exact h.elim
theorem uB {N:Nat} (hd:ops.toList.all (iI N)=true): ∀(plan:List (Nat×Bool)) (L:Array Bool) (fr:Fr) (H:Hp),kK ops L plan=true→cI E F (ops.toList.map (·.dst)) Q (mR ops.toList plan) fr H→Fh E F ops Q plan.length L fr H
 |[],L,fr,H,hc,h=>by
  simp only[kK,beq_iff_eq]at hc;exact⟨hc,h⟩
 |(i,cm)::r,L,fr,H,hc,h=>by
  simp only[kK,bA]at hc;obtain⟨hc,hr⟩:=hc
  cases ho:ops[i]? with
  |none=>rw[ho]at hc;simp at hc
  |some o=>
   simp only[ho]at hc
   have hdo:iI N o=true:=by
    rw[List.all_eq_true]at hd;exact hd o (Array.mem_toList_iff.2 (Array.mem_of_getElem? ho))
   have ho2:ops.toList[i]?=some o:=by simpa using ho
   simp only[mR,ho2]at h;split at hc
   ·rename_i hcalm
    simp only[bA]at hc;obtain⟨⟨h1,h2⟩,h3⟩:=hc
    have go: ∀v,Yl E F (ops.toList.map (·.dst)) cm o v fr H→cI E F (ops.toList.map (·.dst)) Q (mR ops.toList r) (dF fr o.dst v) H→Fh E F ops Q (r.length+1) L fr H:=fun v hy hrest=>by
     refine Ou ho hcalm (fun j=>(pN ops i).contains j) (fun j oj hoj hj=>?_) r.length L fr H (fun j oj hoj hji hju hjW=>?_) (fun j hj=>?_) (by simpa using h1) hy (uB hd r _ _ _ hr hrest)
     ·simp only[Uo,List.all_eq_true]at h2
      have:=h2 j (by simpa using hj);simp only[hoj,bA]at this;obtain⟨ed,he,hb⟩:=Array.any_eq_true'.1 this.2;simp only[bA,Bool.or_eq_true,beq_iff_eq]at hb;exact⟨ed,he,hb.1,hb.2⟩
     ·simp only[Qp,List.all_eq_true,List.mem_range]at h3
      have:=h3 j (Array.getElem?_eq_some_iff.1 hoj).1;simp only[hoj,hju,hjW,Bool.or_eq_true,beq_iff_eq,hji,Bool.false_eq_true,or_false,false_or,bA,Bool.not_eq_true']at this;refine⟨this.1,fun e=>?_⟩;rcases this.2 with h|h
      ·rw[e]at h;cases h
      exact h
     simp only[Uo,List.all_eq_true]at h2;have:=h2 j (by simpa using hj);simp only[bA,Bool.not_eq_true']at this;exact this.1
    cases cm with
    |true=>
     simp only[if_true]at h;obtain⟨v,hv,hrest⟩:=iU hdo _ hcalm h;exact go v (hv.imp id fun⟨a,b⟩=>⟨a,b, .inl rfl⟩) hrest
    |false=>
     simp only[Bool.false_eq_true,if_false]at h;split at h
     ·rename_i x hx
      simp only[cI]at h;split at h
      ·rename_i hw
       obtain⟨hm,h⟩:=h;obtain⟨v,hv,hrest⟩:=iU (fr:=fr) hdo _ hcalm h;exact go v (hv.imp id fun⟨a,b⟩=>⟨a,b, .inr fun y hy=>by rw[hx]at hy;cases hy;exact hm⟩) hrest
      ·rename_i hw
       obtain⟨v,hv,hrest⟩:=iU (fr:=fr) hdo _ hcalm h;exact go v (hv.imp id fun⟨a,b⟩=>by rw[hw]at a;cases a) hrest
      exact h.elim
     rename_i hx;obtain⟨v,hv,hrest⟩:=iU hdo _ hcalm h;exact go v (hv.imp id fun⟨a,b⟩=>⟨a,b, .inr fun y hy=>by rw[hx]at hy;cases hy⟩) hrest
   rename_i hcalm;simp only[beq_iff_eq]at hc
   have h':cI E F (ops.toList.map (·.dst)) Q (o::mR ops.toList r) fr H:=by
    split at h
    ·exact h
    split at h
    ·rename_i x hx
     exfalso;cases e:o.op<;>rw[e]at hx hcalm<;>simp [dG,calm]at hx hcalm
    exact h
   rw[pY hdo]at h';show Fh E F ops Q (r.length+1) L fr H;refine⟨fun e=>(by rw[hc]at e;cases e),fun j hj oj hoj=>?_⟩;rw[hc]at hj;simp only[List.mem_singleton]at hj;subst hj;rw[ho]at hoj;cases hoj;exact pL (fun fr' H' z=>uB hd r _ fr' H' hr z) h'
def Qq (N:Nat) (l:List Oper) (plan:List (Nat×Bool)):Bool:=l.all (iI N)&&plan.length==l.length&&kK l.toArray (Array.replicate l.length false) plan
theorem Ff.drew {γ:gD} {N:Nat} {a:Act} {w:World} (hs:Ff E γ N fr H a w):Ff E γ N fr H a {w with drawn:=w.drawn+1}:=by
 obtain⟨h1,h2,S,hst,hf⟩:=hs;have hk:eC S S w {w with drawn:=w.drawn+1}:=hst.keeps (iY.drew (fun _=>False) w) (fun _ h=>h.elim) (fun _ h=>h);refine⟨h1,h2,S, ?_,hf.keeps hk⟩;exact hst.step (iY.drew (fun _=>False) w) (fun _ h=>h.elim) (fun _ h=>h) hst.lt (fun k hk=> .inl hk) fun b o hb=>⟨(hst.obj b o hb).2.1, .inl ⟨hb,fun h=>h⟩⟩
theorem dE (F:Nat→Prop) (plan:List (Nat×Bool)) {N id:Nat} {l l':List Oper} (hm:E.P.follows .mixedOrders=true) (hc:Qq N l plan=true) (hl:mR l plan=l') (h:cI E F (l.map (·.dst)) Q l' fr H):jV E N (.region id l.toArray true) Q fr H:=fun γ a w hs=>by
 subst hl;simp only[Qq,bA,beq_iff_eq]at hc;obtain⟨⟨hd,hlen⟩,hc⟩:=hc;refine wp_region_any hm (zB (F:=F) (by simpa using hd) _ _ fr H a _ hs.drew ?_);have:=uB (E:=E) (F:=F) (Q:=Q) (ops:=l.toArray) (N:=N) (by simpa using hd) plan _ fr H hc (by simpa using h);rw[hlen]at this;simpa using this
end
end Go.Al
namespace Go.Al
section
variable {E : fR} {N : Nat} {F : Nat → Prop} {ds : List (Option Nat)} {Q : dN} {d : Option Nat} {rest : List Oper} {fr : Fr} {H : Hp}
theorem sP {x y:Code} (M:Fr→Hp→Prop) (h1:jV E N x (aU M Q) fr H) (h2: ∀fr H,M fr H→jV E N y Q fr H):jV E N (.seq x y) Q fr H:=
 aJ (Jf h1 fun e fr H hq=>by cases e<;>first|exact h2 _ _ hq|exact hq)
theorem bT {x y:Code} (M:Fr→Hp→Prop) (h1: ∀K:Fr→Hp→Prop,(∀fr H,M fr H→K fr H)→jV E N x (aU K Q) fr H) (h2: ∀fr H,M fr H→jV E N y Q fr H):jV E N (.seq x y) Q fr H:=
 sP M (h1 M fun _ _ h=>h) h2
theorem cJ {c:Code} (I:Nat→Fr→Hp→Prop) (n:Nat) (h0:I n fr H) (round: ∀n fr H,I n fr H→ ∀K:Fr→Hp→Prop,(∀m fr' H',m<n→I m fr' H'→K fr' H')→jV E N c (aU K Q) fr H):jV E N (.loop c) Q fr H:=
 sO I n h0 fun n fr H h=>round n fr H h _ fun m _ _ hm hI=>⟨m,hm,hI⟩
theorem aH {c:Operand} {x y:Code} (t:Bool) (hc:ev E.G fr c= .bool t) (h1:t=true→jV E N x Q fr H) (h2:t=false→jV E N y Q fr H):jV E N (.cond c x y) Q fr H:=H8 hc h1 h2
theorem bB.pure {v v':AV} {H:Hp} (h:v=v'):bB (fun ae H'=>ae= .ret v'∧H'=lG) v H:=
 ⟨v,lG,fZ.drop (fun b o h=>by cases h),by rw[h],rfl⟩
theorem bB.turn {R:vK→Hp→Prop} {v v1:AV} {H H1:Hp} (ht:fZ v H v1 H1) (h:bB R v1 H1):bB R v H:=by
 obtain⟨v',H',h1,h2⟩:=h;exact⟨v',H',ht.trans h1,h2⟩
def cH (sz:Nat) (v:AV) (rows:List (List AV)) (H:Hp):Prop:=(v= .nsl∧rows=[])∨ ∃b,v= .osl sz b rows.length∧H b=some (.rows sz rows)
theorem eZ {sz by':Nat} {v:AV} {rows ys:List (List AV)} (hv:cH sz v rows H) (hb:(rows.length+ys.length) *by'≤140737488355328) (hF: ∀b,F b)
  (h: ∀v' H',cH sz v' (rows++ys) H'→(∀b o,H b=some o→v≠ .osl sz b rows.length→H' b=some o)→cI E F ds Q rest (dF fr d v') H'):Oh E F ds Q d rest fr H (some (sz,by',v,ys)):=by
 rcases hv with⟨rfl,rfl⟩|⟨b,rfl,hH⟩
 ·simp only[List.nil_append,List.length_nil,Nat.zero_add]at h hb
  refine⟨hb,fun e=>h _ _ (.inl ⟨rfl,e⟩) fun _ _ hb _=>hb,fun e b hbn=>h _ _ (.inr ⟨b,rfl,by simp [upd]⟩) fun b' o hb' _=>?_⟩;have :b'≠b:=fun c=>by rw[c,hbn]at hb';cases hb'
  simp [upd,this,hb']
 simp only[Oh,hH];refine⟨trivial,trivial,trivial,hb,hF b,fun b' hb'=>?_⟩;refine h _ _ (.inr ⟨b',by simp,by simp [upd]⟩) fun b'' o h1 h2=>?_;have n1:b''≠b:=fun c=>h2 (by rw[c])
 have n2:b''≠b':=fun c=>by
  rcases hb' with e|e
  ·exact n1 (c.trans e)
  rw[←c,h1]at e;cases e
 simp [upd,n1,n2,h1]
def frz (b sz:Nat) (l:List (List AV)):AV→AV
 | .osl sz' b' n=>if b'=b∧sz'=sz∧n=l.length then .isl sz l else .osl sz' b' n
 |v=>v
theorem P7 (b sz:Nat) (l:List (List AV)) (v:AV):lC b sz l v (frz b sz l v):=by
 cases v<;>simp only[frz]<;>try exact lC.refl _ _ _ _
 split
 ·rename_i h
  obtain⟨rfl,rfl,rfl⟩:=h;exact lC.osl _ _ _
 exact lC.refl _ _ _ _
end
end Go.Al
namespace Go.Al
def BL (sz:Nat) (rows:List (List AV)):AV:=match rows with |[]=> .nsl|_=> .isl sz rows
def yV (sz:Nat) (v:AV) (rows:List (List AV)) (H:Hp):Prop:=(v= .nsl∧rows=[])∨(rows≠[]∧ ∃b,v= .osl sz b rows.length∧H b=some (.rows sz rows))
theorem yV.own {sz:Nat} {v:AV} {rows:List (List AV)} {H:Hp} (h:yV sz v rows H):cH sz v rows H:=h.imp id And.right
theorem cH.ne {sz:Nat} {v:AV} {rows:List (List AV)} {H:Hp} (h:cH sz v rows H) (hr:rows≠[]):yV sz v rows H:=h.imp id fun h=>⟨hr,h⟩
theorem yV.gives {sz:Nat} {v:AV} {rows:List (List AV)} {H:Hp} {vs:List AV} {v':AV} (h:yV sz v rows H) (e:v'= .tup (BL sz rows::vs)):bB (fun ae H'=>ae= .ret v'∧H'=lG) (.tup (v::vs)) H:=by
 subst e;rcases h with⟨rfl,rfl⟩|⟨hne,b,rfl,hb⟩
 ·exact bB.pure rfl
 refine bB.turn (fZ.freeze hb (lC.cons (lC.osl b sz rows) (lC.refl _ _ _ _))) (bB.pure ?_)
 cases rows with
 |nil=>exact absurd rfl hne
 |cons=>rfl
theorem yV.gives1 {sz:Nat} {v:AV} {rows:List (List AV)} {H:Hp} {v':AV} (h:yV sz v rows H) (e:v'=BL sz rows):bB (fun ae H'=>ae= .ret v'∧H'=lG) v H:=by
 subst e;rcases h with⟨rfl,rfl⟩|⟨hne,b,rfl,hb⟩
 ·exact bB.pure rfl
 refine bB.turn (fZ.freeze hb (lC.osl b sz rows)) (bB.pure ?_)
 cases rows with
 |nil=>exact absurd rfl hne
 |cons=>rfl
end Go.Al
namespace Go.Al
open Go.RowKit
theorem iY.below {W W':World} {M:Nat→Prop} (h:iY M W W') (hM: ∀k, ¬M k):Below W.heap.size W W':=⟨h.os,h.tape,h.output,h.size,fun k hk=>h.keep k hk (hM k)⟩
end Go.Al
namespace Go.Al
open Go.Lib
def Dp {H:Type} (ws:List (List UInt8)):DataW H:= .agg (ws.map fun s=> .lit (.string s))
theorem zR {H:Type} {enc:TypeId×Value→H} {P:Program} {w:World} {base:Nat} {sp:Nat→Bool} {held:Bool} {fuel:Nat} {t e:TypeId} {n:Nat} {cs:List Value} {ws:List (List UInt8)} {p:List MemPlace}
  (ht:P.underlying t=some (.array n e)) (he:P.underlying e=some .string) (hce:P.cellsOf e=1) (hct:P.cellsOf t=n)
  (h:DataW.trod enc P w base sp held fuel t cs=some (Dp ws,p)):cs=ws.map fun s=>Value.string ⟨s.toArray⟩:=by
 cases fuel with
 |zero=>simp [DataW.trod]at h
 |succ fuel=>
  simp only[DataW.trod,ht,hce,hct,Nat.mul_one]at h;split at h
  ·rename_i hl
   obtain⟨xs,hm,hx⟩:=bH.1 h
   have hxs:xs.map (·.1)=ws.map fun s=>(DataW.lit (.string s):DataW H):=by
    have:=congrArg Prod.fst hx;simpa [Dp]using this
   have hxl:xs.length=n:=by simpa using mapM_length hm
   have hzl:ws.length=n:=by
    have:=congrArg List.length hxs;simp at this;omega
   apply List.ext_getElem?;intro i;by_cases hi:i<n
   ·obtain⟨b,hb,hf⟩:=mapM_at hm i i (by simp [hi])
    obtain⟨s,hc,rfl,_⟩:=DataW.trod_string he hf
    have h1:cs[i]?=some (.string s):=by
     have:=congrArg (·[0]?) hc;simpa [List.getElem?_take,List.getElem?_drop]using this
    have h2:(xs.map (·.1))[i]?=some (DataW.lit (.string s.data.toList):DataW H):=by simp [hb]
    rw[hxs]at h2;simp only[cE,bH,DataW.lit.injEq,Lit.string.injEq]at h2;obtain⟨s',hs',rfl⟩:=h2;simp [h1,hs']
   rw[List.getElem?_eq_none (by omega),List.getElem?_eq_none (by simp;omega)]
  cases h
theorem rO {P:Program} {W:World} {name:String} {ws:List (List UInt8)} {g:Nat} {t e:TypeId} {n:Nat} (hg:P.globalNamed name=some g) (hty:(P.globals[g]?).map (·.type)=some t) (ht:P.underlying t=some (.array n e)) (he:P.underlying e=some .string) (hce:P.cellsOf e=1) (hct:P.cellsOf t=n):
  ∀{l:List (String×DataW Unit)} {ps:List MemPlace},DataW.LaidVars P W l ps→(name,Dp ws)∈l→W.var? P name=some (ws.map fun s=>Value.string ⟨s.toArray⟩).toArray
 |[],_,_,hm=>by cases hm
 |(nm,d)::rest,ps,h,hm=>by
  obtain⟨g',t',cs,fuel,p,q,hg',ht',hvar,hd,hrest,_⟩:=h;rcases List.mem_cons.1 hm with hm|hm
  ·cases hm
   obtain rfl:=Option.some.inj (hg.symm.trans hg');obtain rfl:=Option.some.inj (hty.symm.trans ht');rw[hvar,←zR ht he hce hct hd]
  exact rO hg hty ht he hce hct hrest hm
end Go.Al
namespace Go.Al
open Go.RowKit Go.ChangeShapes
def old (W:World):dL:=fun k=>k<W.heap.size
theorem Lp {E:fR} {g:FuncId} {args:List AV} {v:AV} (h:cM E g args v) {W:World} {S0:dL} {vs:List Value} (hst:St E ⟨W,G5 lG,S0,[],fun _=>Go.undef⟩ S0 lG W) (ha:bW S0 W args vs):
  Calls E.P g vs.toArray W fun e W'=> ∃S' x,e= .returned x∧bO S' W' v x∧Below W.heap.size W W':=by
 refine(h.2 W S0 vs hst ha).mono fun e W' ⟨ae,H',S',h1,h2,h3,h4⟩=>?_;subst h3;subst h4;simp only[nW]at h2;obtain⟨x,rfl,hx⟩:=h2;have hx2:=h1.ext;exact⟨S',x,rfl,hx,hx2.below fun k hk=>hk rfl⟩
section
variable {H : Type} {enc : TypeId × Value → H} {P : Program}
theorem qE (hl:laidOutB P=true) {W W':World} {sp':Nat→Bool}: ∀{ts:List TypeId} {vs:List Value} {ds:List (DataW H)} {ps:List MemPlace},(∀t∈ts,P.readableRec t=true∧t<P.types.size)→
  DataW.TrodAll enc P W 0 (fun _=>true) true ts vs ds ps→(∀p∈ps,W.sameAt W' p)→(∀p∈ps,sp' p.block=true)→DataW.TrodAll enc P W' 0 sp' true ts vs ds ps
 |[],[],[],_,_,h,_,_=>h
 |t::ts,v::vs,d::ds,ps,hr,⟨p,q,h1,h2,e⟩,hs,hp=>by
  subst e
  exact⟨p,q,WideElems.Trod_stays hl (hr t (by simp)).1 (hr t (by simp)).2 h1 (fun x hx=>hs x (by simp [hx])) (fun x hx=>hp x (by simp [hx])),
   qE hl (fun t ht=>hr t (by simp [ht])) h2 (fun x hx=>hs x (by simp [hx])) (fun x hx=>hp x (by simp [hx])),rfl⟩
 |[],_::_,_,_,_,h,_,_=>by simp [DataW.TrodAll]at h
 |[],[],_::_,_,_,h,_,_=>by simp [DataW.TrodAll]at h
 |_::_,[],_,_,_,h,_,_=>by simp [DataW.TrodAll]at h
 |_::_,_::_,[],_,_,h,_,_=>by simp [DataW.TrodAll]at h
theorem uC {W:World} {base:Nat} {sp:Nat→Bool} {held:Bool}: ∀{ts:List TypeId} {vs:List Value} {ds:List (DataW H)} {ps:List MemPlace},DataW.TrodAll enc P W base sp held ts vs ds ps→ds.length=ts.length
 |[],[],[],_,_=>rfl
 |_::_,_::_,_::_,_,⟨_,_,_,h2,_⟩=>by simp [uC h2]
 |[],_::_,_,_,h=>by simp [DataW.TrodAll]at h
 |[],[],_::_,_,h=>by simp [DataW.TrodAll]at h
 |_::_,[],_,_,h=>by simp [DataW.TrodAll]at h
 |_::_,_::_,[],_,h=>by simp [DataW.TrodAll]at h
theorem Zp {f:Func} {s:ChangeSpec} {apart fresh handsOn again:Bool} {W W':World} {args:Array Value} {v:Value} {ds gs:List (DataW H)} {before pa pv:List MemPlace}
  (hW:DataW.Whole enc P f.params.toList s.vars apart W args.toList ds gs before)
  (hres: ∀(b:Nat) (sp:Nat→Bool) (hd:Bool),DataW.TrodAll enc P W' b sp hd f.resultTypes.toList (v.resultList f.resultTypes.size) (s.fn H (ds++gs)).results [])
  (hargs: ∀sp:Nat→Bool,(∀p∈before,sp p.block=true)→DataW.TrodAll enc P W' 0 sp true f.params.toList args.toList (s.fn H (ds++gs)).args pa)
  (hvars: ∀sp:Nat→Bool,(∀p∈before,sp p.block=true)→DataW.TrodVars enc P W' sp s.vars (s.fn H (ds++gs)).vars pv)
  (hps:before=pa++pv) (hk:W.keptBut W' (· ∈before)) (hfz: ∀b off,MemPlace.cell b off∈before→W'.frozen? ⟨b,off,none⟩=W.frozen? ⟨b,off,none⟩)
  (hok: ∀(j:Nat) (t:TypeId) (r:Value),f.resultTypes[j]?=some t→(v.resultList f.resultTypes.size)[j]?=some r→Value.okWide P W' .any 0 t r):
  s.post enc P f apart fresh handsOn again W args v W':=by
 have hold: ∀p∈before,(fun b=>decide (b<W.heap.size)) p.block=true:=fun p hp=>by simpa using hW.lt p hp
 refine⟨ds,gs,before,[],pa,pv,hW,hres _ _ _,hargs _ hold,hvars _ hold,World.keptBut_mono (fun p hp=>⟨hp,by rw[hps,List.mem_append]at hp;exact Or.inr hp⟩) hk,fun _=>?_⟩;obtain⟨_,_,_,_,_,hz,hn⟩:=hW;refine⟨hok,_,_,([]++pa)++pv,⟨[]++pa,pv,trodAll_append (hargs _ (fun _ _=>rfl)) (hres _ _ _),hvars _ (fun _ _=>rfl),rfl,fun b off hp=>?_,fun ha=>?_⟩,fun p hp _=>by rw[hps];simpa using hp⟩
 ·have hp':MemPlace.cell b off∈before:=by rw[hps];simpa using hp
  rw[hfz b off hp'];exact hz b off hp'
 have:=hn ha;rw[hps]at this;simpa using this
theorem Ie {E:fR} {g:FuncId} {fn:Func} {spec:ChangeSpec} {tb:TypeId} (hl:laidOutB E.P=true) (hr: ∀t∈fn.params.toList,E.P.readableRec t=true∧t<E.P.types.size)
  (hrt:fn.resultTypes= #[tb]) (hb:E.P.underlying tb=some .bool) (hvars:spec.vars=[])
  (hspec: ∀ds:List (DataW H),ds.length=fn.params.toList.length→(spec.fn H ds).results=[.lit (.bool true)]∧(spec.fn H ds).args=ds∧(spec.fn H ds).vars=[])
  {W:World} {args:Array Value} {ds gs:List (DataW H)} {before:List MemPlace}
  (hW:DataW.Whole enc E.P fn.params.toList spec.vars false W args.toList ds gs before)
  {S0:dL} {xs:List AV} (hst:St E ⟨W,G5 lG,S0,[],fun _=>Go.undef⟩ S0 lG W) (ha:bW S0 W xs args.toList) (hcon:cM E g xs (.bool true)):
  Calls E.P g args W fun e W'=> ∃v,e= .returned v∧spec.post enc E.P fn false true false false W args v W':=by
 have hW':=hW;obtain⟨p,q,hA,hV,rfl,_,_⟩:=hW;rw[hvars]at hV;obtain⟨rfl,rfl⟩:=trodVars_none hV;have hlen:=uC hA;obtain⟨s1,s2,s3⟩:=hspec ds hlen;have hc:=Lp hcon hst ha;rw[Array.toArray_toList]at hc;refine hc.mono fun e W' ⟨S',x,he,hx,hbl⟩=>?_;subst he;simp only[bO]at hx;subst hx;simp only[List.append_nil]at hW';have hlt: ∀x∈p,x.block<W.heap.size:=fun x hx=>hW'.lt x hx;refine⟨_,rfl,Zp (pa:=p) (pv:=[]) hW' ?_ ?_ ?_ (by simp) (hbl.frame _) (fun b off ha=>by simp only[World.frozen?,hbl.block b (hlt _ ha)]) (ok_one hrt rfl (okWide_bool_mk hb _))⟩
 ·intro b sp hd
  rw[hrt];simp only[List.append_nil,s1];exact trodAll_cons_mk (shut_bool hb _) trodAll_mk0
 ·intro sp hsp
  simp only[List.append_nil,s2];exact qE hl hr hA (fun x hx=>hbl.same (hlt x hx)) (fun x hx=>hsp x hx)
 intro sp hsp;simp only[List.append_nil,s3,hvars];rfl
end
end Go.Al
namespace Go.Al
theorem AL:type_of% (And.intro @Jh<|And.intro @Bw<|And.intro @uV<|And.intro @Bv<|And.intro @By<|And.intro @qO<|And.intro @yI<|And.intro @Bt<|And.intro @sS<|And.intro @yB<|And.intro @pJ<|And.intro @yF<|And.intro @pI<|And.intro @yD<|And.intro @sR<|And.intro @kW<|And.intro @qP<|And.intro @uT<|And.intro @yH<|And.intro @Jl<|And.intro @Ji<|And.intro @Jj<|And.intro @yE<|And.intro @Cc<|And.intro @yK<|And.intro @yJ<|And.intro @Jm<|And.intro @sQ<|And.intro @pH<|And.intro @nZ<|And.intro @xZ<|And.intro @Bq<|And.intro @pG<|And.intro @uU<|And.intro @yG<|And.intro @Bz<|And.intro @Bo<|And.intro @lU.eq_1<|And.intro @qR.eq_1<|And.intro @uW<|And.intro @yC<|And.intro @Jg<|And.intro @Cb<|And.intro @Qu<|And.intro @Br<|And.intro @jB<|And.intro @Jc<|And.intro @List.map_cons.{0,0}<|And.intro @List.map_nil.{0,0}<|And.intro @List.getElem?_cons_zero.{0}<|And.intro @List.getElem?_cons_succ.{0}<|And.intro @List.getElem?_nil.{0}<|And.intro @List.getD_cons_zero.{0}<|And.intro @List.getD_cons_succ.{0}<|And.intro @List.getD_nil.{0}<|And.intro @Option.map_some.{0,0}<|And.intro @Option.map_none.{0,0}<|And.intro @Option.bind_some.{0,0}<|And.intro @Option.bind_none.{0,0}<|And.intro @Option.some_or.{0}<|And.intro @and_true<|And.intro @true_and<|And.intro @and_false<|And.intro @false_and<|And.intro @beq_true<|And.intro @beq_false<|And.intro @Bool.not_true<|And.intro @Bool.not_false<|And.intro @BEq.rfl.{0}<|And.intro @Bool.true_beq<|And.intro @Bool.false_beq<|And.intro @List.toList_toArray.{0}<|And.intro @List.append_nil.{0}<|And.intro @List.nil_append.{0}<|And.intro @List.cons_append.{0}<|And.intro @Nat.zero_add<|And.intro @Nat.add_zero<|And.intro @Nat.succ_ne_self<|And.intro @not_true_eq_false<|And.intro @not_false_eq_true<|And.intro @ne_eq.{1}<|And.intro @decide_true<|And.intro @decide_false<|And.intro @Bool.false_eq_true<|And.intro @if_false_right<|And.intro @if_true_left<|And.intro @Int.natCast_nonneg<|And.intro @Int.toNat_natCast<|And.intro @Nat.mul_one<|And.intro @Nat.one_mul<|And.intro @Int.cast_ofNat_Int<|And.intro @aQ.{0}<|And.intro @List.length_nil.{0}<|And.intro @eq_self.{1}<|And.intro @List.set_cons_zero.{0}<|And.intro @List.take_succ_cons.{0}<|And.intro @List.take_zero.{0}<|And.intro @List.drop_succ_cons.{0}<|And.intro @List.drop_zero.{0}<|And.intro @List.drop_nil.{0}<|And.intro @List.take_nil.{0}<|And.intro @List.all_cons.{0}<|And.intro @List.all_nil.{0}<|And.intro @Bool.and_true<|And.intro @Bool.true_and<|And.intro @Bool.and_self<|And.intro @Option.isSome_some.{0}<|And.intro @Option.isSome_none.{0}<| @Bool.true_eq_false):=And.intro @Jh<|And.intro @Bw<|And.intro @uV<|And.intro @Bv<|And.intro @By<|And.intro @qO<|And.intro @yI<|And.intro @Bt<|And.intro @sS<|And.intro @yB<|And.intro @pJ<|And.intro @yF<|And.intro @pI<|And.intro @yD<|And.intro @sR<|And.intro @kW<|And.intro @qP<|And.intro @uT<|And.intro @yH<|And.intro @Jl<|And.intro @Ji<|And.intro @Jj<|And.intro @yE<|And.intro @Cc<|And.intro @yK<|And.intro @yJ<|And.intro @Jm<|And.intro @sQ<|And.intro @pH<|And.intro @nZ<|And.intro @xZ<|And.intro @Bq<|And.intro @pG<|And.intro @uU<|And.intro @yG<|And.intro @Bz<|And.intro @Bo<|And.intro @lU.eq_1<|And.intro @qR.eq_1<|And.intro @uW<|And.intro @yC<|And.intro @Jg<|And.intro @Cb<|And.intro @Qu<|And.intro @Br<|And.intro @jB<|And.intro @Jc<|And.intro @List.map_cons.{0,0}<|And.intro @List.map_nil.{0,0}<|And.intro @List.getElem?_cons_zero.{0}<|And.intro @List.getElem?_cons_succ.{0}<|And.intro @List.getElem?_nil.{0}<|And.intro @List.getD_cons_zero.{0}<|And.intro @List.getD_cons_succ.{0}<|And.intro @List.getD_nil.{0}<|And.intro @Option.map_some.{0,0}<|And.intro @Option.map_none.{0,0}<|And.intro @Option.bind_some.{0,0}<|And.intro @Option.bind_none.{0,0}<|And.intro @Option.some_or.{0}<|And.intro @and_true<|And.intro @true_and<|And.intro @and_false<|And.intro @false_and<|And.intro @beq_true<|And.intro @beq_false<|And.intro @Bool.not_true<|And.intro @Bool.not_false<|And.intro @BEq.rfl.{0}<|And.intro @Bool.true_beq<|And.intro @Bool.false_beq<|And.intro @List.toList_toArray.{0}<|And.intro @List.append_nil.{0}<|And.intro @List.nil_append.{0}<|And.intro @List.cons_append.{0}<|And.intro @Nat.zero_add<|And.intro @Nat.add_zero<|And.intro @Nat.succ_ne_self<|And.intro @not_true_eq_false<|And.intro @not_false_eq_true<|And.intro @ne_eq.{1}<|And.intro @decide_true<|And.intro @decide_false<|And.intro @Bool.false_eq_true<|And.intro @if_false_right<|And.intro @if_true_left<|And.intro @Int.natCast_nonneg<|And.intro @Int.toNat_natCast<|And.intro @Nat.mul_one<|And.intro @Nat.one_mul<|And.intro @Int.cast_ofNat_Int<|And.intro @aQ.{0}<|And.intro @List.length_nil.{0}<|And.intro @eq_self.{1}<|And.intro @List.set_cons_zero.{0}<|And.intro @List.take_succ_cons.{0}<|And.intro @List.take_zero.{0}<|And.intro @List.drop_succ_cons.{0}<|And.intro @List.drop_zero.{0}<|And.intro @List.drop_nil.{0}<|And.intro @List.take_nil.{0}<|And.intro @List.all_cons.{0}<|And.intro @List.all_nil.{0}<|And.intro @Bool.and_true<|And.intro @Bool.true_and<|And.intro @Bool.and_self<|And.intro @Option.isSome_some.{0}<|And.intro @Option.isSome_none.{0}<| @Bool.true_eq_false
end Go.Al
