/- Ja -/
import Derived.Test.YtaecpjgmcffliaaGreatDoorLx
set_option linter.unusedSimpArgs false
set_option linter.unusedVariables false
set_option maxRecDepth 10000
set_option maxHeartbeats 8000000
namespace Go.Al
def Ls (sz:Nat) (v:AV) (rows:List (List AV)) (H:Hp):Prop:=dZ sz v rows H∨v= .isl sz rows
theorem Ls.one1 {sz:Nat} {v:AV} {rows:List (List AV)} {H:Hp} (h:Ls sz v rows H):one v=true:=by
 rcases h with h|rfl
 ·exact h.one1
 rfl
theorem Ls.cells {sz:Nat} {v:AV} {rows:List (List AV)} {H:Hp} (h:Ls sz v rows H):cellsOf v=some [v]:=by
 rcases h with h|rfl
 ·exact h.cells
 rfl
theorem Ls.same {sz:Nat} {v:AV} {rows:List (List AV)} {H H':Hp} (h:Ls sz v rows H) (a: ∀b,H' b=H b):Ls sz v rows H':=by
 rcases h with h|rfl
 ·exact .inl (h.same a)
 exact .inr rfl
theorem BD {E:kB} {N:Nat} {Q:fF} {c:Code} {fr:Fr} {H:Hp} {d sz o:Nat} {yA g:List AV} {v:AV} {rows:List (List AV)} (f:Ls sz v rows H) (k:H d=some (.rows o [yA++v::g])) (D: ∀x∈yA,BX v x) (F: ∀x∈g,BX v x) (C: ∀s n,v≠ .osl s d n)
  (h: ∀e a,(∀j,tR (fr j)=true→e j=fr j)→a d=some (.rows o [yA++ .isl sz rows::g])→(∀b s l,b≠d→(∀s n,v≠ .osl s b n)→(l.all fun r=>r.all tR)=true→H b=some (.rows s l)→a b=some (.rows s l))→mB E N c Q e a):mB E N c Q fr H:=by
 rcases f with f|rfl
 ·refine iE f k D F (fun s n=>C s n) fun e a u y z=>h e a (fun j B=>u j (bS B)) y fun b s l p t i=>z b s l p (fun s n=>t s n) fun r G x I=>bS ?_
  simp only[cI]at i;exact i r G x I
 exact h fr H (fun _ _=>rfl) k fun b s l _ _ _ A=>A
theorem Ls.offsz {sz a:Nat} {v:AV} {rows f:List (List AV)} {H:Hp} (h:Ls sz v rows H) {b:Nat} (c:H b=some (.rows a f)) (d:a≠sz): ∀s n,v≠ .osl s b n:=by
 rcases h with h|rfl
 ·exact h.offsz c d
 intro s n e;cases e
end Go.Al
namespace Go.Proofs.YtaecpjgmcffliaaGreatDoor
open Go.Al Go.Proofs.Tryz
def kR {α:Type} (w:Bool) (n:Nat) (r:PR α):PR α:=if w=true then .bad n else r
theorem nH {a:Type} (n:Nat) (r:PR a):kR false n r=r:=rfl
theorem GR {a:Type} (n:Nat) (r:PR a):kR true n r= .bad n:=rfl
theorem Wj {a b:Type} (w:Bool) (n:Nat) (r:PR a) (K:a→Nat→PR b):kR w n (r.bind K)=(kR w n r).bind K:=by cases w<;>rfl
theorem dA {b e:Type} {w d:Bool} {n a:Nat} {X:PR b} {K:b→Nat→PR e} {x:b} {c:PR e} (g:kR w n (X.bind K)=c) (f:kR d a (PR.ok x a)=kR w n X):kR d a (K x a)=c:=by
 rw[←g,Wj,←f,←Wj];rfl
def Qf (T:List fX) (w:Bool) (n:Nat) (s:dE):Bool:= !w&&decide (eA T n=s)
def A8 (T:List fX) (w:Bool) (n:Nat) (k:Int):Bool:= !w&&decide (nS T n=k)
theorem JF {T:List fX} {w:Bool} {n:Nat} {s:dE} (h:Qf T w n s=true):w=false∧eA T n=s:=by
 simpa [Qf]using h
theorem jO {T:List fX} {w:Bool} {n:Nat} {s:dE} (h:Qf T w n s=true) (a:s≠[]):n<T.length:=oK (JF h).2 a
theorem QY {T:List fX} {w:Bool} {n:Nat} {k:Int} (h:A8 T w n k=true):w=false∧nS T n=k:=by
 simpa [A8]using h
theorem rP {e:Type} {T:List fX} {w:Bool} {n:Nat} {s:dE} {A B b:PR e} (h:Qf T w n s=true) (a:kR w n (if eA T n=s then A else B)=b):kR w (n+1) A=b:=by
 obtain⟨c,d⟩:=JF h;subst c;rw[bF d]at a;exact a
theorem rQ {c:Type} {T:List fX} {w:Bool} {n:Nat} {s:dE} {A B b:PR c} (h:Qf T w n s=false) (a:kR w n (if eA T n=s then A else B)=b):kR w n B=b:=by
 cases w with
 |true=>exact a
 |false=>
  have : ¬eA T n=s:=by simpa [Qf]using h
  rw[aO this]at a;exact a
theorem YK {e:Type} {T:List fX} {w:Bool} {n:Nat} {k:Int} {A B b:PR e} (h:A8 T w n k=true) (a:kR w n (if nS T n=k then A else B)=b):kR w n A=b:=by
 obtain⟨c,d⟩:=QY h;subst c;rw[bF d]at a;exact a
theorem YL {c:Type} {T:List fX} {w:Bool} {n:Nat} {k:Int} {A B b:PR c} (h:A8 T w n k=false) (a:kR w n (if nS T n=k then A else B)=b):kR w n B=b:=by
 cases w with
 |true=>exact a
 |false=>
  have : ¬nS T n=k:=by simpa [A8]using h
  rw[aO this]at a;exact a
def Db (b:Nat) (T:List fX) (n:Nat) (w:Bool):Hp:=upd oN b (some (.rows 3 [[.isl 4 (T.map fX.row), .int .i64 (n:Nat), .bool w]]))
theorem mP (b:Nat) (T:List fX) (n:Nat) (w:Bool):Db b T n w b=some (.rows 3 [[.isl 4 (T.map fX.row), .int .i64 (n:Nat), .bool w]]):=bO _ _ _
theorem qW {b:Nat} {T:List fX} {n:Nat} {w:Bool} {H:Hp} (h:H b=some (.rows 3 [[.isl 4 (T.map fX.row), .int .i64 (n:Nat), .bool w]])):sD (Db b T n w) H:=fun x o a=>by
 by_cases c:x=b
 ·subst c;rw[mP]at a;rw[h];exact a
 rw[Db,cG _ _ c]at a;cases a
def qF {α:Type} (g:FuncId) (args:List AV) (b:Nat) (T:List fX) (n:Nat) (w:Bool) (f:α→AV) (r:PR α):Prop:=
 pP dR g (.ptr 3 b 0 0::args) (Db b T n w) (fun ae H'=> ∃x n' w',ae= .ret (f x)∧H'=Db b T n' w'∧kR w' n' (PR.ok x n')=r∧n≤n'∧n'≤T.length)
def Oh (g:FuncId) (args:List AV) (b:Nat) (T:List fX) (n:Nat) (w:Bool) (v:AV) (n':Nat) (w':Bool):Prop:=
 pP dR g (.ptr 3 b 0 0::args) (Db b T n w) (fun ae H'=>ae= .ret v∧H'=Db b T n' w')
theorem iO {d:Type} {b:Nat} {T:List fX} {e n:Nat} {w:Bool} {f:d→AV} {r:PR d} {v:AV} {H:Hp} {a:d} (o:H b=some (.rows 3 [[.isl 4 (T.map fX.row), .int .i64 (n:Nat), .bool w]])) (p:kR w n (PR.ok a n)=r) (t:Al.jE v (f a)) (k:e≤n) (l:n≤T.length):
  bB (fun j i=> ∃x c g,j= .ret (f x)∧i=Db b T c g∧kR g c (PR.ok x c)=r∧e≤c∧c≤T.length) v H:=
 ⟨f a,Db b T n w,(kY.sub t).trans (kY.drop (qW o)),a,n,w,rfl,rfl,p,k,l⟩
theorem Q6 {j:Type} {b:Nat} {T:List fX} {t n:Nat} {w:Bool} {f:j→AV} {r:PR j} {v:AV} {H:Hp} {a:j} {sz:Nat} {rows:List (List AV)} (B:dZ sz v rows H) (C:sz≠3) (g:H b=some (.rows 3 [[.isl 4 (T.map fX.row), .int .i64 (n:Nat), .bool w]])) (o:kR w n (PR.ok a n)=r) (p:Al.jE (.isl sz rows) (f a)) (k:t≤n) (l:n≤T.length):
  bB (fun z y=> ∃x d u,z= .ret (f x)∧y=Db b T d u∧kR u d (PR.ok x d)=r∧t≤d∧d≤T.length) v H:=by
 rcases B with⟨rfl,rfl⟩|⟨c,rfl,i⟩
 ·exact iO g o (fun S w x h=>p _ _ _ (jE.nsl sz _ _ _ h)) k l
 have A:b≠c:=fun e=>by subst e;rw[g]at i;cases i;exact C rfl
 refine bB.turn (kY.freeze i (rX.osl c sz rows)) (iO (n:=n) ?_ o p k l);rw[cG _ _ A];exact g
theorem oL {b:Nat} {T:List fX} {a:Nat} {c:Bool} {v v':AV} {H:Hp} (f:H b=some (.rows 3 [[.isl 4 (T.map fX.row), .int .i64 (a:Nat), .bool c]])) (g:v=v'):bB (fun e d=>e= .ret v'∧d=Db b T a c) v H:=by
 subst g;exact⟨v,_,kY.drop (qW f),rfl,rfl⟩
theorem xN (b:Nat) (T:List fX) (n a:Nat) (w c:Bool) (H:Hp):(kT (Db b T a c) (Db b T n w) H) b=some (.rows 3 [[.isl 4 (T.map fX.row), .int .i64 (a:Nat), .bool c]])∧ ∀x o,x≠b→H x=some o→kT (Db b T a c) (Db b T n w) H x=some o:=by
 refine⟨by simp only[kT,mP],fun x o d h=>?_⟩;simp only[kT,Db,cG _ _ d,oN,h,fS,cK,dT]
theorem gL {F:Nat→Prop} {j:List (Option Nat)} {Q:fF} {d:Option Nat} {l:List Oper} {fr:Fr} {H:Hp} {g:FuncId} {i:List AV} {b:Nat} {T:List fX} {n a:Nat} {w e:Bool} {v:AV}
  (u:Oh g i b T n w v a e) (t:H b=some (.rows 3 [[.isl 4 (T.map fX.row), .int .i64 (n:Nat), .bool w]])) (p:F b)
  (y: ∀f,f b=some (.rows 3 [[.isl 4 (T.map fX.row), .int .i64 (a:Nat), .bool e]])→(∀x o,x≠b→H x=some o→f x=some o)→eC dR F j Q l (fH fr d v) f):pC dR F j Q d l fr H g (.ptr 3 b 0 0::i):=by
 refine kW u (gK.refl _) (qW t) (fun x k=>?_) fun B A z _=>?_
 ·by_cases c:x=b
  ·subst c;exact p
  rw[Db,cG _ _ c]at k;exact absurd rfl k
 obtain⟨rfl,rfl⟩:=z;exact y _ (xN b T n a w e H).1 (xN b T n a w e H).2
theorem dU {u:Type} {F:Nat→Prop} {l:List (Option Nat)} {Q:fF} {d:Option Nat} {t:List Oper} {fr:Fr} {H:Hp} {g:FuncId} {k:List AV} {b:Nat} {T:List fX} {n:Nat} {w:Bool} {f:u→AV} {r:PR u}
  (C:qF g k b T n w f r) (B:H b=some (.rows 3 [[.isl 4 (T.map fX.row), .int .i64 (n:Nat), .bool w]])) (A:F b)
  (D: ∀a e i j,kR i e (PR.ok a e)=r→n≤e→e≤T.length→j b=some (.rows 3 [[.isl 4 (T.map fX.row), .int .i64 (e:Nat), .bool i]])→(∀x o,x≠b→H x=some o→j x=some o)→eC dR F l Q t (fH fr d (f a)) j):pC dR F l Q d t fr H g (.ptr 3 b 0 0::k):=by
 refine kW C (gK.refl _) (qW B) (fun x p=>?_) fun I G E _=>?_
 ·by_cases c:x=b
  ·subst c;exact A
  rw[Db,cG _ _ c]at p;exact absurd rfl p
 obtain⟨x,e,i,rfl,rfl,v,y,z⟩:=E;exact D x e i _ v y z (xN b T n e w i H).1 (xN b T n e w i H).2
theorem Ye (c:Nat) (T:List fX) (n:Nat) (w:Bool) (j:n≤T.length):Oh 150 [] c T n w (.str (eA T n)) n w:=by
 unfold Oh;have b:=mP c T n w;by_cases g:n<T.length
 ·have d:=aC g
  generalize T[n]=t at d;have i:=HZ d;have e:=NS d;have hd:decide ((n:Int)<(T.length:Int))=true:=cV (by omega);rw[i];refine bU 52 [.tmp 2] func150 ?_;refine aA fun K a=>?_;simp only[RR,seval];refine a _ _ (aH (aG fun K a=>?_));refine bA (fun x=>x≠c) [(0,3),(1,3),(2,3),(3,1),(4,3),(5,3),(6,3),(7,1),(8,3),(9,3),(10,3),(11,3),(12,3),(13,3),(14,1),(15,3),(16,3),(17,3),(18,1),(19,3),(20,3),(21,1),(22,3),(23,3),(24,3),(25,3),(26,3),(27,1),(28,3),(29,3),(30,3),(31,1),(32,3),(33,3),(34,1),(35,3),(36,3),(37,3)] [] eB (by kernel_rfl) rfl rfl ?_;simp only[dI,b,aF,e,hd,RR,seval]
  repeat' ((refine cL (fun h=>?_) (fun h=>?_))<;>simp only[h,b,e,RR,seval])
  all_goals
   refine a _ _ (aX ?_ ?_)<;>intro f
   ·try (cases f;done)
    all_goals
     refine aG fun K a=>?_;refine bA (fun x=>x≠c) [(0,3),(1,3),(2,3),(3,1),(4,3),(5,3),(6,3),(7,1),(8,3),(9,3),(10,1),(11,3)] [] eB (by kernel_rfl) rfl rfl ?_;simp only[dI,b,e,RR,seval];apply a;refine aP ?_;simp only[aY,aK,bP,RR,seval];refine oL b ?_;simp_all
   try (cases f;done)
   all_goals
    refine aL ?_;simp only[RR];refine aA fun K a=>?_;simp only[RR,seval];apply a;refine aP ?_;simp only[aY,aK,bP,RR,seval];refine oL b ?_;simp_all
 have hd:decide ((n:Int)<(T.length:Int))=false:=bI (by omega);rw[X5 g];refine bU 52 [.tmp 2] func150 ?_;refine aA fun K a=>?_;simp only[RR,seval];refine a _ _ (aH (aG fun K a=>?_));refine bA (fun x=>x≠c) [(0,3),(1,3),(2,3),(3,1),(4,3),(5,3),(6,3),(7,1),(8,3),(9,3),(10,3),(11,3),(12,3),(13,3),(14,1),(15,3),(16,3),(17,3),(18,1),(19,3),(20,3),(21,1),(22,3),(23,3),(24,3),(25,3),(26,3),(27,1),(28,3),(29,3),(30,3),(31,1),(32,3),(33,3),(34,1),(35,3),(36,3),(37,3)] [] eB (by kernel_rfl) rfl rfl ?_;simp only[dI,b,aF,hd,RR,seval]
 repeat' ((refine cL (fun h=>?_) (fun h=>?_))<;>simp only[h,b,aF,hd,RR,seval])
 all_goals
  refine a _ _ (bK ?_);refine aL ?_;simp only[RR];refine aA fun K a=>?_;simp only[RR,seval];apply a;refine aP ?_;simp only[aY,aK,bP,RR,seval];refine oL b ?_;rfl
theorem jY (g:Nat) {T:List fX} (j:Sz T) (n:Nat) (w:Bool) (l:n≤T.length) (s:dE) (t:s≠[]):Oh 99 [.str s] g T n w (.bool (Qf T w n s)) (if Qf T w n s=true then n+1 else n) w:=by
 have d:=Ye g T n w l;have p:=j.len;unfold Oh;have b:=mP g T n w;have o:=Tz (n:=n) (by omega);by_cases c:Qf T w n s=true
 ·obtain⟨rfl,f⟩:=JF c
  rw[bF c,c];rw[f]at d;refine bU 23 [.tmp 4] func99 ?_;refine aA fun K a=>?_;simp only[RR,seval];refine a _ _ (aH (aA fun K a=>?_));simp only[b,RR,seval];refine gL (d) b trivial fun i e k=>?_;have b:=e;simp only[RR,seval];refine a _ _ (cM (aA fun K a=>?_));simp only[b,o,RR,seval];refine a _ _ (aA fun K a=>?_);simp only[RR,seval];apply a;refine aP ?_;simp only[aY,aK,bP,RR,seval];refine oL (by(simp only[aS,seval];done)) ?_;rfl
 have c:=dL.2 c;rw[aO (dL.1 c),c]
 cases w with
 |true=>
  refine bU 23 [.tmp 4] func99 ?_;refine aA fun K a=>?_;simp only[RR,seval];refine a _ _ (aH (aA fun K a=>?_));simp only[b,RR,seval];refine a _ _ (bK ?_);refine aL ?_;simp only[RR];refine aA fun K a=>?_;simp only[RR,seval];apply a;refine aP ?_;simp only[aY,aK,bP,RR,seval];refine oL b ?_;rfl
 |false=>
  have f:decide (eA T n=s)=false:=by simpa [Qf]using c
  refine bU 23 [.tmp 4] func99 ?_;refine aA fun K a=>?_;simp only[RR,seval];refine a _ _ (aH (aA fun K a=>?_));simp only[b,RR,seval];refine gL (d) b trivial fun i e k=>?_;have b:=e;simp only[f,RR,seval];refine a _ _ (bK ?_);refine aL ?_;simp only[RR];refine aA fun K a=>?_;simp only[RR,seval];apply a;refine aP ?_;simp only[aY,aK,bP,RR,seval];refine oL b ?_;rfl
theorem fM (e:Nat) {T:List fX} (j:Sz T) (n:Nat) (w:Bool) (f:n≤T.length) (s:dE) (g:s≠[]):qF 101 [.str s] e T n w (fun _=> .tup []) (kR w n (fA T s n)):=by
 have k:=jY e j n w f s g;unfold qF;generalize b:kR w n (fA T s n)=o;unfold fA at b;have d:=mP e T n w;refine bU 11 [] func101 ?_;refine aA fun K i=>?_;simp only[RR,seval];refine gL (k) d trivial fun p l t=>?_;have d:=l;simp only[RR,seval];refine i _ _ (aX ?_ ?_)<;>intro c
 ·simp only[eI]at c
  have b:=rQ c b;rw[aO (dL.1 c)]at d
  have b:kR true n (PR.ok () n)=o:=by
   rw[←b];cases w<;>rfl
  refine aM ?_;simp only[d,RR,seval];simp only[aY,aK,bP,seval];exact iO (a:=()) (n:=n) (by(simp only[aS,seval];done)) b (jE.refl _) (aZ _) f
 simp only[pG]at c;have b:=rP c b;rw[bF c]at d;have u:=jO c (by assumption);have v:=jO c g;refine aL ?_;simp only[];simp only[aY,aK,bP,seval];exact iO (a:=()) (n:=n+1) d b (jE.refl _) (by omega) (by omega)
theorem Qe (c:Nat) (T:List fX) (n:Nat) (w:Bool) (j:n≤T.length) (k:Int) (g:k≠0):Oh 151 [.int .i64 k] c T n w (.bool (A8 T w n k)) n w:=by
 unfold Oh;have b:=mP c T n w
 cases w with
 |true=>
  have e:A8 T true n k=false:=rfl;rw[e];refine bU 37 [.tmp 4] func151 ?_;refine aA fun K a=>?_;simp only[RR,seval];refine a _ _ (aG fun K a=>?_);refine bA (fun x=>x≠c) [(0,3),(1,3),(2,3),(3,1),(4,3),(5,3),(6,3),(7,3),(8,3),(9,1),(10,3),(11,3),(12,3),(13,1),(14,3),(15,3),(16,3),(17,3),(18,3),(19,3),(20,3),(21,1),(22,3),(23,3),(24,3),(25,1),(26,3),(27,3),(28,1),(29,3),(30,3),(31,3),(32,3)] [] eB (by kernel_rfl) rfl rfl ?_;simp only[dI,b,RR,seval];apply a;refine aP ?_;simp only[aY,aK,bP,RR,seval];refine oL b ?_;rfl
 |false=>
  by_cases i:n<T.length
  ·have d:=aC i
   generalize T[n]=t at d;have f:=NS d;have hd:decide ((n:Int)<(T.length:Int))=true:=cV (by omega);have e:A8 T false n k=decide (t.kind=k):=by simp [A8,nS,d]
   rw[e];refine bU 37 [.tmp 4] func151 ?_;refine aA fun K a=>?_;simp only[RR,seval];refine a _ _ (aG fun K a=>?_);refine bA (fun x=>x≠c) [(0,3),(1,3),(2,3),(3,1),(4,3),(5,3),(6,3),(7,3),(8,3),(9,1),(10,3),(11,3),(12,3),(13,1),(14,3),(15,3),(16,3),(17,3),(18,3),(19,3),(20,3),(21,1),(22,3),(23,3),(24,3),(25,1),(26,3),(27,3),(28,1),(29,3),(30,3),(31,3),(32,3)] [] eB (by kernel_rfl) rfl rfl ?_;simp only[dI,b,aF,f,hd,RR,seval];apply a;refine aP ?_;simp only[aY,aK,bP,RR,seval];refine oL b ?_;rfl
  have hd:decide ((n:Int)<(T.length:Int))=false:=bI (by omega)
  have e:A8 T false n k=false:=by
   have :nS T n=0:=by rw[nS,dO (by omega)]
   simp [A8,this,Ne.symm g]
  rw[e];refine bU 37 [.tmp 4] func151 ?_;refine aA fun K a=>?_;simp only[RR,seval];refine a _ _ (aG fun K a=>?_);refine bA (fun x=>x≠c) [(0,3),(1,3),(2,3),(3,1),(4,3),(5,3),(6,3),(7,3),(8,3),(9,1),(10,3),(11,3),(12,3),(13,1),(14,3),(15,3),(16,3),(17,3),(18,3),(19,3),(20,3),(21,1),(22,3),(23,3),(24,3),(25,1),(26,3),(27,3),(28,1),(29,3),(30,3),(31,3),(32,3)] [] eB (by kernel_rfl) rfl rfl ?_;simp only[dI,b,aF,hd,RR,seval];apply a;refine aP ?_;simp only[aY,aK,bP,RR,seval];refine oL b ?_;rfl
theorem oR (v:Nat) {T:List fX} (D:Sz T) (n:Nat) (w:Bool) (A:n≤T.length) (k:Int) (z:k≠0):qF 102 [.int .i64 k] v T n w (fun t:fX=> .agg [.int .i64 t.kind, .str t.text, .int .u32 t.num, .int .i64 t.pos]) (kR w n (kG T k n)):=by
 have i:=Qe v T n w A k z;have H:=D.len;unfold qF;have c:=mP v T n w
 cases hik:A8 T w n k with
 |false=>
  rw[hik]at i
  have u:kR true n (PR.ok kD n)=kR w n (kG T k n):=by
   cases w with
   |true=>rfl
   |false=>
    have B: ¬nS T n=k:=by simpa [A8]using hik
    show PR.bad n=kG T k n;rw[kG]
    cases d:T[n]? with
    |none=>rfl
    |some t=>
     rw[nS,d]at B;exact(aO B).symm
  refine bU 31 [.cell 4 159] func102 ?_;refine aA fun K b=>?_;simp only[RR,seval];refine aN fun g o=>?_;have e:=cR o c;have f:=e.symm;simp only[RR,seval];refine b _ _ (aH (aA fun K b=>?_));simp only[RR,seval];refine gL (i) (by(simp only[c,f,aS,seval];done)) trivial fun C p j=>?_;have y:=j g _ e (bO _ _ _);have c:=p;simp only[RR,seval];refine b _ _ (cM (aA fun K b=>?_));simp only[c,RR,seval];refine b _ _ (aA fun K b=>?_);simp only[y,e,RR,seval];apply b;refine aP ?_;simp only[aY,aK,bP,RR,seval];refine iO (a:=kD) (n:=n) (by(simp only[f,aS,seval];done)) u ?_ (aZ _) A;exact jE.refl _
 |true=>
  obtain⟨rfl,l⟩:=QY hik;rw[hik]at i;have E:=NE l z;have d:=aC E;generalize T[n]=t at d;have G:=NS d
  have u:kR false (n+1) (PR.ok t (n+1))=kR false n (kG T k n):=by
   show PR.ok t (n+1)=kG T k n;rw[kG,d];rw[nS,d]at l;exact(bF l).symm
  have F:=Tz (n:=n) (by omega);have J:IntKind.wrap .i64 (((n+1:Nat):Int)- 1)=(n:Int):=by rw[aU _ (by omega)];omega
  have I:(n:Int)<(T.length:Int):=by omega
  refine bU 31 [.cell 4 159] func102 ?_;refine aA fun K b=>?_;simp only[RR,seval];refine aN fun g o=>?_;have e:=cR o c;have f:=e.symm;simp only[RR,seval];refine b _ _ (aH (aA fun K b=>?_));simp only[RR,seval];refine gL (i) (by(simp only[c,f,aS,seval];done)) trivial fun C p j=>?_;have y:=j g _ e (bO _ _ _);have c:=p;simp only[RR,seval];refine b _ _ (bK ?_);refine aL ?_;simp only[RR];refine aA fun K b=>?_;simp only[c,F,RR,seval];refine b _ _ (aG fun K b=>?_);refine bA (fun x=>x≠g) [(0,3),(1,3),(2,3),(3,1),(4,3),(5,3),(6,3),(7,1),(8,3),(9,3),(10,1)] [(11,1)] eB (by kernel_rfl) rfl rfl ?_;simp only[*,dI,RR,seval];apply b;refine aP ?_;simp only[aY,aK,bP,RR,seval];refine iO (a:=t) (n:=n+1) (by(simp only[f,aS,seval];done)) u ?_ (by omega) (by omega);exact jE.refl _
def Zx {α:Type} (g:FuncId) (args:List AV) (b:Nat) (T:List fX) (n:Nat) (w:Bool) (f:α→AV) (r:PR α) (G:α→Nat→Prop):Prop:=
 pP dR g (.ptr 3 b 0 0::args) (Db b T n w) (fun ae H'=> ∃x n' w',ae= .ret (f x)∧H'=Db b T n' w'∧kR w' n' (PR.ok x n')=r∧n≤n'∧n'≤T.length∧G x n')
theorem Zx.jcon {a:Type} {g:FuncId} {c:List AV} {b:Nat} {T:List fX} {n:Nat} {w:Bool} {f:a→AV} {r:PR a} {G:a→Nat→Prop} (h:Zx g c b T n w f r G):qF g c b T n w f r:=
 pP.mono h fun _ _ ⟨x,l,o,d,e,i,j,k,_⟩=>⟨x,l,o,d,e,i,j,k⟩
theorem U2 {k:Type} {F:Nat→Prop} {p:List (Option Nat)} {Q:fF} {d:Option Nat} {u:List Oper} {fr:Fr} {H:Hp} {g:FuncId} {l:List AV} {b:Nat} {T:List fX} {n:Nat} {w:Bool} {f:k→AV} {r:PR k} {G:k→Nat→Prop}
  (D:Zx g l b T n w f r G) (C:H b=some (.rows 3 [[.isl 4 (T.map fX.row), .int .i64 (n:Nat), .bool w]])) (B:F b)
  (E: ∀a e i j,kR i e (PR.ok a e)=r→n≤e→e≤T.length→G a e→j b=some (.rows 3 [[.isl 4 (T.map fX.row), .int .i64 (e:Nat), .bool i]])→(∀x o,x≠b→H x=some o→j x=some o)→eC dR F p Q u (fH fr d (f a)) j):pC dR F p Q d u fr H g (.ptr 3 b 0 0::l):=by
 refine kW D (gK.refl _) (qW C) (fun x t=>?_) fun K J I _=>?_
 ·by_cases c:x=b
  ·subst c;exact B
  rw[Db,cG _ _ c]at t;exact absurd rfl t
 obtain⟨x,e,i,rfl,rfl,v,y,z,A⟩:=I;exact E x e i _ v y z A (xN b T n e w i H).1 (xN b T n e w i H).2
theorem NI {g:Type} {b:Nat} {T:List fX} {u n:Nat} {w:Bool} {f:g→AV} {r:PR g} {v:AV} {H:Hp} {a:g} {sz:Nat} {rows:List (List AV)} {G:g→Nat→Prop} (C:dZ sz v rows H) (D:sz≠3) (i:H b=some (.rows 3 [[.isl 4 (T.map fX.row), .int .i64 (n:Nat), .bool w]])) (p:kR w n (PR.ok a n)=r) (t:Al.jE (.isl sz rows) (f a)) (k:u≤n) (l:n≤T.length) (o:G a n):
  bB (fun A z=> ∃x d y,A= .ret (f x)∧z=Db b T d y∧kR y d (PR.ok x d)=r∧u≤d∧d≤T.length∧G x d) v H:=by
 rcases C with⟨rfl,rfl⟩|⟨c,rfl,j⟩
 ·exact⟨f a,Db b T n w,(kY.sub (fun S w x h=>t _ _ _ (jE.nsl sz _ _ _ h))).trans (kY.drop (qW i)),a,n,w,rfl,rfl,p,k,l,o⟩
 have B:b≠c:=fun e=>by subst e;rw[i]at j;cases j;exact D rfl
 refine bB.turn (kY.freeze j (rX.osl c sz rows)) ⟨f a,Db b T n w,(kY.sub t).trans (kY.drop (qW ?_)),a,n,w,rfl,rfl,p,k,l,o⟩;rw[cG _ _ B];exact i
theorem wJ (e:Nat) {T:List fX} (t:Sz T) (n:Nat) (w:Bool) (hn:n≤T.length):Zx 100 [] e T n w strs (kR w n (pM T n)) (fun l m=>l.length≤m+1):=by
 unfold Zx;generalize c:kR w n (pM T n)=b0;have b4:=t.len;unfold pM at c;have b:=mP e T n w;refine bU 17 [.tmp 2] func100 ?_;refine aA fun K f=>?_;simp only[RR,seval];refine f _ _ (aA fun K f=>?_);simp only[RR,seval];refine dU (oR e t n w hn 1 (by decide)) b trivial fun A H w5 M1 U Y a0 a2 b2=>?_;have c:=dA c U;have b:=a2;simp only[RR,seval];refine wU fun B a3=>?_;have a8:=cR a3 b;have a9:=a8.symm;simp only[RR,seval];refine f _ _ (aH (bN fun J L y C=>?_));have o:=y 0;have x:=y 2;have i:=y 3;have p:=C e;have D:=C B;simp only[b,a9,RR,seval]at o x i p D;have b:=p;have d:dZ 1 (J 3) ([A.text].map bT) L:= .inr ⟨B,i,D⟩;refine aQ (iP [0,2] (T.length-H) (fun k P M=>(∃(m:Nat) (w:Bool) (g:List dE),k=T.length-m∧n≤m∧m≤T.length∧g.length≤m+1∧kR w m (UV T g m)=b0∧dZ 1 (P 3) (g.map bT) M∧M e=some (.rows 3 [[.isl 4 (T.map fX.row), .int .i64 (m:Nat), .bool w]]))) ⟨H,w5,[A.text],rfl,Y,a0,by simp,c,d,b⟩ ?_);rintro k z M3 ⟨m,I,g,rfl,a6,F,R,c,d,b⟩ u K0 Q;have o:=(u 0 rfl).trans o;have x:=(u 2 rfl).trans x;have O:=bC.refl [0,2] z;clear u;obtain⟨v3,i⟩: ∃v,z 3=v:=⟨_,rfl⟩;rw[i]at d;rw[SY]at c;refine aH (aA fun K f=>?_);simp only[o,RR,seval];refine gL (jY e t m I F [44] (by decide)) b trivial fun M4 a4 X=>?_;have d:=dZ.kp d b (by decide) X;have b:=a4;simp only[RR,seval];refine f _ _ (aX ?_ ?_)<;>intro E
 ·have j:=E
  have c:=rP j c;rw[bF j]at b;have b5:=jO j (by decide);refine aL ?_;simp only[RR];refine aQ (aM ?_);simp only[o,i,RR,seval];refine dU (oR e t (m+1) I (by omega) 1 (by decide)) b trivial fun N G b1 M5 S b3 Z a1 W=>?_;have c:=dA c S;have d:=dZ.kp d b (by decide) W;have b:=a1;simp only[RR,seval];refine dG ?_;simp only[RR,seval];refine jT d (by simp only[aF,aJ,aT];omega) (fun _=>trivial) fun v3 M6 a7 V=>?_;simp only[RR,seval];have p:=V e _ b (by exact(d).nb' b (by decide));have b:=p;refine Q (T.length-G) _ _ (by omega) ⟨G,b1,g++[N.text],rfl,by omega,Z,by simp only[aB,aJ,aT];omega,c,by rw[cP];exact a7,by exact b⟩ (by repeat (first|exact O|refine bC.upd rfl ?_))
 have j:=E;have c:=rQ j c;rw[aO (dL.1 j)]at b;refine cH ?_;simp only[RR,seval];refine aA fun K f=>?_;simp only[i,RR,seval];apply f;refine aP ?_;simp only[aY,aK,bP,RR,seval];refine NI (a:=g) d (by decide) b c ?_ a6 F R;exact jE.refl _
theorem G0 (a:Nat) {T:List fX} (b:Sz T) (n:Nat) (w:Bool) (c:n≤T.length):qF 100 [] a T n w strs (kR w n (pM T n)):=(wJ a b n w c).jcon
theorem Si (s:dE):eG dR 226 [.str s] (.int .i64 ((Ec s).2.2:Nat)):=by
 generalize b:Ec s=r;unfold Ec US at b;simp only[Ns]at b;refine bU 27 [.tmp 2] func226 ?_;refine aA fun K a=>?_;simp only[RR,seval];refine a _ _ (aH (aA fun K a=>?_));simp only[RR,seval];refine a _ _ (aQ (aA fun K a=>?_));simp only[RR,seval];refine a _ _ (aX ?_ ?_)<;>intro O
 ·rw[bF (aD O)]at b
  refine aA fun K a=>?_;simp only[RR,seval];apply a;refine aP ?_;simp only[aY,aK,bP,RR,seval];refine bB.pure ?_
  (subst b;rfl)
 rw[aO (aE O)]at b;refine aA fun K a=>?_;simp only[RR,seval];refine a _ _ (aX ?_ ?_)<;>intro P
 ·rw[bF (aD P)]at b
  refine aA fun K a=>?_;simp only[RR,seval];apply a;refine aP ?_;simp only[aY,aK,bP,RR,seval];refine bB.pure ?_
  (subst b;rfl)
 rw[aO (aE P)]at b;refine aA fun K a=>?_;simp only[RR,seval];refine a _ _ (aX ?_ ?_)<;>intro Q
 ·rw[bF (aD Q)]at b
  refine aA fun K a=>?_;simp only[RR,seval];apply a;refine aP ?_;simp only[aY,aK,bP,RR,seval];refine bB.pure ?_
  (subst b;rfl)
 rw[aO (aE Q)]at b;refine aA fun K a=>?_;simp only[RR,seval];refine a _ _ (aX ?_ ?_)<;>intro R
 ·rw[bF (aD R)]at b
  refine aA fun K a=>?_;simp only[RR,seval];apply a;refine aP ?_;simp only[aY,aK,bP,RR,seval];refine bB.pure ?_
  (subst b;rfl)
 rw[aO (aE R)]at b;refine aH (aA fun K a=>?_);simp only[RR,seval];refine a _ _ (bN fun B M1 f u=>?_);have e:=f 2;have d:=f 3;have l:=f 12;simp only[RR,seval]at e d l;refine gP (fun i M=>bC [2,3] B i∧i 12= .bool (decide (s=[124]∨s=[94]))) (fun a0 I=>?_) ?_
 ·have F:=bC.refl [2,3] B
  refine eO _ l (fun S=>?_) (fun S=>?_)
  ·refine aL ?_;try simp only[RR]
   refine I _ _ ⟨(by repeat (exact F)), ?_⟩;simp_all
  refine aM ?_;simp only[d,RR,seval];refine I _ _ ⟨(by repeat (first|exact F|refine bC.upd rfl ?_)), ?_⟩
  (simp only[aS,seval];simp_all;done)
 rintro X M2 ⟨g,l⟩;have e:=(g 2 rfl).trans e;have d:=(g 3 rfl).trans d;clear g;simp only[RR,seval];refine eO _ l (fun x=>?_) (fun x=>?_)
 ·have c:=aD x
  refine aA fun K a=>?_;simp only[RR,seval];apply a;refine aP ?_;simp only[aY,aK,bP,RR,seval];refine bB.pure ?_
  (rcases c with rfl|rfl<;>(simp at b;subst b;rfl))
 have c:=aE x;simp only[not_or]at c;rw[aO c.1,aO c.2]at b;refine aA fun K a=>?_;simp only[d,RR,seval];refine a _ _ (aX ?_ ?_)<;>intro N
 ·rw[bF (aD N)]at b
  refine aA fun K a=>?_;simp only[RR,seval];apply a;refine aP ?_;simp only[aY,aK,bP,RR,seval];refine bB.pure ?_
  (subst b;rfl)
 rw[aO (aE N)]at b;refine aH (aA fun K a=>?_);simp only[d,RR,seval];refine a _ _ (bN fun C M3 f u=>?_);have j:=f 2;have k:=f 3;have n:=f 17;simp only[e,d,RR,seval]at j k n;have e:=j;have d:=k;refine gP (fun i M=>bC [2,3] C i∧i 17= .bool (decide (s=[60,60]∨s=[62,62]))) (fun a1 J=>?_) ?_
 ·have G:=bC.refl [2,3] C
  refine eO _ n (fun T=>?_) (fun T=>?_)
  ·refine aL ?_;try simp only[RR]
   refine J _ _ ⟨(by repeat (exact G)), ?_⟩;simp_all
  refine aM ?_;simp only[d,RR,seval];refine J _ _ ⟨(by repeat (first|exact G|refine bC.upd rfl ?_)), ?_⟩
  (simp only[aS,seval];simp_all;done)
 rintro Y M4 ⟨g,n⟩;have e:=(g 2 rfl).trans e;have d:=(g 3 rfl).trans d;clear g;simp only[RR,seval];refine eO _ n (fun y=>?_) (fun y=>?_)
 ·have c:=aD y
  refine aA fun K a=>?_;simp only[RR,seval];apply a;refine aP ?_;simp only[aY,aK,bP,RR,seval];refine bB.pure ?_
  (rcases c with rfl|rfl<;>(simp at b;subst b;rfl))
 have c:=aE y;simp only[not_or]at c;rw[aO c.1,aO c.2]at b;refine aH (aA fun K a=>?_);simp only[d,RR,seval];refine a _ _ (bN fun D M5 f u=>?_);have j:=f 2;have k:=f 3;have o:=f 20;simp only[e,d,RR,seval]at j k o;have e:=j;have d:=k;refine gP (fun i M=>bC [2,3] D i∧i 20= .bool (decide (s=[43]∨s=[45]))) (fun a2 L=>?_) ?_
 ·have H:=bC.refl [2,3] D
  refine eO _ o (fun U=>?_) (fun U=>?_)
  ·refine aL ?_;try simp only[RR]
   refine L _ _ ⟨(by repeat (exact H)), ?_⟩;simp_all
  refine aM ?_;simp only[d,RR,seval];refine L _ _ ⟨(by repeat (first|exact H|refine bC.upd rfl ?_)), ?_⟩
  (simp only[aS,seval];simp_all;done)
 rintro Z M6 ⟨g,o⟩;have e:=(g 2 rfl).trans e;have d:=(g 3 rfl).trans d;clear g;simp only[RR,seval];refine eO _ o (fun z=>?_) (fun z=>?_)
 ·have c:=aD z
  refine aA fun K a=>?_;simp only[RR,seval];apply a;refine aP ?_;simp only[aY,aK,bP,RR,seval];refine bB.pure ?_
  (rcases c with rfl|rfl<;>(simp at b;subst b;rfl))
 have c:=aE z;simp only[not_or]at c;rw[aO c.1,aO c.2]at b;refine aH (aA fun K a=>?_);simp only[d,RR,seval];refine a _ _ (bN fun E M7 f u=>?_);have j:=f 2;have k:=f 3;have p:=f 23;simp only[e,d,RR,seval]at j k p;have e:=j;have d:=k;refine gP (fun i M=>bC [2] E i∧i 23= .bool (decide (s=[42]∨s=[47]∨s=[37]))) (fun a3 v=>?_) ?_
 ·have t:=bC.refl [2] E
  refine eO _ p (fun V=>?_) (fun V=>?_)
  ·refine aL ?_;try simp only[RR]
   refine v _ _ ⟨(by repeat (exact t)), ?_⟩;simp_all
  refine aA fun K a=>?_;simp only[d,RR,seval];refine a _ _ (eO _ (by rfl) (fun W=>?_) (fun W=>?_))
  ·refine aL ?_;try simp only[RR]
   refine v _ _ ⟨(by repeat (first|exact t|refine bC.upd rfl ?_)), ?_⟩
   (simp only[aS,seval];simp_all;done)
  refine aM ?_;simp only[d,RR,seval];refine v _ _ ⟨(by repeat (first|exact t|refine bC.upd rfl ?_)), ?_⟩
  (simp only[aS,seval];simp_all;done)
 rintro F8 M8 ⟨g,p⟩;have e:=(g 2 rfl).trans e;clear g;simp only[RR,seval];refine eO _ p (fun A=>?_) (fun A=>?_)
 ·have c:=aD A
  refine aA fun K a=>?_;simp only[RR,seval];apply a;refine aP ?_;simp only[aY,aK,bP,RR,seval];refine bB.pure ?_
  (rcases c with rfl|rfl|rfl<;>(simp at b;subst b;rfl))
 have c:=aE A;simp only[not_or]at c;rw[aO c.1,aO c.2.1,aO c.2.2]at b;refine aL ?_;simp only[RR];refine aA fun K a=>?_;simp only[RR,seval];apply a;refine aP ?_;simp only[aY,aK,bP,RR,seval];refine bB.pure ?_
 (subst b;rfl)
theorem JD (s:dE) (a b:Ex) (hs:(Ec s).2.2≠0):eG dR 227 [.str s,oM a,oM b] (oM (Jb s a b)):=by
 have hj:oM (Jb s a b)= .agg [.int .i64 (Ec s).1, .int .i64 (Ec s).2.1, .int .u32 0, .str [], .isl 5 [[.int .i64 a.kind, .int .i64 a.op, .int .u32 a.num, .str a.name, .isl 5 (a.kids.map Ex.row)],[.int .i64 b.kind, .int .i64 b.op, .int .u32 b.num, .str b.name, .isl 5 (b.kids.map Ex.row)]]]:=by
  simp only[oM,Jb,Ex.kind,Ex.op,Ex.num,Ex.name,Ex.kids,cX,dH,Ex.row_eq]
 rw[hj];generalize d:Ec s=r at hs⊢;unfold Ec US at d;simp only[Ns]at d;simp only[oM];refine bU 54 [.cell 6 62] func227 ?_;refine aA fun K f=>?_;simp only[RR,seval];refine aN fun u c0=>?_;simp only[RR,seval];refine aN fun v a1=>?_;have a6:v≠u:=fun e=>by rw[e]at a1;simp only[RR,seval,reduceCtorEq]at a1
 have E:=a6.symm;simp only[RR,seval];refine aN fun x D=>?_;have a7:x≠u:=fun e=>by rw[e]at D;simp only[E,RR,seval,reduceCtorEq]at D
 have J:=a7.symm;have a8:x≠v:=fun e=>by rw[e]at D;simp only[RR,seval,reduceCtorEq]at D
 have L:=a8.symm;simp only[RR,seval];refine f _ _ (aA fun K f=>?_);simp only[E,J,L,RR,seval];refine dG ?_;simp only[RR,seval];refine aN fun z y=>?_;have a9:z≠u:=fun e=>by rw[e]at y;simp only[E,J,RR,seval,reduceCtorEq]at y
 have j:=a9.symm;have b0:z≠v:=fun e=>by rw[e]at y;simp only[L,RR,seval,reduceCtorEq]at y
 have k:=b0.symm;have b1:z≠x:=fun e=>by rw[e]at y;simp only[RR,seval,reduceCtorEq]at y
 have l:=b1.symm;simp only[RR,seval];refine f _ _ (aH (aA fun K f=>?_));simp only[RR,seval];refine f _ _ (bN fun N t I B=>?_);have A:=I 6;have g:=I 7;have o:=I 12;have G:=B u;have H:=B v;have C:=B x;have i:=B z;simp only[E,J,L,j,k,l,RR,seval]at A g o G H C i;refine gP (fun fr M=>bC [6,7] N fr∧M u=t u∧M v=t v∧M x=t x∧M z=some (.rows 5 [[.int .i64 r.1, .int .i64 r.2.1, .int .u32 0, .str [], .isl 5 [[.int .i64 a.kind, .int .i64 a.op, .int .u32 a.num, .str a.name, .isl 5 (a.kids.map Ex.row)],[.int .i64 b.kind, .int .i64 b.op, .int .u32 b.num, .str b.name, .isl 5 (b.kids.map Ex.row)]]]])) (fun b2 p=>?_) ?_
 ·have n:=bC.refl [6,7] N
  have b3:t u=t u:=rfl;have b8:t v=t v:=rfl;have b9:t x=t x:=rfl;refine aQ (aA fun K f=>?_);simp only[o,RR,seval];refine f _ _ (aX ?_ ?_)<;>intro Y
  ·rw[bF (aD Y)]at d
   refine aM ?_;simp only[g,i,RR,seval];refine p _ _ ⟨(by repeat (first|exact n|refine bC.upd rfl ?_)),(by(simp only[j,aS,seval];done)),(by(simp only[k,aS,seval];done)),(by(simp only[l,aS,seval];done)), ?_⟩;subst d;exact bO _ _ _
  rw[aO (aE Y)]at d;refine aA fun K f=>?_;simp only[o,RR,seval];refine f _ _ (aX ?_ ?_)<;>intro Z
  ·rw[bF (aD Z)]at d
   refine aM ?_;simp only[g,i,RR,seval];refine p _ _ ⟨(by repeat (first|exact n|refine bC.upd rfl ?_)),(by(simp only[j,aS,seval];done)),(by(simp only[k,aS,seval];done)),(by(simp only[l,aS,seval];done)), ?_⟩;subst d;exact bO _ _ _
  rw[aO (aE Z)]at d;refine aA fun K f=>?_;simp only[o,RR,seval];refine f _ _ (aX ?_ ?_)<;>intro a0
  ·rw[bF (aD a0)]at d
   refine aM ?_;simp only[g,i,RR,seval];refine p _ _ ⟨(by repeat (first|exact n|refine bC.upd rfl ?_)),(by(simp only[j,aS,seval];done)),(by(simp only[k,aS,seval];done)),(by(simp only[l,aS,seval];done)), ?_⟩;subst d;exact bO _ _ _
  rw[aO (aE a0)]at d;refine aA fun K f=>?_;simp only[o,RR,seval];refine f _ _ (aX ?_ ?_)<;>intro O
  ·rw[bF (aD O)]at d
   refine aM ?_;simp only[g,i,RR,seval];refine p _ _ ⟨(by repeat (first|exact n|refine bC.upd rfl ?_)),(by(simp only[j,aS,seval];done)),(by(simp only[k,aS,seval];done)),(by(simp only[l,aS,seval];done)), ?_⟩;subst d;exact bO _ _ _
  rw[aO (aE O)]at d;refine aA fun K f=>?_;simp only[o,RR,seval];refine f _ _ (aX ?_ ?_)<;>intro P
  ·rw[bF (aD P)]at d
   refine aM ?_;simp only[g,i,RR,seval];refine p _ _ ⟨(by repeat (first|exact n|refine bC.upd rfl ?_)),(by(simp only[j,aS,seval];done)),(by(simp only[k,aS,seval];done)),(by(simp only[l,aS,seval];done)), ?_⟩;subst d;exact bO _ _ _
  rw[aO (aE P)]at d;refine aA fun K f=>?_;simp only[o,RR,seval];refine f _ _ (aX ?_ ?_)<;>intro Q
  ·rw[bF (aD Q)]at d
   refine aM ?_;simp only[g,i,RR,seval];refine p _ _ ⟨(by repeat (first|exact n|refine bC.upd rfl ?_)),(by(simp only[j,aS,seval];done)),(by(simp only[k,aS,seval];done)),(by(simp only[l,aS,seval];done)), ?_⟩;subst d;exact bO _ _ _
  rw[aO (aE Q)]at d;refine aA fun K f=>?_;simp only[o,RR,seval];refine f _ _ (aX ?_ ?_)<;>intro R
  ·rw[bF (aD R)]at d
   refine aM ?_;simp only[g,i,RR,seval];refine p _ _ ⟨(by repeat (first|exact n|refine bC.upd rfl ?_)),(by(simp only[j,aS,seval];done)),(by(simp only[k,aS,seval];done)),(by(simp only[l,aS,seval];done)), ?_⟩;subst d;exact bO _ _ _
  rw[aO (aE R)]at d;refine aA fun K f=>?_;simp only[o,RR,seval];refine f _ _ (aX ?_ ?_)<;>intro S
  ·rw[bF (aD S)]at d
   refine aM ?_;simp only[g,i,RR,seval];refine p _ _ ⟨(by repeat (first|exact n|refine bC.upd rfl ?_)),(by(simp only[j,aS,seval];done)),(by(simp only[k,aS,seval];done)),(by(simp only[l,aS,seval];done)), ?_⟩;subst d;exact bO _ _ _
  rw[aO (aE S)]at d;refine aA fun K f=>?_;simp only[o,RR,seval];refine f _ _ (aX ?_ ?_)<;>intro T
  ·rw[bF (aD T)]at d
   refine aM ?_;simp only[g,i,RR,seval];refine p _ _ ⟨(by repeat (first|exact n|refine bC.upd rfl ?_)),(by(simp only[j,aS,seval];done)),(by(simp only[k,aS,seval];done)),(by(simp only[l,aS,seval];done)), ?_⟩;subst d;exact bO _ _ _
  rw[aO (aE T)]at d;refine aA fun K f=>?_;simp only[o,RR,seval];refine f _ _ (aX ?_ ?_)<;>intro U
  ·rw[bF (aD U)]at d
   refine aM ?_;simp only[g,i,RR,seval];refine p _ _ ⟨(by repeat (first|exact n|refine bC.upd rfl ?_)),(by(simp only[j,aS,seval];done)),(by(simp only[k,aS,seval];done)),(by(simp only[l,aS,seval];done)), ?_⟩;subst d;exact bO _ _ _
  rw[aO (aE U)]at d;refine aA fun K f=>?_;simp only[o,RR,seval];refine f _ _ (aX ?_ ?_)<;>intro V
  ·rw[bF (aD V)]at d
   refine aM ?_;simp only[g,i,RR,seval];refine p _ _ ⟨(by repeat (first|exact n|refine bC.upd rfl ?_)),(by(simp only[j,aS,seval];done)),(by(simp only[k,aS,seval];done)),(by(simp only[l,aS,seval];done)), ?_⟩;subst d;exact bO _ _ _
  rw[aO (aE V)]at d;refine aA fun K f=>?_;simp only[o,RR,seval];refine f _ _ (aX ?_ ?_)<;>intro W
  ·rw[bF (aD W)]at d
   refine aM ?_;simp only[g,i,RR,seval];refine p _ _ ⟨(by repeat (first|exact n|refine bC.upd rfl ?_)),(by(simp only[j,aS,seval];done)),(by(simp only[k,aS,seval];done)),(by(simp only[l,aS,seval];done)), ?_⟩;subst d;exact bO _ _ _
  rw[aO (aE W)]at d;refine aA fun K f=>?_;simp only[o,RR,seval];refine f _ _ (aX ?_ ?_)<;>intro X
  ·rw[bF (aD X)]at d
   refine aM ?_;simp only[g,i,RR,seval];refine p _ _ ⟨(by repeat (first|exact n|refine bC.upd rfl ?_)),(by(simp only[j,aS,seval];done)),(by(simp only[k,aS,seval];done)),(by(simp only[l,aS,seval];done)), ?_⟩;subst d;exact bO _ _ _
  rw[aO (aE X)]at d
  have a5:s=[37]:=by
   by_cases c:s=[37]
   ·exact c
   rw[aO c]at d;subst d;exact absurd rfl hs
  rw[bF a5]at d;refine aM ?_;simp only[g,i,RR,seval];refine p _ _ ⟨(by repeat (first|exact n|refine bC.upd rfl ?_)),(by(simp only[j,aS,seval];done)),(by(simp only[k,aS,seval];done)),(by(simp only[l,aS,seval];done)), ?_⟩;subst d;exact bO _ _ _
 rintro F2 M2 ⟨F,a2,a3,a4,i⟩;have A:=(F 6 rfl).trans A;have g:=(F 7 rfl).trans g;have G:=a2.trans G;have H:=a3.trans H;have C:=a4.trans C;clear F;simp only[RR,seval];refine aA fun K f=>?_;simp only[A,g,C,i,RR,seval];apply f;refine aP ?_;simp only[aY,aK,bP,A,RR,seval];refine bB.pure ?_;rfl
theorem Uw {F:Nat→Prop} {e:List (Option Nat)} {Q:fF} {d:Option Nat} {j:List Oper} {fr:Fr} {H:Hp} {g:FuncId} {a:List AV} {b:Nat} {T:List fX} {n:Nat} {w:Bool} {v:AV}
  (l:Oh g a b T n w v n w) (f:H b=some (.rows 3 [[.isl 4 (T.map fX.row), .int .i64 (n:Nat), .bool w]])) (k:F b)
  (o:eC dR F e Q j (fH fr d v) H):pC dR F e Q d j fr H g (.ptr 3 b 0 0::a):=by
 refine kW l (gK.refl _) (qW f) (fun x i=>?_) fun u t p _=>?_
 ·by_cases c:x=b
  ·subst c;exact k
  rw[Db,cG _ _ c]at i;exact absurd rfl i
 obtain⟨rfl,rfl⟩:=p;have :kT (Db b T n w) (Db b T n w) H=H:=Qh (qW f);simp only[this];exact o
def Dh (r0:Nat) (T:List fX) (n:Nat) (w:Bool):Prop:=qF 225 [] r0 T n w oM (kR w n (tX T n))
def qN (r0:Nat) (T:List fX) (lo n:Nat) (w:Bool):Prop:=qF 194 [.int .i64 (lo:Nat)] r0 T n w oM (kR w n (kO T lo n))
def Tu (r0:Nat) (T:List fX) (n:Nat) (w:Bool):Prop:=qF 196 [] r0 T n w Gh (kR w n (vM T n))
structure PG (r0:Nat) (T:List fX) (n:Nat):Prop where
 atom: ∀m w,n<m→m≤T.length→Dh r0 T m w
 expr: ∀lo m w,1≤lo→lo≤10→n<m→m≤T.length→qN r0 T lo m w
 args: ∀m w,n<m→m≤T.length→Tu r0 T m w
theorem G4 (i:Nat) {T:List fX} (j:Sz T) (n:Nat) (w:Bool) (l:n≤T.length) (x:PG i T n):Dh i T n w:=by
 have b1:=Qe i T n w l 2 (by decide);unfold Dh qF;generalize a:kR w n (tX T n)=i9;rw[BI]at a;have h1:=j.len;have b:=mP i T n w;refine bU 59 [.cell 2 62] func225 ?_;refine aA fun K c=>?_;simp only[oM,RR,seval];refine aN fun g c2=>?_;have f:=cR c2 b;have k:=f.symm;simp only[RR,seval];refine c _ _ (aH (aQ (aA fun K c=>?_)));simp only[oM,RR,seval];refine Uw b1 (by(simp only[b,k,aS,seval];done)) trivial ?_;simp only[RR,seval];refine c _ _ (aX ?_ ?_)<;>intro A
 ·have a:=YK A a
  refine aA fun K c=>?_;simp only[oM,RR,seval];refine dU (oR i j n w l 2 (by decide)) (by(simp only[b,k,aS,seval];done)) trivial fun f1 i3 j0 M1 N g1 h2 b8 Y=>?_;have a:=dA a N;have d:=Y g _ f (bO _ _ _);have b:=b8;simp only[d,RR,seval];apply c;refine aP ?_;simp only[aY,aK,bP,oM,RR,seval];refine iO (by(simp only[b,k,aS,seval];done)) a ?_ (by omega) (by omega);simp only[Ex.kind,Ex.op,Ex.num,Ex.name,Ex.kids,dH];exact jE.aggR (by repeat' (first|exact jD.nil|exact jE.refl _|exact jE.nsl _|refine jD.cons ?_ ?_))
 have a:=YL A a;refine aA fun K c=>?_;simp only[oM,RR,seval];refine gL (jY i j n w l [103,101,116] (by decide)) (by(simp only[b,k,aS,seval];done)) trivial fun M2 b9 Z=>?_;have d:=Z g _ f (bO _ _ _);have b:=b9;simp only[RR,seval];refine c _ _ (aX ?_ ?_)<;>intro t
 ·have a:=rP t a
  rw[bF t]at b;have h7:=jO t (by decide);refine aA fun K c=>?_;simp only[oM,RR,seval];refine dU (fM i j (n+1) w (by omega) [40] (by decide)) b trivial fun f2 d4 e3 M3 O g2 b4 c0 a0=>?_;have a:=dA a O;have e:=a0 g _ f d;have d:=e;have b:=c0;simp only[RR,seval];refine c _ _ (aA fun K c=>?_);simp only[oM,RR,seval];refine dU (fM i j d4 e3 b4 [41] (by decide)) b trivial fun f3 i4 j1 M4 P g3 h5 c1 a1=>?_;have a:=dA a P;have e:=a1 g _ f d;have d:=e;have b:=c1;simp only[RR,seval];refine c _ _ (aA fun K c=>?_);simp only[d,oM,RR,seval];apply c;refine aP ?_;simp only[aY,aK,bP,oM,RR,seval];refine iO (by(simp only[b,k,aS,seval];done)) a ?_ (by omega) (by omega);simp only[Ex.kind,Ex.op,Ex.num,Ex.name,Ex.kids,dH];exact jE.aggR (by repeat' (first|exact jD.nil|exact jE.refl _|exact jE.nsl _|refine jD.cons ?_ ?_))
 have a:=rQ t a;rw[aO (dL.1 t)]at b;refine aA fun K c=>?_;simp only[oM,RR,seval];refine gL (jY i j n w l [33] (by decide)) b trivial fun M5 c3 a2=>?_;have e:=a2 g _ f d;have d:=e;have b:=c3;simp only[RR,seval];refine c _ _ (aX ?_ ?_)<;>intro u
 ·have a:=rP u a
  rw[bF u]at b;have i1:=jO u (by decide);refine aA fun K c=>?_;simp only[oM,RR,seval];refine dU (x.atom (n+1) w (by omega) (by omega)) b trivial fun f4 i5 j2 M6 Q g4 h6 c4 a3=>?_;have a:=dA a Q;have e:=a3 g _ f d;have d:=e;have b:=c4;simp only[oM,RR,seval];refine dG ?_;simp only[d,RR,seval];apply c;refine aP ?_;simp only[aY,aK,bP,oM,RR,seval];refine iO (by(simp only[b,k,aS,seval];done)) a ?_ (by omega) (by omega);simp only[Ex.row_eq,Ex.kind,Ex.op,Ex.num,Ex.name,Ex.kids,cX,dH];exact jE.aggR (by repeat' (first|exact jD.nil|exact jE.refl _|refine jD.cons ?_ ?_))
 have a:=rQ u a;rw[aO (dL.1 u)]at b;refine aA fun K c=>?_;simp only[oM,RR,seval];refine gL (jY i j n w l [40] (by decide)) b trivial fun M7 c5 a4=>?_;have e:=a4 g _ f d;have d:=e;have b:=c5;simp only[RR,seval];refine c _ _ (aX ?_ ?_)<;>intro v
 ·have a:=rP v a
  rw[bF v]at b;have i2:=jO v (by decide);refine aA fun K c=>?_;simp only[oM,RR,seval];refine dU (x.expr 1 (n+1) w (by decide) (by decide) (by omega) (by omega)) b trivial fun f5 d5 B7 M8 R g5 b6 c6 a5=>?_;have a:=dA a R;have e:=a5 g _ f d;have d:=e;have b:=c6;simp only[oM,RR,seval];refine aN fun I E=>?_;have G:=cR E b;have e1:=G.symm;have d9:=cR E d;have d7:=d9.symm;simp only[RR,seval];refine c _ _ (aA fun K c=>?_);simp only[oM,RR,seval];refine dU (fM i j d5 B7 b6 [41] (by decide)) (by(simp only[b,e1,aS,seval];done)) trivial fun f6 i6 j3 M9 S g6 h8 c7 B=>?_;have a:=dA a S;have e:=B g _ f (by(simp only[d,d7,aS,seval];rfl));have L:=B I _ G (bO _ _ _);have d:=e;have b:=c7;simp only[RR,seval];refine c _ _ (aA fun K c=>?_);simp only[d,L,oM,RR,seval];apply c;refine aP ?_;simp only[aY,aK,bP,oM,RR,seval];refine iO (by(simp only[b,k,aS,seval];done)) a ?_ (by omega) (by omega);simp only[Ex.kind,Ex.op,Ex.num,Ex.name,Ex.kids];exact jE.aggR (by repeat' (first|exact jD.nil|exact jE.refl _|refine jD.cons ?_ ?_))
 have a:=rQ v a;rw[aO (dL.1 v)]at b;refine aL ?_;simp only[RR];refine aA fun K c=>?_;simp only[oM,RR,seval];refine dU (oR i j n w l 1 (by decide)) b trivial fun f7 y z e5 U g7 D c8 a6=>?_;have a:=dA a U;have e:=a6 g _ f d;have d:=e;have b:=c8;simp only[RR,seval];refine c _ _ (aH (aQ (aA fun K c=>?_)));simp only[oM,RR,seval];refine gL (jY i j y z D [91] (by decide)) b trivial fun e6 c9 a7=>?_;have e:=a7 g _ f d;have d:=e;have b:=c9;simp only[RR,seval];refine c _ _ (aX ?_ ?_)<;>intro o
 ·have a:=rP o a
  rw[bF o]at b;have h3:=jO o (by decide);refine aA fun K c=>?_;simp only[oM,RR,seval];refine dU (x.expr 1 (y+1) z (by decide) (by decide) (by omega) (by omega)) b trivial fun f8 d6 e4 e7 V g8 b7 d0 a8=>?_;have a:=dA a V;have e:=a8 g _ f d;have d:=e;have b:=d0;simp only[oM,RR,seval];refine aN fun J F=>?_;have H:=cR F b;have e2:=H.symm;have e0:=cR F d;have d8:=e0.symm;simp only[RR,seval];refine c _ _ (aA fun K c=>?_);simp only[oM,RR,seval];refine dU (fM i j d6 e4 b7 [93] (by decide)) (by(simp only[b,e2,aS,seval];done)) trivial fun f9 i7 j4 e8 W g9 h9 d1 C=>?_;have a:=dA a W;have e:=C g _ f (by(simp only[d,d8,aS,seval];rfl));have M:=C J _ H (bO _ _ _);have d:=e;have b:=d1;simp only[RR,seval];refine c _ _ (aA fun K c=>?_);simp only[M,oM,RR,seval];refine dG ?_;simp only[d,RR,seval];apply c;refine aP ?_;simp only[aY,aK,bP,oM,RR,seval];refine iO (by(simp only[b,k,aS,seval];done)) a ?_ (by omega) (by omega);simp only[Ex.row_eq,Ex.kind,Ex.op,Ex.num,Ex.name,Ex.kids,cX,dH];exact jE.aggR (by repeat' (first|exact jD.nil|exact jE.refl _|refine jD.cons ?_ ?_))
 have a:=rQ o a;rw[aO (dL.1 o)]at b;refine aA fun K c=>?_;simp only[oM,RR,seval];refine gL (jY i j y z D [40] (by decide)) b trivial fun e9 d2 a9=>?_;have e:=a9 g _ f d;have d:=e;have b:=d2;simp only[RR,seval];refine c _ _ (aX ?_ ?_)<;>intro p
 ·have a:=rP p a
  rw[bF p]at b;have h4:=jO p (by decide);refine aA fun K c=>?_;simp only[oM,RR,seval];refine dU (x.args (y+1) z (by omega) (by omega)) b trivial fun g0 i8 j5 f0 X h0 i0 d3 b0=>?_;have a:=dA a X;have e:=b0 g _ f d;have d:=e;have b:=d3;simp only[d,Gh,RR,seval];apply c;refine aP ?_;simp only[aY,aK,bP,oM,RR,seval];refine iO (by(simp only[b,k,aS,seval];done)) a ?_ (by omega) (by omega);simp only[Ex.kind,Ex.op,Ex.num,Ex.name,Ex.kids];exact jE.aggR (by repeat' (first|exact jD.nil|exact jE.refl _|refine jD.cons ?_ ?_))
 have a:=rQ p a;rw[aO (dL.1 p)]at b;refine aL ?_;simp only[RR];refine aA fun K c=>?_;simp only[d,oM,RR,seval];apply c;refine aP ?_;simp only[aY,aK,bP,oM,RR,seval];refine iO (by(simp only[b,k,aS,seval];done)) a ?_ (by omega) (by omega);simp only[Ex.kind,Ex.op,Ex.num,Ex.name,Ex.kids,dH];exact jE.aggR (by repeat' (first|exact jD.nil|exact jE.refl _|exact jE.nsl _|refine jD.cons ?_ ?_))
theorem G1 (t:Nat) {T:List fX} (hT:Sz T) (lo n:Nat) (w:Bool) (F:1≤lo) (c9:lo≤9) (hn:n≤T.length) (hx:qN t T (lo+1) n w) (ih:PG t T n):qN t T lo n w:=by
 unfold qN qF;generalize c:kR w n (kO T lo n)=a6
 have c2: ∀a m d,kR d m (PR.ok a m)=kR w n (kO T (lo+1) n)→d=false→(Ec (eA T m)).2.2≤lo:=fun a m d h H=>by
  subst H
  cases w with
  |true=>rw[GR,nH]at h;cases h
  |false=>
   rw[nH,nH]at h;have:=Qp (by omega) h.symm;omega
 have c3: ∀I L a m d,kR d m (PR.ok a m)=kR L I (kO T (lo+1) I)→d=false→(Ec (eA T m)).2.2≤lo:=fun I L a m d h H=>by
  subst H
  cases L with
  |true=>rw[GR,nH]at h;cases h
  |false=>
   rw[nH,nH]at h;have:=Qp (by omega) h.symm;omega
 rw[JW lo n F]at c;have d1:=hT.len;have b:=mP t T n w;have z1:decide ((9:Int)<(lo:Int))=false:=bI (by omega);have z2:IntKind.wrap .i64 ((lo:Int)+1)=((lo+1:Nat):Int):=by rw[aU _ (by omega)];omega
 unfold qN at hx;refine bU 44 [.cell 4 62] func194 ?_;refine aA fun K e=>?_;simp only[oM,RR,seval];refine aN fun l b7=>?_;have D:=cR b7 b;have a4:=D.symm;simp only[RR,seval];refine e _ _ (aH (aA fun K e=>?_));simp only[oM,z1,RR,seval];refine e _ _ (bK ?_);refine aL ?_;simp only[RR];refine aA fun K e=>?_;simp only[oM,z2,RR,seval];refine dU (hx) (by(simp only[b,a4,aS,seval];done)) trivial fun a7 a1 c7 M1 W b0 b2 b6 a9=>?_;have c:=dA c W;have i:=a9 l _ D (bO _ _ _);have b:=b6;simp only[oM,RR,seval];refine aN fun A Z=>?_;have J:=cR Z b;have a5:=J.symm;have c6:=cR Z i;have a3:=c6.symm;simp only[RR,seval];refine e _ _ (aH (bN fun F2 M2 g o=>?_));have j:=g 0;have u:=g 1;have v:=g 4;have y:=g 5;have U:=o t;have f:=o l;have p:=o A;simp only[b,i,a5,a3,RR,seval]at j u v y U f p;have b:=U;have i:=f;refine aQ (iP [0,1,4,5] (T.length-a1) (fun k fr M=>M l=M2 l∧(∃(m:Nat) (d:Bool) (x:Ex),k=T.length-m∧n≤m∧m≤T.length∧kR d m (wH T lo x m)=a6∧(d=false→(Ec (eA T m)).2.2≤lo)∧M A=some (.rows 5 [[.int .i64 x.kind, .int .i64 x.op, .int .u32 x.num, .str x.name, .isl 5 (x.kids.map Ex.row)]])∧M t=some (.rows 3 [[.isl 4 (T.map fX.row), .int .i64 (m:Nat), .bool d]]))) ⟨rfl,a1,c7,a7,rfl,b0,b2,c,c2 _ _ _ W,p,b⟩ ?_);rintro k N M3 ⟨f,m,d,x,rfl,d3,hm,c,c1,p,b⟩ z K0 a8;have j:=(z 0 rfl).trans j;have u:=(z 1 rfl).trans u;have v:=(z 4 rfl).trans v;have y:=(z 5 rfl).trans y;have i:=f.trans i;have G:=bC.refl [0,1,4,5] N;have B:=f;clear z;have V:=Ye t T m d hm;have b9:=Si (eA T m)
 all_goals
  refine aH (aA fun K e=>?_);simp only[j,b,oM,RR,seval]
  all_goals ((refine cL (fun h=>?_) (fun h=>?_))<;>simp only[h,j,RR,seval])
  all_goals try (refine Uw V b trivial ?_;simp only[RR,seval])
  all_goals try (refine aI (b9) ?_;simp only[u,RR,seval])
  all_goals
   refine e _ _ (aX ?_ ?_)<;>intro C
   ·try (cases C;done)
    all_goals
     have a0:=C;clear C;have c5:d=false:=by simpa using h
     have c0:(Ec (eA T m)).2.2=lo:=by have:=aD a0;omega
     subst c5;rw[nH,tM T lo x m F,aO (by omega),c0]at c;have d2:m<T.length:=O6 (lo:=lo) (by omega) F;have c:=(nH (m+1) _).trans c;have c4:=Tz (n:=m) (by omega);refine aL ?_;simp only[RR];refine aQ (aA fun K e=>?_);simp only[j,oM,RR,seval];refine Uw V b trivial ?_;simp only[RR,seval];refine e _ _ (aA fun K e=>?_);simp only[j,b,oM,c4,RR,seval];refine e _ _ (bN fun F4 M4 g o=>?_);have P:=g 0;have Q:=g 1;have R:=g 4;have S:=g 5;have f6:=g 6;have f:=o l;have b:=o t;have E:=o A;simp only[j,u,v,y,i,p,D,J,RR,seval]at P Q R S f6 f b E;have G:bC [0,1,4,5] N F4:=bC.same g (by repeat (first|exact G|refine bC.upd rfl ?_));have B:=(o l).trans (by(simp only[D,aS,seval];exact B));have j:=P;have u:=Q;have v:=R;have y:=S;have i:=f;have p:=E;refine bA (fun x=>x≠l∧x≠A) [(0,3),(1,0),(2,3),(3,3),(4,3),(5,1),(6,1)] [(7,1)] eB (by kernel_rfl) rfl rfl ?_;simp only[*,dI,fP,oM,z2,RR,seval];refine dU (ih.expr (lo+1) (m+1) false (by omega) (by omega) (by omega) (by omega)) b (by trivial) fun O a2 c8 M5 X d0 b3 b8 Y=>?_;have c:=dA c X;have f:=Y l _ D i;have B:=(f.trans i.symm).trans B;have E:=Y A _ J p;have i:=f;have p:=E;have b:=b8;simp only[oM,RR,seval];refine aI (JD (eA T m) x O (by omega)) ?_;simp only[y,p,oM,RR,seval];refine a8 (T.length-a2) _ _ (by omega) ⟨(by(simp only[a3,aS,seval];exact B)),a2,c8,Jb (eA T m) x O,rfl,by omega,b3,c,c3 _ _ _ _ _ X,by exact bO _ _ _,by(simp only[b,a5,aS,seval];done)⟩ (by repeat (first|exact G|refine bC.upd rfl ?_))
   try (cases C;done)
   all_goals
    have a0:=C
    have c:kR d m (PR.ok x m)=a6:=by
     cases d with
     |true=>exact c
     |false=>
      have b1:(Ec (eA T m)).2.2<lo:=by
       have:=c1 rfl;rcases Nat.lt_or_eq_of_le this with h1|h1
       ·exact h1
       exfalso;simp_all
      rw[tM T lo x m F,bF b1]at c;exact c
    refine cH ?_;simp only[RR,seval];refine aA fun K e=>?_;simp only[*,oM,RR,seval];apply e;refine aP ?_;simp only[aY,aK,bP,v,oM,RR,seval];refine iO (by(simp only[b,a4,aS,seval];done)) c ?_ (by omega) (by omega);exact jE.refl _
theorem Z8 (d:Nat) {T:List fX} (n:Nat) (w:Bool) (e:Dh d T n w):qN d T 10 n w:=by
 unfold qN qF;rw[AP];generalize c:kR w n (tX T n)=z;have b:=mP d T n w;have B:decide ((9:Int)<((10:Nat):Int))=true:=rfl;unfold Dh at e;refine bU 44 [.cell 4 62] func194 ?_;refine aA fun K a=>?_;simp only[oM,RR,seval];refine aN fun i p=>?_;have f:=cR p b;have g:=f.symm;simp only[RR,seval];refine a _ _ (aH (aA fun K a=>?_));simp only[oM,RR,seval];refine a _ _ (cM (aA fun K a=>?_));simp only[oM,RR,seval];refine dU (e) (by(simp only[b,g,aS,seval];done)) trivial fun u y A t k v x o l=>?_;have c:=k.trans c;have j:=l i _ f (bO _ _ _);have b:=o;simp only[j,oM,RR,seval];apply a;refine aP ?_;simp only[aY,aK,bP,oM,RR,seval];refine iO (by(simp only[b,g,aS,seval];done)) c ?_ (by omega) (by omega);exact jE.refl _
theorem G5 (f:Nat) {T:List fX} (z:Sz T) (n:Nat) (w:Bool) (hn:n≤T.length) (J:qN f T 1 n w) (ih:PG f T n):Tu f T n w:=by
 unfold Tu qF;generalize c:kR w n (vM T n)=a9;rw[KY]at c;have b8:=z.len;have b:=mP f T n w;unfold qN at J;refine bU 21 [.tmp 2] func196 ?_;refine aA fun K d=>?_;simp only[Gh,RR,seval];refine d _ _ (aA fun K d=>?_);simp only[Gh,RR,seval];refine d _ _ (aH (aA fun K d=>?_));simp only[Gh,RR,seval];refine gL (jY f z n w hn [41] (by decide)) b trivial fun M1 a6 b4=>?_;have b:=a6;simp only[RR,seval];refine d _ _ (aX ?_ ?_)<;>intro x
 ·have c:=rP x c
  rw[bF x]at b;have c1:=jO x (by decide);refine aA fun K d=>?_;simp only[Gh,RR,seval];apply d;refine aP ?_;simp only[aY,aK,bP,Gh,RR,seval];exact iO b c (jE.nsl _) (by omega) (by omega)
 have c:=rQ x c;rw[aO (dL.1 x)]at b;refine aL ?_;simp only[RR];refine bN fun F2 M2 l y=>?_;have g:=l 0;have u:=l 2;have i:=l 3;have j:=y f;simp only[b,RR,seval]at g u i j;have b:=j;refine aA fun K d=>?_;simp only[g,i,Gh,RR,seval];refine dU (J) b trivial fun F N w8 M3 W a0 a2 a7 b5=>?_;have c:=dA c W;have b:=a7;simp only[oM,RR,seval];refine dG ?_;simp only[RR,seval];refine jT (dZ.nil 5 _) (by simp only[aJ,aT];omega) (fun _=>trivial) fun v4 M4 D C=>?_;simp only[RR,seval];have j:=C f _ b (by exact((dZ.nil 5 _)).nb' b (by decide));have b:=j;refine d _ _ (aH (bN fun F5 O l y=>?_));have G:=l 0;have H:=l 2;have i:=l 3;have j:=y f;simp only[g,u,b,RR,seval]at G H i j
 have e:dZ 5 v4 ([F].map Ex.row) O:=by
  rw[cX,dH,Ex.row_eq];exact D.same y
 have g:=G;have u:=H;have b:=j;refine aQ ?_;refine iP [0,2] (T.length-N) (fun k R M=>(∃(m:Nat) (t:Bool) (o:List Ex),k=T.length-m∧n≤m∧m≤T.length∧o.length≤m+1∧kR t m (Zl T o m)=a9∧dZ 5 (R 3) (o.map Ex.row) M∧M f=some (.rows 3 [[.isl 4 (T.map fX.row), .int .i64 (m:Nat), .bool t]]))) ⟨N,w8,[F],rfl,a0,a2,by simp,c,by rw[i];exact e,b⟩ ?_;rintro k E M6 ⟨m,t,o,rfl,c2,I,b3,c,e,b⟩ A K0 S;have g:=(A 0 rfl).trans g;have u:=(A 2 rfl).trans u;have Q:=bC.refl [0,2] E;clear A;obtain⟨v3,i⟩: ∃v,E 3=v:=⟨_,rfl⟩;rw[i]at e;rw[KZ]at c;refine aH (aA fun K d=>?_);simp only[g,Gh,RR,seval];refine gL (jY f z m t I [44] (by decide)) b trivial fun M7 a3 X=>?_;have e:=dZ.kp e b (by decide) X;have b:=a3;simp only[RR,seval];refine d _ _ (aX ?_ ?_)<;>intro B
 ·have p:=B;clear B
  have c:=rP p c;rw[bF p]at b;have b9:=jO p (by decide);refine aL ?_;simp only[RR];refine aQ (aM ?_);simp only[g,i,Gh,RR,seval];refine dU (ih.expr 1 (m+1) t (by decide) (by decide) (by omega) (by omega)) b trivial fun P L b0 M8 U b6 a1 a4 Y=>?_;have c:=dA c U;have e:=dZ.kp e b (by decide) Y;have b:=a4;simp only[oM,RR,seval];refine dG ?_;simp only[RR,seval];refine jT e (by simp only[aF,aJ,aT];omega) (fun _=>trivial) fun v6 M9 D C=>?_;simp only[RR,seval];have j:=C f _ b (by exact(e).nb' b (by decide));have b:=j;refine S (T.length-L) _ _ (by omega) ⟨L,b0,o++[P],rfl,by omega,a1,by simp only[aB,aJ,aT];omega,c,by rw[KA];exact D,by exact b⟩ (by repeat (first|exact Q|refine bC.upd rfl ?_))
 have p:=B;have c:=rQ p c;rw[aO (dL.1 p)]at b;refine cH ?_;simp only[RR,seval];refine aA fun K d=>?_;simp only[g,Gh,RR,seval];refine dU (fM f z m t I [41] (by decide)) b trivial fun b2 c3 c4 b1 V b7 c0 a5 Z=>?_;have c:=dA c V;have e:=dZ.kp e b (by decide) Z;have b:=a5;simp only[RR,seval];refine d _ _ (aA fun K d=>?_);simp only[i,Gh,RR,seval];apply d;refine aP ?_;simp only[aY,aK,bP,Gh,RR,seval];refine Q6 (a:=o) e (by decide) b c ?_ (by omega) (by omega);exact jE.refl _
theorem Jc (b:Nat) {T:List fX} (g:Sz T) (k:Nat): ∀n w,n≤T.length→T.length-n≤k→Dh b T n w∧(∀a,1≤a→a≤10→qN b T a n w)∧Tu b T n w:=by
 induction k using Nat.strongRecOn with
 |_ k ih=>
  intro n w j v;have i:PG b T n:=⟨fun m f e c=>(ih (T.length-m) (by omega) m f c (aZ _)).1,fun a m f t u e c=>(ih (T.length-m) (by omega) m f c (aZ _)).2.1 a t u,fun m f e c=>(ih (T.length-m) (by omega) m f c (aZ _)).2.2⟩;have l:=G4 b g n w j i
  have p: ∀d a,1≤a→a+d=10→qN b T a n w:=by
   intro d
   induction d with
   |zero=>intro a _ h;obtain rfl:a=10:=by omega
          exact Z8 b n w l
   |succ d ihd=>intro a e c;exact G1 b g a n w e (by omega) j (ihd (a+1) (by omega) (by omega)) i
  have o: ∀a,1≤a→a≤10→qN b T a n w:=fun a e c=>p (10 -a) a e (by omega);exact⟨l,o,G5 b g n w j (o 1 (by decide) (by decide)) i⟩
theorem tO (a:Nat) {T:List fX} (b:Sz T) (n:Nat) (w:Bool) (c:n≤T.length):qF 194 [.int .i64 1] a T n w oM (kR w n (kO T 1 n)):=(Jc a b _ n w c (aZ _)).2.1 1 (by decide) (by decide)
theorem AA (a:Nat) {T:List fX} (b:Sz T) (n:Nat) (w:Bool) (c:n≤T.length):qF 196 [] a T n w Gh (kR w n (vM T n)):=(Jc a b _ n w c (aZ _)).2.2
theorem E4 (T:List fX) (n:Nat):wG T n=(kG T 1 n).bind fun t m=>
  (if eA T m=[40]then(vM T (m+1)).bind fun l m=> .ok (.mk 6 t.text l [] []) m
   else if eA T m=[91]then(kO T 1 (m+1)).bind fun a m=>(fA T [93] m).bind fun _ m=>(fA T [61] m).bind fun _ m=>(kO T 1 m).bind fun e m=> .ok (.mk 2 t.text [a,e] [] []) m
   else(fA T [61] m).bind fun _ m=>(kO T 1 m).bind fun e m=> .ok (.mk 1 t.text [e] [] []) m:PR Sm).bind fun s m=>(fA T [59] m).bind fun _ m=> .ok s m:=by
 unfold wG;refine PR.bind_congr rfl fun t m _=>?_;congr 1;by_cases b:eA T m=[61]
 ·have e:fA T [61] m= .ok () (m+1):=bF b
  rw[b,e];rfl
 have e:fA T [61] m= .bad m:=aO b;rw[aO b,e,PR.bind_bad];by_cases c:eA T m=[91]
 ·rw[c];simp
 simp only[aO c]
theorem Dc (d:Nat) {T:List fX} (e:Sz T) (n:Nat) (w:Bool) (u:n≤T.length):qF 193 [] d T n w Gh (kR w n (pW T n)):=by
 unfold qF;generalize c:kR w n (pW T n)=V;unfold pW at c;have R:=e.len;have b:=mP d T n w;refine bU 12 [.tmp 2] func193 ?_;refine aA fun K a=>?_;simp only[Gh,RR,seval];refine a _ _ (aA fun K a=>?_);simp only[Gh,RR,seval];refine dU (fM d e n w u [40] (by decide)) b trivial fun I A D F j O p x M=>?_;have c:=dA c j;have b:=x;simp only[RR,seval];refine a _ _ (aA fun K a=>?_);simp only[Gh,RR,seval];refine dU (tO d e A D p) b trivial fun J B E G k P t y N=>?_;have c:=dA c k;have b:=y;simp only[oM,RR,seval];refine aN fun g v=>?_;have f:=cR v b;have C:=f.symm;simp only[RR,seval];refine a _ _ (aA fun K a=>?_);simp only[Gh,RR,seval];refine dU (fM d e B E t [41] (by decide)) (by(simp only[b,C,aS,seval];done)) trivial fun L U W H l Q S z o=>?_;have c:=dA c l;have i:=o g _ f (bO _ _ _);have b:=z;simp only[RR,seval];refine a _ _ (aA fun K a=>?_);simp only[i,Gh,RR,seval];refine dG ?_;simp only[RR,seval];apply a;refine aP ?_;simp only[aY,aK,bP,Gh,RR,seval];refine iO b c ?_ (by omega) (by omega);simp only[cX,dH,Ex.row_eq];exact jE.refl _
def Iz (r0:Nat) (T:List fX) (n:Nat) (w:Bool):Prop:=qF 152 [] r0 T n w sM (kR w n (Hq T n))
def Tt (r0:Nat) (T:List fX) (n:Nat) (w:Bool):Prop:=qF 195 [] r0 T n w XK (kR w n (Ew T n))
def Nx (T:List fX) (m:Nat) (w:Bool):Nat:=2 *(T.length-m)+(if w=true then 0 else 1)
theorem Tf {e:Type} {T:List fX} {m b:Nat} {w c:Bool} {a:e} {X:PR e} (g:w=false) (j:m≤T.length) (k:b≤T.length) (i:m≤b) (d:kR c b (PR.ok a b)=kR w m X) (f: ∀a b,X= .ok a b→m<b):Nx T b c<Nx T m w:=by
 subst g;unfold Nx
 cases c with
 |true=>simp;omega
 |false=>
  rw[nH,nH]at d;have:=f a b d.symm;simp;omega
theorem G3 (l:Nat) {T:List fX} (D:Sz T) (n:Nat) (w:Bool) (hn:n≤T.length) (ih: ∀m w,n≤m→m≤T.length→Iz l T m w):Tt l T n w:=by
 unfold Tt qF;generalize c:kR w n (Ew T n)=S;rw[KR]at c;have b6:=D.len;have b:=mP l T n w;refine bU 22 [.tmp 2] func195 ?_;refine aA fun K g=>?_;simp only[RR,seval];refine g _ _ (aA fun K g=>?_);simp only[RR,seval];refine dU (fM l D n w hn [123] (by decide)) b trivial fun a5 R U M1 a4 a9 b0 b2 b5=>?_;have c:=dA c a4;have b:=b2;simp only[RR,seval];refine g _ _ (aA fun K g=>?_);simp only[RR,seval];refine g _ _ (aH (bN fun F2 M2 E Y=>?_));have o:=E 0;have C:=E 2;have p:=E 3;have y:=Y l;simp only[b,RR,seval]at o C p y;have b:=y;refine aQ (iP [0,2] (Nx T R U) (fun k X M=>(∃(m:Nat) (f:Bool) (i:List Sm),k=Nx T m f∧n≤m∧m≤T.length∧i.length≤m+1∧(f=false→i.length≤m)∧kR f m (sV T i m)=S∧dZ 5 (X 3) (i.map Sm.row) M∧M l=some (.rows 3 [[.isl 4 (T.map fX.row), .int .i64 (m:Nat), .bool f]]))) ⟨R,U,[],rfl,a9,b0,cN _,fun _=>cN _,c, .inl ⟨p,rfl⟩,b⟩ ?_);rintro k J M3 ⟨m,f,i,rfl,b3,F,a0,a1,c,j,b⟩ B K0 Z;have o:=(B 0 rfl).trans o;have C:=(B 2 rfl).trans C;have W:=bC.refl [0,2] J;clear B;obtain⟨v3,p⟩: ∃v,J 3=v:=⟨_,rfl⟩;rw[p]at j;rw[Ox]at c;have a3:=jY l D m f F [125] (by decide)
 all_goals
  refine aH (aA fun K g=>?_);simp only[o,b,RR,seval]
  all_goals ((refine cL (fun h=>?_) (fun h=>?_))<;>simp only[h,o,RR,seval])
  all_goals try ((refine gL a3 b trivial fun M9 Q L=>?_;have j:=dZ.kp j b (by decide) L;have b:=Q;clear Q L);simp only[RR,seval])
  all_goals
   refine g _ _ (aX ?_ ?_)<;>intro u
   ·try (cases u;done)
    all_goals
     have G:=u;clear u;have x:f=false:=by simpa using h
     have t:Qf T f m [125]=false:=by simpa using G
     have c:=rQ t c;rw[aO (dL.1 t)]at b;have a0:=a1 x;refine aL ?_;simp only[RR];refine aQ (aM ?_);simp only[o,p,RR,seval];refine dU (ih m f b3 F) b trivial fun V H I M4 z a8 N b1 a7=>?_;have c:=dA c z;have j:=dZ.kp j b (by decide) a7;have b:=b1;simp only[sM,RR,seval];refine dG ?_;simp only[RR,seval];refine jT j (by simp only[aF,aJ,aT];omega) (fun _=>trivial) fun v4 M5 b4 a6=>?_;simp only[RR,seval];have y:=a6 l _ b (by exact(j).nb' b (by decide));have b:=y;have b7:=Tf x F N a8 z fun a m' h=>(xI h).1
     have a2:I=false→m<H:=fun e=>by
      subst e;subst x;rw[nH,nH]at z;exact(xI z.symm).1
     refine Z (Nx T H I) _ _ (by omega) ⟨H,I,i++[V],rfl,by omega,N,by simp only[aB,aJ,aT];omega,fun e=>by have:=a2 e;simp only[aB,aJ,aT];omega,c,by rw[Xd];exact b4,by exact b⟩ (by repeat (first|exact W|refine bC.upd rfl ?_))
   try (cases u;done)
   all_goals
    have G:=u
    first
     |(have x:f=true:=by simpa using h
       subst x;obtain⟨d,A⟩: ∃d:Nat,d=m:=⟨_,rfl⟩;have c:kR true d (PR.ok i d)=S:=by rw[A];exact c
       rw[←A]at b;have O:n≤d:=by omega
       have P:d≤T.length:=by omega)
     |(have t:Qf T f m [125]=true:=by simpa using G
       have c:=rP t c;have:=jO t (by decide);rw[bF t]at b;obtain⟨d,A⟩: ∃d:Nat,d=m+1:=⟨_,rfl⟩;rw[←A]at c b;have O:n≤d:=by omega
       have P:d≤T.length:=by omega)
    refine cH ?_;simp only[RR,seval];refine aA fun K g=>?_;simp only[p,RR,seval];apply g;refine aP ?_;simp only[aY,aK,bP,RR,seval];refine Q6 (a:=i) j (by decide) b c ?_ O P;exact jE.refl _
theorem Av {a b:Type} (c:Prop) [Decidable c] (A B:PR a) (K:a→Nat→PR b):(if c then A else B).bind K=if c then A.bind K else B.bind K:=by split<;>rfl
theorem E8 (o:Nat) {T:List fX} (z:Sz T) (n:Nat) (w:Bool) (hn:n≤T.length) (ih: ∀m w,n<m→m≤T.length→Tt o T m w):Iz o T n w:=by
 unfold Iz qF;generalize g:kR w n (Hq T n)=r4;rw[GQ,E4]at g;have y7:=z.len;have a:=mP o T n w;refine bU 101 [.cell 2 64] func152 ?_;refine aA fun K i=>?_;simp only[sM,RR,seval];refine aN fun j n1=>?_;have v:=cR n1 a;have U:=v.symm;simp only[RR,seval];refine i _ _ (aH (aQ (aA fun K i=>?_)));simp only[sM,RR,seval];refine gL (jY o z n w hn RV (by decide)) (by(simp only[a,U,aS,seval];done)) trivial fun M1 m7 k7=>?_;have d:=k7 j _ v (bO _ _ _);have a:=m7;simp only[RR,seval];refine i _ _ (aX ?_ ?_)<;>intro a0
 ·have g:=rP a0 g
  rw[bF a0]at a;have y8:=jO a0 (by decide);refine aA fun K i=>?_;simp only[sM,RR,seval];refine dU (Dc o z (n+1) w (by omega)) a trivial fun v5 p5 r5 M2 i6 w9 l5 m8 k8=>?_;have g:=dA g i6;have f:=k8 j _ v d;have d:=f;have a:=m8;simp only[Gh,RR,seval];refine aN fun b3 f6=>?_;have g8:=cR f6 a;have r3:=g8.symm;have q7:=cR f6 d;have q6:=q7.symm;simp only[RR,seval];refine i _ _ (aA fun K i=>?_);simp only[sM,RR,seval];refine dU (fM o z p5 r5 l5 [59] (by decide)) (by(simp only[a,r3,aS,seval];done)) trivial fun v6 ad al M3 i7 x0 z1 m9 d9=>?_;have g:=dA g i7;have f:=d9 j _ v (by(simp only[d,q6,aS,seval];rfl));have i3:=d9 b3 _ g8 (bO _ _ _);have d:=f;have a:=m9;simp only[RR,seval];refine i _ _ (aA fun K i=>?_);simp only[d,i3,sM,RR,seval];apply i;refine aP ?_;simp only[aY,aK,bP,sM,RR,seval];refine iO (by(simp only[a,U,aS,seval];done)) g ?_ (by omega) (by omega);simp only[Sm.kind,Sm.name,Sm.es,Sm.thn,Sm.els,dH];exact jE.aggR (by repeat' (first|exact jD.nil|exact jE.refl _|exact jE.nsl _|refine jD.cons ?_ ?_))
 have g:=rQ a0 g;rw[aO (dL.1 a0)]at a;refine aA fun K i=>?_;simp only[sM,RR,seval];refine gL (jY o z n w hn Rt (by decide)) a trivial fun M4 n0 k9=>?_;have f:=k9 j _ v d;have d:=f;have a:=n0;simp only[RR,seval];refine i _ _ (aX ?_ ?_)<;>intro a6
 ·have g:=rP a6 g
  rw[bF a6]at a;have z7:=jO a6 (by decide);refine aA fun K i=>?_;simp only[sM,RR,seval];refine aN fun b4 f8=>?_;have c0:=cR f8 a;have h1:=c0.symm;have q8:=cR f8 d;have g5:=q8.symm;simp only[RR,seval];refine i _ _ (aH (aA fun K i=>?_));simp only[sM,RR,seval];refine gL (jY o z (n+1) w (by omega) [59] (by decide)) (by(simp only[a,h1,aS,seval];done)) trivial fun M5 n2 e0=>?_;have f:=e0 j _ v (by(simp only[d,g5,aS,seval];rfl));have Y:=e0 b4 _ c0 (bO _ _ _);have d:=f;have a:=n2;simp only[RR,seval];refine i _ _ (aX ?_ ?_)<;>intro W
  ·simp only[eI]at W
   have g:=rQ W g;rw[aO (dL.1 W)]at a;refine aA fun K i=>?_;simp only[sM,RR,seval];refine dU (tO o z (n+1) w (by omega)) a trivial fun v7 p6 r6 M6 i8 x1 l6 n3 e1=>?_;have g:=dA g i8;have f:=e1 j _ v d;have i1:=e1 b4 _ c0 Y;have d:=f;have Y:=i1;have a:=n3;simp only[oM,RR,seval];refine dG ?_;simp only[Y,RR,seval];refine i _ _ (aM ?_);simp only[sM,RR,seval];refine dU (fM o z p6 r6 l6 [59] (by decide)) (by(simp only[a,h1,aS,seval];done)) trivial fun v8 ae am M7 i9 x2 z5 n4 e2=>?_;have g:=dA g i9;have f:=e2 j _ v (by(simp only[d,g5,aS,seval];rfl));have Y:=e2 b4 _ c0 (bO _ _ _);have d:=f;have a:=n4;simp only[RR,seval];refine aA fun K i=>?_;simp only[d,Y,RR,seval];apply i;refine aP ?_;simp only[aY,aK,bP,RR,seval];refine iO (by(simp only[a,U,aS,seval];done)) g ?_ (by omega) (by omega);simp only[Sm.kind,Sm.name,Sm.es,Sm.thn,Sm.els,cX,dH,Ex.row_eq];exact jE.aggR (by repeat' (first|exact jD.nil|exact jE.refl _|exact jE.nsl _|refine jD.cons ?_ ?_))
  simp only[pG]at W;have g:=rP W g;rw[bF W]at a;have z9:=jO W (by decide);refine aL ?_;simp only[RR];refine aA fun K i=>?_;simp only[d,Y,sM,RR,seval];apply i;refine aP ?_;simp only[aY,aK,bP,sM,RR,seval];refine iO (by(simp only[a,U,aS,seval];done)) g ?_ (by omega) (by omega);simp only[Sm.kind,Sm.name,Sm.es,Sm.thn,Sm.els,dH];exact jE.aggR (by repeat' (first|exact jD.nil|exact jE.refl _|exact jE.nsl _|refine jD.cons ?_ ?_))
 have g:=rQ a6 g;rw[aO (dL.1 a6)]at a;refine aA fun K i=>?_;simp only[sM,RR,seval];refine gL (jY o z n w hn XU (by decide)) a trivial fun M8 n5 l0=>?_;have f:=l0 j _ v d;have d:=f;have a:=n5;simp only[RR,seval];refine i _ _ (aX ?_ ?_)<;>intro a1
 ·have g:=rP a1 g
  rw[bF a1]at a;have y9:=jO a1 (by decide);refine aA fun K i=>?_;simp only[sM,RR,seval];refine dU (Dc o z (n+1) w (by omega)) a trivial fun v9 p7 r7 M9 j0 x3 l7 n6 l1=>?_;have g:=dA g j0;have f:=l1 j _ v d;have d:=f;have a:=n6;simp only[Gh,RR,seval];refine aN fun b5 f9=>?_;have c1:=cR f9 a;have d4:=c1.symm;have q9:=cR f9 d;have d3:=q9.symm;simp only[RR,seval];refine i _ _ (aA fun K i=>?_);simp only[sM,RR,seval];refine dU (ih p7 r7 (by omega) l7) (by(simp only[a,d4,aS,seval];done)) trivial fun w0 g4 h3 s9 j1 x4 l8 n7 e3=>?_;have g:=dA g j1;have f:=e3 j _ v (by(simp only[d,d3,aS,seval];rfl));have Z:=e3 b5 _ c1 (bO _ _ _);have d:=f;have a:=n7;simp only[Z,XK,RR,seval];refine i _ _ (aH (aA fun K i=>?_));simp only[sM,RR,seval];refine gL (jY o z g4 h3 l8 CH (by decide)) (by(simp only[a,d4,aS,seval];done)) trivial fun t0 n8 e4=>?_;have f:=e4 j _ v (by(simp only[d,d3,aS,seval];rfl));have Z:=e4 b5 _ c1 (bO _ _ _);have d:=f;have a:=n8;simp only[RR,seval];refine i _ _ (aX ?_ ?_)<;>intro a2
  ·have g:=rP a2 g
   rw[bF a2]at a;have z0:=jO a2 (by decide);refine aM ?_;simp only[sM,RR,seval];refine dU (ih (g4+1) h3 (by omega) (by omega)) a trivial fun w1 af an t1 j2 x5 z6 n9 e5=>?_;have g:=dA g j2;have f:=e5 j _ v d;have i2:=e5 b5 _ c1 Z;have d:=f;have Z:=i2;have a:=n9;simp only[Z,XK,RR,seval];refine aA fun K i=>?_;simp only[d,d3,RR,seval];apply i;refine aP ?_;simp only[aY,aK,bP,RR,seval];refine iO (by(simp only[a,U,d4,aS,seval];done)) g ?_ (by omega) (by omega);simp only[Sm.kind,Sm.name,Sm.es,Sm.thn,Sm.els];exact jE.aggR (by repeat' (first|exact jD.nil|exact jE.refl _|refine jD.cons ?_ ?_))
  have g:=rQ a2 g;rw[aO (dL.1 a2)]at a;refine aL ?_;simp only[RR];refine aA fun K i=>?_;simp only[d,Z,sM,RR,seval];apply i;refine aP ?_;simp only[aY,aK,bP,sM,RR,seval];refine iO (by(simp only[a,U,aS,seval];done)) g ?_ (by omega) (by omega);simp only[Sm.kind,Sm.name,Sm.es,Sm.thn,Sm.els,dH];exact jE.aggR (by repeat' (first|exact jD.nil|exact jE.refl _|exact jE.nsl _|refine jD.cons ?_ ?_))
 have g:=rQ a1 g;rw[aO (dL.1 a1)]at a;refine aA fun K i=>?_;simp only[sM,RR,seval];refine gL (jY o z n w hn B5 (by decide)) a trivial fun t2 o0 l2=>?_;have f:=l2 j _ v d;have d:=f;have a:=o0;simp only[RR,seval];refine i _ _ (aX ?_ ?_)<;>intro a3
 ·have g:=rP a3 g
  rw[bF a3]at a;have z2:=jO a3 (by decide);refine aA fun K i=>?_;simp only[sM,RR,seval];refine dU (Dc o z (n+1) w (by omega)) a trivial fun w2 p8 r8 t3 j3 x6 l9 o1 l3=>?_;have g:=dA g j3;have f:=l3 j _ v d;have d:=f;have a:=o1;simp only[Gh,RR,seval];refine aN fun b6 g1=>?_;have g9:=cR g1 a;have h2:=g9.symm;have r1:=cR g1 d;have g6:=r1.symm;simp only[RR,seval];refine i _ _ (aA fun K i=>?_);simp only[sM,RR,seval];refine dU (ih p8 r8 (by omega) l9) (by(simp only[a,h2,aS,seval];done)) trivial fun w3 ag ao t4 j4 x7 z8 o2 e6=>?_;have g:=dA g j4;have f:=e6 j _ v (by(simp only[d,g6,aS,seval];rfl));have i4:=e6 b6 _ g9 (bO _ _ _);have d:=f;have a:=o2;simp only[i4,XK,RR,seval];refine i _ _ (aA fun K i=>?_);simp only[d,g6,sM,RR,seval];apply i;refine aP ?_;simp only[aY,aK,bP,sM,RR,seval];refine iO (by(simp only[a,U,h2,aS,seval];done)) g ?_ (by omega) (by omega);simp only[Sm.kind,Sm.name,Sm.es,Sm.thn,Sm.els,dH];exact jE.aggR (by repeat' (first|exact jD.nil|exact jE.refl _|exact jE.nsl _|refine jD.cons ?_ ?_))
 have g:=rQ a3 g;rw[aO (dL.1 a3)]at a;refine aL ?_;simp only[RR];refine aA fun K i=>?_;simp only[sM,RR,seval];refine dU (oR o z n w hn 1 (by decide)) a trivial fun c3 b0 b1 t5 j5 x8 c9 o3 l4=>?_;have g:=dA g j5;have f:=l4 j _ v d;have d:=f;have a:=o3;simp only[RR,seval];refine aN fun t g3=>?_;have P:=cR g3 a;have V:=P.symm;have r2:=cR g3 d;have Q:=r2.symm;simp only[RR,seval];apply i;simp only[Av,lX,PR.bind_ok]at g;refine aH (bN fun X c2 A y=>?_);have B:=A 0;have F:=A 2;have C:=A 7;have D:=y o;have f:=y j;have l:=y t;simp only[a,d,V,Q,RR,seval]at B F C D f l;have a:=D;have d:=f;refine gP (fun fr M=>bC [0,2,7] X fr∧M j=c2 j∧ ∃(x:Sm) (m:Nat) (w:Bool) (v3:AV),n≤m∧m≤T.length∧kR w m ((fA T [59] m).bind fun _ m=> .ok x m)=r4∧M t=some (.rows 5 [[.int .i64 x.kind, .str x.name,v3, .nsl, .nsl]])∧Ls 5 v3 (x.es.map Ex.row) M∧x.thn=[]∧x.els=[]∧M o=some (.rows 3 [[.isl 4 (T.map fX.row), .int .i64 (m:Nat), .bool w]])∧(∀s k,v3≠ .osl s j k)∧(∀s k,v3≠ .osl s t k)) (fun s8 c4=>?_) ?_
 ·have G:=bC.refl [0,2,7] X
  have p:c2 j=c2 j:=rfl;refine aQ (aA fun K i=>?_);simp only[B,sM,RR,seval];refine gL (jY o z b0 b1 c9 [40] (by decide)) a trivial fun t6 o6 e9=>?_;have f:=e9 j _ v d;have p:=(f.trans d.symm).trans p;have u:=e9 t _ P l;have d:=f;have l:=u;have a:=o6;simp only[RR,seval];refine i _ _ (aX ?_ ?_)<;>intro a4
  ·have g:=rP a4 g
   rw[bF a4]at a;have z3:=jO a4 (by decide);refine aA fun K i=>?_;simp only[C,l,sM,RR,seval];refine i _ _ (aM ?_);simp only[B,sM,RR,seval];refine dU (AA o z (b0+1) b1 (by omega)) (by(simp only[a,V,aS,seval];done)) trivial fun d6 q1 s1 t7 j8 y1 m2 o7 f1=>?_;have g:=dA g j8;have f:=f1 j _ v (by(simp only[d,Q,aS,seval];rfl));have p:=(f.trans d.symm).trans p;have l:=f1 t _ P (bO _ _ _);have d:=f;have a:=o7;simp only[C,l,Gh,RR,seval];refine c4 _ _ ⟨(by repeat (first|exact G|refine bC.upd rfl ?_)),(by(simp only[Q,aS,seval];exact p)), ?_⟩
   (have hq:=d6;exact⟨.mk 6 c3.text d6 [] [],q1,s1,_,by omega,m2,g,by exact bO _ _ _, .inr rfl,rfl,rfl,by(simp only[a,V,aS,seval];done),(fun _ _ h=>by cases h),(fun _ _ h=>by cases h)⟩)
  have g:=rQ a4 g;rw[aO (dL.1 a4)]at a;refine aA fun K i=>?_;simp only[B,sM,RR,seval];refine gL (jY o z b0 b1 c9 [91] (by decide)) a trivial fun t8 o8 f3=>?_;have f:=f3 j _ v d;have p:=(f.trans d.symm).trans p;have u:=f3 t _ P l;have d:=f;have l:=u;have a:=o8;simp only[RR,seval];refine i _ _ (aX ?_ ?_)<;>intro a5
  ·have g:=rP a5 g
   rw[bF a5]at a;have z4:=jO a5 (by decide);refine aA fun K i=>?_;simp only[C,l,sM,RR,seval];refine i _ _ (bN fun h4 t9 A y=>?_);have H:=A 0;have I:=A 2;have J:=A 7;have D:=y o;have f:=y j;have l:=y t;simp only[B,F,C,a,d,V,Q,RR,seval]at H I J D f l;have G:bC [0,2,7] X h4:=bC.same A (by repeat (first|exact G|refine bC.upd rfl ?_));have p:=(y j).trans (by(simp only[Q,aS,seval];exact p));have B:=H;have F:=I;have C:=J;have a:=D;have d:=f;have N:Al.off AV.nsl j:=fun _ _ h=>by cases h
   have O:Al.off AV.nsl t:=fun _ _ h=>by cases h
   refine aG fun K i=>?_;refine bA (fun x=>x≠j∧x≠t) [(0,3),(1,0),(2,3),(3,1),(4,2),(5,1),(6,3)] [(7,1)] eB (by kernel_rfl) rfl rfl ?_;simp only[*,dI,fP,sM,RR,seval];refine dU (tO o z (b0+1) b1 (by omega)) a (by trivial) fun i0 q2 s2 u1 j9 y2 m3 o9 f4=>?_;have g:=dA g j9;have f:=f4 j _ v d;have p:=(f.trans d.symm).trans p;have u:=f4 t _ P l;have d:=f;have l:=u;have a:=o9;simp only[oM,RR,seval];refine jC (dZ.nil 5 _) (by simp only[aJ,aT];omega) (fun b e=>by trivial) fun aj u2 E L R=>?_;have a8:=R j N (by rw[d];exact bY _);have S:=R t O (by rw[l];exact bY _);simp only[C,RR,seval];have D:=L o _ a (by exact((dZ.nil 5 _)).nb' a (by decide));have a:=D;have f:=L j _ d (N _ _);have p:=(f.trans d.symm).trans p;have d:=f;have u:=L t _ l (O _ _);have l:=u;have a7:=E.cells;have a9:=E.one1;simp only[a7,a9,bX,List.drop,l,RR,seval];refine i _ _ (bN fun h5 u3 A y=>?_);have H:=A 0;have I:=A 2;have J:=A 7;have D:=y o;have f:=y j;have l:=y t;simp only[B,F,C,a,d,V,Q,RR,seval]at H I J D f l;have G:bC [0,2,7] X h5:=bC.same A (by repeat (first|exact G|refine bC.upd rfl ?_));have p:=(y j).trans (by(simp only[Q,aS,seval];exact p));have E:=(E.off S _).same y;have ac:=E.one1;have w8:=E.cells;have B:=H;have F:=I;have C:=J;have a:=D;have d:=f;refine aA fun K i=>?_;simp only[B,sM,RR,seval];refine dU (fM o z q2 s2 m3 [93] (by decide)) a trivial fun w5 q3 s3 u4 k0 y3 m4 p0 c6=>?_;have g:=dA g k0;have f:=c6 j _ v d;have p:=(f.trans d.symm).trans p;have u:=c6 t _ P l;have d:=f;have l:=u;have E:=dZ.kp E a (by decide) c6;have a:=p0;simp only[RR,seval];refine i _ _ (aA fun K i=>?_);simp only[B,sM,RR,seval];refine dU (fM o z q3 s3 m4 [61] (by decide)) a trivial fun w6 q4 s4 u5 k2 y4 m5 p1 c7=>?_;have g:=dA g k2;have f:=c7 j _ v d;have p:=(f.trans d.symm).trans p;have u:=c7 t _ P l;have d:=f;have l:=u;have E:=dZ.kp E a (by decide) c7;have a:=p1;simp only[RR,seval];refine i _ _ (bN fun h6 u6 A y=>?_);have H:=A 0;have I:=A 2;have J:=A 7;have D:=y o;have f:=y j;have u:=y t;simp only[B,F,C,a,d,l,RR,seval]at H I J D f u;have G:bC [0,2,7] X h6:=bC.same A (by repeat (first|exact G|refine bC.upd rfl ?_));have p:=(y j).trans p;have E:=E.same y;have N:=a8;have O:=S;have B:=H;have F:=I;have C:=J;have a:=D;have d:=f;have l:=u;refine bA (fun x=>x≠j∧x≠t) [(0,3),(1,0),(2,3),(3,1),(4,2),(5,1),(6,3)] [(7,1)] eB (by kernel_rfl) rfl rfl ?_;simp only[*,dI,fP,sM,RR,seval];refine dU (tO o z q4 s4 m5) a (by trivial) fun d7 q5 s5 u7 k5 y5 m6 p2 c8=>?_;have g:=dA g k5;have f:=c8 j _ v d;have p:=(f.trans d.symm).trans p;have u:=c8 t _ P l;have d:=f;have l:=u;have E:=dZ.kp E a (by decide) c8;have a:=p2;simp only[oM,RR,seval];refine jC E (by simp only[aJ,aT];(simp only[cC,aJ,aT]);omega) (fun b e=>by(repeat' apply And.intro)<;>(intro c;subst c;first|exact N _ _ e|exact O _ _ e)) fun ak u8 d1 L R=>?_;have a8:=R j N (by rw[d];exact bY _);have S:=R t O (by rw[l];exact bY _);simp only[C,RR,seval];have D:=L o _ a (by exact(E).nb' a (by decide));have a:=D;have f:=L j _ d (N _ _);have p:=(f.trans d.symm).trans p;have d:=f;have u:=L t _ l (O _ _);have l:=u;have a7:=d1.cells;have a9:=d1.one1;simp only[a7,a9,bX,List.drop,l,RR,seval];refine c4 _ _ ⟨(by repeat (first|exact G|refine bC.upd rfl ?_)),(by(simp only[Q,aS,seval];exact p)), ?_⟩
   (have hq:=d7;exact⟨.mk 2 c3.text [i0,d7] [] [],q5,s5,_,by omega,m6,g,by exact bO _ _ _, .inl (by simp only[Sm.es,cX,dH,Ex.row_eq];exact d1.off S _),rfl,rfl,by(simp only[a,V,aS,seval];done),a8,S⟩)
  have g:=rQ a5 g;rw[aO (dL.1 a5)]at a;refine aA fun K i=>?_;simp only[B,sM,RR,seval];refine dU (fM o z b0 b1 c9 [61] (by decide)) a trivial fun w4 p9 r9 u9 j6 x9 m0 o4 e7=>?_;have g:=dA g j6;have f:=e7 j _ v d;have p:=(f.trans d.symm).trans p;have u:=e7 t _ P l;have d:=f;have l:=u;have a:=o4;simp only[RR,seval];refine i _ _ (bN fun h7 v0 A y=>?_);have H:=A 0;have I:=A 2;have J:=A 7;have D:=y o;have f:=y j;have u:=y t;simp only[B,F,C,a,d,l,RR,seval]at H I J D f u;have G:bC [0,2,7] X h7:=bC.same A (by repeat (first|exact G|refine bC.upd rfl ?_));have p:=(y j).trans p;have B:=H;have F:=I;have C:=J;have a:=D;have d:=f;have l:=u;have N:Al.off AV.nsl j:=fun _ _ h=>by cases h
  have O:Al.off AV.nsl t:=fun _ _ h=>by cases h
  refine bA (fun x=>x≠j∧x≠t) [(0,3),(1,0),(2,3),(3,1),(4,2),(5,1),(6,3)] [(7,1)] eB (by kernel_rfl) rfl rfl ?_;simp only[*,dI,fP,sM,RR,seval];refine dU (tO o z p9 r9 m0) a (by trivial) fun d5 q0 s0 v1 j7 y0 m1 o5 e8=>?_;have g:=dA g j7;have f:=e8 j _ v d;have p:=(f.trans d.symm).trans p;have u:=e8 t _ P l;have d:=f;have l:=u;have a:=o5;simp only[oM,RR,seval];refine jC (dZ.nil 5 _) (by simp only[aJ,aT];omega) (fun b e=>by trivial) fun ai v2 d2 L R=>?_;have a8:=R j N (by rw[d];exact bY _);have S:=R t O (by rw[l];exact bY _);simp only[C,RR,seval];have D:=L o _ a (by exact((dZ.nil 5 _)).nb' a (by decide));have a:=D;have f:=L j _ d (N _ _);have p:=(f.trans d.symm).trans p;have d:=f;have u:=L t _ l (O _ _);have l:=u;have a7:=d2.cells;have a9:=d2.one1;simp only[a7,a9,bX,List.drop,l,RR,seval];refine c4 _ _ ⟨(by repeat (first|exact G|refine bC.upd rfl ?_)),(by(simp only[Q,aS,seval];exact p)), ?_⟩
  (have hq:=d5;exact⟨.mk 1 c3.text [d5] [] [],q0,s0,_,by omega,m1,g,by exact bO _ _ _, .inl (by simp only[Sm.es,cX,dH,Ex.row_eq];exact d2.off S _),rfl,rfl,by(simp only[a,V,aS,seval];done),a8,S⟩)
 rintro s6 h8 ⟨b8,f,x,m,w',v3,ab,hm,g,l,d0,p4,i5,a,N,O⟩;have B:=(b8 0 rfl).trans B;have F:=(b8 2 rfl).trans F;have C:=(b8 7 rfl).trans C;have d:=f.trans d;clear b8;simp only[RR,seval];have h0:h8 t=some (.rows 5 [[.int .i64 x.kind, .str x.name]++v3::[.nsl, .nsl]]):=l;refine BD d0 h0 (fun x hx=>by simp only[bJ,bL,dD]at hx;rcases hx with rfl|rfl<;>exact bS rfl) (fun x hx=>by simp only[bJ,bL,dD]at hx;rcases hx with rfl|rfl<;>exact bS rfl) O fun s7 h9 b9 d8 c5=>?_;have B:=(b9 0 (by rw[B];rfl)).trans B;have F:=(b9 2 (by rw[F];rfl)).trans F;have C:=(b9 7 (by rw[C];rfl)).trans C;have a:=c5 o _ _ V (d0.offsz a (by decide)) rfl a;have d:=c5 j _ _ Q N rfl d;have l:h9 t=some (.rows 5 [[.int .i64 x.kind, .str x.name, .isl 5 (x.es.map Ex.row), .nsl, .nsl]]):=d8;clear d8 h0 b9 c5 d0;refine aA fun K i=>?_;simp only[B,sM,RR,seval];refine dU (fM o z m w' hm [59] (by decide)) a trivial fun w7 ah ap v4 k6 y6 aa p3 f5=>?_;have g:=dA g k6;have f:=f5 j _ v d;have u:=f5 t _ P l;have d:=f;have l:=u;have a:=p3;simp only[RR,seval];refine i _ _ (aA fun K i=>?_);simp only[*,sM,RR,seval];apply i;refine aP ?_;simp only[aY,aK,bP,F,sM,RR,seval];refine iO (by(simp only[a,U,aS,seval];done)) g ?_ (by omega) (by omega);simp only[p4,i5,dH];exact jE.aggR (by repeat' (first|exact jD.nil|exact jE.refl _|exact jE.nsl _|refine jD.cons ?_ ?_))
theorem E7 (a:Nat) {T:List fX} (e:Sz T) (k:Nat): ∀n w,n≤T.length→T.length-n≤k→Iz a T n w∧Tt a T n w:=by
 induction k using Nat.strongRecOn with
 |_ k ih=>
  intro n w f j;have g: ∀w,Iz a T n w:=fun w=>E8 a e n w f fun m b i d=>(ih (T.length-m) (by omega) m b d (aZ _)).2;refine⟨g w,G3 a e n w f fun m b i d=>?_⟩;by_cases c:m=n
  ·subst c;exact g b
  exact(ih (T.length-m) (by omega) m b d (aZ _)).1
theorem Z3 (a:Nat) {T:List fX} (b:Sz T) (n:Nat) (w:Bool) (c:n≤T.length):qF 152 [] a T n w sM (kR w n (Hq T n)):=(E7 a b _ n w c (aZ _)).1
def G9 (T:List fX) (nm:dE) (ps:List dE) (m:Nat) (b:Bool):PR Fu:=(fA T [123] (if b=true then m+1 else m)).bind fun _ c=>(Xv T [] c).bind fun ls c=>NZ T nm ps b ls c
theorem NY (T:List fX) (a:dE) (b:List dE) (m:Nat):TN T a b m=(fA T [41] m).bind fun _ m=>G9 T a b m (decide (eA T m=sZ)):=by
 unfold TN G9;simp only[bH]
def JM (T:List fX) (n:Nat):PR Fu:=(kG T 1 n).bind fun t m=>(fA T [40] m).bind fun _ m=>
 if eA T m=[41]then G9 T t.text [] (m+1) (decide (eA T (m+1)=sZ))else(pM T m).bind fun ps m=>(fA T [41] m).bind fun _ m=>G9 T t.text ps m (decide (eA T m=sZ))
theorem JO (T:List fX) (n:Nat):Ob T n=(fA T zV n).bind fun _ m=>JM T m:=by
 rw[NX];refine PR.bind_congr rfl fun _ m _=>PR.bind_congr rfl fun t a _=>PR.bind_congr rfl fun _ c _=>?_;simp only[NY];by_cases b:eA T c=[41]
 ·have d: ¬nS T c=1:=fun d=>by
   unfold eA at b;unfold nS at d
   cases hg:T[c]? with
   |none=>rw[hg]at b;cases b
   |some t=>
    rw[hg]at b d;simp only at b d;rw[aO (by omega)]at b;cases b
  have e:fA T [41] c= .ok () (c+1):=bF b;rw[aO d,bF b,PR.bind_ok,e,PR.bind_ok]
 rw[aO b];by_cases d:nS T c=1
 ·rw[bF d]
 have e:fA T [41] c= .bad c:=aO b
 have f:kG T 1 c= .bad c:=by
  unfold kG;unfold nS at d
  cases hg:T[c]? with
  |none=>rfl
  |some t=>rw[hg]at d;exact aO d
 rw[aO d,PR.bind_ok,e,PR.bind_bad];unfold pM;rw[f];rfl
theorem MB {b:Type} {T:List fX} {w:Bool} {m:Nat} {s:dE} {G:Bool→PR b} {a:PR b} (h:kR w m (G (decide (eA T m=s)))=a):kR w (if Qf T w m s=true then m+1 else m) (G (Qf T w m s))=a:=by
 cases w with
 |true=>exact h
 |false=>exact h
theorem Ya (B:Nat) {T:List fX} (Q:Sz T) (n:Nat) (w:Bool) (hn:n≤T.length):qF 103 [] B T n w XO (kR w n (JM T n)):=by
 unfold qF;generalize j:kR w n (JM T n)=c3;unfold JM at j;have p0:=Q.len;have d:=mP B T n w;refine bU 51 [.cell 2 58] func103 ?_;refine aA fun K H=>?_;simp only[RR,seval];refine aN fun l b9=>?_;have O:=cR b9 d;have f8:=O.symm;simp only[RR,seval];refine H _ _ (aA fun K H=>?_);simp only[RR,seval];refine dU (oR B Q n w hn 1 (by decide)) (by(simp only[d,f8,aS,seval];done)) trivial fun R m5 w5 M1 i3 o8 j2 k5 i5=>?_;have j:=dA j i3;have f:=i5 l _ O (bO _ _ _);have d:=k5;simp only[RR,seval];refine aN fun u f4=>?_;have S:=cR f4 d;have a7:=S.symm;have l4:=cR f4 f;have a3:=l4.symm;simp only[RR,seval];refine H _ _ (aA fun K H=>?_);simp only[RR,seval];refine dU (fM B Q m5 w5 j2 [40] (by decide)) (by(simp only[d,a7,aS,seval];done)) trivial fun a9 m9 w9 M2 i4 o9 e8 k6 e6=>?_;have j:=dA j i4;have g:=e6 l _ O (by(simp only[f,a3,aS,seval];rfl));have i:=e6 u _ S (bO _ _ _);have f:=g;have d:=k6;simp only[RR,seval];refine H _ _ (aH (aA fun K H=>?_));simp only[RR,seval];refine gL (jY B Q m9 w9 e8 [41] (by decide)) d trivial fun M3 j3 e1=>?_;have g:=e1 l _ O f;have o:=e1 u _ S i;have f:=g;have i:=o;have d:=j3;simp only[RR,seval];refine H _ _ (bN fun F4 M4 y p=>?_);have A:=y 0;have C:=y 2;have z:=y 3;have d8:=y 12;have D:=p B;have g:=p l;have o:=p u;simp only[d,f,i,RR,seval]at A C z d8 D g o;have d:=D;have f:=g;have i:=o;refine gP (fun fr M=>bC [0,2,3] F4 fr∧M l=M4 l∧ ∃(ps:List dE) (m:Nat) (w:Bool) (Y:AV),n≤m∧m≤T.length∧kR w m (G9 T R.text ps m (decide (eA T m=sZ)))=c3∧M u=some (.rows 5 [[.str R.text,Y, .nsl, .bool false, .nsl]])∧one Y=true∧tR Y=true∧Al.jE Y (.isl 1 (ps.map bT))∧M B=some (.rows 3 [[.isl 4 (T.map fX.row), .int .i64 (m:Nat), .bool w]])) (fun m3 e0=>?_) ?_
 ·have d7:=bC.refl [0,2,3] F4
  have a8:M4 l=M4 l:=rfl;refine eO _ d8 (fun a0=>?_) (fun a0=>?_)
  ·simp only[eI]at a0
   have j:=rQ a0 j;rw[aO (dL.1 a0)]at d;refine aA fun K H=>?_;simp only[A,RR,seval];refine dU (G0 B Q m9 w9 e8) d trivial fun g9 l1 l5 M5 h8 o3 i8 j4 e2=>?_;have j:=dA j h8;have g:=e2 l _ O f;have a8:=(g.trans f.symm).trans a8;have o:=e2 u _ S i;have f:=g;have i:=o;have d:=j4;simp only[z,i,strs,RR,seval];refine H _ _ (aM ?_);simp only[A,RR,seval];refine dU (fM B Q l1 l5 i8 [41] (by decide)) (by(simp only[d,a7,aS,seval];done)) trivial fun n8 l2 l6 M6 h9 o4 p1 j5 e3=>?_;have j:=dA j h9;have g:=e3 l _ O (by(simp only[f,a3,aS,seval];rfl));have a8:=(g.trans f.symm).trans a8;have i:=e3 u _ S (bO _ _ _);have f:=g;have d:=j5;simp only[RR,seval];refine e0 _ _ ⟨(by repeat (first|exact d7|refine bC.upd rfl ?_)),a8, ?_⟩;exact⟨g9,l2,l6,_,by omega,by omega,j,by exact i,rfl,rfl,jE.refl _,by exact d⟩
  simp only[pG]at a0;have j:=rP a0 j;rw[bF a0]at d;have p2:=jO a0 (by decide);refine aL ?_;simp only[RR];refine e0 _ _ ⟨(by repeat (exact d7)),a8, ?_⟩;exact⟨[],m9+1,w9,_,by omega,by omega,j,by exact i,rfl,rfl,jE.nsl _,by exact d⟩
 rintro F7 M7 ⟨L,g,ps,m,E,Y,d1,hm,j,i,w1,d9,sD,d⟩;have A:=(L 0 rfl).trans A;have C:=(L 2 rfl).trans C;have z:=(L 3 rfl).trans z;have f:=g.trans f;clear L;simp only[RR,seval];refine aA fun K H=>?_;simp only[A,RR,seval];refine gL (jY B Q m E hm sZ (by decide)) d trivial fun M8 j6 e4=>?_;have g:=e4 l _ O f;have o:=e4 u _ S i;have f:=g;have i:=o;have d:=j6;simp only[z,i,RR,seval];apply H;have j:=MB (G:=fun b=>G9 T R.text ps m b) j;simp only[G9]at j
 have e9:(if Qf T E m sZ=true then m+1 else m)≤T.length∧m≤(if Qf T E m sZ=true then m+1 else m):=by
  split
  ·rename_i hw;have:=jO hw (by decide);omega
  omega
 generalize(if Qf T E m sZ=true then m+1 else m)=mw at j d e9;generalize Qf T E m sZ=wd at j⊢;refine aA fun K H=>?_;simp only[A,RR,seval];refine dU (fM B Q mw E e9.1 [123] (by decide)) (by(simp only[d,a7,aS,seval];done)) trivial fun n9 f6 l7 M9 i0 o5 i9 j7 e5=>?_;have j:=dA j i0;have g:=e5 l _ O (by(simp only[f,a3,aS,seval];rfl));have i:=e5 u _ S (bO _ _ _);have f:=g;have d:=j7;simp only[RR,seval];refine H _ _ (aH (bN fun l9 g5 y p=>?_));have N:=y 0;have I:=y 2;have J:=y 3;have g:=p l;have o:=p u;have D:=p B;simp only[A,C,z,f,i,d,RR,seval]at N I J g o D;have A:=N;have C:=I;have z:=J;have f:=g;have i:=o;have d:=D;refine aQ (iP [0,2,3] (T.length-f6) (fun k fr M=>M l=g5 l∧(∃(m:Nat) (w:Bool) (U:List dE) (v:AV),k=T.length-m∧n≤m∧m≤T.length∧U.length≤1000001 *(m+1)∧kR w m ((Xv T U m).bind fun ls c=>NZ T R.text ps wd ls c)=c3∧dZ 1 v (U.map bT) M∧M u=some (.rows 5 [[.str R.text,Y,v, .bool wd, .nsl]])∧M B=some (.rows 3 [[.isl 4 (T.map fX.row), .int .i64 (m:Nat), .bool w]]))) ⟨rfl,f6,l7,[], .nsl,rfl,by omega,i9,cN _,j, .inl ⟨rfl,rfl⟩,by exact i,d⟩ ?_);rintro k c4 m4 ⟨g,m,E,U,v,rfl,d1,hm,o1,j,t,i,d⟩ L K0 h3;have A:=(L 0 rfl).trans A;have C:=(L 2 rfl).trans C;have z:=(L 3 rfl).trans z;have f:=g.trans f;have b1:=bC.refl [0,2,3] c4;have P:=g;clear L;have a2:=t.offsz i (by decide);have k8:=t.one1;have h5:=t.cells;rw[MY]at j;simp only[Av,lX,PR.bind_ok]at j;refine aH (aA fun K H=>?_);simp only[A,RR,seval];refine gL (jY B Q m E hm V4 (by decide)) d trivial fun m6 j8 c7=>?_;have g:=c7 l _ O f;have P:=(g.trans f.symm).trans P;have o:=c7 u _ S i;have f:=g;have i:=o;have t:=dZ.kp t d (by decide) c7;have d:=j8;simp only[RR,seval];refine H _ _ (aX ?_ ?_)<;>intro hc
 ·have b0:=hc;clear hc
  have j:=rP b0 j;rw[bF b0]at d;have i7:=jO b0 (by decide);refine aL ?_;simp only[RR];refine aQ (bN fun f9 m7 y p=>?_);have N:=y 0;have I:=y 2;have J:=y 3;have g:=p l;have D:=p B;have o:=p u;simp only[A,C,z,f,d,i,RR,seval]at N I J g D o;have b1:bC [0,2,3] c4 f9:=bC.same y (by repeat (first|exact b1|refine bC.upd rfl ?_));have P:=(p l).trans P;have t:=t.same p;have A:=N;have C:=I;have z:=J;have f:=g;have d:=D;have i:=o;refine aG fun K H=>?_;refine bA (fun x=>x≠u∧x≠l) [(0,3),(1,0),(2,3),(3,1),(4,1),(5,3)] [(6,1)] eB (by kernel_rfl) rfl rfl ?_;simp only[*,dI,fP,RR,seval];refine U2 (wJ B Q (m+1) E (by omega)) d (by trivial) fun h1 l3 l8 m8 i1 o6 j0 o2 j9 c8=>?_;have j:=dA j i1;have g:=c8 l _ O f;have P:=(g.trans f.symm).trans P;have o:=c8 u _ S i;have f:=g;have i:=o;have t:=dZ.kp t d (by decide) c8;have d:=j9;simp only[strs,Iq,RR,seval];refine jC t (by simp only[aF];omega) (fun b e=>by(repeat' apply And.intro)<;>(intro c;subst c;first|exact a2 _ _ e|exact t.nb' f (by decide) e)) fun v9 n0 V a6 b7=>?_;have c2:=b7 u a2 (by rw[i];exact bY _);simp only[z,RR,seval];have g:=a6 l _ f (by exact(t).nb' f (by decide));have P:=(g.trans f.symm).trans P;have f:=g;have D:=a6 B _ d (by exact(t).nb' d (by decide));have d:=D;have o:=a6 u _ i (by exact(t).nb' i (by decide));have i:=o;have c6:=V.cells;have d2:=V.one1;simp only[c6,d2,bX,List.drop,i,RR,seval];refine H _ _ (bN fun g1 n1 y p=>?_);have N:=y 0;have I:=y 2;have J:=y 3;have g:=p l;have D:=p B;have i:=p u;simp only[A,C,z,f,d,a7,a3,RR,seval]at N I J g D i;have b1:bC [0,2,3] c4 g1:=bC.same y (by repeat (first|exact b1|refine bC.upd rfl ?_));have P:=(p l).trans (by(simp only[a3,aS,seval];exact P));have V:=(V.off c2 _).same p;have A:=N;have C:=I;have z:=J;have f:=g;have d:=D;refine aM ?_;simp only[A,RR,seval];refine dU (fM B Q l3 l8 j0 [59] (by decide)) d trivial fun o0 f7 B7 n3 i2 o7 j1 k0 c9=>?_;have j:=dA j i2;have g:=c9 l _ O f;have P:=(g.trans f.symm).trans P;have o:=c9 u _ S i;have f:=g;have i:=o;have V:=dZ.kp V d (by decide) c9;have d:=k0;simp only[RR,seval];refine h3 (T.length-f7) _ _ (by omega) ⟨P,f7,B7,U++h1,_,rfl,by omega,j1,by simp only[aB];omega,j,by rw[cP];exact V,by exact i,by exact d⟩ (by repeat (first|exact b1|refine bC.upd rfl ?_))
 have b0:=hc;have j:=rQ b0 j;rw[aO (dL.1 b0)]at d;simp only[NZ]at j;refine cH ?_;simp only[RR,seval];refine aH (bN fun m0 g6 y p=>?_);have N:=y 0;have I:=y 2;have J:=y 3;have g:=p l;have D:=p B;have o:=p u;simp only[A,C,z,f,d,i,RR,seval]at N I J g D o;have t:=t.same p;have A:=N;have C:=I;have z:=J;have f:=g;have d:=D;have i:=o;have h0:g6 u=some (.rows 5 [[.str R.text,Y]++v::[.bool wd, .nsl]]):=i;refine iE t h0 (fun x F=>by simp only[bJ,bL,dD]at F;rcases F with rfl|rfl;exact bS rfl;exact bS d9) (fun x F=>by simp only[bJ,bL,dD]at F;rcases F with rfl|rfl<;>exact bS rfl) a2 fun F8 M8 a1 b4 a4=>?_;have A:=(a1 0 (by rw[A];exact bS rfl)).trans A;have C:=(a1 2 (by rw[C];exact bS rfl)).trans C;have z:=(a1 3 (by rw[z];exact bS rfl)).trans z;have d:=a4 B _ _ a7 (t.offsz d (by decide)) (fun r W x F=>by simp only[bE]at W;subst W;simp only[bJ,bL,dD]at F;rcases F with rfl|rfl|rfl<;>exact bS rfl) d;have f:=a4 l _ _ a3 (t.offsz f (by decide)) (fun r W x F=>by simp only[bE]at W;subst W;simp only[bJ,bL,dD]at F;rcases F with rfl|rfl|rfl|rfl|rfl<;>exact bS rfl) f;have i:M8 u=some (.rows 5 [[.str R.text,Y, .isl 1 (U.map bT), .bool wd, .nsl]]):=b4;clear b4 h0 t a1 a4;refine aQ (iP [0,2,3] (Nx T m E) (fun k fr M=>M l=M8 l∧(∃(m:Nat) (E:Bool) (ss:List Sm) (v:AV),k=Nx T m E∧n≤m∧m≤T.length∧ss.length≤m+1∧(E=false→ss.length≤m)∧kR E m ((sV T ss m).bind fun b c=> .ok ⟨R.text,ps,U,wd,b⟩ c)=c3∧dZ 5 v (ss.map Sm.row) M∧Al.off v l∧Al.off v u∧M u=some (.rows 5 [[.str R.text,Y, .isl 1 (U.map bT), .bool wd,v]])∧M B=some (.rows 3 [[.isl 4 (T.map fX.row), .int .i64 (m:Nat), .bool E]]))) ⟨rfl,m,E,[], .nsl,rfl,d1,hm,cN _,fun _=>cN _,j, .inl ⟨rfl,rfl⟩,(fun _ _ h=>by cases h),(fun _ _ h=>by cases h),i,d⟩ ?_);rintro k d6 n4 ⟨g,m,E,ss,v,rfl,d1,hm,k9,l0,j,t,c1,a2,i,d⟩ L K2 h4;have A:=(L 0 rfl).trans A;have C:=(L 2 rfl).trans C;have z:=(L 3 rfl).trans z;have f:=g.trans f;have c5:=bC.refl [0,2,3] d6;have Z:=g;clear L;have k8:=t.one1;have h5:=t.cells;rw[Ox]at j;simp only[Av,lX,PR.bind_ok]at j;have h7:=jY B Q m E hm [125] (by decide)
 all_goals
  refine aH (aA fun K H=>?_);simp only[A,d,RR,seval]
  all_goals ((refine cL (fun h=>?_) (fun h=>?_))<;>simp only[h,A,RR,seval])
  all_goals try ((refine gL h7 d trivial fun M9 f5 b5=>?_;have t:=dZ.kp t d (by decide) b5;have Z:=((b5 l _ O f).trans f.symm).trans Z;have f:=b5 l _ O f;have i:=b5 u _ S i;have d:=f5;clear f5 b5);simp only[RR,seval])
  all_goals
   refine H _ _ (aX ?_ ?_)<;>intro hc
   ·try (cases hc;done)
    all_goals
     have d3:=hc;clear hc;have b6:E=false:=by simpa using h
     have hq:Qf T E m [125]=false:=by simpa using d3
     have j:=rQ hq j;rw[aO (dL.1 hq)]at d;have k9:=l0 b6;refine aL ?_;simp only[RR];refine aQ (bN fun g4 n5 y p=>?_);have N:=y 0;have I:=y 2;have J:=y 3;have g:=p l;have D:=p B;have o:=p u;simp only[A,C,z,f,d,i,RR,seval]at N I J g D o;have c5:bC [0,2,3] d6 g4:=bC.same y (by repeat (first|exact c5|refine bC.upd rfl ?_));have Z:=(p l).trans Z;have t:=t.same p;have A:=N;have C:=I;have z:=J;have f:=g;have d:=D;have i:=o;refine bA (fun x=>x≠u∧x≠l) [(0,3),(1,0),(2,3),(3,1),(4,2),(5,1),(6,3)] [(7,1)] eB (by kernel_rfl) rfl rfl ?_;simp only[*,dI,fP,RR,seval];refine dU (Z3 B Q m E hm) d (by trivial) fun h2 d4 d5 n6 b8 i6 e7 k2 d0=>?_;have j:=dA j b8;have g:=d0 l _ O f;have Z:=(g.trans f.symm).trans Z;have o:=d0 u _ S i;have f:=g;have i:=o;have t:=dZ.kp t d (by decide) d0;have d:=k2;simp only[sM,RR,seval];refine jC t (by simp only[aF,aJ,aT];omega) (fun b e=>by(repeat' apply And.intro)<;>(intro c;subst c;first|exact c1 _ _ e|exact a2 _ _ e)) fun p3 n7 V a6 b7=>?_;have k7:=b7 l c1 (by rw[f];exact bY _);have c2:=b7 u a2 (by rw[i];exact bY _);simp only[z,RR,seval];have g:=a6 l _ f (c1 _ _);have Z:=(g.trans f.symm).trans Z;have f:=g;have D:=a6 B _ d (by exact(t).nb' d (by decide));have d:=D;have o:=a6 u _ i (a2 _ _);have i:=o;have c6:=V.cells;have d2:=V.one1;simp only[c6,d2,bX,List.drop,i,RR,seval];have i7:=Tf b6 hm e7 i6 b8 fun a m' h=>(xI h).1
     have h6:d5=false→m<d4:=fun e=>by
      subst e;subst b6;rw[nH,nH]at b8;exact(xI b8.symm).1
     refine h4 (Nx T d4 d5) _ _ (by omega) ⟨(by(simp only[a3,aS,seval];exact Z)),d4,d5,ss++[h2],_,rfl,by omega,e7,by simp only[aB,aJ,aT];omega,fun e=>by have:=h6 e;simp only[aB,aJ,aT];omega,j,by rw[Xd];exact V.off c2 _,k7,c2,bO _ _ _,by(simp only[d,a7,aS,seval];done)⟩ (by repeat (first|exact c5|refine bC.upd rfl ?_))
   try (cases hc;done)
   all_goals
    have d3:=hc
    first
     |(have b6:E=true:=by simpa using h
       subst b6;obtain⟨X,c0⟩: ∃X:Nat,X=m:=⟨_,rfl⟩;have j:kR true X (PR.ok (⟨R.text,ps,U,wd,ss⟩:Fu) X)=c3:=by rw[c0];exact j
       rw[←c0]at d;have f1:n≤X:=by omega
       have b9:X≤T.length:=by omega)
     |(have hq:Qf T E m [125]=true:=by simpa using d3
       have j:=rP hq j;have:=jO hq (by decide);rw[bF hq]at d;obtain⟨X,c0⟩: ∃X:Nat,X=m+1:=⟨_,rfl⟩;rw[←c0]at j d;have f1:n≤X:=by omega
       have b9:X≤T.length:=by omega)
    refine cH ?_;simp only[RR,seval];refine bN fun m1 g7 y p=>?_;have I:=y 2;have J:=y 3;have g:=p l;have D:=p B;have o:=p u;simp only[C,z,f,d,i,RR,seval]at I J g D o;have t:=t.same p;have C:=I;have z:=J;have f:=g;have d:=D;have i:=o;have h0:g7 u=some (.rows 5 [[.str R.text,Y, .isl 1 (U.map bT), .bool wd]++v::[]]):=i;refine iE t h0 (fun x F=>by simp only[bJ,bL,dD]at F;rcases F with rfl|rfl|rfl|rfl<;>first|exact bS rfl|exact bS d9) (fun x F=>by cases F) a2 fun m2 g8 a1 b4 a4=>?_;have C:=(a1 2 (by rw[C];exact bS rfl)).trans C;have z:=(a1 3 (by rw[z];exact bS rfl)).trans z;have d:=a4 B _ _ a7 (t.offsz d (by decide)) (fun r W x F=>by simp only[bE]at W;subst W;simp only[bJ,bL,dD]at F;rcases F with rfl|rfl|rfl<;>exact bS rfl) d;have f:=a4 l _ _ a3 c1 (fun r W x F=>by simp only[bE]at W;subst W;simp only[bJ,bL,dD]at F;rcases F with rfl|rfl|rfl|rfl|rfl<;>exact bS rfl) f;have i:g8 u=some (.rows 5 [[.str R.text,Y, .isl 1 (U.map bT), .bool wd, .isl 5 (ss.map Sm.row)]]):=b4;clear b4 h0 a1 a4;refine aA fun K H=>?_;simp only[*,w1,RR,seval];apply H;refine aP ?_;simp only[aY,aK,bP,C,RR,seval];refine iO (by(simp only[d,f8,aS,seval];done)) j ?_ f1 b9;exact jE.aggR (jD.cons (jE.refl _) (jD.cons sD (jD.cons (jE.refl _) (jD.cons (jE.refl _) (jD.cons (jE.refl _) jD.nil)))))
end Go.Proofs.YtaecpjgmcffliaaGreatDoor
