/- Chapter 15, the judge's: the reader in memory; what passes a token. Chapter 15, the judge's: tokens, names, signs. Chapter 15, the judge's: signs. -/
import Derived.Test.YtaecpjgmcffliaaGreatDoorGDf
set_option linter.unusedSimpArgs false
set_option linter.unusedVariables false
set_option maxRecDepth 10000
namespace Go.Proofs.YtaecpjgmcffliaaGreatDoor
open Go.Al
def fJ {α:Type} (w:Bool) (n:Nat) (r:PR α):PR α:=if w=true then .bad n else r
theorem gU {α:Type} (n:Nat) (r:PR α):fJ false n r=r:=rfl
theorem Za {α:Type} (n:Nat) (r:PR α):fJ true n r= .bad n:=rfl
theorem Gm {α β:Type} (w:Bool) (n:Nat) (r:PR α) (K:α→Nat→PR β):fJ w n (r.bind K)=(fJ w n r).bind K:=by cases w<;>rfl
theorem bY {α β:Type} {w w':Bool} {n n':Nat} {X:PR α} {K:α→Nat→PR β} {x:α} {res:PR β} (hres:fJ w n (X.bind K)=res) (hj:fJ w' n' (PR.ok x n')=fJ w n X):fJ w' n' (K x n')=res:=by
 rw[←hres,Gm,←hj,←Gm];rfl
def Ba (T:List dC) (w:Bool) (n:Nat) (s:cN):Bool:= !w&&decide (cB T n=s)
def Kv (T:List dC) (w:Bool) (n:Nat) (k:Int):Bool:= !w&&decide (iF T n=k)
theorem C6 {T:List dC} {w:Bool} {n:Nat} {s:cN} (h:Ba T w n s=true):w=false∧cB T n=s:=by
 simpa [Ba]using h
theorem eP {T:List dC} {w:Bool} {n:Nat} {s:cN} (h:Ba T w n s=true) (hs:s≠[]):n<T.length:=iK (C6 h).2 hs
theorem W4 {T:List dC} {w:Bool} {n:Nat} {k:Int} (h:Kv T w n k=true):w=false∧iF T n=k:=by
 simpa [Kv]using h
theorem kQ {α:Type} {T:List dC} {w:Bool} {n:Nat} {s:cN} {A B res:PR α} (h:Ba T w n s=true) (hres:fJ w n (if cB T n=s then A else B)=res):fJ w (n+1) A=res:=by
 obtain⟨h1,h2⟩:=C6 h;subst h1;rw[if_pos h2]at hres;exact hres
theorem kR {α:Type} {T:List dC} {w:Bool} {n:Nat} {s:cN} {A B res:PR α} (h:Ba T w n s=false) (hres:fJ w n (if cB T n=s then A else B)=res):fJ w n B=res:=by
 cases w with
 |true=>exact hres
 |false=>
  have : ¬cB T n=s:=by simpa [Ba]using h
  rw[if_neg this]at hres;exact hres
theorem CC {α:Type} {T:List dC} {w:Bool} {n:Nat} {k:Int} {A B res:PR α} (h:Kv T w n k=true) (hres:fJ w n (if iF T n=k then A else B)=res):fJ w n A=res:=by
 obtain⟨h1,h2⟩:=W4 h;subst h1;rw[if_pos h2]at hres;exact hres
theorem CE {α:Type} {T:List dC} {w:Bool} {n:Nat} {k:Int} {A B res:PR α} (h:Kv T w n k=false) (hres:fJ w n (if iF T n=k then A else B)=res):fJ w n B=res:=by
 cases w with
 |true=>exact hres
 |false=>
  have : ¬iF T n=k:=by simpa [Kv]using h
  rw[if_neg this]at hres;exact hres
def tM (b:Nat) (T:List dC) (n:Nat) (w:Bool):Hp:=upd lG b (some (.rows 3 [[.isl 4 (T.map dC.row), .int .i64 (n:Nat), .bool w]]))
theorem gL (b:Nat) (T:List dC) (n:Nat) (w:Bool):tM b T n w b=some (.rows 3 [[.isl 4 (T.map dC.row), .int .i64 (n:Nat), .bool w]]):=aS _ _ _
theorem kI {b:Nat} {T:List dC} {n:Nat} {w:Bool} {H:Hp} (h:H b=some (.rows 3 [[.isl 4 (T.map dC.row), .int .i64 (n:Nat), .bool w]])):mQ (tM b T n w) H:=fun x o hx=>by
 by_cases c:x=b
 ·subst c;rw[gL]at hx;rw[h];exact hx
 rw[tM,dK _ _ c]at hx;cases hx
def jT {α:Type} (g:FuncId) (args:List AV) (b:Nat) (T:List dC) (n:Nat) (w:Bool) (f:α→AV) (r:PR α):Prop:=
 rK cG g (.ptr 3 b 0 0::args) (tM b T n w) (fun ae H'=> ∃x n' w',ae= .ret (f x)∧H'=tM b T n' w'∧fJ w' n' (PR.ok x n')=r∧n≤n'∧n'≤T.length)
def zZ (g:FuncId) (args:List AV) (b:Nat) (T:List dC) (n:Nat) (w:Bool) (v:AV) (n':Nat) (w':Bool):Prop:=
 rK cG g (.ptr 3 b 0 0::args) (tM b T n w) (fun ae H'=>ae= .ret v∧H'=tM b T n' w')
theorem dZ {α:Type} {b:Nat} {T:List dC} {n0 n:Nat} {w:Bool} {f:α→AV} {r:PR α} {v:AV} {H:Hp} {a:α} (hb:H b=some (.rows 3 [[.isl 4 (T.map dC.row), .int .i64 (n:Nat), .bool w]])) (hr:fJ w n (PR.ok a n)=r) (hs:Al.dQ v (f a)) (h1:n0≤n) (h2:n≤T.length):
  bB (fun ae H'=> ∃x n' w',ae= .ret (f x)∧H'=tM b T n' w'∧fJ w' n' (PR.ok x n')=r∧n0≤n'∧n'≤T.length) v H:=
 ⟨f a,tM b T n w,(fZ.sub hs).trans (fZ.drop (kI hb)),a,n,w,rfl,rfl,hr,h1,h2⟩
theorem Qf {α:Type} {b:Nat} {T:List dC} {n0 n:Nat} {w:Bool} {f:α→AV} {r:PR α} {v:AV} {H:Hp} {a:α} {sz:Nat} {rows:List (List AV)} (ho:cH sz v rows H) (hz:sz≠3) (hb:H b=some (.rows 3 [[.isl 4 (T.map dC.row), .int .i64 (n:Nat), .bool w]])) (hr:fJ w n (PR.ok a n)=r) (hs:Al.dQ (.isl sz rows) (f a)) (h1:n0≤n) (h2:n≤T.length):
  bB (fun ae H'=> ∃x n' w',ae= .ret (f x)∧H'=tM b T n' w'∧fJ w' n' (PR.ok x n')=r∧n0≤n'∧n'≤T.length) v H:=by
 rcases ho with⟨rfl,rfl⟩|⟨c,rfl,hc⟩
 ·exact dZ hb hr (fun S w x h=>hs _ _ _ (dQ.nsl sz _ _ _ h)) h1 h2
 have hne:b≠c:=fun e=>by subst e;rw[hb]at hc;cases hc;exact hz rfl
 refine bB.turn (fZ.freeze hc (lC.osl c sz rows)) (dZ (n:=n) ?_ hr hs h1 h2);rw[dK _ _ hne];exact hb
theorem iL {b:Nat} {T:List dC} {n':Nat} {w':Bool} {v v':AV} {H:Hp} (hb:H b=some (.rows 3 [[.isl 4 (T.map dC.row), .int .i64 (n':Nat), .bool w']])) (hs:v=v'):bB (fun ae H'=>ae= .ret v'∧H'=tM b T n' w') v H:=by
 subst hs;exact⟨v,_,fZ.drop (kI hb),rfl,rfl⟩
theorem pU (b:Nat) (T:List dC) (n n':Nat) (w w':Bool) (H:Hp):(gA (tM b T n' w') (tM b T n w) H) b=some (.rows 3 [[.isl 4 (T.map dC.row), .int .i64 (n':Nat), .bool w']])∧ ∀x o,x≠b→H x=some o→gA (tM b T n' w') (tM b T n w) H x=some o:=by
 refine⟨by simp only[gA,gL],fun x o hx h=>?_⟩;simp only[gA,tM,dK _ _ hx,lG,h,Option.isSome_none,Bool.false_eq_true,if_false]
theorem dP {F:Nat→Prop} {ds:List (Option Nat)} {Q:dN} {d:Option Nat} {rest:List Oper} {fr:Fr} {H:Hp} {g:FuncId} {args:List AV} {b:Nat} {T:List dC} {n n':Nat} {w w':Bool} {v:AV}
  (hc:zZ g args b T n w v n' w') (hb:H b=some (.rows 3 [[.isl 4 (T.map dC.row), .int .i64 (n:Nat), .bool w]])) (hF:F b)
  (hok: ∀H2,H2 b=some (.rows 3 [[.isl 4 (T.map dC.row), .int .i64 (n':Nat), .bool w']])→(∀x o,x≠b→H x=some o→H2 x=some o)→cI cG F ds Q rest (dF fr d v) H2):oJ cG F ds Q d rest fr H g (.ptr 3 b 0 0::args):=by
 refine jH hc (cY.refl _) (kI hb) (fun x hx=>?_) fun ae H' hr _=>?_
 ·by_cases c:x=b
  ·subst c;exact hF
  rw[tM,dK _ _ c]at hx;exact absurd rfl hx
 obtain⟨rfl,rfl⟩:=hr;exact hok _ (pU b T n n' w w' H).1 (pU b T n n' w w' H).2
theorem cA {α:Type} {F:Nat→Prop} {ds:List (Option Nat)} {Q:dN} {d:Option Nat} {rest:List Oper} {fr:Fr} {H:Hp} {g:FuncId} {args:List AV} {b:Nat} {T:List dC} {n:Nat} {w:Bool} {f:α→AV} {r:PR α}
  (hc:jT g args b T n w f r) (hb:H b=some (.rows 3 [[.isl 4 (T.map dC.row), .int .i64 (n:Nat), .bool w]])) (hF:F b)
  (hok: ∀a n' w' H2,fJ w' n' (PR.ok a n')=r→n≤n'→n'≤T.length→H2 b=some (.rows 3 [[.isl 4 (T.map dC.row), .int .i64 (n':Nat), .bool w']])→(∀x o,x≠b→H x=some o→H2 x=some o)→cI cG F ds Q rest (dF fr d (f a)) H2):oJ cG F ds Q d rest fr H g (.ptr 3 b 0 0::args):=by
 refine jH hc (cY.refl _) (kI hb) (fun x hx=>?_) fun ae H' hr _=>?_
 ·by_cases c:x=b
  ·subst c;exact hF
  rw[tM,dK _ _ c]at hx;exact absurd rfl hx
 obtain⟨x,n',w',rfl,rfl,h1,h2,h3⟩:=hr;exact hok x n' w' _ h1 h2 h3 (pU b T n n' w w' H).1 (pU b T n n' w w' H).2
theorem Ij (r0:Nat) (T:List dC) (n:Nat) (w:Bool) (hn:n≤T.length):zZ 150 [] r0 T n w (.str (cB T n)) n w:=by
 unfold zZ;have hr0:=gL r0 T n w;by_cases hlt:n<T.length
 ·have hg:=aG hlt
  generalize T[n]=t at hg;have hp:=Zt hg;have hgt:=P1 hg;have hd:decide ((n:Int)<(T.length:Int))=true:=bQ (by omega);rw[hp];refine bM 52 [.tmp 2] Tryz.func150 rfl rfl rfl rfl ?_;refine aB fun _ y=>aA rfl ?_;simp only[RR,seval];apply y;clear y;refine aJ ?_;refine aB fun K y=>?_;refine bK (fun x=>x≠r0) [(0,3),(1,3),(2,3),(3,1),(4,3),(5,3),(6,3),(7,1),(8,3),(9,3),(10,3),(11,3),(12,3),(13,3),(14,1),(15,3),(16,3),(17,3),(18,1),(19,3),(20,3),(21,1),(22,3),(23,3),(24,3),(25,3),(26,3),(27,1),(28,3),(29,3),(30,3),(31,1),(32,3),(33,3),(34,1),(35,3),(36,3),(37,3)] [] cX (by kernel_rfl) rfl rfl ?_;simp only[cO,hr0,aC,hgt,hd,RR,seval]
  repeat' ((first|refine aO (fun h=>?_) (fun h=>?_)|refine aR (fun h=>?_) (fun h=>?_))<;>simp only[h,hr0,hgt,RR,seval])
  all_goals
   apply y;clear y;refine aH _ rfl (fun hc1=>?_) (fun hc1=>?_)
   ·try (cases hc1;done)
    all_goals
     refine aB fun K y=>?_;refine bK (fun x=>x≠r0) [(0,3),(1,3),(2,3),(3,1),(4,3),(5,3),(6,3),(7,1),(8,3),(9,3),(10,1),(11,3)] [] cX (by kernel_rfl) rfl rfl ?_;simp only[cO,hr0,hgt,RR,seval];apply y;clear y;refine aM ?_;simp only[aZ,aL,bJ,RR,seval];refine iL (by first|exact hr0|(simp only[hr0,aC,hgt,hd,aF,RR,seval];done)) ?_;simp_all
   try (cases hc1;done)
   all_goals
    refine aK ?_;try simp only[RR]
    refine aB fun _ y=>aA rfl ?_;simp only[RR,seval];apply y;clear y;refine aM ?_;simp only[aZ,aL,bJ,RR,seval];refine iL (by first|exact hr0|(simp only[hr0,aC,hgt,hd,aF,RR,seval];done)) ?_;simp_all
 have hd:decide ((n:Int)<(T.length:Int))=false:=aX (by omega);rw[Ss hlt];refine bM 52 [.tmp 2] Tryz.func150 rfl rfl rfl rfl ?_;refine aB fun _ y=>aA rfl ?_;simp only[RR,seval];apply y;clear y;refine aJ ?_;refine aB fun K y=>?_;refine bK (fun x=>x≠r0) [(0,3),(1,3),(2,3),(3,1),(4,3),(5,3),(6,3),(7,1),(8,3),(9,3),(10,3),(11,3),(12,3),(13,3),(14,1),(15,3),(16,3),(17,3),(18,1),(19,3),(20,3),(21,1),(22,3),(23,3),(24,3),(25,3),(26,3),(27,1),(28,3),(29,3),(30,3),(31,1),(32,3),(33,3),(34,1),(35,3),(36,3),(37,3)] [] cX (by kernel_rfl) rfl rfl ?_;simp only[cO,hr0,aC,hd,RR,seval]
 repeat' ((first|refine aO (fun h=>?_) (fun h=>?_)|refine aR (fun h=>?_) (fun h=>?_))<;>simp only[h,hr0,aC,hd,RR,seval])
 all_goals
  apply y;clear y;refine aH false rfl (fun hc=>by cases hc) (fun _=>?_);refine aK ?_;try simp only[RR]
  refine aB fun _ y=>aA rfl ?_;simp only[RR,seval];apply y;clear y;refine aM ?_;simp only[aZ,aL,bJ,RR,seval];refine iL (by first|exact hr0|(simp only[hr0,aC,hd,aF,RR,seval];done)) ?_;rfl
theorem eU (r0:Nat) {T:List dC} (hT:Sz T) (n:Nat) (w:Bool) (hn:n≤T.length) (s:cN) (hs:s≠[]):zZ 99 [.str s] r0 T n w (.bool (Ba T w n s)) (if Ba T w n s=true then n+1 else n) w:=by
 have hh:=Ij r0 T n w hn;have hlen:=hT.len;unfold zZ;have hr0:=gL r0 T n w;have hw1:=Ee (n:=n) (by omega);by_cases hi:Ba T w n s=true
 ·obtain⟨rfl,hp⟩:=C6 hi
  rw[if_pos hi,hi];rw[hp]at hh;refine bM 23 [.tmp 4] Tryz.func99 rfl rfl rfl rfl ?_;refine aB fun _ y=>aA rfl ?_;simp only[RR,seval];apply y;clear y;refine aJ ?_;refine aB fun _ y=>aA rfl ?_;simp only[hr0,RR,seval];refine dP (hh) (by first|exact hr0|(simp only[hr0,hw1,aF,RR,seval];done)) trivial fun M1 hn12x hk12x=>?_;have hr0:=hn12x;clear hn12x hk12x;simp only[RR,seval];apply y;clear y;refine aH true rfl (fun _=>?_) (fun hc=>by cases hc);refine aB fun _ y=>aA rfl ?_;simp only[hr0,hw1,RR,seval];apply y;clear y;refine aB fun _ y=>aA rfl ?_;simp only[RR,seval];apply y;clear y;refine aM ?_;simp only[aZ,aL,bJ,RR,seval];refine iL (by first|exact hr0|(simp only[aF,seval];done)) ?_;rfl
 have hi:=Bool.eq_false_iff.2 hi;rw[if_neg (Bool.eq_false_iff.1 hi),hi]
 cases w with
 |true=>
  refine bM 23 [.tmp 4] Tryz.func99 rfl rfl rfl rfl ?_;refine aB fun _ y=>aA rfl ?_;simp only[RR,seval];apply y;clear y;refine aJ ?_;refine aB fun _ y=>aA rfl ?_;simp only[hr0,RR,seval];apply y;clear y;refine aH false rfl (fun hc=>by cases hc) (fun _=>?_);refine aK ?_;try simp only[RR]
  refine aB fun _ y=>aA rfl ?_;simp only[RR,seval];apply y;clear y;refine aM ?_;simp only[aZ,aL,bJ,RR,seval];refine iL (by first|exact hr0|(simp only[hr0,hw1,aF,RR,seval];done)) ?_;rfl
 |false=>
  have hp:decide (cB T n=s)=false:=by simpa [Ba]using hi
  refine bM 23 [.tmp 4] Tryz.func99 rfl rfl rfl rfl ?_;refine aB fun _ y=>aA rfl ?_;simp only[RR,seval];apply y;clear y;refine aJ ?_;refine aB fun _ y=>aA rfl ?_;simp only[hr0,RR,seval];refine dP (hh) (by first|exact hr0|(simp only[hr0,hw1,hp,aF,RR,seval];done)) trivial fun M1 hn12x hk12x=>?_;have hr0:=hn12x;clear hn12x hk12x;simp only[hp,RR,seval];apply y;clear y;refine aH false rfl (fun hc=>by cases hc) (fun _=>?_);refine aK ?_;try simp only[RR]
  refine aB fun _ y=>aA rfl ?_;simp only[RR,seval];apply y;clear y;refine aM ?_;simp only[aZ,aL,bJ,RR,seval];refine iL (by first|exact hr0|(simp only[hr0,hw1,hp,aF,RR,seval];done)) ?_;rfl
theorem cU (r0:Nat) {T:List dC} (hT:Sz T) (n:Nat) (w:Bool) (hn:n≤T.length) (s:cN) (hs:s≠[]):jT 101 [.str s] r0 T n w (fun _=> .tup []) (fJ w n (cR T s n)):=by
 have hh:=eU r0 hT n w hn s hs;unfold jT;generalize hres:fJ w n (cR T s n)=res;unfold cR at hres;have hr0:=gL r0 T n w;refine bM 11 [] Tryz.func101 rfl rfl rfl rfl ?_;refine aB fun _ y=>aA rfl ?_;simp only[RR,seval];refine dP (hh) (by first|exact hr0|(simp only[hr0,aF,RR,seval];done)) trivial fun M1 hn6x hk6x=>?_;have hr0:=hn6x;clear hn6x hk6x;simp only[RR,seval];apply y;clear y;refine aH _ rfl (fun hc0=>?_) (fun hc0=>?_)
 ·simp only[Bool.not_eq_true']at hc0
  have hres:=kR hc0 hres;rw[if_neg (Bool.eq_false_iff.1 hc0)]at hr0
  have hres:fJ true n (PR.ok () n)=res:=by
   rw[←hres];cases w<;>rfl
  refine aA rfl ?_;simp only[hr0,RR,seval]
  try simp only[aZ,aL,bJ,seval]
  first|exact dZ (a:=()) (n:=n+1) (by first|exact hr0|(simp only[aF,seval];done)) hres (dQ.refl _) (by omega) (by omega)|exact dZ (a:=()) (n:=n) (by first|exact hr0|(simp only[aF,seval];done)) hres (dQ.refl _) (bF _) hn
 simp only[Bool.not_eq_false']at hc0;have hres:=kQ hc0 hres;rw[if_pos hc0]at hr0;have hlt0:=eP hc0 (by first|assumption|decide);have hltn:=eP hc0 hs;refine aK ?_;try simp only[]
 try simp only[aZ,aL,bJ,seval]
 first|exact dZ (a:=()) (n:=n+1) (by first|exact hr0|(simp only[hr0,aF,RR,seval];done)) hres (dQ.refl _) (by omega) (by omega)|exact dZ (a:=()) (n:=n) (by first|exact hr0|(simp only[hr0,aF,RR,seval];done)) hres (dQ.refl _) (bF _) hn
end Go.Proofs.YtaecpjgmcffliaaGreatDoor
namespace Go.Proofs.YtaecpjgmcffliaaGreatDoor
open Go.Al
theorem Az (r0:Nat) (T:List dC) (n:Nat) (w:Bool) (hn:n≤T.length) (k:Int) (hk:k≠0):zZ 151 [.int .i64 k] r0 T n w (.bool (Kv T w n k)) n w:=by
 unfold zZ;have hr0:=gL r0 T n w
 cases w with
 |true=>
  have e:Kv T true n k=false:=rfl;rw[e];refine bM 37 [.tmp 4] Tryz.func151 rfl rfl rfl rfl ?_;refine aB fun _ y=>aA rfl ?_;simp only[RR,seval];apply y;clear y;refine aB fun K y=>?_;refine bK (fun x=>x≠r0) [(0,3),(1,3),(2,3),(3,1),(4,3),(5,3),(6,3),(7,3),(8,3),(9,1),(10,3),(11,3),(12,3),(13,1),(14,3),(15,3),(16,3),(17,3),(18,3),(19,3),(20,3),(21,1),(22,3),(23,3),(24,3),(25,1),(26,3),(27,3),(28,1),(29,3),(30,3),(31,3),(32,3)] [] cX (by kernel_rfl) rfl rfl ?_;simp only[cO,hr0,RR,seval];apply y;clear y;refine aM ?_;simp only[aZ,aL,bJ,RR,seval];refine iL (by first|exact hr0|(simp only[hr0,aC,aF,RR,seval];done)) ?_;rfl
 |false=>
  by_cases hlt:n<T.length
  ·have hg:=aG hlt
   generalize T[n]=t at hg;have hgt:=P1 hg;have hd:decide ((n:Int)<(T.length:Int))=true:=bQ (by omega);have e:Kv T false n k=decide (t.kind=k):=by simp [Kv,iF,hg]
   rw[e];refine bM 37 [.tmp 4] Tryz.func151 rfl rfl rfl rfl ?_;refine aB fun _ y=>aA rfl ?_;simp only[RR,seval];apply y;clear y;refine aB fun K y=>?_;refine bK (fun x=>x≠r0) [(0,3),(1,3),(2,3),(3,1),(4,3),(5,3),(6,3),(7,3),(8,3),(9,1),(10,3),(11,3),(12,3),(13,1),(14,3),(15,3),(16,3),(17,3),(18,3),(19,3),(20,3),(21,1),(22,3),(23,3),(24,3),(25,1),(26,3),(27,3),(28,1),(29,3),(30,3),(31,3),(32,3)] [] cX (by kernel_rfl) rfl rfl ?_;simp only[cO,hr0,aC,hgt,hd,RR,seval];apply y;clear y;refine aM ?_;simp only[aZ,aL,bJ,RR,seval];refine iL (by first|exact hr0|(simp only[hr0,aC,hgt,hd,aF,RR,seval];done)) ?_;rfl
  have hd:decide ((n:Int)<(T.length:Int))=false:=aX (by omega)
  have e:Kv T false n k=false:=by
   have :iF T n=0:=by rw[iF,List.getElem?_eq_none (by omega)]
   simp [Kv,this,Ne.symm hk]
  rw[e];refine bM 37 [.tmp 4] Tryz.func151 rfl rfl rfl rfl ?_;refine aB fun _ y=>aA rfl ?_;simp only[RR,seval];apply y;clear y;refine aB fun K y=>?_;refine bK (fun x=>x≠r0) [(0,3),(1,3),(2,3),(3,1),(4,3),(5,3),(6,3),(7,3),(8,3),(9,1),(10,3),(11,3),(12,3),(13,1),(14,3),(15,3),(16,3),(17,3),(18,3),(19,3),(20,3),(21,1),(22,3),(23,3),(24,3),(25,1),(26,3),(27,3),(28,1),(29,3),(30,3),(31,3),(32,3)] [] cX (by kernel_rfl) rfl rfl ?_;simp only[cO,hr0,aC,hd,RR,seval];apply y;clear y;refine aM ?_;simp only[aZ,aL,bJ,RR,seval];refine iL (by first|exact hr0|(simp only[hr0,aC,hd,aF,RR,seval];done)) ?_;rfl
theorem iR (r0:Nat) {T:List dC} (hT:Sz T) (n:Nat) (w:Bool) (hn:n≤T.length) (k:Int) (hk:k≠0):jT 102 [.int .i64 k] r0 T n w (fun t:dC=> .agg [.int .i64 t.kind, .str t.text, .int .u32 t.num, .int .i64 t.pos]) (fJ w n (eX T k n)):=by
 have hh:=Az r0 T n w hn k hk;have hlen:=hT.len;unfold jT;have hr0:=gL r0 T n w
 cases hik:Kv T w n k with
 |false=>
  rw[hik]at hh
  have hres:fJ true n (PR.ok eV n)=fJ w n (eX T k n):=by
   cases w with
   |true=>rfl
   |false=>
    have hne: ¬iF T n=k:=by simpa [Kv]using hik
    show PR.bad n=eX T k n;rw[eX]
    cases hg:T[n]? with
    |none=>rfl
    |some t=>
     rw[iF,hg]at hne;exact(if_neg hne).symm
  refine bM 31 [.cell 4 159] Tryz.func102 rfl rfl rfl rfl ?_;refine aB fun _ y=>aA rfl ?_;simp only[RR,seval];refine aT fun b4 hn4=>?_;have nb4_r0:b4≠r0:=fun e=>by rw[e]at hn4;simp only[hr0,seval,reduceCtorEq]at hn4
  have nr0_b4:r0≠b4:=fun e=>nb4_r0 e.symm;simp only[RR,seval];apply y;clear y;refine aJ ?_;refine aB fun _ y=>aA rfl ?_;simp only[RR,seval];refine dP (hh) (by first|exact hr0|(simp only[hr0,nr0_b4,aF,seval];done)) trivial fun M1 hn7x hk7x=>?_;have gb4:=hk7x b4 _ (by first|exact nb4_r0|exact bS hb4 hr0 (by decide)|(intro e;subst e;simp_all)) (by first|exact aS _ _ _|(simp only[hr0,nb4_r0,nr0_b4,aC,aF,RR,seval];rfl));have hb4:=gb4;clear gb4;have hr0:=hn7x;clear hn7x hk7x;simp only[RR,seval];apply y;clear y;refine aH true rfl (fun _=>?_) (fun hc=>by cases hc);refine aB fun _ y=>aA rfl ?_;simp only[hr0,RR,seval];apply y;clear y;refine aB fun _ y=>aA rfl ?_;simp only[hb4,nb4_r0,RR,seval];apply y;clear y;refine aM ?_;simp only[aZ,aL,bJ,RR,seval];refine dZ (a:=eV) (n:=n) (by first|exact hr0|(simp only[nr0_b4,aF,seval];done)) hres ?_ (bF _) hn;exact dQ.refl _
 |true=>
  obtain⟨rfl,hke⟩:=W4 hik;rw[hik]at hh;have hlt:=O5 hke hk;have hg:=aG hlt;generalize T[n]=t at hg;have hgt:=P1 hg
  have hres:fJ false (n+1) (PR.ok t (n+1))=fJ false n (eX T k n):=by
   show PR.ok t (n+1)=eX T k n;rw[eX,hg];rw[iF,hg]at hke;exact(if_pos hke).symm
  have hw:=Ee (n:=n) (by omega);have hw2:IntKind.wrap .i64 (((n+1:Nat):Int)- 1)=(n:Int):=by rw[aV _ (by omega)];omega
  have hli:(n:Int)<(T.length:Int):=by omega
  refine bM 31 [.cell 4 159] Tryz.func102 rfl rfl rfl rfl ?_;refine aB fun _ y=>aA rfl ?_;simp only[RR,seval];refine aT fun b4 hn4=>?_;have nb4_r0:b4≠r0:=fun e=>by rw[e]at hn4;simp only[hr0,seval,reduceCtorEq]at hn4
  have nr0_b4:r0≠b4:=fun e=>nb4_r0 e.symm;simp only[RR,seval];apply y;clear y;refine aJ ?_;refine aB fun _ y=>aA rfl ?_;simp only[RR,seval];refine dP (hh) (by first|exact hr0|(simp only[hr0,nr0_b4,aF,seval];done)) trivial fun M1 hn7x hk7x=>?_;have gb4:=hk7x b4 _ (by first|exact nb4_r0|exact bS hb4 hr0 (by decide)|(intro e;subst e;simp_all)) (by first|exact aS _ _ _|(simp only[hr0,nb4_r0,nr0_b4,aC,hgt,hw,hw2,hli,aF,RR,seval];rfl));have hb4:=gb4;clear gb4;have hr0:=hn7x;clear hn7x hk7x;simp only[RR,seval];apply y;clear y;refine aH false rfl (fun hc=>by cases hc) (fun _=>?_);refine aK ?_;try simp only[RR]
  refine aB fun _ y=>aA rfl ?_;simp only[hr0,hw,RR,seval];apply y;clear y;refine aB fun K y=>?_;refine bK (fun x=>x≠b4) [(0,3),(1,3),(2,3),(3,1),(4,3),(5,3),(6,3),(7,1),(8,3),(9,3),(10,1)] [(11,1)] cX (by kernel_rfl) rfl rfl ?_;simp only[cO,hb4,nb4_r0,hgt,hw2,RR,seval];apply y;clear y;refine aM ?_;simp only[aZ,aL,bJ,RR,seval];refine dZ (a:=t) (n:=n+1) (by first|exact hr0|(simp only[nr0_b4,aF,seval];done)) hres ?_ (by omega) (by omega);exact dQ.refl _
def Jz {α:Type} (g:FuncId) (args:List AV) (b:Nat) (T:List dC) (n:Nat) (w:Bool) (f:α→AV) (r:PR α) (G:α→Nat→Prop):Prop:=
 rK cG g (.ptr 3 b 0 0::args) (tM b T n w) (fun ae H'=> ∃x n' w',ae= .ret (f x)∧H'=tM b T n' w'∧fJ w' n' (PR.ok x n')=r∧n≤n'∧n'≤T.length∧G x n')
theorem Jz.jcon {α:Type} {g:FuncId} {args:List AV} {b:Nat} {T:List dC} {n:Nat} {w:Bool} {f:α→AV} {r:PR α} {G:α→Nat→Prop} (h:Jz g args b T n w f r G):jT g args b T n w f r:=
 rK.mono h fun _ _ ⟨x,n',w',h1,h2,h3,h4,h5,_⟩=>⟨x,n',w',h1,h2,h3,h4,h5⟩
theorem Qv {α:Type} {F:Nat→Prop} {ds:List (Option Nat)} {Q:dN} {d:Option Nat} {rest:List Oper} {fr:Fr} {H:Hp} {g:FuncId} {args:List AV} {b:Nat} {T:List dC} {n:Nat} {w:Bool} {f:α→AV} {r:PR α} {G:α→Nat→Prop}
  (hc:Jz g args b T n w f r G) (hb:H b=some (.rows 3 [[.isl 4 (T.map dC.row), .int .i64 (n:Nat), .bool w]])) (hF:F b)
  (hok: ∀a n' w' H2,fJ w' n' (PR.ok a n')=r→n≤n'→n'≤T.length→G a n'→H2 b=some (.rows 3 [[.isl 4 (T.map dC.row), .int .i64 (n':Nat), .bool w']])→(∀x o,x≠b→H x=some o→H2 x=some o)→cI cG F ds Q rest (dF fr d (f a)) H2):oJ cG F ds Q d rest fr H g (.ptr 3 b 0 0::args):=by
 refine jH hc (cY.refl _) (kI hb) (fun x hx=>?_) fun ae H' hr _=>?_
 ·by_cases c:x=b
  ·subst c;exact hF
  rw[tM,dK _ _ c]at hx;exact absurd rfl hx
 obtain⟨x,n',w',rfl,rfl,h1,h2,h3,h4⟩:=hr;exact hok x n' w' _ h1 h2 h3 h4 (pU b T n n' w w' H).1 (pU b T n n' w w' H).2
theorem O8 {α:Type} {b:Nat} {T:List dC} {n0 n:Nat} {w:Bool} {f:α→AV} {r:PR α} {v:AV} {H:Hp} {a:α} {sz:Nat} {rows:List (List AV)} {G:α→Nat→Prop} (ho:cH sz v rows H) (hz:sz≠3) (hb:H b=some (.rows 3 [[.isl 4 (T.map dC.row), .int .i64 (n:Nat), .bool w]])) (hr:fJ w n (PR.ok a n)=r) (hs:Al.dQ (.isl sz rows) (f a)) (h1:n0≤n) (h2:n≤T.length) (hG:G a n):
  bB (fun ae H'=> ∃x n' w',ae= .ret (f x)∧H'=tM b T n' w'∧fJ w' n' (PR.ok x n')=r∧n0≤n'∧n'≤T.length∧G x n') v H:=by
 rcases ho with⟨rfl,rfl⟩|⟨c,rfl,hc⟩
 ·exact⟨f a,tM b T n w,(fZ.sub (fun S w x h=>hs _ _ _ (dQ.nsl sz _ _ _ h))).trans (fZ.drop (kI hb)),a,n,w,rfl,rfl,hr,h1,h2,hG⟩
 have hne:b≠c:=fun e=>by subst e;rw[hb]at hc;cases hc;exact hz rfl
 refine bB.turn (fZ.freeze hc (lC.osl c sz rows)) ⟨f a,tM b T n w,(fZ.sub hs).trans (fZ.drop (kI ?_)),a,n,w,rfl,rfl,hr,h1,h2,hG⟩;rw[dK _ _ hne];exact hb
theorem pA (r0:Nat) {T:List dC} (hT:Sz T) (n:Nat) (w:Bool) (hn:n≤T.length):Jz 100 [] r0 T n w strs (fJ w n (jF T n)) (fun l m=>l.length≤m+1):=by
 unfold Jz;generalize hres:fJ w n (jF T n)=res;have hlen:=hT.len;unfold jF at hres;have hr0:=gL r0 T n w;refine bM 17 [.tmp 2] Tryz.func100 rfl rfl rfl rfl ?_;refine aB fun _ y=>aA rfl ?_;simp only[RR,seval];apply y;clear y;refine aB fun _ y=>aA rfl ?_;simp only[RR,seval];refine cA (iR r0 hT n w hn 1 (by decide)) (by first|exact hr0|(simp only[hr0,aC,aF,RR,seval];done)) trivial fun a5 m5 w5 M1 hj5 hle5 hlt5 hn5x hk5x=>?_;have hres:=bY hres hj5;have hr0:=hn5x;clear hn5x hk5x;simp only[RR,seval];refine yM fun b7 hn7=>?_;have nb7_r0:b7≠r0:=fun e=>by rw[e]at hn7;simp only[hr0,seval,reduceCtorEq]at hn7
 have nr0_b7:r0≠b7:=fun e=>nb7_r0 e.symm;simp only[RR,seval];apply y;clear y;refine aJ ?_;refine bN fun F2 M2 hfr hH=>?_;have g0:=hfr 0;have g2:=hfr 2;have g3:=hfr 3;have gr0:=hH r0;have gb7:=hH b7
 try simp only[hr0,nr0_b7,RR,seval]at g0 g2 g3 gr0 gb7
 have f0:=g0;clear g0;have f2:=g2;clear g2;have f3:=g3;clear g3;have hr0:=gr0;clear gr0;have hb7:=gb7;clear gb7;clear hfr hH;have hown:cH 1 (F2 3) ([a5.text].map bG) M2:= .inr ⟨b7,f3,hb7⟩;refine aN ?_;refine gK [0,2] (T.length-m5) (fun k fr M=>(∃(m:Nat) (w:Bool) (acc:List cN),k=T.length-m∧n≤m∧m≤T.length∧acc.length≤m+1∧fJ w m (Z7 T acc m)=res∧cH 1 (fr 3) (acc.map bG) M∧M r0=some (.rows 3 [[.isl 4 (T.map dC.row), .int .i64 (m:Nat), .bool w]]))) ⟨m5,w5,[a5.text],rfl,hle5,hlt5,by simp,hres,hown,hr0⟩ ?_;rintro k F3 M3 ⟨m,w',acc,rfl,hnm,hm,hal,hres,hown,hr0⟩ agx K0 hK0;have f0:=(agx 0 rfl).trans f0;have f2:=(agx 2 rfl).trans f2;have ag0:=aY.refl [0,2] F3;clear agx;obtain⟨v3,f3⟩: ∃v,F3 3=v:=⟨_,rfl⟩;rw[f3]at hown;rw[X9]at hres;refine aJ ?_;refine aB fun _ y=>aA rfl ?_;simp only[f0,RR,seval];refine dP (eU r0 hT m w' hm [44] (by decide)) (by first|exact hr0|(simp only[f0,f2,f3,hr0,nb7_r0,nr0_b7,aC,aF,RR,seval];done)) trivial fun M4 hn9x hk9x=>?_;have hown:=cH.kp hown hr0 (by decide) hk9x;have hr0:=hn9x;clear hn9x hk9x;simp only[RR,seval];apply y;clear y;refine aH _ rfl (fun hc=>?_) (fun hc=>?_)
 ·have hw0:=hc;clear hc
  have hres:=kQ hw0 hres;rw[if_pos hw0]at hr0;have hlt:=eP hw0 (by decide);refine aK ?_;try simp only[RR]
  refine aN ?_;refine aA rfl ?_;simp only[f0,f3,RR,seval];refine cA (iR r0 hT (m+1) w' (by omega) 1 (by decide)) (by first|exact hr0|(simp only[f0,f2,f3,hr0,nb7_r0,nr0_b7,aC,aF,RR,seval];done)) trivial fun a12 m12 w12 M5 hj12 hle12 hlt12 hn12x hk12x=>?_;have hres:=bY hres hj12;have hown:=cH.kp hown hr0 (by decide) hk12x;have hr0:=hn12x;clear hn12x hk12x;simp only[RR,seval];refine cK ?_;simp only[RR,seval];refine eZ hown (by simp only[aC,aQ,List.length_nil];omega) (fun _=>trivial) fun v3 M6 hown' hk'=>?_;simp only[RR,seval];have gr0:=hk' r0 _ hr0 (by first|exact(hown).nb' hr0 (by decide)|exact ho0 _ _|assumption|(intro e;simp_all));have hr0:=gr0;clear gr0
  try rw[aV _ (by omega)]
  refine hK0 (T.length-m12) _ _ (by omega) ⟨m12,w12,acc++[a12.text],rfl,by omega,hlt12,by simp only[aI,aQ,List.length_nil];omega,hres,by rw[List.map_append];exact hown',by first|exact hr0|(simp only[f0,f2,f3,hr0,nb7_r0,nr0_b7,aC,aF,RR,seval];done)⟩ (by repeat (first|exact ag0|refine aY.upd rfl ?_))
 have hw0:=hc;clear hc;have hres:=kR hw0 hres;rw[if_neg (Bool.eq_false_iff.1 hw0)]at hr0;refine bI ?_;simp only[RR,seval];refine aB fun _ y=>aA rfl ?_;simp only[f3,RR,seval];apply y;clear y;refine aM ?_;simp only[aZ,aL,bJ,RR,seval];refine O8 (a:=acc) hown (by decide) (by first|exact hr0|(simp only[f0,f2,f3,hr0,nb7_r0,nr0_b7,aC,aF,RR,seval];done)) hres ?_ hnm hm hal;exact dQ.refl _
theorem Nh (r0:Nat) {T:List dC} (hT:Sz T) (n:Nat) (w:Bool) (hn:n≤T.length):jT 100 [] r0 T n w strs (fJ w n (jF T n)):=(pA r0 hT n w hn).jcon
end Go.Proofs.YtaecpjgmcffliaaGreatDoor
namespace Go.Proofs.YtaecpjgmcffliaaGreatDoor
open Go.Al
set_option maxHeartbeats 4000000 in
theorem Do (s:cN):cM cG 226 [.str s] (.int .i64 ((uE s).2.2:Nat)):=by
 generalize hr:uE s=r;unfold uE Z5 at hr;simp only[zJ]at hr;refine bM 27 [.tmp 2] Tryz.func226 rfl rfl rfl rfl ?_;refine aB fun _ y=>aA rfl ?_;simp only[RR,seval];apply y;clear y;refine aJ ?_;refine aB fun _ y=>aA rfl ?_;simp only[RR,seval];apply y;clear y;refine aN ?_;refine aB fun _ y=>aA rfl ?_;simp only[RR,seval];apply y;clear y;refine aH _ rfl (fun hc2=>?_) (fun hc2=>?_)
 ·rw[if_pos (aD hc2)]at hr
  refine aB fun _ y=>aA rfl ?_;simp only[RR,seval];apply y;clear y;refine aM ?_;simp only[aZ,aL,bJ,RR,seval];refine bB.pure ?_
  first|(subst hr;rfl)|(rcases hq with rfl|rfl<;>(simp at hr;subst hr;rfl))|(rcases hq with rfl|rfl|rfl<;>(simp at hr;subst hr;rfl))
 rw[if_neg (aE hc2)]at hr;refine aB fun _ y=>aA rfl ?_;simp only[RR,seval];apply y;clear y;refine aH _ rfl (fun hc4=>?_) (fun hc4=>?_)
 ·rw[if_pos (aD hc4)]at hr
  refine aB fun _ y=>aA rfl ?_;simp only[RR,seval];apply y;clear y;refine aM ?_;simp only[aZ,aL,bJ,RR,seval];refine bB.pure ?_
  first|(subst hr;rfl)|(rcases hq with rfl|rfl<;>(simp at hr;subst hr;rfl))|(rcases hq with rfl|rfl|rfl<;>(simp at hr;subst hr;rfl))
 rw[if_neg (aE hc4)]at hr;refine aB fun _ y=>aA rfl ?_;simp only[RR,seval];apply y;clear y;refine aH _ rfl (fun hc6=>?_) (fun hc6=>?_)
 ·rw[if_pos (aD hc6)]at hr
  refine aB fun _ y=>aA rfl ?_;simp only[RR,seval];apply y;clear y;refine aM ?_;simp only[aZ,aL,bJ,RR,seval];refine bB.pure ?_
  first|(subst hr;rfl)|(rcases hq with rfl|rfl<;>(simp at hr;subst hr;rfl))|(rcases hq with rfl|rfl|rfl<;>(simp at hr;subst hr;rfl))
 rw[if_neg (aE hc6)]at hr;refine aB fun _ y=>aA rfl ?_;simp only[RR,seval];apply y;clear y;refine aH _ rfl (fun hc8=>?_) (fun hc8=>?_)
 ·rw[if_pos (aD hc8)]at hr
  refine aB fun _ y=>aA rfl ?_;simp only[RR,seval];apply y;clear y;refine aM ?_;simp only[aZ,aL,bJ,RR,seval];refine bB.pure ?_
  first|(subst hr;rfl)|(rcases hq with rfl|rfl<;>(simp at hr;subst hr;rfl))|(rcases hq with rfl|rfl|rfl<;>(simp at hr;subst hr;rfl))
 rw[if_neg (aE hc8)]at hr;refine aJ ?_;refine aB fun _ y=>aA rfl ?_;simp only[RR,seval];apply y;clear y;refine bN fun F1 M1 hfr hH=>?_;have g2:=hfr 2;have g3:=hfr 3;have g12:=hfr 12
 try simp only[RR,seval]at g2 g3 g12
 have f2:=g2;clear g2;have f3:=g3;clear g3;have f12:=g12;clear g12;clear hfr hH;refine dU (fun fr M=>aY [2,3] F1 fr∧fr 12= .bool (decide (s=[124]∨s=[94]))) (fun KC10 hKC10=>?_) ?_
 ·have agC10:=aY.refl [2,3] F1
  refine aH _ (by first|rfl|exact f12) (fun hc10=>?_) (fun hc10=>?_)
  ·refine aK ?_;try simp only[RR]
   refine hKC10 _ _ ⟨(by repeat (first|exact agC10|refine aY.upd rfl ?_)), ?_⟩
   first|(simp only[aF,RR,seval];simp_all;done)|simp_all
  refine aA rfl ?_;simp only[f3,RR,seval];refine hKC10 _ _ ⟨(by repeat (first|exact agC10|refine aY.upd rfl ?_)), ?_⟩
  first|(simp only[aF,seval];simp_all;done)|simp_all
 rintro F2 M2 ⟨agx,f12⟩;have f2:=(agx 2 rfl).trans f2;have f3:=(agx 3 rfl).trans f3;clear agx;simp only[RR,seval];refine aH _ (by first|rfl|exact f12) (fun hc11=>?_) (fun hc11=>?_)
 ·have hq:=aD hc11
  refine aB fun _ y=>aA rfl ?_;simp only[RR,seval];apply y;clear y;refine aM ?_;simp only[aZ,aL,bJ,RR,seval];refine bB.pure ?_
  first|(subst hr;rfl)|(rcases hq with rfl|rfl<;>(simp at hr;subst hr;rfl))|(rcases hq with rfl|rfl|rfl<;>(simp at hr;subst hr;rfl))
 have hq:=aE hc11;simp only[not_or]at hq;rw[if_neg hq.1,if_neg hq.2]at hr;refine aB fun _ y=>aA rfl ?_;simp only[f3,RR,seval];apply y;clear y;refine aH _ rfl (fun hc13=>?_) (fun hc13=>?_)
 ·rw[if_pos (aD hc13)]at hr
  refine aB fun _ y=>aA rfl ?_;simp only[RR,seval];apply y;clear y;refine aM ?_;simp only[aZ,aL,bJ,RR,seval];refine bB.pure ?_
  first|(subst hr;rfl)|(rcases hq with rfl|rfl<;>(simp at hr;subst hr;rfl))|(rcases hq with rfl|rfl|rfl<;>(simp at hr;subst hr;rfl))
 rw[if_neg (aE hc13)]at hr;refine aJ ?_;refine aB fun _ y=>aA rfl ?_;simp only[f3,RR,seval];apply y;clear y;refine bN fun F3 M3 hfr hH=>?_;have g2:=hfr 2;have g3:=hfr 3;have g17:=hfr 17
 try simp only[f2,f3,RR,seval]at g2 g3 g17
 have f2:=g2;clear g2;have f3:=g3;clear g3;have f17:=g17;clear g17;clear hfr hH;refine dU (fun fr M=>aY [2,3] F3 fr∧fr 17= .bool (decide (s=[60,60]∨s=[62,62]))) (fun KC15 hKC15=>?_) ?_
 ·have agC15:=aY.refl [2,3] F3
  refine aH _ (by first|rfl|exact f17) (fun hc15=>?_) (fun hc15=>?_)
  ·refine aK ?_;try simp only[RR]
   refine hKC15 _ _ ⟨(by repeat (first|exact agC15|refine aY.upd rfl ?_)), ?_⟩
   first|(simp only[aF,RR,seval];simp_all;done)|simp_all
  refine aA rfl ?_;simp only[f3,RR,seval];refine hKC15 _ _ ⟨(by repeat (first|exact agC15|refine aY.upd rfl ?_)), ?_⟩
  first|(simp only[aF,seval];simp_all;done)|simp_all
 rintro F4 M4 ⟨agx,f17⟩;have f2:=(agx 2 rfl).trans f2;have f3:=(agx 3 rfl).trans f3;clear agx;simp only[RR,seval];refine aH _ (by first|rfl|exact f17) (fun hc16=>?_) (fun hc16=>?_)
 ·have hq:=aD hc16
  refine aB fun _ y=>aA rfl ?_;simp only[RR,seval];apply y;clear y;refine aM ?_;simp only[aZ,aL,bJ,RR,seval];refine bB.pure ?_
  first|(subst hr;rfl)|(rcases hq with rfl|rfl<;>(simp at hr;subst hr;rfl))|(rcases hq with rfl|rfl|rfl<;>(simp at hr;subst hr;rfl))
 have hq:=aE hc16;simp only[not_or]at hq;rw[if_neg hq.1,if_neg hq.2]at hr;refine aJ ?_;refine aB fun _ y=>aA rfl ?_;simp only[f3,RR,seval];apply y;clear y;refine bN fun F5 M5 hfr hH=>?_;have g2:=hfr 2;have g3:=hfr 3;have g20:=hfr 20
 try simp only[f2,f3,RR,seval]at g2 g3 g20
 have f2:=g2;clear g2;have f3:=g3;clear g3;have f20:=g20;clear g20;clear hfr hH;refine dU (fun fr M=>aY [2,3] F5 fr∧fr 20= .bool (decide (s=[43]∨s=[45]))) (fun KC18 hKC18=>?_) ?_
 ·have agC18:=aY.refl [2,3] F5
  refine aH _ (by first|rfl|exact f20) (fun hc18=>?_) (fun hc18=>?_)
  ·refine aK ?_;try simp only[RR]
   refine hKC18 _ _ ⟨(by repeat (first|exact agC18|refine aY.upd rfl ?_)), ?_⟩
   first|(simp only[aF,RR,seval];simp_all;done)|simp_all
  refine aA rfl ?_;simp only[f3,RR,seval];refine hKC18 _ _ ⟨(by repeat (first|exact agC18|refine aY.upd rfl ?_)), ?_⟩
  first|(simp only[aF,seval];simp_all;done)|simp_all
 rintro F6 M6 ⟨agx,f20⟩;have f2:=(agx 2 rfl).trans f2;have f3:=(agx 3 rfl).trans f3;clear agx;simp only[RR,seval];refine aH _ (by first|rfl|exact f20) (fun hc19=>?_) (fun hc19=>?_)
 ·have hq:=aD hc19
  refine aB fun _ y=>aA rfl ?_;simp only[RR,seval];apply y;clear y;refine aM ?_;simp only[aZ,aL,bJ,RR,seval];refine bB.pure ?_
  first|(subst hr;rfl)|(rcases hq with rfl|rfl<;>(simp at hr;subst hr;rfl))|(rcases hq with rfl|rfl|rfl<;>(simp at hr;subst hr;rfl))
 have hq:=aE hc19;simp only[not_or]at hq;rw[if_neg hq.1,if_neg hq.2]at hr;refine aJ ?_;refine aB fun _ y=>aA rfl ?_;simp only[f3,RR,seval];apply y;clear y;refine bN fun F7 M7 hfr hH=>?_;have g2:=hfr 2;have g3:=hfr 3;have g23:=hfr 23
 try simp only[f2,f3,RR,seval]at g2 g3 g23
 have f2:=g2;clear g2;have f3:=g3;clear g3;have f23:=g23;clear g23;clear hfr hH;refine dU (fun fr M=>aY [2] F7 fr∧fr 23= .bool (decide (s=[42]∨s=[47]∨s=[37]))) (fun KC21 hKC21=>?_) ?_
 ·have agC21:=aY.refl [2] F7
  refine aH _ (by first|rfl|exact f23) (fun hc21=>?_) (fun hc21=>?_)
  ·refine aK ?_;try simp only[RR]
   refine hKC21 _ _ ⟨(by repeat (first|exact agC21|refine aY.upd rfl ?_)), ?_⟩
   first|(simp only[aF,RR,seval];simp_all;done)|simp_all
  refine aB fun _ y=>aA rfl ?_;simp only[f3,RR,seval];apply y;clear y;refine aH _ (by first|rfl|exact f23) (fun hc22=>?_) (fun hc22=>?_)
  ·refine aK ?_;try simp only[RR]
   refine hKC21 _ _ ⟨(by repeat (first|exact agC21|refine aY.upd rfl ?_)), ?_⟩
   first|(simp only[aF,seval];simp_all;done)|simp_all
  refine aA rfl ?_;simp only[f3,RR,seval];refine hKC21 _ _ ⟨(by repeat (first|exact agC21|refine aY.upd rfl ?_)), ?_⟩
  first|(simp only[aF,seval];simp_all;done)|simp_all
 rintro F8 M8 ⟨agx,f23⟩;have f2:=(agx 2 rfl).trans f2;clear agx;simp only[RR,seval];refine aH _ (by first|rfl|exact f23) (fun hc23=>?_) (fun hc23=>?_)
 ·have hq:=aD hc23
  refine aB fun _ y=>aA rfl ?_;simp only[RR,seval];apply y;clear y;refine aM ?_;simp only[aZ,aL,bJ,RR,seval];refine bB.pure ?_
  first|(subst hr;rfl)|(rcases hq with rfl|rfl<;>(simp at hr;subst hr;rfl))|(rcases hq with rfl|rfl|rfl<;>(simp at hr;subst hr;rfl))
 have hq:=aE hc23;simp only[not_or]at hq;rw[if_neg hq.1,if_neg hq.2.1,if_neg hq.2.2]at hr;refine aK ?_;try simp only[RR]
 refine aB fun _ y=>aA rfl ?_;simp only[RR,seval];apply y;clear y;refine aM ?_;simp only[aZ,aL,bJ,RR,seval];refine bB.pure ?_
 first|(subst hr;rfl)|(rcases hq with rfl|rfl<;>(simp at hr;subst hr;rfl))|(rcases hq with rfl|rfl|rfl<;>(simp at hr;subst hr;rfl))
set_option maxHeartbeats 4000000 in
theorem C0 (s:cN) (a b:Ex) (hs:(uE s).2.2≠0):cM cG 227 [.str s,cZ a,cZ b] (cZ (xE s a b)):=by
 have hj:cZ (xE s a b)= .agg [.int .i64 (uE s).1, .int .i64 (uE s).2.1, .int .u32 0, .str [], .isl 5 [[.int .i64 a.kind, .int .i64 a.op, .int .u32 a.num, .str a.name, .isl 5 (a.kids.map Ex.row)],[.int .i64 b.kind, .int .i64 b.op, .int .u32 b.num, .str b.name, .isl 5 (b.kids.map Ex.row)]]]:=by
  simp only[cZ,xE,Ex.kind,Ex.op,Ex.num,Ex.name,Ex.kids,List.map_cons,List.map_nil,Ex.row_eq]
 rw[hj];generalize hr:uE s=r at hs⊢;unfold uE Z5 at hr;simp only[zJ]at hr;simp only[cZ];refine bM 54 [.cell 6 62] Tryz.func227 rfl rfl rfl rfl ?_;refine aB fun _ y=>aA rfl ?_;simp only[RR,seval];refine aT fun b4 hn4=>?_;simp only[RR,seval];refine aT fun b5 hn5=>?_;have nb5_b4:b5≠b4:=fun e=>by rw[e]at hn5;simp only[RR,seval,reduceCtorEq]at hn5
 have nb4_b5:b4≠b5:=fun e=>nb5_b4 e.symm;simp only[RR,seval];refine aT fun b6 hn6=>?_;have nb6_b4:b6≠b4:=fun e=>by rw[e]at hn6;simp only[nb4_b5,RR,seval,reduceCtorEq]at hn6
 have nb4_b6:b4≠b6:=fun e=>nb6_b4 e.symm;have nb6_b5:b6≠b5:=fun e=>by rw[e]at hn6;simp only[RR,seval,reduceCtorEq]at hn6
 have nb5_b6:b5≠b6:=fun e=>nb6_b5 e.symm;simp only[RR,seval];apply y;clear y;refine aB fun _ y=>aA rfl ?_;simp only[nb4_b5,nb4_b6,nb5_b6,RR,seval];refine cK ?_;simp only[RR,seval];refine aT fun b7 hn7=>?_;have nb7_b4:b7≠b4:=fun e=>by rw[e]at hn7;simp only[nb4_b5,nb4_b6,RR,seval,reduceCtorEq]at hn7
 have nb4_b7:b4≠b7:=fun e=>nb7_b4 e.symm;have nb7_b5:b7≠b5:=fun e=>by rw[e]at hn7;simp only[nb5_b6,RR,seval,reduceCtorEq]at hn7
 have nb5_b7:b5≠b7:=fun e=>nb7_b5 e.symm;have nb7_b6:b7≠b6:=fun e=>by rw[e]at hn7;simp only[RR,seval,reduceCtorEq]at hn7
 have nb6_b7:b6≠b7:=fun e=>nb7_b6 e.symm;simp only[RR,seval];apply y;clear y;refine aJ ?_;refine aB fun _ y=>aA rfl ?_;simp only[RR,seval];apply y;clear y;refine bN fun F1 M1 hfr hH=>?_;have g6:=hfr 6;have g7:=hfr 7;have g12:=hfr 12;have gb4:=hH b4;have gb5:=hH b5;have gb6:=hH b6;have gb7:=hH b7
 try simp only[nb4_b5,nb4_b6,nb5_b6,nb4_b7,nb5_b7,nb6_b7,RR,seval]at g6 g7 g12 gb4 gb5 gb6 gb7
 have f6:=g6;clear g6;have f7:=g7;clear g7;have f12:=g12;clear g12;have hb4:=gb4;clear gb4;have hb5:=gb5;clear gb5;have hb6:=gb6;clear gb6;have hb7:=gb7;clear gb7;clear hfr hH;refine dU (fun fr M=>aY [6,7] F1 fr∧M b4=M1 b4∧M b5=M1 b5∧M b6=M1 b6∧M b7=some (.rows 5 [[.int .i64 r.1, .int .i64 r.2.1, .int .u32 0, .str [], .isl 5 [[.int .i64 a.kind, .int .i64 a.op, .int .u32 a.num, .str a.name, .isl 5 (a.kids.map Ex.row)],[.int .i64 b.kind, .int .i64 b.op, .int .u32 b.num, .str b.name, .isl 5 (b.kids.map Ex.row)]]]])) (fun KB0 hKB0=>?_) ?_
 ·have agB0:=aY.refl [6,7] F1
  have eB0_b4:M1 b4=M1 b4:=rfl;have eB0_b5:M1 b5=M1 b5:=rfl;have eB0_b6:M1 b6=M1 b6:=rfl;refine aN ?_;refine aB fun _ y=>aA rfl ?_;simp only[f12,RR,seval];apply y;clear y;refine aH _ rfl (fun hc4=>?_) (fun hc4=>?_)
  ·rw[if_pos (aD hc4)]at hr
   refine aA rfl ?_;simp only[f7,hb7,RR,seval];refine hKB0 _ _ ⟨(by repeat (first|exact agB0|refine aY.upd rfl ?_)),(by first|exact eB0_b4|(simp only[nb4_b7,aF,seval];first|done|exact eB0_b4)),(by first|exact eB0_b5|(simp only[nb5_b7,aF,seval];first|done|exact eB0_b5)),(by first|exact eB0_b6|(simp only[nb6_b7,aF,seval];first|done|exact eB0_b6)), ?_⟩;subst hr
   first|exact aS _ _ _|(simp only[f6,f7,f12,hb4,hb5,hb6,hb7,nb5_b4,nb4_b5,nb6_b4,nb4_b6,nb6_b5,nb5_b6,nb7_b4,nb4_b7,nb7_b5,nb5_b7,nb7_b6,nb6_b7,aF,RR,seval];done)|(simp only[f6,f7,f12,hb4,hb5,hb6,hb7,nb5_b4,nb4_b5,nb6_b4,nb4_b6,nb6_b5,nb5_b6,nb7_b4,nb4_b7,nb7_b5,nb5_b7,nb7_b6,nb6_b7,aF,RR,seval];rfl)
  rw[if_neg (aE hc4)]at hr;refine aB fun _ y=>aA rfl ?_;simp only[f12,RR,seval];apply y;clear y;refine aH _ rfl (fun hc6=>?_) (fun hc6=>?_)
  ·rw[if_pos (aD hc6)]at hr
   refine aA rfl ?_;simp only[f7,hb7,RR,seval];refine hKB0 _ _ ⟨(by repeat (first|exact agB0|refine aY.upd rfl ?_)),(by first|exact eB0_b4|(simp only[nb4_b7,aF,seval];first|done|exact eB0_b4)),(by first|exact eB0_b5|(simp only[nb5_b7,aF,seval];first|done|exact eB0_b5)),(by first|exact eB0_b6|(simp only[nb6_b7,aF,seval];first|done|exact eB0_b6)), ?_⟩;subst hr
   first|exact aS _ _ _|(simp only[f6,f7,f12,hb4,hb5,hb6,hb7,nb5_b4,nb4_b5,nb6_b4,nb4_b6,nb6_b5,nb5_b6,nb7_b4,nb4_b7,nb7_b5,nb5_b7,nb7_b6,nb6_b7,aF,RR,seval];done)|(simp only[f6,f7,f12,hb4,hb5,hb6,hb7,nb5_b4,nb4_b5,nb6_b4,nb4_b6,nb6_b5,nb5_b6,nb7_b4,nb4_b7,nb7_b5,nb5_b7,nb7_b6,nb6_b7,aF,RR,seval];rfl)
  rw[if_neg (aE hc6)]at hr;refine aB fun _ y=>aA rfl ?_;simp only[f12,RR,seval];apply y;clear y;refine aH _ rfl (fun hc8=>?_) (fun hc8=>?_)
  ·rw[if_pos (aD hc8)]at hr
   refine aA rfl ?_;simp only[f7,hb7,RR,seval];refine hKB0 _ _ ⟨(by repeat (first|exact agB0|refine aY.upd rfl ?_)),(by first|exact eB0_b4|(simp only[nb4_b7,aF,seval];first|done|exact eB0_b4)),(by first|exact eB0_b5|(simp only[nb5_b7,aF,seval];first|done|exact eB0_b5)),(by first|exact eB0_b6|(simp only[nb6_b7,aF,seval];first|done|exact eB0_b6)), ?_⟩;subst hr
   first|exact aS _ _ _|(simp only[f6,f7,f12,hb4,hb5,hb6,hb7,nb5_b4,nb4_b5,nb6_b4,nb4_b6,nb6_b5,nb5_b6,nb7_b4,nb4_b7,nb7_b5,nb5_b7,nb7_b6,nb6_b7,aF,RR,seval];done)|(simp only[f6,f7,f12,hb4,hb5,hb6,hb7,nb5_b4,nb4_b5,nb6_b4,nb4_b6,nb6_b5,nb5_b6,nb7_b4,nb4_b7,nb7_b5,nb5_b7,nb7_b6,nb6_b7,aF,RR,seval];rfl)
  rw[if_neg (aE hc8)]at hr;refine aB fun _ y=>aA rfl ?_;simp only[f12,RR,seval];apply y;clear y;refine aH _ rfl (fun hc10=>?_) (fun hc10=>?_)
  ·rw[if_pos (aD hc10)]at hr
   refine aA rfl ?_;simp only[f7,hb7,RR,seval];refine hKB0 _ _ ⟨(by repeat (first|exact agB0|refine aY.upd rfl ?_)),(by first|exact eB0_b4|(simp only[nb4_b7,aF,seval];first|done|exact eB0_b4)),(by first|exact eB0_b5|(simp only[nb5_b7,aF,seval];first|done|exact eB0_b5)),(by first|exact eB0_b6|(simp only[nb6_b7,aF,seval];first|done|exact eB0_b6)), ?_⟩;subst hr
   first|exact aS _ _ _|(simp only[f6,f7,f12,hb4,hb5,hb6,hb7,nb5_b4,nb4_b5,nb6_b4,nb4_b6,nb6_b5,nb5_b6,nb7_b4,nb4_b7,nb7_b5,nb5_b7,nb7_b6,nb6_b7,aF,RR,seval];done)|(simp only[f6,f7,f12,hb4,hb5,hb6,hb7,nb5_b4,nb4_b5,nb6_b4,nb4_b6,nb6_b5,nb5_b6,nb7_b4,nb4_b7,nb7_b5,nb5_b7,nb7_b6,nb6_b7,aF,RR,seval];rfl)
  rw[if_neg (aE hc10)]at hr;refine aB fun _ y=>aA rfl ?_;simp only[f12,RR,seval];apply y;clear y;refine aH _ rfl (fun hc12=>?_) (fun hc12=>?_)
  ·rw[if_pos (aD hc12)]at hr
   refine aA rfl ?_;simp only[f7,hb7,RR,seval];refine hKB0 _ _ ⟨(by repeat (first|exact agB0|refine aY.upd rfl ?_)),(by first|exact eB0_b4|(simp only[nb4_b7,aF,seval];first|done|exact eB0_b4)),(by first|exact eB0_b5|(simp only[nb5_b7,aF,seval];first|done|exact eB0_b5)),(by first|exact eB0_b6|(simp only[nb6_b7,aF,seval];first|done|exact eB0_b6)), ?_⟩;subst hr
   first|exact aS _ _ _|(simp only[f6,f7,f12,hb4,hb5,hb6,hb7,nb5_b4,nb4_b5,nb6_b4,nb4_b6,nb6_b5,nb5_b6,nb7_b4,nb4_b7,nb7_b5,nb5_b7,nb7_b6,nb6_b7,aF,RR,seval];done)|(simp only[f6,f7,f12,hb4,hb5,hb6,hb7,nb5_b4,nb4_b5,nb6_b4,nb4_b6,nb6_b5,nb5_b6,nb7_b4,nb4_b7,nb7_b5,nb5_b7,nb7_b6,nb6_b7,aF,RR,seval];rfl)
  rw[if_neg (aE hc12)]at hr;refine aB fun _ y=>aA rfl ?_;simp only[f12,RR,seval];apply y;clear y;refine aH _ rfl (fun hc14=>?_) (fun hc14=>?_)
  ·rw[if_pos (aD hc14)]at hr
   refine aA rfl ?_;simp only[f7,hb7,RR,seval];refine hKB0 _ _ ⟨(by repeat (first|exact agB0|refine aY.upd rfl ?_)),(by first|exact eB0_b4|(simp only[nb4_b7,aF,seval];first|done|exact eB0_b4)),(by first|exact eB0_b5|(simp only[nb5_b7,aF,seval];first|done|exact eB0_b5)),(by first|exact eB0_b6|(simp only[nb6_b7,aF,seval];first|done|exact eB0_b6)), ?_⟩;subst hr
   first|exact aS _ _ _|(simp only[f6,f7,f12,hb4,hb5,hb6,hb7,nb5_b4,nb4_b5,nb6_b4,nb4_b6,nb6_b5,nb5_b6,nb7_b4,nb4_b7,nb7_b5,nb5_b7,nb7_b6,nb6_b7,aF,RR,seval];done)|(simp only[f6,f7,f12,hb4,hb5,hb6,hb7,nb5_b4,nb4_b5,nb6_b4,nb4_b6,nb6_b5,nb5_b6,nb7_b4,nb4_b7,nb7_b5,nb5_b7,nb7_b6,nb6_b7,aF,RR,seval];rfl)
  rw[if_neg (aE hc14)]at hr;refine aB fun _ y=>aA rfl ?_;simp only[f12,RR,seval];apply y;clear y;refine aH _ rfl (fun hc16=>?_) (fun hc16=>?_)
  ·rw[if_pos (aD hc16)]at hr
   refine aA rfl ?_;simp only[f7,hb7,RR,seval];refine hKB0 _ _ ⟨(by repeat (first|exact agB0|refine aY.upd rfl ?_)),(by first|exact eB0_b4|(simp only[nb4_b7,aF,seval];first|done|exact eB0_b4)),(by first|exact eB0_b5|(simp only[nb5_b7,aF,seval];first|done|exact eB0_b5)),(by first|exact eB0_b6|(simp only[nb6_b7,aF,seval];first|done|exact eB0_b6)), ?_⟩;subst hr
   first|exact aS _ _ _|(simp only[f6,f7,f12,hb4,hb5,hb6,hb7,nb5_b4,nb4_b5,nb6_b4,nb4_b6,nb6_b5,nb5_b6,nb7_b4,nb4_b7,nb7_b5,nb5_b7,nb7_b6,nb6_b7,aF,RR,seval];done)|(simp only[f6,f7,f12,hb4,hb5,hb6,hb7,nb5_b4,nb4_b5,nb6_b4,nb4_b6,nb6_b5,nb5_b6,nb7_b4,nb4_b7,nb7_b5,nb5_b7,nb7_b6,nb6_b7,aF,RR,seval];rfl)
  rw[if_neg (aE hc16)]at hr;refine aB fun _ y=>aA rfl ?_;simp only[f12,RR,seval];apply y;clear y;refine aH _ rfl (fun hc18=>?_) (fun hc18=>?_)
  ·rw[if_pos (aD hc18)]at hr
   refine aA rfl ?_;simp only[f7,hb7,RR,seval];refine hKB0 _ _ ⟨(by repeat (first|exact agB0|refine aY.upd rfl ?_)),(by first|exact eB0_b4|(simp only[nb4_b7,aF,seval];first|done|exact eB0_b4)),(by first|exact eB0_b5|(simp only[nb5_b7,aF,seval];first|done|exact eB0_b5)),(by first|exact eB0_b6|(simp only[nb6_b7,aF,seval];first|done|exact eB0_b6)), ?_⟩;subst hr
   first|exact aS _ _ _|(simp only[f6,f7,f12,hb4,hb5,hb6,hb7,nb5_b4,nb4_b5,nb6_b4,nb4_b6,nb6_b5,nb5_b6,nb7_b4,nb4_b7,nb7_b5,nb5_b7,nb7_b6,nb6_b7,aF,RR,seval];done)|(simp only[f6,f7,f12,hb4,hb5,hb6,hb7,nb5_b4,nb4_b5,nb6_b4,nb4_b6,nb6_b5,nb5_b6,nb7_b4,nb4_b7,nb7_b5,nb5_b7,nb7_b6,nb6_b7,aF,RR,seval];rfl)
  rw[if_neg (aE hc18)]at hr;refine aB fun _ y=>aA rfl ?_;simp only[f12,RR,seval];apply y;clear y;refine aH _ rfl (fun hc20=>?_) (fun hc20=>?_)
  ·rw[if_pos (aD hc20)]at hr
   refine aA rfl ?_;simp only[f7,hb7,RR,seval];refine hKB0 _ _ ⟨(by repeat (first|exact agB0|refine aY.upd rfl ?_)),(by first|exact eB0_b4|(simp only[nb4_b7,aF,seval];first|done|exact eB0_b4)),(by first|exact eB0_b5|(simp only[nb5_b7,aF,seval];first|done|exact eB0_b5)),(by first|exact eB0_b6|(simp only[nb6_b7,aF,seval];first|done|exact eB0_b6)), ?_⟩;subst hr
   first|exact aS _ _ _|(simp only[f6,f7,f12,hb4,hb5,hb6,hb7,nb5_b4,nb4_b5,nb6_b4,nb4_b6,nb6_b5,nb5_b6,nb7_b4,nb4_b7,nb7_b5,nb5_b7,nb7_b6,nb6_b7,aF,RR,seval];done)|(simp only[f6,f7,f12,hb4,hb5,hb6,hb7,nb5_b4,nb4_b5,nb6_b4,nb4_b6,nb6_b5,nb5_b6,nb7_b4,nb4_b7,nb7_b5,nb5_b7,nb7_b6,nb6_b7,aF,RR,seval];rfl)
  rw[if_neg (aE hc20)]at hr;refine aB fun _ y=>aA rfl ?_;simp only[f12,RR,seval];apply y;clear y;refine aH _ rfl (fun hc22=>?_) (fun hc22=>?_)
  ·rw[if_pos (aD hc22)]at hr
   refine aA rfl ?_;simp only[f7,hb7,RR,seval];refine hKB0 _ _ ⟨(by repeat (first|exact agB0|refine aY.upd rfl ?_)),(by first|exact eB0_b4|(simp only[nb4_b7,aF,seval];first|done|exact eB0_b4)),(by first|exact eB0_b5|(simp only[nb5_b7,aF,seval];first|done|exact eB0_b5)),(by first|exact eB0_b6|(simp only[nb6_b7,aF,seval];first|done|exact eB0_b6)), ?_⟩;subst hr
   first|exact aS _ _ _|(simp only[f6,f7,f12,hb4,hb5,hb6,hb7,nb5_b4,nb4_b5,nb6_b4,nb4_b6,nb6_b5,nb5_b6,nb7_b4,nb4_b7,nb7_b5,nb5_b7,nb7_b6,nb6_b7,aF,RR,seval];done)|(simp only[f6,f7,f12,hb4,hb5,hb6,hb7,nb5_b4,nb4_b5,nb6_b4,nb4_b6,nb6_b5,nb5_b6,nb7_b4,nb4_b7,nb7_b5,nb5_b7,nb7_b6,nb6_b7,aF,RR,seval];rfl)
  rw[if_neg (aE hc22)]at hr;refine aB fun _ y=>aA rfl ?_;simp only[f12,RR,seval];apply y;clear y;refine aH _ rfl (fun hc24=>?_) (fun hc24=>?_)
  ·rw[if_pos (aD hc24)]at hr
   refine aA rfl ?_;simp only[f7,hb7,RR,seval];refine hKB0 _ _ ⟨(by repeat (first|exact agB0|refine aY.upd rfl ?_)),(by first|exact eB0_b4|(simp only[nb4_b7,aF,seval];first|done|exact eB0_b4)),(by first|exact eB0_b5|(simp only[nb5_b7,aF,seval];first|done|exact eB0_b5)),(by first|exact eB0_b6|(simp only[nb6_b7,aF,seval];first|done|exact eB0_b6)), ?_⟩;subst hr
   first|exact aS _ _ _|(simp only[f6,f7,f12,hb4,hb5,hb6,hb7,nb5_b4,nb4_b5,nb6_b4,nb4_b6,nb6_b5,nb5_b6,nb7_b4,nb4_b7,nb7_b5,nb5_b7,nb7_b6,nb6_b7,aF,RR,seval];done)|(simp only[f6,f7,f12,hb4,hb5,hb6,hb7,nb5_b4,nb4_b5,nb6_b4,nb4_b6,nb6_b5,nb5_b6,nb7_b4,nb4_b7,nb7_b5,nb5_b7,nb7_b6,nb6_b7,aF,RR,seval];rfl)
  rw[if_neg (aE hc24)]at hr;refine aB fun _ y=>aA rfl ?_;simp only[f12,RR,seval];apply y;clear y;refine aH _ rfl (fun hc26=>?_) (fun hc26=>?_)
  ·rw[if_pos (aD hc26)]at hr
   refine aA rfl ?_;simp only[f7,hb7,RR,seval];refine hKB0 _ _ ⟨(by repeat (first|exact agB0|refine aY.upd rfl ?_)),(by first|exact eB0_b4|(simp only[nb4_b7,aF,seval];first|done|exact eB0_b4)),(by first|exact eB0_b5|(simp only[nb5_b7,aF,seval];first|done|exact eB0_b5)),(by first|exact eB0_b6|(simp only[nb6_b7,aF,seval];first|done|exact eB0_b6)), ?_⟩;subst hr
   first|exact aS _ _ _|(simp only[f6,f7,f12,hb4,hb5,hb6,hb7,nb5_b4,nb4_b5,nb6_b4,nb4_b6,nb6_b5,nb5_b6,nb7_b4,nb4_b7,nb7_b5,nb5_b7,nb7_b6,nb6_b7,aF,RR,seval];done)|(simp only[f6,f7,f12,hb4,hb5,hb6,hb7,nb5_b4,nb4_b5,nb6_b4,nb4_b6,nb6_b5,nb5_b6,nb7_b4,nb4_b7,nb7_b5,nb5_b7,nb7_b6,nb6_b7,aF,RR,seval];rfl)
  rw[if_neg (aE hc26)]at hr;refine aB fun _ y=>aA rfl ?_;simp only[f12,RR,seval];apply y;clear y;refine aH _ rfl (fun hc28=>?_) (fun hc28=>?_)
  ·rw[if_pos (aD hc28)]at hr
   refine aA rfl ?_;simp only[f7,hb7,RR,seval];refine hKB0 _ _ ⟨(by repeat (first|exact agB0|refine aY.upd rfl ?_)),(by first|exact eB0_b4|(simp only[nb4_b7,aF,seval];first|done|exact eB0_b4)),(by first|exact eB0_b5|(simp only[nb5_b7,aF,seval];first|done|exact eB0_b5)),(by first|exact eB0_b6|(simp only[nb6_b7,aF,seval];first|done|exact eB0_b6)), ?_⟩;subst hr
   first|exact aS _ _ _|(simp only[f6,f7,f12,hb4,hb5,hb6,hb7,nb5_b4,nb4_b5,nb6_b4,nb4_b6,nb6_b5,nb5_b6,nb7_b4,nb4_b7,nb7_b5,nb5_b7,nb7_b6,nb6_b7,aF,RR,seval];done)|(simp only[f6,f7,f12,hb4,hb5,hb6,hb7,nb5_b4,nb4_b5,nb6_b4,nb4_b6,nb6_b5,nb5_b6,nb7_b4,nb4_b7,nb7_b5,nb5_b7,nb7_b6,nb6_b7,aF,RR,seval];rfl)
  rw[if_neg (aE hc28)]at hr
  have h37:s=[37]:=by
   by_cases c:s=[37]
   ·exact c
   rw[if_neg c]at hr;subst hr;exact absurd rfl hs
  rw[if_pos h37]at hr;refine aA rfl ?_;simp only[f7,hb7,RR,seval];refine hKB0 _ _ ⟨(by repeat (first|exact agB0|refine aY.upd rfl ?_)),(by first|exact eB0_b4|(simp only[nb4_b7,aF,seval];first|done|exact eB0_b4)),(by first|exact eB0_b5|(simp only[nb5_b7,aF,seval];first|done|exact eB0_b5)),(by first|exact eB0_b6|(simp only[nb6_b7,aF,seval];first|done|exact eB0_b6)), ?_⟩;subst hr
  first|exact aS _ _ _|(simp only[f6,f7,f12,hb4,hb5,hb6,hb7,nb5_b4,nb4_b5,nb6_b4,nb4_b6,nb6_b5,nb5_b6,nb7_b4,nb4_b7,nb7_b5,nb5_b7,nb7_b6,nb6_b7,aF,RR,seval];done)|(simp only[f6,f7,f12,hb4,hb5,hb6,hb7,nb5_b4,nb4_b5,nb6_b4,nb4_b6,nb6_b5,nb5_b6,nb7_b4,nb4_b7,nb7_b5,nb5_b7,nb7_b6,nb6_b7,aF,RR,seval];rfl)
 rintro F2 M2 ⟨agx,gb4,gb5,gb6,hb7⟩;have f6:=(agx 6 rfl).trans f6;have f7:=(agx 7 rfl).trans f7;have hb4:=gb4.trans hb4;have hb5:=gb5.trans hb5;have hb6:=gb6.trans hb6;clear agx;clear gb4;clear gb5;clear gb6;simp only[RR,seval];refine aB fun _ y=>aA rfl ?_;simp only[f6,f7,hb6,hb7,RR,seval];apply y;clear y;refine aM ?_;simp only[aZ,aL,bJ,f6,RR,seval];refine bB.pure ?_;rfl
end Go.Proofs.YtaecpjgmcffliaaGreatDoor
