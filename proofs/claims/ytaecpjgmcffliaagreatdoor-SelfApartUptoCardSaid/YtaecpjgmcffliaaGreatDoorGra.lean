/- Chapter 15: the grammar of expressions, in plain Lean. Chapter 15: the grammar of statements, functions and programs, in plain Lean. Chapter 15: what is read is a tree; tokens' sizes. In plain Lean. Chapter 15: strengths, one after the other, in plain Lean. -/
import Derived.Test.YtaecpjgmcffliaaGreatDoorLx
import Derived.Test.YtaecpjgmcffliaaGreatDoorSy1
import Derived.Test.YtaecpjgmcffliaaGreatDoorSy2
set_option linter.unusedSimpArgs false
set_option linter.unusedVariables false
set_option maxRecDepth 10000
namespace Go.Proofs.YtaecpjgmcffliaaGreatDoor
open Go.Al
inductive PR (α:Type) where
 |ok (a:α) (n:Nat)
 |bad (n:Nat)
def PR.bind {α β:Type}:PR α→(α→Nat→PR β)→PR β
 | .ok a n,f=>f a n
 | .bad n,_=> .bad n
@[simp] theorem PR.bind_ok {α β : Type} (a : α) (n : Nat) (f : α → Nat → PR β) : (PR.ok a n).bind f = f a n := rfl
@[simp] theorem PR.bind_bad {α β : Type} (n : Nat) (f : α → Nat → PR β) : (PR.bad n : PR α).bind f = .bad n := rfl
theorem PR.bind_eq_ok {α β:Type} {x:PR α} {f:α→Nat→PR β} {b:β} {m:Nat} (h:x.bind f= .ok b m): ∃a n,x= .ok a n∧f a n= .ok b m:=by
 cases x with
 |ok a n=>exact⟨a,n,rfl,h⟩
 |bad n=>cases h
section
variable (T : List dC)
def cB (n:Nat):cN:=match T[n]? with
 |some t=>if t.kind=3∨t.kind=4 then t.text else []
 |none=>[]
def iF (n:Nat):Int:=match T[n]? with
 |some t=>t.kind
 |none=>0
def cR (s:cN) (n:Nat):PR Unit:=if cB T n=s then .ok () (n+1)else .bad n
def eX (k:Int) (n:Nat):PR dC:=match T[n]? with
 |some t=>if t.kind=k then .ok t (n+1)else .bad n
 |none=> .bad n
def zJ:List (cN×Int×Int×Nat)→cN→Int×Int×Nat
 |[],_=>(0,0,0)
 |(w,r)::l,s=>if s=w then r else zJ l s
def Z5:List (cN×Int×Int×Nat):=[([124,124],9,0,1),([38,38],8,0,2),([61,61],6,15,3),([60],6,14,4),([124],6,10,5),([94],6,11,5),([38],6,9,6),([60,60],6,12,7),([62,62],6,13,7),
 ([43],6,4,8),([45],6,5,8),([42],6,6,9),([47],6,7,9),([37],6,8,9)]
def uE (s:cN):Int×Int×Nat:=zJ Z5 s
def xE (s:cN) (a b:Ex):Ex:= .mk (uE s).1 (uE s).2.1 0 [] [a,b]
mutual
def kX:Nat→Nat→PR Ex
 |0,n=> .bad n
 |f+1,n=>
  if iF T n=2 then(eX T 2 n).bind fun t m=> .ok (.mk 1 0 t.num [] []) m
  else if cB T n=[103,101,116]then(cR T [40] (n+1)).bind fun _ m=>(cR T [41] m).bind fun _ m=> .ok (.mk 5 0 0 [] []) m
  else if cB T n=[40]then(jL f 1 (n+1)).bind fun e m=>(cR T [41] m).bind fun _ m=> .ok e m
  else if cB T n=[33]then(kX f (n+1)).bind fun e m=> .ok (.mk 7 0 0 [] [e]) m
  else(eX T 1 n).bind fun t m=>
   if cB T m=[91]then(jL f 1 (m+1)).bind fun e m=>(cR T [93] m).bind fun _ m=> .ok (.mk 3 0 0 t.text [e]) m
   else if cB T m=[40]then(lN f (m+1)).bind fun l m=> .ok (.mk 4 0 0 t.text l) m
   else .ok (.mk 2 0 0 t.text []) m
def jL:Nat→Nat→Nat→PR Ex
 |0,_,n=> .bad n
 |f+1,lo,n=>(kX f n).bind fun e m=>lL f lo e m
def lL:Nat→Nat→Ex→Nat→PR Ex
 |0,_,_,n=> .bad n
 |f+1,lo,e,n=>if(uE (cB T n)).2.2<lo then .ok e n
  else(jL f ((uE (cB T n)).2.2+1) (n+1)).bind fun e2 m=>lL f lo (xE (cB T n) e e2) m
def lN:Nat→Nat→PR (List Ex)
 |0,n=> .bad n
 |f+1,n=>if cB T n=[41]then .ok [] (n+1)else(jL f 1 n).bind fun e m=>lO f [e] m
def lO:Nat→List Ex→Nat→PR (List Ex)
 |0,_,n=> .bad n
 |f+1,acc,n=>if cB T n=[44]then(jL f 1 (n+1)).bind fun e m=>lO f (acc++[e]) m
  else(cR T [41] n).bind fun _ m=> .ok acc m
end
end
variable {T : List dC}
theorem iK {n:Nat} {s:cN} (h:cB T n=s) (hs:s≠[]):n<T.length:=by
 by_cases hn:n<T.length
 ·exact hn
 rw[cB,List.getElem?_eq_none (by omega)]at h;exact absurd h.symm hs
theorem O5 {n:Nat} {k:Int} (h:iF T n=k) (hk:k≠0):n<T.length:=by
 by_cases hn:n<T.length
 ·exact hn
 rw[iF,List.getElem?_eq_none (by omega)]at h;exact absurd h.symm hk
theorem X4:uE []=(0,0,0):=by decide
theorem Zh (k:Nat) (s:cN): ∀l:List (cN×Int×Int×Nat),(∀x∈l,x.2.2.2≤k)→(zJ l s).2.2≤k
 |[],_=>Nat.zero_le _
 |x::l,h=>by
  obtain⟨w,r⟩:=x;rw[zJ];split
  ·exact h _ (List.mem_cons_self)
  exact Zh k s l fun y hy=>h y (List.mem_cons_of_mem _ hy)
theorem AM (s:cN):(uE s).2.2≤9:=Zh 9 s Z5 (by decide)
theorem Pn {n lo:Nat} (h: ¬(uE (cB T n)).2.2<lo) (hl:1≤lo):n<T.length:=by
 refine iK rfl fun e=>h ?_;rw[e,X4];exact hl
theorem cS {s:cN} {n m:Nat} {u:Unit} (h:cR T s n= .ok u m) (hs:s≠[]):m=n+1∧n<T.length∧cB T n=s:=by
 unfold cR at h;split at h
 ·rename_i e;cases h;exact⟨rfl,iK e hs,e⟩
 cases h
theorem fA {k:Int} {n m:Nat} {t:dC} (h:eX T k n= .ok t m):m=n+1∧n<T.length∧T[n]?=some t∧t.kind=k:=by
 unfold eX at h;split at h
 ·rename_i t' e
  split at h
  ·rename_i hk;cases h;exact⟨rfl,(bV.1 e).1,e,hk⟩
  cases h
 cases h
theorem far (f:Nat):(∀n e m,kX T f n= .ok e m→n<m∧m≤T.length)∧(∀lo n e m,jL T f lo n= .ok e m→n<m∧m≤T.length)∧
  (∀lo e0 n e m,n≤T.length→lL T f lo e0 n= .ok e m→n≤m∧m≤T.length)∧(∀n l m,lN T f n= .ok l m→n<m∧m≤T.length)∧
  (∀acc n l m,lO T f acc n= .ok l m→n<m∧m≤T.length):=by
 induction f with
 |zero=>exact⟨fun _ _ _ h=>by simp [kX]at h,fun _ _ _ _ h=>by simp [jL]at h,fun _ _ _ _ _ _ h=>by simp [lL]at h,fun _ _ _ h=>by simp [lN]at h,fun _ _ _ _ h=>by simp [lO]at h⟩
 |succ f ih=>
  obtain⟨i1,i2,i3,i4,i5⟩:=ih;refine⟨fun n e m h=>?_,fun lo n e m h=>?_,fun lo e0 n e m hn h=>?_,fun n l m h=>?_,fun acc n l m h=>?_⟩
  ·rw[kX]at h
   split at h
   ·obtain⟨t,a,h1,h2⟩:=PR.bind_eq_ok h
    have:=fA h1;cases h2;omega
   split at h
   ·obtain⟨_,a,h1,h2⟩:=PR.bind_eq_ok h
    obtain⟨_,c,h3,h4⟩:=PR.bind_eq_ok h2;have:=cS h1 (by decide);have:=cS h3 (by decide);cases h4;omega
   split at h
   ·obtain⟨x,a,h1,h2⟩:=PR.bind_eq_ok h
    obtain⟨_,c,h3,h4⟩:=PR.bind_eq_ok h2;have:=i2 _ _ _ _ h1;have:=cS h3 (by decide);cases h4;omega
   split at h
   ·obtain⟨x,a,h1,h2⟩:=PR.bind_eq_ok h
    have:=i1 _ _ _ h1;cases h2;omega
   obtain⟨t,a,h1,h2⟩:=PR.bind_eq_ok h;have:=fA h1;split at h2
   ·obtain⟨x,c,h3,h4⟩:=PR.bind_eq_ok h2
    obtain⟨_,d,h5,h6⟩:=PR.bind_eq_ok h4;have:=i2 _ _ _ _ h3;have:=cS h5 (by decide);cases h6;omega
   split at h2
   ·obtain⟨x,c,h3,h4⟩:=PR.bind_eq_ok h2
    have:=i4 _ _ _ h3;cases h4;omega
   cases h2;omega
  ·rw[jL]at h
   obtain⟨x,a,h1,h2⟩:=PR.bind_eq_ok h;have:=i1 _ _ _ h1;have:=i3 _ _ _ _ _ this.2 h2;omega
  ·rw[lL]at h
   split at h
   ·cases h;omega
   obtain⟨x,a,h1,h2⟩:=PR.bind_eq_ok h;have:=i2 _ _ _ _ h1;have:=i3 _ _ _ _ _ this.2 h2;omega
  ·rw[lN]at h
   split at h
   ·rename_i hp
    have:=iK hp (by decide);cases h;omega
   obtain⟨x,a,h1,h2⟩:=PR.bind_eq_ok h;have:=i2 _ _ _ _ h1;have:=i5 _ _ _ _ h2;omega
  rw[lO]at h;split at h
  ·obtain⟨x,a,h1,h2⟩:=PR.bind_eq_ok h
   have:=i2 _ _ _ _ h1;have:=i5 _ _ _ _ h2;omega
  obtain⟨_,a,h1,h2⟩:=PR.bind_eq_ok h;have:=cS h1 (by decide);cases h2;omega
theorem PR.bind_congr {α β:Type} {x y:PR α} {f g:α→Nat→PR β} (h:x=y) (hf: ∀a n,x= .ok a n→f a n=g a n):x.bind f=y.bind g:=by
 subst h
 cases x with
 |ok a n=>exact hf a n rfl
 |bad n=>rfl
theorem Tc (f:Nat):(∀n,4 *(T.length-n)+1≤f→kX T f n=kX T (f+1) n)∧(∀lo n,1≤lo→4 *(T.length-n)+2≤f→jL T f lo n=jL T (f+1) lo n)∧
  (∀lo e0 n,1≤lo→n≤T.length→4 *(T.length-n)+1≤f→lL T f lo e0 n=lL T (f+1) lo e0 n)∧(∀n,4 *(T.length-n)+3≤f→lN T f n=lN T (f+1) n)∧
  (∀acc n,4 *(T.length-n)+1≤f→lO T f acc n=lO T (f+1) acc n):=by
 induction f with
 |zero=>exact⟨fun _ h=>by omega,fun _ _ _ h=>by omega,fun _ _ _ _ _ h=>by omega,fun _ h=>by omega,fun _ _ h=>by omega⟩
 |succ f ih=>
  obtain⟨i1,i2,i3,i4,i5⟩:=ih;obtain⟨g1,g2,g3,g4,g5⟩:=far (T:=T) f;refine⟨fun n hn=>?_,fun lo n hl hn=>?_,fun lo e0 n hl hnl hn=>?_,fun n hn=>?_,fun acc n hn=>?_⟩
  ·rw[kX,kX]
   split
   ·rfl
   split
   ·rfl
   split
   ·rename_i hp
    have:=iK hp (by decide);rw[i2 1 (n+1) (by omega) (by omega)]
   split
   ·rename_i hp
    have:=iK hp (by decide);rw[i1 (n+1) (by omega)]
   refine PR.bind_congr rfl fun t a h1=>?_;have:=fA h1;split
   ·rename_i hp
    have:=iK hp (by decide);rw[i2 1 (a+1) (by omega) (by omega)]
   split
   ·rename_i hp
    have:=iK hp (by decide);rw[i4 (a+1) (by omega)]
   rfl
  ·rw[jL,jL]
   refine PR.bind_congr (i1 n (by omega)) fun x a h1=>?_;have:=g1 _ _ _ h1;exact i3 lo x a hl (by omega) (by omega)
  ·rw[lL,lL]
   split
   ·rfl
   rename_i hs;have:=Pn hs hl;refine PR.bind_congr (i2 _ (n+1) (by omega) (by omega)) fun x a h1=>?_;have:=g2 _ _ _ _ h1;exact i3 lo _ a hl (by omega) (by omega)
  ·rw[lN,lN]
   split
   ·rfl
   refine PR.bind_congr (i2 1 n (by omega) (by omega)) fun x a h1=>?_;have:=g2 _ _ _ _ h1;exact i5 _ a (by omega)
  rw[lO,lO];split
  ·rename_i hp
   have:=iK hp (by decide);refine PR.bind_congr (i2 1 (n+1) (by omega) (by omega)) fun x a h1=>?_;have:=g2 _ _ _ _ h1;exact i5 _ a (by omega)
  rfl
variable (T)
def mX (n:Nat):PR Ex:=kX T (4 *T.length+5) n
def fE (lo n:Nat):PR Ex:=jL T (4 *T.length+5) lo n
def oW (lo:Nat) (e:Ex) (n:Nat):PR Ex:=lL T (4 *T.length+5) lo e n
def oC (n:Nat):PR (List Ex):=lN T (4 *T.length+5) n
def Jp (acc:List Ex) (n:Nat):PR (List Ex):=lO T (4 *T.length+5) acc n
theorem I0 (n:Nat):mX T n=
  if iF T n=2 then(eX T 2 n).bind fun t m=> .ok (.mk 1 0 t.num [] []) m
  else if cB T n=[103,101,116]then(cR T [40] (n+1)).bind fun _ m=>(cR T [41] m).bind fun _ m=> .ok (.mk 5 0 0 [] []) m
  else if cB T n=[40]then(fE T 1 (n+1)).bind fun e m=>(cR T [41] m).bind fun _ m=> .ok e m
  else if cB T n=[33]then(mX T (n+1)).bind fun e m=> .ok (.mk 7 0 0 [] [e]) m
  else(eX T 1 n).bind fun t m=>
   if cB T m=[91]then(fE T 1 (m+1)).bind fun e m=>(cR T [93] m).bind fun _ m=> .ok (.mk 3 0 0 t.text [e]) m
   else if cB T m=[40]then(oC T (m+1)).bind fun l m=> .ok (.mk 4 0 0 t.text l) m
   else .ok (.mk 2 0 0 t.text []) m:=by
 obtain⟨i1,i2,i3,i4,i5⟩:=Tc (T:=T) (4 *T.length+4);rw[mX,kX];have e1: ∀n,kX T (4 *T.length+4) n=mX T n:=fun n=>i1 n (by omega);have e2: ∀n,jL T (4 *T.length+4) 1 n=fE T 1 n:=fun n=>i2 1 n (bF 1) (by omega);have e4: ∀n,lN T (4 *T.length+4) n=oC T n:=fun n=>i4 n (by omega);simp only[e1,e2,e4]
theorem sI (lo n:Nat) (hl:1≤lo):fE T lo n=(mX T n).bind fun e m=>oW T lo e m:=by
 obtain⟨i1,i2,i3,i4,i5⟩:=Tc (T:=T) (4 *T.length+4);obtain⟨g1,_⟩:=far (T:=T) (4 *T.length+4);rw[fE,jL];refine PR.bind_congr (i1 n (by omega)) fun x a h=>?_;exact i3 lo x a hl (g1 _ _ _ h).2 (by omega)
theorem mM (lo:Nat) (e:Ex) (n:Nat) (hl:1≤lo):oW T lo e n=if(uE (cB T n)).2.2<lo then .ok e n
  else(fE T ((uE (cB T n)).2.2+1) (n+1)).bind fun e2 m=>oW T lo (xE (cB T n) e e2) m:=by
 obtain⟨i1,i2,i3,i4,i5⟩:=Tc (T:=T) (4 *T.length+4);obtain⟨_,g2,_⟩:=far (T:=T) (4 *T.length+4);rw[oW,lL];split
 ·rfl
 refine PR.bind_congr (i2 _ _ (by omega) (by omega)) fun x a h=>?_;exact i3 lo _ a hl (g2 _ _ _ _ h).2 (by omega)
theorem I2 (n:Nat):oC T n=if cB T n=[41]then .ok [] (n+1)else(fE T 1 n).bind fun e m=>Jp T [e] m:=by
 obtain⟨i1,i2,i3,i4,i5⟩:=Tc (T:=T) (4 *T.length+4);rw[oC,lN];split
 ·rfl
 exact PR.bind_congr (i2 _ _ (by omega) (by omega)) fun x a h=>i5 _ a (by omega)
theorem I3 (acc:List Ex) (n:Nat):Jp T acc n=if cB T n=[44]then(fE T 1 (n+1)).bind fun e m=>Jp T (acc++[e]) m
  else(cR T [41] n).bind fun _ m=> .ok acc m:=by
 obtain⟨i1,i2,i3,i4,i5⟩:=Tc (T:=T) (4 *T.length+4);rw[Jp,lO];split
 ·exact PR.bind_congr (i2 _ _ (by omega) (by omega)) fun x a h=>i5 _ a (by omega)
 rfl
variable {T}
theorem Ci {n m:Nat} {e:Ex} (h:mX T n= .ok e m):n<m∧m≤T.length:=(far _).1 _ _ _ h
theorem jQ {lo n m:Nat} {e:Ex} (h:fE T lo n= .ok e m):n<m∧m≤T.length:=(far _).2.1 _ _ _ _ h
theorem Va {n m:Nat} {e:List Ex} (h:oC T n= .ok e m):n<m∧m≤T.length:=(far _).2.2.2.1 _ _ _ h
end Go.Proofs.YtaecpjgmcffliaaGreatDoor
namespace Go.Proofs.YtaecpjgmcffliaaGreatDoor
open Go.Al
def Rh:cN:=[118,97,114]
def Kz:cN:=[97,114,114,97,121]
def rL:cN:=[102,117,110,99]
def lV:cN:=[119,111,114,100]
def BR:cN:=[105,102]
def Vk:cN:=[101,108,115,101]
def Ky:cN:=[119,104,105,108,101]
def Dh:cN:=[114,101,116,117,114,110]
def X1:cN:=[112,117,116]
section
variable (T : List dC)
def jO (n:Nat):PR (List Ex):=(cR T [40] n).bind fun _ m=>(fE T 1 m).bind fun e m=>(cR T [41] m).bind fun _ m=> .ok [e] m
def oV (n:Nat):PR Sm:=(eX T 1 n).bind fun t m=>
 (if cB T m=[61]then(fE T 1 (m+1)).bind fun e m=> .ok (.mk 1 t.text [e] [] []) m
  else if cB T m=[91]then(fE T 1 (m+1)).bind fun a m=>(cR T [93] m).bind fun _ m=>(cR T [61] m).bind fun _ m=>(fE T 1 m).bind fun e m=> .ok (.mk 2 t.text [a,e] [] []) m
  else if cB T m=[40]then(oC T (m+1)).bind fun l m=> .ok (.mk 6 t.text l [] []) m
  else .bad m:PR Sm).bind fun s m=>(cR T [59] m).bind fun _ m=> .ok s m
mutual
def mG:Nat→Nat→PR Sm
 |0,n=> .bad n
 |f+1,n=>
  if cB T n=X1 then(jO T (n+1)).bind fun l m=>(cR T [59] m).bind fun _ m=> .ok (.mk 3 [] l [] []) m
  else if cB T n=Dh then(if cB T (n+1)=[59]then .ok (.mk 7 [] [] [] []) (n+2)else(fE T 1 (n+1)).bind fun e m=>(cR T [59] m).bind fun _ m=> .ok (.mk 7 [] [e] [] []) m)
  else if cB T n=BR then(jO T (n+1)).bind fun l m=>(kF f m).bind fun t m=>if cB T m=Vk then(kF f (m+1)).bind fun u m=> .ok (.mk 4 [] l t u) m else .ok (.mk 4 [] l t []) m
  else if cB T n=Ky then(jO T (n+1)).bind fun l m=>(kF f m).bind fun t m=> .ok (.mk 5 [] l t []) m
  else oV T n
def kF:Nat→Nat→PR (List Sm)
 |0,n=> .bad n
 |f+1,n=>(cR T [123] n).bind fun _ m=>jD f [] m
def jD:Nat→List Sm→Nat→PR (List Sm)
 |0,_,n=> .bad n
 |f+1,acc,n=>if cB T n=[125]then .ok acc (n+1)else(mG f n).bind fun s m=>jD f (acc++[s]) m
end
def Ku:Nat→List cN→Nat→PR (List cN)
 |0,_,n=> .bad n
 |f+1,acc,n=>if cB T n=[44]then(eX T 1 (n+1)).bind fun t m=>Ku f (acc++[t.text]) m else .ok acc n
end
variable {T : List dC}
theorem mI {n m:Nat} {l:List Ex} (h:jO T n= .ok l m):n<m∧m≤T.length:=by
 unfold jO at h;obtain⟨_,a,h1,h2⟩:=PR.bind_eq_ok h;obtain⟨e,c,h3,h4⟩:=PR.bind_eq_ok h2;obtain⟨_,d,h5,h6⟩:=PR.bind_eq_ok h4;have:=cS h1 (by decide);have:=jQ h3;have:=cS h5 (by decide);cases h6;omega
theorem Ta {n m:Nat} {s:Sm} (h:oV T n= .ok s m):n<m∧m≤T.length:=by
 unfold oV at h;obtain⟨t,a,h1,h2⟩:=PR.bind_eq_ok h;obtain⟨x,c,h3,h4⟩:=PR.bind_eq_ok h2;obtain⟨_,d,h5,h6⟩:=PR.bind_eq_ok h4;have:=fA h1;have:=cS h5 (by decide)
 have :a<c:=by
  split at h3
  ·obtain⟨y,b,g1,g2⟩:=PR.bind_eq_ok h3
   have:=jQ g1;cases g2;omega
  split at h3
  ·obtain⟨y,b,g1,g2⟩:=PR.bind_eq_ok h3
   obtain⟨_,b2,g3,g4⟩:=PR.bind_eq_ok g2;obtain⟨_,b3,g5,g6⟩:=PR.bind_eq_ok g4;obtain⟨z,b4,g7,g8⟩:=PR.bind_eq_ok g6;have:=jQ g1;have:=cS g3 (by decide);have:=cS g5 (by decide);have:=jQ g7;cases g8;omega
  split at h3
  ·obtain⟨y,b,g1,g2⟩:=PR.bind_eq_ok h3
   have:=Va g1;cases g2;omega
  cases h3
 cases h6;omega
theorem Q1 (f:Nat):(∀n e m,mG T f n= .ok e m→n<m∧m≤T.length)∧(∀n l m,kF T f n= .ok l m→n<m∧m≤T.length)∧(∀acc n l m,jD T f acc n= .ok l m→n<m∧m≤T.length):=by
 induction f with
 |zero=>exact⟨fun _ _ _ h=>by simp [mG]at h,fun _ _ _ h=>by simp [kF]at h,fun _ _ _ _ h=>by simp [jD]at h⟩
 |succ f ih=>
  obtain⟨i1,i2,i3⟩:=ih;refine⟨fun n e m h=>?_,fun n l m h=>?_,fun acc n l m h=>?_⟩
  ·rw[mG]at h
   split at h
   ·obtain⟨l,a,h1,h2⟩:=PR.bind_eq_ok h
    obtain⟨_,c,h3,h4⟩:=PR.bind_eq_ok h2;have:=mI h1;have:=cS h3 (by decide);cases h4;omega
   split at h
   ·split at h
    ·rename_i hp
     have:=iK hp (by decide);cases h;omega
    obtain⟨l,a,h1,h2⟩:=PR.bind_eq_ok h;obtain⟨_,c,h3,h4⟩:=PR.bind_eq_ok h2;have:=jQ h1;have:=cS h3 (by decide);cases h4;omega
   split at h
   ·obtain⟨l,a,h1,h2⟩:=PR.bind_eq_ok h
    obtain⟨t,c,h3,h4⟩:=PR.bind_eq_ok h2;have:=mI h1;have:=i2 _ _ _ h3;split at h4
    ·obtain⟨u,d,h5,h6⟩:=PR.bind_eq_ok h4
     have:=i2 _ _ _ h5;cases h6;omega
    cases h4;omega
   split at h
   ·obtain⟨l,a,h1,h2⟩:=PR.bind_eq_ok h
    obtain⟨t,c,h3,h4⟩:=PR.bind_eq_ok h2;have:=mI h1;have:=i2 _ _ _ h3;cases h4;omega
   exact Ta h
  ·rw[kF]at h
   obtain⟨_,a,h1,h2⟩:=PR.bind_eq_ok h;have:=cS h1 (by decide);have:=i3 _ _ _ _ h2;omega
  rw[jD]at h;split at h
  ·rename_i hp
   have:=iK hp (by decide);cases h;omega
  obtain⟨s,a,h1,h2⟩:=PR.bind_eq_ok h;have:=i1 _ _ _ h1;have:=i3 _ _ _ _ h2;omega
theorem A7 (f:Nat):(∀n,4 *(T.length-n)+1≤f→mG T f n=mG T (f+1) n)∧(∀n,4 *(T.length-n)+1≤f→kF T f n=kF T (f+1) n)∧(∀acc n,4 *(T.length-n)+2≤f→jD T f acc n=jD T (f+1) acc n):=by
 induction f with
 |zero=>exact⟨fun _ h=>by omega,fun _ h=>by omega,fun _ _ h=>by omega⟩
 |succ f ih=>
  obtain⟨i1,i2,i3⟩:=ih;obtain⟨g1,g2,g3⟩:=Q1 (T:=T) f;refine⟨fun n hn=>?_,fun n hn=>?_,fun acc n hn=>?_⟩
  ·rw[mG,mG]
   split
   ·rfl
   split
   ·rfl
   split
   ·refine PR.bind_congr rfl fun l a h1=>?_
    have:=mI h1;refine PR.bind_congr (i2 a (by omega)) fun t c h2=>?_;have:=g2 _ _ _ h2;split
    ·rename_i hp
     have:=iK hp (by decide);rw[i2 (c+1) (by omega)]
    rfl
   split
   ·refine PR.bind_congr rfl fun l a h1=>?_
    have:=mI h1;rw[i2 a (by omega)]
   rfl
  ·rw[kF,kF]
   refine PR.bind_congr rfl fun l a h1=>?_;have:=cS h1 (by decide);exact i3 _ a (by omega)
  rw[jD,jD];split
  ·rfl
  refine PR.bind_congr (i1 n (by omega)) fun s a h1=>?_;have:=g1 _ _ _ h1;exact i3 _ a (by omega)
theorem CG (f:Nat): ∀acc n l m,n≤T.length→Ku T f acc n= .ok l m→n≤m∧m≤T.length:=by
 induction f with
 |zero=>intro _ _ _ _ _ h;simp [Ku]at h
 |succ f ih=>
  intro acc n l m hn h;rw[Ku]at h;split at h
  ·obtain⟨s,a,h1,h2⟩:=PR.bind_eq_ok h
   have:=fA h1;have:=ih _ _ _ _ (by omega) h2;omega
  cases h;omega
theorem AU (f:Nat): ∀acc n,n≤T.length→(T.length-n)+1≤f→Ku T f acc n=Ku T (f+1) acc n:=by
 induction f with
 |zero=>intro _ _ _ h;omega
 |succ f ih=>
  intro acc n hn h;rw[Ku,Ku];split
  ·refine PR.bind_congr rfl fun t a h1=>?_
   have:=fA h1;exact ih _ _ (by omega) (by omega)
  rfl
variable (T)
def wB (n:Nat):PR Sm:=mG T (4 *T.length+5) n
def uR (n:Nat):PR (List Sm):=kF T (4 *T.length+5) n
def lP (acc:List Sm) (n:Nat):PR (List Sm):=jD T (4 *T.length+5) acc n
def Z7 (acc:List cN) (n:Nat):PR (List cN):=Ku T (T.length+2) acc n
def jF (n:Nat):PR (List cN):=(eX T 1 n).bind fun t m=>Z7 T [t.text] m
theorem Yz (n:Nat):wB T n=
  if cB T n=X1 then(jO T (n+1)).bind fun l m=>(cR T [59] m).bind fun _ m=> .ok (.mk 3 [] l [] []) m
  else if cB T n=Dh then(if cB T (n+1)=[59]then .ok (.mk 7 [] [] [] []) (n+2)else(fE T 1 (n+1)).bind fun e m=>(cR T [59] m).bind fun _ m=> .ok (.mk 7 [] [e] [] []) m)
  else if cB T n=BR then(jO T (n+1)).bind fun l m=>(uR T m).bind fun t m=>if cB T m=Vk then(uR T (m+1)).bind fun u m=> .ok (.mk 4 [] l t u) m else .ok (.mk 4 [] l t []) m
  else if cB T n=Ky then(jO T (n+1)).bind fun l m=>(uR T m).bind fun t m=> .ok (.mk 5 [] l t []) m
  else oV T n:=by
 obtain⟨_,i2,_⟩:=A7 (T:=T) (4 *T.length+4);have e2: ∀n,kF T (4 *T.length+4) n=uR T n:=fun n=>i2 n (by omega);rw[wB,mG];simp only[e2]
theorem H6 (n:Nat):uR T n=(cR T [123] n).bind fun _ m=>lP T [] m:=by
 obtain⟨_,_,i3⟩:=A7 (T:=T) (4 *T.length+4);rw[uR,kF];exact PR.bind_congr rfl fun x a h=>i3 _ a (by omega)
theorem Ag (acc:List Sm) (n:Nat):lP T acc n=if cB T n=[125]then .ok acc (n+1)else(wB T n).bind fun s m=>lP T (acc++[s]) m:=by
 obtain⟨i1,_,i3⟩:=A7 (T:=T) (4 *T.length+4);rw[lP,jD];split
 ·rfl
 exact PR.bind_congr (i1 n (by omega)) fun x a h=>i3 _ a (by omega)
theorem X9 (acc:List cN) (n:Nat):Z7 T acc n=if cB T n=[44]then(eX T 1 (n+1)).bind fun t m=>Z7 T (acc++[t.text]) m else .ok acc n:=by
 rw[Z7,Ku];split
 ·refine PR.bind_congr rfl fun x a h=>?_
  have:=fA h;exact AU _ _ a (by omega) (by omega)
 rfl
variable {T}
theorem pS {n m:Nat} {e:Sm} (h:wB T n= .ok e m):n<m∧m≤T.length:=(Q1 _).1 _ _ _ h
theorem Ll {n m:Nat} {e acc:List Sm} (h:lP T acc n= .ok e m):n<m∧m≤T.length:=(Q1 _).2.2 _ _ _ _ h
theorem N9 {n m:Nat} {e acc:List cN} (hn:n≤T.length) (h:Z7 T acc n= .ok e m):n≤m∧m≤T.length:=CG _ _ _ _ _ hn h
theorem kO {n m:Nat} {e:List cN} (h:jF T n= .ok e m):n<m∧m≤T.length:=by
 obtain⟨t,a,h1,h2⟩:=PR.bind_eq_ok h;have:=fA h1;have:=N9 (by omega) h2;omega
def tJ (T:List dC):Nat→List cN→Nat→PR (List cN)
 |0,_,n=> .bad n
 |f+1,acc,n=>if cB T n=Rh then(jF T (n+1)).bind fun l m=>(cR T [59] m).bind fun _ m=>tJ T f (acc++l) m else .ok acc n
theorem CH (f:Nat): ∀acc n l m,n≤T.length→tJ T f acc n= .ok l m→n≤m∧m≤T.length:=by
 induction f with
 |zero=>intro _ _ _ _ _ h;simp [tJ]at h
 |succ f ih=>
  intro acc n l m hn h;rw[tJ]at h;split at h
  ·obtain⟨s,a,h1,h2⟩:=PR.bind_eq_ok h
   obtain⟨_,c,h3,h4⟩:=PR.bind_eq_ok h2;have:=kO h1;have:=cS h3 (by decide);have:=ih _ _ _ _ (by omega) h4;omega
  cases h;omega
theorem AW (f:Nat): ∀acc n,n≤T.length→(T.length-n)+1≤f→tJ T f acc n=tJ T (f+1) acc n:=by
 induction f with
 |zero=>intro _ _ _ h;omega
 |succ f ih=>
  intro acc n hn h;rw[tJ,tJ];split
  ·refine PR.bind_congr rfl fun t a h1=>PR.bind_congr rfl fun _ c h2=>?_
   have:=kO h1;have:=cS h2 (by decide);exact ih _ _ (by omega) (by omega)
  rfl
def Ic (T:List dC) (acc:List cN) (n:Nat):PR (List cN):=tJ T (T.length+2) acc n
theorem O1 (T:List dC) (acc:List cN) (n:Nat):Ic T acc n=if cB T n=Rh then(jF T (n+1)).bind fun l m=>(cR T [59] m).bind fun _ m=>Ic T (acc++l) m else .ok acc n:=by
 rw[Ic,tJ];split
 ·refine PR.bind_congr rfl fun x a h=>PR.bind_congr rfl fun _ c h2=>?_
  have:=cS h2 (by decide);exact AW _ _ c (by omega) (by omega)
 rfl
theorem A8 {n m:Nat} {e acc:List cN} (hn:n≤T.length) (h:Ic T acc n= .ok e m):n≤m∧m≤T.length:=CH _ _ _ _ _ hn h
def zO (T:List dC) (n:Nat):PR Fu:=(cR T rL n).bind fun _ m=>(eX T 1 m).bind fun t m=>(cR T [40] m).bind fun _ m=>
 (if iF T m=1 then jF T m else .ok [] m:PR (List cN)).bind fun ps m=>(cR T [41] m).bind fun _ m=>
  (cR T [123] (if cB T m=lV then m+1 else m)).bind fun _ c=>(Ic T [] c).bind fun ls c=>(lP T [] c).bind fun b c=> .ok ⟨t.text,ps,ls,decide (cB T m=lV),b⟩ c
theorem sD {n m:Nat} {g:Fu} (h:zO T n= .ok g m):n<m∧m≤T.length:=by
 unfold zO at h;obtain⟨_,a1,h1,h⟩:=PR.bind_eq_ok h;obtain⟨t,a2,h2,h⟩:=PR.bind_eq_ok h;obtain⟨_,a3,h3,h⟩:=PR.bind_eq_ok h;obtain⟨ps,a4,h4,h⟩:=PR.bind_eq_ok h;obtain⟨_,a5,h5,h⟩:=PR.bind_eq_ok h;obtain⟨_,a6,h6,h⟩:=PR.bind_eq_ok h;obtain⟨ls,a7,h7,h⟩:=PR.bind_eq_ok h;obtain⟨b,a8,h8,h⟩:=PR.bind_eq_ok h;have:=cS h1 (by decide);have:=fA h2;have:=cS h3 (by decide)
 have :a3≤a4:=by
  split at h4
  ·have:=kO h4;omega
  cases h4;omega
 have:=cS h5 (by decide);have h6':=cS h6 (by decide);have :a5<a6:=by have:=h6'.1;split at this<;>omega
 have:=A8 (by omega) h7;have:=Ll h8;cases h;omega
def pC (T:List dC):Nat→List cN→List Ar→Nat→PR (List cN×List Ar)
 |0,_,_,n=> .bad n
 |f+1,vs,as',n=>
  if cB T n=Rh then(jF T (n+1)).bind fun l m=>(cR T [59] m).bind fun _ m=>pC T f (vs++l) as' m
  else if cB T n=Kz then(eX T 1 (n+1)).bind fun t m=>(cR T [91] m).bind fun _ m=>(eX T 2 m).bind fun u m=>(cR T [93] m).bind fun _ m=>(cR T [59] m).bind fun _ m=>pC T f vs (as'++[⟨t.text,u.num⟩]) m
  else .ok (vs,as') n
theorem W1 (f:Nat): ∀vs as' n,n≤T.length→(T.length-n)+1≤f→pC T f vs as' n=pC T (f+1) vs as' n:=by
 induction f with
 |zero=>intro _ _ _ _ h;omega
 |succ f ih=>
  intro vs as' n hn h;rw[pC,pC];split
  ·refine PR.bind_congr rfl fun t a h1=>PR.bind_congr rfl fun _ c h2=>?_
   have:=kO h1;have:=cS h2 (by decide);exact ih _ _ _ (by omega) (by omega)
  split
  ·refine PR.bind_congr rfl fun t a1 h1=>PR.bind_congr rfl fun _ a2 h2=>PR.bind_congr rfl fun u a3 h3=>PR.bind_congr rfl fun _ a4 h4=>PR.bind_congr rfl fun _ a5 h5=>?_
   have:=fA h1;have:=cS h2 (by decide);have:=fA h3;have:=cS h4 (by decide);have:=cS h5 (by decide);exact ih _ _ _ (by omega) (by omega)
  rfl
def uL (T:List dC) (vs:List cN) (as':List Ar) (n:Nat):PR (List cN×List Ar):=pC T (T.length+2) vs as' n
theorem D6 (T:List dC) (vs:List cN) (as':List Ar) (n:Nat):uL T vs as' n=
  if cB T n=Rh then(jF T (n+1)).bind fun l m=>(cR T [59] m).bind fun _ m=>uL T (vs++l) as' m
  else if cB T n=Kz then(eX T 1 (n+1)).bind fun t m=>(cR T [91] m).bind fun _ m=>(eX T 2 m).bind fun u m=>(cR T [93] m).bind fun _ m=>(cR T [59] m).bind fun _ m=>uL T vs (as'++[⟨t.text,u.num⟩]) m
  else .ok (vs,as') n:=by
 rw[uL,pC];split
 ·refine PR.bind_congr rfl fun x a h=>PR.bind_congr rfl fun _ c h2=>?_
  have:=cS h2 (by decide);exact W1 _ _ _ c (by omega) (by omega)
 split
 ·refine PR.bind_congr rfl fun t a1 h1=>PR.bind_congr rfl fun _ a2 h2=>PR.bind_congr rfl fun u a3 h3=>PR.bind_congr rfl fun _ a4 h4=>PR.bind_congr rfl fun _ a5 h5=>?_
  have:=cS h5 (by decide);exact W1 _ _ _ a5 (by omega) (by omega)
 rfl
def qK (T:List dC):Nat→List Fu→Nat→PR (List Fu)
 |0,_,n=> .bad n
 |f+1,acc,n=>if n<T.length then(zO T n).bind fun g m=>qK T f (acc++[g]) m else .ok acc n
theorem AY (f:Nat): ∀acc n,n≤T.length→(T.length-n)+1≤f→qK T f acc n=qK T (f+1) acc n:=by
 induction f with
 |zero=>intro _ _ _ h;omega
 |succ f ih=>
  intro acc n hn h;rw[qK,qK];split
  ·refine PR.bind_congr rfl fun t a h1=>?_
   have:=sD h1;exact ih _ _ (by omega) (by omega)
  rfl
def xJ (T:List dC) (acc:List Fu) (n:Nat):PR (List Fu):=qK T (T.length+2) acc n
theorem xI (T:List dC) (acc:List Fu) (n:Nat):xJ T acc n=if n<T.length then(zO T n).bind fun g m=>xJ T (acc++[g]) m else .ok acc n:=by
 rw[xJ,qK];split
 ·refine PR.bind_congr rfl fun x a h=>?_
  have:=sD h;exact AY _ _ a (by omega) (by omega)
 rfl
def uH (T:List dC) (n:Nat):PR Pg:=(uL T [] [] n).bind fun va m=>(zO T m).bind fun g m=>(xJ T [g] m).bind fun fs m=> .ok ⟨va.1,va.2,fs⟩ m
def W7 (T:List dC) (e n:Nat):Int:=match T[n]? with
 |some t=>t.pos
 |none=>e
def X5:Pg:=⟨[],[],[]⟩
def Rr (s:cN):Pg×Int×Int:=match tK s with
 | .error (i,e)=>(X5,i,e)
 | .ok T=>match uH T 0 with
   | .bad m=>(X5,W7 T s.length m,3)
   | .ok p m=>if m<T.length then(X5,W7 T s.length m,3)else if dH p=true then(p,0,0)else(X5,0,2)
end Go.Proofs.YtaecpjgmcffliaaGreatDoor
namespace Go.Proofs.YtaecpjgmcffliaaGreatDoor
open Go.Al
structure Sz (T:List dC):Prop where
 len:T.length≤1000000
 tok: ∀t∈T,iN t.num∧t.text.length≤1000000
variable {T : List dC}
theorem wS (k o:Int) (hk:eK k) (ho:eK o) {n:Int} (hn:iN n) {s:cN} (hs:cQ s) {l:List Ex} (hl:rT l):(Ex.mk k o n s l).ok:= .mk _ _ _ _ _ hk ho hn hs hl.fit hl.all
theorem u0:iN 0:=by simp [iN]
theorem Vh {α:Type}:cQ ([]:List α):=by simp [cQ]
theorem Zz:rT []:=⟨Vh,fun e h=>by cases h⟩
theorem Sv {e:Ex} (h:e.ok):rT [e]:=⟨by simp [cQ],fun x hx=>by rw[List.mem_singleton]at hx;rw[hx];exact h⟩
theorem AP {e f:Ex} (h:e.ok) (h':f.ok):rT [e,f]:=⟨by simp [cQ],fun x hx=>by
 rcases List.mem_cons.1 hx with rfl|hx
 ·exact h
 rw[List.mem_singleton]at hx;rw[hx];exact h'⟩
theorem Zy {l:List Ex} {e:Ex} (hl:l.length≤1000000) (h:rT l) (he:e.ok):rT (l++[e]):=⟨by unfold cQ;simp only[aI,List.length_singleton];omega,fun x hx=>by
 rcases List.mem_append.1 hx with hx|hx
 ·exact h.all x hx
 rw[List.mem_singleton]at hx;rw[hx];exact he⟩
theorem lH (hT:Sz T) {k:Int} {n m:Nat} {t:dC} (h:eX T k n= .ok t m):iN t.num∧cQ t.text∧t.text.length≤1000000:=by
 have:=fA h;have h2:=hT.tok t (fG this.2.2.1);exact⟨h2.1,by unfold cQ;omega,h2.2⟩
theorem O7 (s:cN) {a b:Ex} (ha:a.ok) (hb:b.ok):(xE s a b).ok:=by
 have key: ∀(l:List (cN×Int×Int×Nat)),(∀x∈l,eK x.2.1∧eK x.2.2.1)→eK (zJ l s).1∧eK (zJ l s).2.1:=by
  intro l
  induction l with
  |nil=>intro _;simp [zJ,eK]
  |cons x l ih=>
   intro h;obtain⟨w,r⟩:=x;rw[zJ];split
   ·exact h _ (List.mem_cons_self)
   exact ih fun y hy=>h y (List.mem_cons_of_mem _ hy)
 have h:=key Z5 (by simp [Z5,eK]);exact wS _ _ h.1 h.2 u0 Vh (AP ha hb)
theorem CP (hT:Sz T) (f:Nat):(∀n e m,kX T f n= .ok e m→e.ok)∧(∀lo n e m,jL T f lo n= .ok e m→e.ok)∧
  (∀lo e0 n e m,e0.ok→lL T f lo e0 n= .ok e m→e.ok)∧(∀n l m,lN T f n= .ok l m→rT l)∧
  (∀acc n l m,rT acc→acc.length≤n→lO T f acc n= .ok l m→rT l):=by
 induction f with
 |zero=>exact⟨fun _ _ _ h=>by simp [kX]at h,fun _ _ _ _ h=>by simp [jL]at h,fun _ _ _ _ _ _ h=>by simp [lL]at h,fun _ _ _ h=>by simp [lN]at h,fun _ _ _ _ _ _ h=>by simp [lO]at h⟩
 |succ f ih=>
  obtain⟨i1,i2,i3,i4,i5⟩:=ih;obtain⟨g1,g2,g3,g4,g5⟩:=far (T:=T) f;have hlen:=hT.len;refine⟨fun n e m h=>?_,fun lo n e m h=>?_,fun lo e0 n e m h0 h=>?_,fun n l m h=>?_,fun acc n l m ha hal h=>?_⟩
  ·rw[kX]at h
   split at h
   ·obtain⟨t,a,h1,h2⟩:=PR.bind_eq_ok h
    cases h2;exact wS _ _ (by simp [eK]) (by simp [eK]) (lH hT h1).1 Vh Zz
   split at h
   ·obtain⟨_,a,h1,h2⟩:=PR.bind_eq_ok h
    obtain⟨_,c,h3,h4⟩:=PR.bind_eq_ok h2;cases h4;exact wS _ _ (by simp [eK]) (by simp [eK]) u0 Vh Zz
   split at h
   ·obtain⟨x,a,h1,h2⟩:=PR.bind_eq_ok h
    obtain⟨_,c,h3,h4⟩:=PR.bind_eq_ok h2;cases h4;exact i2 _ _ _ _ h1
   split at h
   ·obtain⟨x,a,h1,h2⟩:=PR.bind_eq_ok h
    cases h2;exact wS _ _ (by simp [eK]) (by simp [eK]) u0 Vh (Sv (i1 _ _ _ h1))
   obtain⟨t,a,h1,h2⟩:=PR.bind_eq_ok h;have ht:=(lH hT h1).2.1;split at h2
   ·obtain⟨x,c,h3,h4⟩:=PR.bind_eq_ok h2
    obtain⟨_,d,h5,h6⟩:=PR.bind_eq_ok h4;cases h6;exact wS _ _ (by simp [eK]) (by simp [eK]) u0 ht (Sv (i2 _ _ _ _ h3))
   split at h2
   ·obtain⟨x,c,h3,h4⟩:=PR.bind_eq_ok h2
    cases h4;exact wS _ _ (by simp [eK]) (by simp [eK]) u0 ht (i4 _ _ _ h3)
   cases h2;exact wS _ _ (by simp [eK]) (by simp [eK]) u0 ht Zz
  ·rw[jL]at h
   obtain⟨x,a,h1,h2⟩:=PR.bind_eq_ok h;exact i3 _ _ _ _ _ (i1 _ _ _ h1) h2
  ·rw[lL]at h
   split at h
   ·cases h;exact h0
   obtain⟨x,a,h1,h2⟩:=PR.bind_eq_ok h;exact i3 _ _ _ _ _ (O7 _ h0 (i2 _ _ _ _ h1)) h2
  ·rw[lN]at h
   split at h
   ·cases h;exact Zz
   obtain⟨x,a,h1,h2⟩:=PR.bind_eq_ok h;have:=g2 _ _ _ _ h1;exact i5 _ _ _ _ (Sv (i2 _ _ _ _ h1)) (by simp;omega) h2
  rw[lO]at h;split at h
  ·obtain⟨x,a,h1,h2⟩:=PR.bind_eq_ok h
   have:=g2 _ _ _ _ h1;exact i5 _ _ _ _ (Zy (by omega) ha (i2 _ _ _ _ h1)) (by simp only[aI,List.length_singleton];omega) h2
  obtain⟨_,a,h1,h2⟩:=PR.bind_eq_ok h;cases h2;exact ha
theorem pE (hT:Sz T) {lo n m:Nat} {e:Ex} (h:fE T lo n= .ok e m):e.ok:=(CP hT _).2.1 _ _ _ _ h
theorem I1 (hT:Sz T) {n m:Nat} {l:List Ex} (h:oC T n= .ok l m):rT l:=(CP hT _).2.2.2.1 _ _ _ h
theorem rS (hT:Sz T) {n m:Nat} {l:List Ex} (h:jO T n= .ok l m):rT l:=by
 unfold jO at h;obtain⟨_,a,h1,h2⟩:=PR.bind_eq_ok h;obtain⟨e,c,h3,h4⟩:=PR.bind_eq_ok h2;obtain⟨_,d,h5,h6⟩:=PR.bind_eq_ok h4;cases h6;exact Sv (pE hT h3)
theorem qD:rI []:=⟨Vh,fun e h=>by cases h⟩
theorem Zx {l:List Sm} {e:Sm} (hl:l.length≤1000000) (h:rI l) (he:e.ok):rI (l++[e]):=⟨by unfold cQ;simp only[aI,List.length_singleton];omega,fun x hx=>by
 rcases List.mem_append.1 hx with hx|hx
 ·exact h.all x hx
 rw[List.mem_singleton]at hx;rw[hx];exact he⟩
theorem rP (k:Int) (hk:eK k) {s:cN} (hs:cQ s) {l:List Ex} (hl:rT l) {t u:List Sm} (ht:rI t) (hu:rI u):(Sm.mk k s l t u).ok:= .mk _ _ _ _ _ hk hs hl ht.fit ht.all hu.fit hu.all
theorem A4 (hT:Sz T) {n m:Nat} {s:Sm} (h:oV T n= .ok s m):s.ok:=by
 unfold oV at h;obtain⟨t,a,h1,h2⟩:=PR.bind_eq_ok h;obtain⟨x,c,h3,h4⟩:=PR.bind_eq_ok h2;obtain⟨_,d,h5,h6⟩:=PR.bind_eq_ok h4;have ht:=(lH hT h1).2.1;cases h6;split at h3
 ·obtain⟨y,b,g1,g2⟩:=PR.bind_eq_ok h3
  cases g2;exact rP _ (by simp [eK]) ht (Sv (pE hT g1)) qD qD
 split at h3
 ·obtain⟨y,b,g1,g2⟩:=PR.bind_eq_ok h3
  obtain⟨_,b2,g3,g4⟩:=PR.bind_eq_ok g2;obtain⟨_,b3,g5,g6⟩:=PR.bind_eq_ok g4;obtain⟨z,b4,g7,g8⟩:=PR.bind_eq_ok g6;cases g8;exact rP _ (by simp [eK]) ht (AP (pE hT g1) (pE hT g7)) qD qD
 split at h3
 ·obtain⟨y,b,g1,g2⟩:=PR.bind_eq_ok h3
  cases g2;exact rP _ (by simp [eK]) ht (I1 hT g1) qD qD
 cases h3
theorem BZ (hT:Sz T) (f:Nat):(∀n e m,mG T f n= .ok e m→e.ok)∧(∀n l m,kF T f n= .ok l m→rI l)∧(∀acc n l m,rI acc→acc.length≤n→jD T f acc n= .ok l m→rI l):=by
 induction f with
 |zero=>exact⟨fun _ _ _ h=>by simp [mG]at h,fun _ _ _ h=>by simp [kF]at h,fun _ _ _ _ _ _ h=>by simp [jD]at h⟩
 |succ f ih=>
  obtain⟨i1,i2,i3⟩:=ih;obtain⟨g1,g2,g3⟩:=Q1 (T:=T) f;have hlen:=hT.len;refine⟨fun n e m h=>?_,fun n l m h=>?_,fun acc n l m ha hal h=>?_⟩
  ·rw[mG]at h
   split at h
   ·obtain⟨l,a,h1,h2⟩:=PR.bind_eq_ok h
    obtain⟨_,c,h3,h4⟩:=PR.bind_eq_ok h2;cases h4;exact rP _ (by simp [eK]) Vh (rS hT h1) qD qD
   split at h
   ·split at h
    ·cases h;exact rP _ (by simp [eK]) Vh Zz qD qD
    obtain⟨l,a,h1,h2⟩:=PR.bind_eq_ok h;obtain⟨_,c,h3,h4⟩:=PR.bind_eq_ok h2;cases h4;exact rP _ (by simp [eK]) Vh (Sv (pE hT h1)) qD qD
   split at h
   ·obtain⟨l,a,h1,h2⟩:=PR.bind_eq_ok h
    obtain⟨t,c,h3,h4⟩:=PR.bind_eq_ok h2;split at h4
    ·obtain⟨u,d,h5,h6⟩:=PR.bind_eq_ok h4
     cases h6;exact rP _ (by simp [eK]) Vh (rS hT h1) (i2 _ _ _ h3) (i2 _ _ _ h5)
    cases h4;exact rP _ (by simp [eK]) Vh (rS hT h1) (i2 _ _ _ h3) qD
   split at h
   ·obtain⟨l,a,h1,h2⟩:=PR.bind_eq_ok h
    obtain⟨t,c,h3,h4⟩:=PR.bind_eq_ok h2;cases h4;exact rP _ (by simp [eK]) Vh (rS hT h1) (i2 _ _ _ h3) qD
   exact A4 hT h
  ·rw[kF]at h
   obtain⟨_,a,h1,h2⟩:=PR.bind_eq_ok h;exact i3 _ _ _ _ qD (Nat.zero_le _) h2
  rw[jD]at h;split at h
  ·cases h;exact ha
  obtain⟨s,a,h1,h2⟩:=PR.bind_eq_ok h;have:=g1 _ _ _ h1;exact i3 _ _ _ _ (Zx (by omega) ha (i1 _ _ _ h1)) (by simp only[aI,List.length_singleton];omega) h2
theorem Rq (hT:Sz T) {n m:Nat} {l:List Sm} (h:lP T [] n= .ok l m):rI l:=(BZ hT _).2.2 _ _ _ _ qD (Nat.zero_le _) h
def nB (l:List cN):Prop:= ∀s∈l,s.length≤1000000
theorem Ls {l:List cN} (hl:l.length≤2000000) (h:nB l):X8 l:=⟨by unfold cQ;omega,fun s hs=>by have:=h s hs;unfold cQ;omega⟩
theorem AQ (hT:Sz T) (f:Nat): ∀acc n l m,nB acc→acc.length≤n→n≤T.length→Ku T f acc n= .ok l m→nB l∧l.length≤m:=by
 induction f with
 |zero=>intro _ _ _ _ _ _ _ h;simp [Ku]at h
 |succ f ih=>
  intro acc n l m ha hal hn h;rw[Ku]at h;split at h
  ·obtain⟨t,a,h1,h2⟩:=PR.bind_eq_ok h
   have:=fA h1;have ht:=(lH hT h1).2.2;refine ih _ _ _ _ (fun s hs=>?_) (by simp only[aI,List.length_singleton];omega) (by omega) h2;rcases List.mem_append.1 hs with hs|hs
   ·exact ha s hs
   rw[List.mem_singleton]at hs;rw[hs];exact ht
  cases h;exact⟨ha,hal⟩
theorem tH (hT:Sz T) {n m:Nat} {l:List cN} (h:jF T n= .ok l m):nB l∧l.length+n≤m:=by
 obtain⟨t,a,h1,h2⟩:=PR.bind_eq_ok h;have:=fA h1;have ht:=(lH hT h1).2.2;have hs:=(AQ hT _ _ _ _ _ (fun s hs=>by rw[List.mem_singleton]at hs;rw[hs];exact ht) (by simp;omega) (by omega) h2).1
 have key: ∀(f:Nat) acc n l m,Ku T f acc n= .ok l m→l.length+n≤acc.length+m:=by
  intro f
  induction f with
  |zero=>intro _ _ _ _ h;simp [Ku]at h
  |succ f ih=>
   intro acc n l m h;rw[Ku]at h;split at h
   ·obtain⟨s,a,h1,h2⟩:=PR.bind_eq_ok h
    have:=fA h1;have:=ih _ _ _ _ h2;simp only[aI,aQ,List.length_nil]at this;omega
   cases h;omega
 have:=key _ _ _ _ _ h2;simp only[List.length_singleton]at this;exact⟨hs,by omega⟩
theorem Y0 (hT:Sz T) (f:Nat): ∀acc n l m,nB acc→acc.length≤n→tJ T f acc n= .ok l m→nB l∧(n≤T.length→l.length≤T.length):=by
 induction f with
 |zero=>intro _ _ _ _ _ _ h;simp [tJ]at h
 |succ f ih=>
  intro acc n l m ha hal h;rw[tJ]at h;split at h
  ·obtain⟨s,a,h1,h2⟩:=PR.bind_eq_ok h
   obtain⟨_,c,h3,h4⟩:=PR.bind_eq_ok h2;have hs:=tH hT h1;have:=cS h3 (by decide)
   have hi:=ih _ _ _ _ (fun x hx=>by
    rcases List.mem_append.1 hx with hx|hx
    ·exact ha x hx
    exact hs.1 x hx) (by simp only[aI];omega) h4
   exact⟨hi.1,fun _=>hi.2 (by omega)⟩
  cases h;exact⟨ha,fun hn=>by omega⟩
theorem Qi (hT:Sz T) {n m:Nat} {g:Fu} (h:zO T n= .ok g m):g.ok∧g.params.length≤1000000∧g.locs.length≤1000000:=by
 unfold zO at h;obtain⟨_,a1,h1,h⟩:=PR.bind_eq_ok h;obtain⟨t,a2,h2,h⟩:=PR.bind_eq_ok h;obtain⟨_,a3,h3,h⟩:=PR.bind_eq_ok h;obtain⟨ps,a4,h4,h⟩:=PR.bind_eq_ok h;obtain⟨_,a5,h5,h⟩:=PR.bind_eq_ok h;obtain⟨_,a6,h6,h⟩:=PR.bind_eq_ok h;obtain⟨ls,a7,h7,h⟩:=PR.bind_eq_ok h;obtain⟨b,a8,h8,h⟩:=PR.bind_eq_ok h;cases h;have hlen:=hT.len;have ht:=lH hT h2;have:=cS h3 (by decide)
 have hps:nB ps∧ps.length≤T.length:=by
  split at h4
  ·have hq:=tH hT h4
   have:=kO h4;exact⟨hq.1,by have:=hq.2;omega⟩
  cases h4;exact⟨(fun s h=>by cases h),Nat.zero_le _⟩
 have h6':=cS h6 (by decide);have hls:=Y0 hT _ _ _ _ _ (fun s h=>by cases h) (Nat.zero_le _) h7;have hll:=hls.2 (by omega);exact⟨⟨ht.2.1,Ls (l:=ps) (by omega) hps.1,Ls (l:=ls) (by omega) hls.1,Rq hT h8⟩,by simp only;omega,by simp only;omega⟩
def Ze (l:List Ar):Prop:= ∀a∈l,a.name.length≤1000000∧iN a.size
theorem P0 (hT:Sz T) (f:Nat): ∀vs as' n l m,nB vs→Ze as'→vs.length≤n→as'.length≤n→n≤T.length→pC T f vs as' n= .ok l m→nB l.1∧Ze l.2∧l.1.length≤T.length∧l.2.length≤T.length:=by
 induction f with
 |zero=>intro _ _ _ _ _ _ _ _ _ _ h;simp [pC]at h
 |succ f ih=>
  intro vs as' n l m hv ha hvl hal hn h;rw[pC]at h;split at h
  ·obtain⟨s,a,h1,h2⟩:=PR.bind_eq_ok h
   obtain⟨_,c,h3,h4⟩:=PR.bind_eq_ok h2;have hs:=tH hT h1;have:=cS h3 (by decide)
   exact ih _ _ _ _ _ (fun x hx=>by
    rcases List.mem_append.1 hx with hx|hx
    ·exact hv x hx
    exact hs.1 x hx) ha (by simp only[aI];omega) (by omega) (by omega) h4
  split at h
  ·obtain⟨t,a1,h1,h⟩:=PR.bind_eq_ok h
   obtain⟨_,a2,h2,h⟩:=PR.bind_eq_ok h;obtain⟨u,a3,h3,h⟩:=PR.bind_eq_ok h;obtain⟨_,a4,h4,h⟩:=PR.bind_eq_ok h;obtain⟨_,a5,h5,h⟩:=PR.bind_eq_ok h;have:=fA h1;have:=cS h2 (by decide);have:=fA h3;have:=cS h4 (by decide);have:=cS h5 (by decide);have s1:=lH hT h1;have s2:=lH hT h3
   exact ih _ _ _ _ _ hv (fun x hx=>by
    rcases List.mem_append.1 hx with hx|hx
    ·exact ha x hx
    rw[List.mem_singleton]at hx;rw[hx];exact⟨s1.2.2,s2.1⟩) (by omega) (by simp only[aI,List.length_singleton];omega) (by omega) h
  cases h;exact⟨hv,ha,by simp only;omega,by simp only;omega⟩
theorem P3 (hT:Sz T) (f:Nat): ∀acc n l m,(∀g∈acc,g.ok∧g.params.length≤1000000∧g.locs.length≤1000000)→acc.length≤n→n≤T.length→qK T f acc n= .ok l m→(∀g∈l,g.ok∧g.params.length≤1000000∧g.locs.length≤1000000)∧l.length≤T.length:=by
 induction f with
 |zero=>intro _ _ _ _ _ _ _ h;simp [qK]at h
 |succ f ih=>
  intro acc n l m ha hal hn h;rw[qK]at h;split at h
  ·obtain⟨s,a,h1,h2⟩:=PR.bind_eq_ok h
   have hs:=Qi hT h1;have:=sD h1
   exact ih _ _ _ _ (fun x hx=>by
    rcases List.mem_append.1 hx with hx|hx
    ·exact ha x hx
    rw[List.mem_singleton]at hx;rw[hx];exact hs) (by simp only[aI,List.length_singleton];omega) (by omega) h2
  cases h;exact⟨ha,by omega⟩
theorem Zl (hT:Sz T) {n m:Nat} {p:Pg} (hn:n≤T.length) (h:uH T n= .ok p m):p.ok∧(∀g∈p.funs,g.params.length≤1000000∧g.locs.length≤1000000):=by
 unfold uH at h;obtain⟨va,a1,h1,h⟩:=PR.bind_eq_ok h;obtain⟨g,a2,h2,h⟩:=PR.bind_eq_ok h;obtain⟨fs,a3,h3,h⟩:=PR.bind_eq_ok h;cases h;have hlen:=hT.len;have hh:=P0 hT _ _ _ _ _ _ (fun s h=>by cases h) (fun s h=>by cases h) (Nat.zero_le _) (Nat.zero_le _) hn h1;have hf:=Qi hT h2;have hff:=sD h2;have hfs:=P3 hT _ _ _ _ _ (fun x hx=>by rw[List.mem_singleton]at hx;rw[hx];exact hf) (by simp;omega) (by omega) h3;refine⟨⟨Ls (by show va.1.length≤_;omega) hh.1,by show va.2.length≤_;omega,fun a ha=>?_,by show fs.length≤_;omega,fun x hx=>(hfs.1 x hx).1⟩,fun x hx=>(hfs.1 x hx).2⟩;have:=hh.2.1 a ha;have h2:=this.2;unfold iN at h2;exact⟨by unfold cQ;omega,by unfold eK;omega⟩
theorem Ue (s:List UInt8):iN (eA s).1.num:=by
 cases s with
 |nil=>simp [eA,eV,iN]
 |cons c r=>
  simp only[eA];split
  ·simp only[rA]
   split
   ·rename_i m hm
    have:=rB _ 0 m (by omega) (by omega) (lT _ _) hm;exact⟨by simp only;omega,by simp only;omega⟩
   simp [eV,iN]
  split
  ·rw[nO]
   split
   ·rename_i c1 _ _ _
    split
    ·have:=UInt8.toNat_lt c1
     exact⟨by simp only;omega,by simp only;omega⟩
    simp [eV,iN]
   simp [eV,iN]
  split
  ·simp only[Av]
   split
   ·simp [eV,iN]
   split<;>simp [iN]
  split<;>simp [eV,iN]
theorem O4 (N:Nat): ∀(s:cN) (k i:Nat) (l:List dC),s.length≤N→iP s k i= .ok l→l.length≤s.length∧ ∀t∈l,iN t.num∧t.text.length≤N:=by
 intro s
 induction s with
 |nil=>intro k i l _ h;cases k<;>simp [iP]at h<;>subst h<;>simp
 |cons c r ih=>
  intro k i l hN h;have hr:r.length≤N:=by simp only[aQ]at hN;omega
  cases k with
  |succ k=>
   rw[iP]at h;have:=ih k (i+1) l hr h;exact⟨by simp only[aQ];omega,this.2⟩
  |zero=>
   rw[iP]at h;split at h
   ·have:=ih 0 (i+1) l hr h
    exact⟨by simp only[aQ];omega,this.2⟩
   split at h
   ·have:=ih _ (i+1) l hr h
    exact⟨by simp only[aQ];omega,this.2⟩
   split at h
   ·cases hl:iP r ((eA (c::r)).1.text.length - 1) (i+1)with
    |error y=>rw[hl]at h;cases h
    |ok l'=>
     rw[hl]at h;cases h;have:=ih _ (i+1) l' hr hl;refine⟨by simp only[aQ];omega,fun t ht=>?_⟩;rcases List.mem_cons.1 ht with rfl|ht
     ·have h1:=Ue (c::r)
      have h2:=Bi (c::r);exact⟨h1,by simp only;omega⟩
     exact this.2 t ht
   cases h
theorem O3 {s:cN} {T:List dC} (h:tK s= .ok T):Sz T:=by
 unfold tK at h;split at h
 ·cases h
 have:=O4 20000 s 0 0 T (by omega) h;exact⟨by omega,fun t ht=>⟨(this.2 t ht).1,by have:=(this.2 t ht).2;omega⟩⟩
end Go.Proofs.YtaecpjgmcffliaaGreatDoor
namespace Go.Proofs.YtaecpjgmcffliaaGreatDoor
open Go.Al
variable {T : List dC}
theorem gF {α β γ:Type} (x:PR α) (f:α→Nat→PR β) (g:β→Nat→PR γ):(x.bind f).bind g=x.bind fun a m=>(f a m).bind g:=by cases x<;>rfl
theorem O0 (lo:Nat) (hl:1≤lo) (k:Nat): ∀n e,n≤T.length→T.length-n≤k→oW T lo e n=(oW T (lo+1) e n).bind fun e' m=>oW T lo e' m:=by
 induction k using Nat.strongRecOn with
 |_ k ih=>
  intro n e hn hk;rw[mM T (lo+1) e n (by omega)];by_cases h:(uE (cB T n)).2.2<lo+1
  ·rw[if_pos h];rfl
  have hlt:=Pn h (by omega);rw[mM T lo e n hl,if_neg (by omega),if_neg h,gF];refine PR.bind_congr rfl fun x m hx=>?_;have:=jQ hx;exact ih (T.length-m) (by omega) m _ this.2 (bF _)
theorem G0 (lo n:Nat) (hl:1≤lo):fE T lo n=(fE T (lo+1) n).bind fun e m=>oW T lo e m:=by
 rw[sI T lo n hl,sI T (lo+1) n (by omega),gF];refine PR.bind_congr rfl fun x m hx=>?_;exact O0 lo hl _ m x (Ci hx).2 (bF _)
theorem Ui (n:Nat):fE T 10 n=mX T n:=by
 rw[sI T 10 n (by decide)]
 cases h:mX T n with
 |bad m=>rfl
 |ok e m=>
  show oW T 10 e m=_;rw[mM T 10 e m (by decide),if_pos (by have:=AM (cB T m);omega)]
theorem Td (lo:Nat) (hl:1≤lo) (k:Nat): ∀n e e' m,n≤T.length→T.length-n≤k→oW T lo e n= .ok e' m→(uE (cB T m)).2.2<lo:=by
 induction k using Nat.strongRecOn with
 |_ k ih=>
  intro n e e' m hn hk h;rw[mM T lo e n hl]at h;by_cases h1:(uE (cB T n)).2.2<lo
  ·rw[if_pos h1]at h;cases h;exact h1
  have hlt:=Pn h1 hl;rw[if_neg h1]at h;obtain⟨x,a,h2,h3⟩:=PR.bind_eq_ok h;have:=jQ h2;exact ih (T.length-a) (by omega) a _ _ _ this.2 (bF _) h3
theorem Bm {lo n m:Nat} {e:Ex} (hl:1≤lo) (h:fE T lo n= .ok e m):(uE (cB T m)).2.2<lo:=by
 rw[sI T lo n hl]at h;obtain⟨x,a,h2,h3⟩:=PR.bind_eq_ok h;exact Td lo hl _ a x e m (Ci h2).2 (bF _) h3
theorem Uy (n:Nat):mX T n=
  if iF T n=2 then(eX T 2 n).bind fun t m=> .ok (.mk 1 0 t.num [] []) m
  else if cB T n=[103,101,116]then(cR T [40] (n+1)).bind fun _ m=>(cR T [41] m).bind fun _ m=> .ok (.mk 5 0 0 [] []) m
  else if cB T n=[33]then(mX T (n+1)).bind fun e m=> .ok (.mk 7 0 0 [] [e]) m
  else if cB T n=[40]then(fE T 1 (n+1)).bind fun e m=>(cR T [41] m).bind fun _ m=> .ok e m
  else(eX T 1 n).bind fun t m=>
   if cB T m=[91]then(fE T 1 (m+1)).bind fun e m=>(cR T [93] m).bind fun _ m=> .ok (.mk 3 0 0 t.text [e]) m
   else if cB T m=[40]then(oC T (m+1)).bind fun l m=> .ok (.mk 4 0 0 t.text l) m
   else .ok (.mk 2 0 0 t.text []) m:=by
 rw[I0];by_cases h1:cB T n=[33]
 ·rw[h1];simp
 simp only[if_neg h1]
end Go.Proofs.YtaecpjgmcffliaaGreatDoor
