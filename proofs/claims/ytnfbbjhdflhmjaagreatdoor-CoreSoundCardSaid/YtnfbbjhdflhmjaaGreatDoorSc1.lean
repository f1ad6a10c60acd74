/- Chapter 16, the judge's: names and uses. Chapter 16, the judge's: what a name is; are names right? Chapter 16, the judge's: are names right, are numbers? Chapter 16, the judge's: are numbers right? Check; comparing lists of lists. Chapter 16, the judge's: lists of lists compared; the calls of each function. Chapter 16, the judge's: the calls of each function. -/
import Derived.Test.YtnfbbjhdflhmjaaGreatDoorSy2
import Derived.Test.YtnfbbjhdflhmjaaGreatDoorAl4
set_option linter.unusedSimpArgs false
set_option linter.unusedVariables false
set_option maxRecDepth 10000
namespace Go.Al
def bY:List dD→dD→Option Nat
 |[],_=>none
 |x::l,s=>if x=s then some 0 else(bY l s).map (· +1)
def gG:Option Nat→Int|some n=>n|none=> -1
theorem eL: ∀(l:List dD) (s:dD) (k:Nat),bY l s=some k→k<l.length∧l[k]?=some s
 |[],s,k,h=>by cases h
 |x::l,s,k,h=>by
  simp only[bY]at h;split at h
  ·rename_i e;cases h;exact⟨by simp,by simp [e]⟩
  rw[bE]at h;obtain⟨j,hj,rfl⟩:=h;have:=eL l s j hj;exact⟨by simp only[bU];omega,by simpa using this.2⟩
theorem pG: ∀(l:List dD) (s:dD) (k:Nat),(l.take k).contains s=false→bY l s=(bY (l.drop k) s).map (· +k)
 |l,s,0,_=>by simp
 |[],s,k+1,_=>by simp [bY]
 |x::l,s,k+1,h=>by
  simp only[List.take_succ_cons,List.contains_cons,Bool.or_eq_false_iff]at h;have hne: ¬x=s:=fun e=>by rw[e]at h;simp at h
  simp only[bY,if_neg hne,List.drop_succ_cons];rw[pG l s k h.2];cases bY (l.drop k) s<;>simp [Nat.add_assoc]
def dX (f:Fu):List dD:=f.params++f.locs
def fA (p:Pg):List dD:=p.vars++p.arrs.map Ar.name++p.funs.map Fu.name
def jY (p:Pg) (s:dD):Int×Int:=match bY (fA p) s with
 |none=>(0, -1)
 |some k=>if k<p.vars.length then(2,k)else if k-p.vars.length<p.arrs.length then(3,((k-p.vars.length:Nat):Int))else(4,((k-p.vars.length-p.arrs.length:Nat):Int))
def cP (p:Pg) (f:Nat) (s:dD):Int×Int:=match(p.funs[f]?).bind fun g=>bY (dX g) s with
 |some k=>(1,k)
 |none=>jY p s
structure Us where
 name:dD
 kind:Int
 num:Int
def Us.row (u:Us):List AV:=[.str u.name, .int .i64 u.kind, .int .i64 u.num]
def jL (e:Ex):List Us:=if e.kind=2 then [⟨e.name,1,0⟩]else if e.kind=3 then [⟨e.name,3,0⟩]else if e.kind=4 then [⟨e.name,4,e.kids.length⟩]else []
def eE:List Ex→List Us
 |[]=>[]
 | .mk k o n s kids::l=>jL (.mk k o n s kids)++eE kids++eE l
theorem eZ (e:Ex) (l:List Ex):eE (e::l)=jL e++eE e.kids++eE l:=by cases e;rw[eE];rfl
def jM (e:Sm):List Us:=if e.kind=1 then [⟨e.name,1,0⟩]else if e.kind=2 then [⟨e.name,3,0⟩]else if e.kind=6 then [⟨e.name,4,e.es.length⟩]else []
def dN:List Sm→List Us
 |[]=>[]
 | .mk k s es t u::l=>jM (.mk k s es t u)++eE es++dN t++dN u++dN l
theorem eM (e:Sm) (l:List Sm):dN (e::l)=jM e++eE e.es++dN e.thn++dN e.els++dN l:=by cases e;rw[dN];rfl
theorem En (e:Ex):(jL e).length≤1:=by
 unfold jL
 repeat' split
 all_goals simp
theorem Eo (e:Sm):(jM e).length≤1:=by
 unfold jM
 repeat' split
 all_goals simp
theorem qN (n:Nat): ∀l:List Ex,iA l=n→(eE l).length≤n:=by
 induction n using Nat.strongRecOn with
 |_ n ih=>
  intro l hn
  cases l with
  |nil=>simp [eE]
  |cons e l=>
   have hs:=e.sz_eq;simp only[iA]at hn;rw[eZ,bP,bP];have:=En e;have h1:=ih (iA e.kids) (by omega) e.kids rfl;have h2:=ih (iA l) (by omega) l rfl;omega
theorem mP (n:Nat): ∀l:List Sm,fE l=n→(dN l).length≤n:=by
 induction n using Nat.strongRecOn with
 |_ n ih=>
  intro l hn
  cases l with
  |nil=>simp [dN]
  |cons e l=>
   have hs:=e.sz_eq;simp only[fE]at hn;rw[eM,bP,bP,bP,bP];have:=Eo e;have h0:=qN _ e.es rfl;have h1:=ih (fE e.thn) (by omega) e.thn rfl;have h2:=ih (fE e.els) (by omega) e.els rfl;have h3:=ih (fE l) (by omega) l rfl;omega
theorem wP {l:List Ex} {k:Nat} (h:k<l.length):eE (l.take (k+1))=eE (l.take k)++(jL l[k]++eE l[k].kids):=by
 have key: ∀a b:List Ex,eE (a++b)=eE a++eE b:=by
  intro a b
  induction a with
  |nil=>simp [eE]
  |cons e a ih=>rw[List.cons_append,eZ,eZ,ih];simp only[List.append_assoc]
 rw[bR h,key,eZ];simp [eE]
theorem wO {l:List Sm} {k:Nat} (h:k<l.length):dN (l.take (k+1))=dN (l.take k)++(jM l[k]++eE l[k].es++dN l[k].thn++dN l[k].els):=by
 have key: ∀a b:List Sm,dN (a++b)=dN a++dN b:=by
  intro a b
  induction a with
  |nil=>simp [dN]
  |cons e a ih=>rw[List.cons_append,eM,eM,ih];simp only[List.append_assoc]
 rw[bR h,key,eM];simp [dN]
theorem Si (l:List Ex) (k:Nat):iA (l.take k)≤iA l:=by
 induction l generalizing k with
 |nil=>simp
 |cons e l ih=>
  cases k with
  |zero=>simp [iA]
  |succ k=>simp only[List.take_succ_cons,iA];have:=ih k;omega
theorem Sh (l:List Sm) (k:Nat):fE (l.take k)≤fE l:=by
 induction l generalizing k with
 |nil=>simp
 |cons e l ih=>
  cases k with
  |zero=>simp [fE]
  |succ k=>simp only[List.take_succ_cons,fE];have:=ih k;omega
theorem Zd (l:List dD):(l.map bK).all (fun r=>r.all one)=true:=by
 rw[List.all_eq_true];intro r hr;obtain⟨t,_,rfl⟩:=List.mem_map.1 hr;rfl
theorem Vn (l:List Us):(l.map Us.row).all (fun r=>r.all one)=true:=by
 rw[List.all_eq_true];intro r hr;obtain⟨t,_,rfl⟩:=List.mem_map.1 hr;rfl
end Go.Al
namespace Go.Proofs.YtnfbbjhdflhmjaaGreatDoor
open Go.Al
theorem uD (l:List dD) (s:dD) (hl:cI l):cJ cK 113 [.isl 1 (l.map bK), .str s] (.int .i64 (gG (bY l s))):=by
 have hl:l.length≤9223372036854775807:=hl;refine bI 19 [.tmp 4] Tryz.func113 rfl rfl rfl rfl ?_;refine aB fun K z=>?_;refine aA rfl ?_;simp only[RR,seval];apply z;clear z;refine bQ (fun fr H=>bY l s=none) (fun K z=>?_) ?_
 ·refine aB fun K z=>?_;refine aA rfl ?_;simp only[RR,seval]
  apply z;clear z;refine aM ?_;refine cR (fun mm fr H=> ∃k:Nat,mm=l.length-k∧k≤l.length∧fr 5= .int .i64 k∧fr 0= .isl 1 (l.map bK)∧fr 1= .str s∧bY l s=(bY (l.drop k) s).map (· +k)) (l.length) ⟨0,rfl,Nat.zero_le _,rfl,rfl,rfl,by simp⟩ ?_;rintro mm fr H ⟨k,rfl,hkk,hik,h0,f1,hp⟩ K2 hK2;refine aI ?_;refine aB fun K z=>?_;refine aA rfl ?_;simp only[RR,seval];simp only[hik,h0,aD,RR,seval];apply z;clear z;refine aH _ rfl (fun hc=>?_) (fun hc=>?_)
  ·have hltk:k<l.length:=by have:=aC hc;omega
   clear hc;refine aK ?_;simp only[aT];refine aI ?_;refine aM ?_;have hg:=yE (aG hltk);rw[bD hltk]at hp;simp only[bY]at hp;generalize l[k]=x at hg hp;refine aB fun K z=>?_;refine aA rfl ?_;simp only[RR,seval];simp only[h0,f1,hik,hg,RR,seval];apply z;clear z;refine aH _ rfl (fun hc=>?_) (fun hc=>?_)
   ·have e:x=s:=aC hc
    rw[if_pos e]at hp
    repeat' (first|(refine aB fun K z=>?_;refine aA rfl ?_;simp only[hik,RR,seval];apply z;clear z)|(refine aI ?_)|(refine aM ?_)|(refine aH true rfl (fun _=>?_) (fun hc=>by cases hc))|(refine aH false rfl (fun hc=>by cases hc) (fun _=>?_))|(refine aK ?_;simp only[aT,aX])|(refine bF ?_;simp only[aT,aX,reduceIte,Nat.reduceEqDiff])|(refine aA rfl ?_;simp only[hik,aT,aX,RR,seval])|(refine aR (fun h=>?_) (fun h=>?_)<;>simp only[h,hik,aT,aX,RR,seval])|(refine aV (fun h=>?_) (fun h=>?_)<;>simp only[h,hik,aT,aX,RR,seval])|(refine aH _ rfl (fun h=>?_) (fun h=>?_))|(refine aO ?_;simp only[aT,aX,bB,aL,bH,RR,seval];refine aZ.pure ?_))
    rw[hp];simp [gG]
   have e: ¬x=s:=aF hc;rw[if_neg e]at hp;refine aK ?_;simp only[aT,aX];refine aA rfl ?_;simp only[RR,seval];simp only[hik,aT,RR,seval];rw[aQ _ (by omega)];refine hK2 (l.length-(k+1)) _ _ (by omega) ⟨k+1,rfl,by omega,rfl,h0,f1,by rw[hp,Option.map_map];congr 1;funext y;simp only[Function.comp];omega⟩
  refine bF ?_;simp only[aT,aX,reduceIte];have hknk:k=l.length:=by have:=aF hc;omega
  clear hc;subst hknk;rw[List.drop_length]at hp;exact z _ _ (by rw[hp];rfl)
 rintro fr H h0;refine aB fun K z=>?_;refine aA rfl ?_;simp only[RR,seval];apply z;clear z;refine aO ?_;simp only[bB,aL,bH,RR,seval];refine aZ.pure ?_;rw[h0];rfl
theorem Da (f:Fu) (h:f.params.length≤1000000) (h2:f.locs.length≤1200000):cJ cK 73 [.agg f.row] (.isl 1 ((dX f).map bK)):=by
 refine bI 10 [.tmp 2] Tryz.func73 rfl rfl rfl rfl ?_;simp only[Fu.row];refine bQ (fun fr H=> ∃b,fr 1= .ptr 5 b 0 0∧H b=some (.rows 5 [[.str f.name, .isl 1 (f.params.map bK), .isl 1 (f.locs.map bK), .bool f.word, .isl 5 (f.body.map Sm.row)]])) (fun K z=>?_) ?_
 ·refine aA rfl ?_;simp only[RR,seval]
  refine aP fun b hb=>?_;simp only[RR,seval];exact z _ _ ⟨b,rfl,bO _ _ _⟩
 rintro fr H ⟨b,f1,hb⟩;refine bQ (fun fr H=>dJ 1 (fr 2) ((dX f).map bK) H) (fun K z=>?_) ?_
 ·refine eB (fun x=>x≠b) [(1,false),(2,false),(4,false),(5,false),(0,true),(3,true),(6,true),(7,true)] dG (by kernel_rfl) rfl ?_
  simp only[oX,dM,f1,hb,sI,tT,RR,seval];refine Ig fun b0 hb0=>?_;have hne:b≠b0:=fun e=>by rw[e,hb0]at hb;cases hb
  have hb':(upd H b0 (some (.rows 1 []))) b=some (.rows 5 [[.str f.name, .isl 1 (f.params.map bK), .isl 1 (f.locs.map bK), .bool f.word, .isl 5 (f.body.map Sm.row)]]):=by simp only[upd,if_neg hne,hb]
  have hown:nQ 1 (.osl 1 b0 0) [] (upd H b0 (some (.rows 1 []))):=⟨b0,rfl,bO _ _ _⟩;generalize upd H b0 (some (.rows 1 []))=H1 at hb' hown⊢;simp only[Zd,RR,seval];refine nO hown (by simp only[List.length_nil,aD];omega) (fun x hx=>hown.far hb' (by decide) x hx) fun v2 H2 hv2 hk2=>?_;have hb2:=hk2 b _ hb' (hown.nb' hb' (by decide));simp only[Zd,RR,seval];refine nO hv2 (by simp only[List.nil_append,aD];omega) (fun x hx=>hv2.far hb2 (by decide) x hx) fun v3 H3 hv3 _=>?_;simp only[RR,seval];refine z _ _ ?_;simp only[upd,reduceIte,dX,List.map_append];exact hv3.own
 rintro fr H hown;refine aO ?_;simp only[bB,aL,bH,RR,seval];exact hown.gives1 rfl
set_option maxHeartbeats 2000000 in
theorem Pn (n:Nat): ∀l:List Ex,iA l=n→n≤1000000→xQ l→cJ cK 114 [.isl 5 (l.map Ex.row)] (.isl 3 ((eE l).map Us.row)):=by
 induction n using Nat.strongRecOn with
 |_ n ih=>
  intro l hn hbd hok;have hfit:l.length≤9223372036854775807:=hok.fit;refine bI 64 [.tmp 2] Tryz.func114 rfl rfl rfl rfl ?_;refine aB fun K z=>?_;refine aA rfl ?_;simp only[RR,seval];apply z;clear z;refine aB fun K z=>?_;refine aA rfl ?_;simp only[RR,seval];apply z;clear z;refine bQ (fun fr H=>dJ 3 (fr 3) ((eE l).map Us.row) H) (fun K z=>?_) ?_
  ·refine aB fun K z=>?_;refine aA rfl ?_;simp only[RR,seval]
   apply z;clear z;refine aM ?_;refine cR (fun mm fr H=> ∃k:Nat,mm=l.length-k∧k≤l.length∧fr 4= .int .i64 k∧fr 0= .isl 5 (l.map Ex.row)∧dJ 3 (fr 3) ((eE (l.take k)).map Us.row) H) (l.length) ⟨0,rfl,Nat.zero_le _,rfl,rfl, .inl ⟨rfl,by simp [eE]⟩⟩ ?_;rintro mm fr H ⟨k,rfl,hkk,hik,h0,hown⟩ K2 hK2;refine aI ?_;refine aB fun K z=>?_;refine aA rfl ?_;simp only[RR,seval];simp only[hik,h0,aD,RR,seval];apply z;clear z;refine aH _ rfl (fun hc=>?_) (fun hc=>?_)
   ·have hltk:k<l.length:=by have:=aC hc;omega
    clear hc;refine aK ?_;simp only[aT];refine aI ?_;refine aM ?_;have hg:=uL (aG hltk);have hmem:=bA hltk;have hoke:=hok.all _ hmem;have hsz:=iI hmem;have htk:=wP hltk;have hlt1:=qN _ (l.take k) rfl;have hlt2:=Si l k;have hul:=En l[k];generalize l[k]=e at hg htk hoke hsz hul;have hse:=e.sz_eq;have hkl:=qN _ e.kids rfl;have hfk:e.kids.length≤9223372036854775807:=hoke.kids.fit;refine bQ (fun fr H=>fr 0= .isl 5 (l.map Ex.row)∧dJ 3 (fr 3) ((eE (l.take k)++jL e).map Us.row) H∧fr 4= .int .i64 k) (fun K z=>?_) ?_
    ·refine aB fun K z=>?_;refine aA rfl ?_;simp only[RR,seval]
     simp only[h0,hik,hg,RR,seval];apply z;clear z;refine aM ?_;refine aB fun K z=>?_;refine aA rfl ?_;simp only[RR,seval];apply z;clear z;have hb32:(((eE (l.take k)).map Us.row).length+1) *32≤140737488355328:=by rw[aD];omega
     by_cases k2:e.kind=2
     ·refine aH true (congrArg AV.bool (bG k2)) (fun _=>?_) (fun hc=>by cases hc)
      refine aA rfl ?_;simp only[RR,seval];simp only[h0,hik,hg,RR,seval];refine cY ?_;simp only[RR,seval];refine iF hown hb32 (fun _=>trivial) fun v' H' hv' _=>?_;simp only[RR,seval];refine z _ _ ⟨h0, ?_,hik⟩;rw[show jL e=[⟨e.name,1,0⟩]by simp [jL,k2],List.map_append];exact hv'
     refine aH false (congrArg AV.bool (aU k2)) (fun hc=>by cases hc) (fun _=>?_);refine aB fun K z=>?_;refine aA rfl ?_;simp only[RR,seval];apply z;clear z;by_cases k3:e.kind=3
     ·refine aH true (congrArg AV.bool (bG k3)) (fun _=>?_) (fun hc=>by cases hc)
      refine aA rfl ?_;simp only[RR,seval];simp only[h0,hik,hg,RR,seval];refine cY ?_;simp only[RR,seval];refine iF hown hb32 (fun _=>trivial) fun v' H' hv' _=>?_;simp only[RR,seval];refine z _ _ ⟨h0, ?_,hik⟩;rw[show jL e=[⟨e.name,3,0⟩]by simp [jL,k3],List.map_append];exact hv'
     refine aH false (congrArg AV.bool (aU k3)) (fun hc=>by cases hc) (fun _=>?_);refine aB fun K z=>?_;refine aA rfl ?_;simp only[RR,seval];apply z;clear z;by_cases k4:e.kind=4
     ·refine aH true (congrArg AV.bool (bG k4)) (fun _=>?_) (fun hc=>by cases hc)
      refine eB (fun _=>True) [(0,false),(1,true),(2,true),(3,true),(4,true),(5,true),(6,true),(7,true),(8,true),(9,true),(10,true),(11,true),(12,true),(13,true),(14,true),(15,true)] dG (by kernel_rfl) rfl ?_;simp only[oX,dM,h0,hik,hg,RR,seval];refine cY ?_;simp only[aD,RR,seval];refine iF hown hb32 (fun _=>trivial) fun v' H' hv' _=>?_;simp only[RR,seval];refine z _ _ ⟨h0, ?_,hik⟩;rw[show jL e=[⟨e.name,4,e.kids.length⟩]by simp [jL,k4],List.map_append];exact hv'
     refine aH false (congrArg AV.bool (aU k4)) (fun hc=>by cases hc) (fun _=>?_);refine aK ?_;simp only[aT,aX];refine z _ _ ⟨h0, ?_,hik⟩;rw[show jL e=[]by simp [jL,k2,k3,k4],List.append_nil];exact hown
    rintro fr H ⟨h0,hown,hik⟩;refine aA rfl ?_;simp only[h0,hik,hg,RR,seval];refine aN (ih _ (by omega) e.kids rfl (by omega) hoke.kids) ?_;simp only[RR,seval];simp only[Vn,seval];refine iF hown (by simp only[aD,bP];omega) (fun _=>trivial) fun v' H' hv' _=>?_;simp only[aT,aX,RR,seval];refine aA rfl ?_;simp only[RR,seval];simp only[hik,aT,RR,seval];rw[aQ _ (by omega)];refine hK2 (l.length-(k+1)) _ _ (by omega) ⟨k+1,rfl,by omega,rfl,h0,by rw[htk,←List.append_assoc,List.map_append];exact hv'⟩
   refine bF ?_;simp only[aT,aX,reduceIte];have hknk:k=l.length:=by have:=aF hc;omega
   clear hc;subst hknk;rw[List.take_length]at hown;exact z _ _ hown
  rintro fr H hown;refine aB fun K z=>?_;refine aA rfl ?_;simp only[RR,seval];apply z;clear z;refine aO ?_;simp only[bB,aL,bH,RR,seval];exact hown.gives1 rfl
set_option maxHeartbeats 2000000 in
theorem Iv (n:Nat): ∀l:List Sm,fE l=n→n≤1000000→Bq l→cJ cK 74 [.isl 5 (l.map Sm.row)] (.isl 3 ((dN l).map Us.row)):=by
 induction n using Nat.strongRecOn with
 |_ n ih=>
  intro l hn hbd hok;have hfit:l.length≤9223372036854775807:=hok.fit;refine bI 80 [.tmp 2] Tryz.func74 rfl rfl rfl rfl ?_;refine aB fun K z=>?_;refine aA rfl ?_;simp only[RR,seval];apply z;clear z;refine aB fun K z=>?_;refine aA rfl ?_;simp only[RR,seval];apply z;clear z;refine bQ (fun fr H=>dJ 3 (fr 3) ((dN l).map Us.row) H) (fun K z=>?_) ?_
  ·refine aB fun K z=>?_;refine aA rfl ?_;simp only[RR,seval]
   apply z;clear z;refine aM ?_;refine cR (fun mm fr H=> ∃k:Nat,mm=l.length-k∧k≤l.length∧fr 4= .int .i64 k∧fr 0= .isl 5 (l.map Sm.row)∧dJ 3 (fr 3) ((dN (l.take k)).map Us.row) H) (l.length) ⟨0,rfl,Nat.zero_le _,rfl,rfl, .inl ⟨rfl,by simp [dN]⟩⟩ ?_;rintro mm fr H ⟨k,rfl,hkk,hik,h0,hown⟩ K2 hK2;refine aI ?_;refine aB fun K z=>?_;refine aA rfl ?_;simp only[RR,seval];simp only[hik,h0,aD,RR,seval];apply z;clear z;refine aH _ rfl (fun hc=>?_) (fun hc=>?_)
   ·have hltk:k<l.length:=by have:=aC hc;omega
    clear hc;refine aK ?_;simp only[aT];refine aI ?_;refine aM ?_;have hg:=An (aG hltk);have hmem:=bA hltk;have hoke:=hok.all _ hmem;have hsz:=fT hmem;have htk:=wO hltk;have hlt1:=mP _ (l.take k) rfl;have hlt2:=Sh l k;have hul:=Eo l[k];generalize l[k]=e at hg htk hoke hsz hul;have hse:=e.sz_eq;have hkl:=qN _ e.es rfl;have hkt:=mP _ e.thn rfl;have hke:=mP _ e.els rfl;refine bQ (fun fr H=>fr 0= .isl 5 (l.map Sm.row)∧dJ 3 (fr 3) ((dN (l.take k)++jM e).map Us.row) H∧fr 4= .int .i64 k) (fun K z=>?_) ?_
    ·refine aB fun K z=>?_;refine aA rfl ?_;simp only[RR,seval]
     simp only[h0,hik,hg,RR,seval];apply z;clear z;refine aM ?_;refine aB fun K z=>?_;refine aA rfl ?_;simp only[RR,seval];apply z;clear z;have hb32:(((dN (l.take k)).map Us.row).length+1) *32≤140737488355328:=by rw[aD];omega
     by_cases k2:e.kind=1
     ·refine aH true (congrArg AV.bool (bG k2)) (fun _=>?_) (fun hc=>by cases hc)
      refine aA rfl ?_;simp only[RR,seval];simp only[h0,hik,hg,RR,seval];refine cY ?_;simp only[RR,seval];refine iF hown hb32 (fun _=>trivial) fun v' H' hv' _=>?_;simp only[RR,seval];refine z _ _ ⟨h0, ?_,hik⟩;rw[show jM e=[⟨e.name,1,0⟩]by simp [jM,k2],List.map_append];exact hv'
     refine aH false (congrArg AV.bool (aU k2)) (fun hc=>by cases hc) (fun _=>?_);refine aB fun K z=>?_;refine aA rfl ?_;simp only[RR,seval];apply z;clear z;by_cases k3:e.kind=2
     ·refine aH true (congrArg AV.bool (bG k3)) (fun _=>?_) (fun hc=>by cases hc)
      refine aA rfl ?_;simp only[RR,seval];simp only[h0,hik,hg,RR,seval];refine cY ?_;simp only[RR,seval];refine iF hown hb32 (fun _=>trivial) fun v' H' hv' _=>?_;simp only[RR,seval];refine z _ _ ⟨h0, ?_,hik⟩;rw[show jM e=[⟨e.name,3,0⟩]by simp [jM,k3],List.map_append];exact hv'
     refine aH false (congrArg AV.bool (aU k3)) (fun hc=>by cases hc) (fun _=>?_);refine aB fun K z=>?_;refine aA rfl ?_;simp only[RR,seval];apply z;clear z;by_cases k4:e.kind=6
     ·refine aH true (congrArg AV.bool (bG k4)) (fun _=>?_) (fun hc=>by cases hc)
      refine eB (fun _=>True) [(0,false),(1,true),(2,true),(3,true),(4,true),(5,true),(6,true),(7,true),(8,true),(9,true),(10,true),(11,true),(12,true),(13,true),(14,true),(15,true)] dG (by kernel_rfl) rfl ?_;simp only[oX,dM,h0,hik,hg,RR,seval];refine cY ?_;simp only[aD,RR,seval];refine iF hown hb32 (fun _=>trivial) fun v' H' hv' _=>?_;simp only[RR,seval];refine z _ _ ⟨h0, ?_,hik⟩;rw[show jM e=[⟨e.name,4,e.es.length⟩]by simp [jM,k4],List.map_append];exact hv'
     refine aH false (congrArg AV.bool (aU k4)) (fun hc=>by cases hc) (fun _=>?_);refine aK ?_;simp only[aT,aX];refine z _ _ ⟨h0, ?_,hik⟩;rw[show jM e=[]by simp [jM,k2,k3,k4],List.append_nil];exact hown
    rintro fr H ⟨h0,hown,hik⟩;refine aB fun K z=>?_;refine aA rfl ?_;simp only[RR,seval];simp only[h0,hik,hg,RR,seval];refine aN (Pn _ e.es rfl (by omega) hoke.es) ?_;simp only[RR,seval];simp only[Vn,seval];refine iF hown (by simp only[aD,bP];omega) (fun _=>trivial) fun v' H' hv' _=>?_;simp only[RR,seval];apply z;clear z;rw[←List.map_append]at hv';refine aB fun K z=>?_;refine aA rfl ?_;simp only[RR,seval];simp only[h0,hik,hg,RR,seval];refine aN (ih _ (by omega) e.thn rfl (by omega) hoke.thn) ?_;simp only[RR,seval];simp only[Vn,seval];refine iF hv' (by simp only[aD,bP];omega) (fun _=>trivial) fun v2 H2 hv2 _=>?_;simp only[RR,seval];apply z;clear z;rw[←List.map_append]at hv2;refine aA rfl ?_;simp only[h0,hik,hg,RR,seval];refine aN (ih _ (by omega) e.els rfl (by omega) hoke.els) ?_;simp only[RR,seval];simp only[Vn,seval];refine iF hv2 (by simp only[aD,bP];omega) (fun _=>trivial) fun v3 H3 hv3 _=>?_;simp only[aT,aX,RR,seval];refine aA rfl ?_;simp only[RR,seval];simp only[hik,aT,RR,seval];rw[aQ _ (by omega)];refine hK2 (l.length-(k+1)) _ _ (by omega) ⟨k+1,rfl,by omega,rfl,h0,by rw[htk];simp only[←List.append_assoc];rw[List.map_append];exact hv3⟩
   refine bF ?_;simp only[aT,aX,reduceIte];have hknk:k=l.length:=by have:=aF hc;omega
   clear hc;subst hknk;rw[List.take_length]at hown;exact z _ _ hown
  rintro fr H hown;refine aB fun K z=>?_;refine aA rfl ?_;simp only[RR,seval];apply z;clear z;refine aO ?_;simp only[bB,aL,bH,RR,seval];exact hown.gives1 rfl
end Go.Proofs.YtnfbbjhdflhmjaaGreatDoor
namespace Go.Al
structure Pg.few (p:Pg):Prop where
 ok:p.ok
 v:p.vars.length≤10000
 a:p.arrs.length≤10000
 f:p.funs.length≤10000
 fs: ∀f∈p.funs,f.params.length≤10000∧f.locs.length≤1100000∧fE f.body≤1000000
theorem pI: ∀l:List dD,l.Nodup↔ ∀(i:Nat) (h:i<l.length),bY l l[i]=some i
 |[]=>by simp
 |x::l=>by
  rw[List.nodup_cons,pI l];constructor
  ·rintro⟨h1,h2⟩ i hi
   cases i with
   |zero=>simp [bY]
   |succ i=>
    have hi':i<l.length:=by simpa using hi
    have hne: ¬x=l[i]:=fun e=>h1 (e▸bA hi');simp only[List.getElem_cons_succ,bY,if_neg hne,h2 i hi',Option.map_some]
  intro h;refine⟨fun hx=>?_,fun i hi=>?_⟩
  ·obtain⟨i,hi,e⟩:=List.getElem_of_mem hx
   have:=h (i+1) (by simpa using hi);simp [bY,e]at this
  have:=h (i+1) (by simpa using hi);simp only[List.getElem_cons_succ,bY]at this;split at this
  ·simp at this
  rw[bE]at this;obtain⟨j,hj,e⟩:=this;rw[hj];congr 1;omega
def fG (p:Pg) (i:Nat) (u:Us):Bool:=
 !((decide (u.kind=1)&& !decide ((cP p i u.name).1=1)&& !decide ((cP p i u.name).1=2))||(decide (u.kind=3)&& !decide ((cP p i u.name).1=3))||
   (decide (u.kind=4)&&(!decide ((cP p i u.name).1=4)||decide ((i:Int)≤(cP p i u.name).2))))
def eU (p:Pg):Nat→List Fu→Bool
 |_,[]=>true
 |i,f::l=>decide (dX f).Nodup&&(dN f.body).all (fG p i)&&eU p (i+1) l
def fI (p:Pg):Bool:=decide (fA p).Nodup&&eU p 0 p.funs
theorem nG (p:Pg):(fA p).length=p.vars.length+p.arrs.length+p.funs.length:=by simp [fA];omega
theorem Tx (p:Pg) (s:dD) (h:(fA p).length≤1000000): -1≤(jY p s).2∧(jY p s).2≤1000000∧0≤(jY p s).1∧(jY p s).1≤4:=by
 unfold jY;split
 ·simp
 rename_i k hk;have:=(eL _ _ _ hk).1;split
 ·simp only;omega
 split<;>simp only <;>omega
theorem Hd (p:Pg) (i:Nat) (s:dD) (h:(fA p).length≤1000000) (h2: ∀f∈p.funs,(dX f).length≤1200000): -1≤(cP p i s).2∧(cP p i s).2≤1200000∧0≤(cP p i s).1∧(cP p i s).1≤4:=by
 unfold cP;split
 ·rename_i k hk
  rw[bT]at hk;obtain⟨f,hf,hk⟩:=hk;have:=(eL _ _ _ hk).1;have:=h2 f (bN hf);simp only;omega
 have:=Tx p s h;exact⟨this.1,by omega,this.2.2⟩
theorem Pg.few.gl {p:Pg} (h:p.few):(fA p).length≤30000:=by
 rw[nG];have:=h.v;have:=h.a;have:=h.f;omega
theorem Pg.few.nl {p:Pg} (h:p.few): ∀f∈p.funs,(dX f).length≤1200000:=fun f hf=>by
 have:=h.fs f hf;simp only[dX,bP];omega
end Go.Al
namespace Go.Proofs.YtnfbbjhdflhmjaaGreatDoor
open Go.Al
theorem Iy (p:Pg) (hp:p.few):Qi cK 72 [p.av] 1 ((fA p).map bK):=by
 have gv:=hp.v;have ga:=hp.a;have gf:=hp.f;have hG:fA p=p.vars++p.arrs.map Ar.name++p.funs.map Fu.name:=rfl;generalize fA p=G at hG⊢;obtain⟨vs,aa,fs⟩:=p;simp only at gv ga gf hG;refine bI 43 [.tmp 2] Tryz.func72 rfl rfl rfl rfl ?_;simp only[Pg.av,Pg.row];refine bQ (fun fr H=> ∃b,fr 1= .ptr 3 b 0 0∧H b=some (.rows 3 [[.isl 1 (vs.map bK), .isl 2 (aa.map Ar.row), .isl 5 (fs.map Fu.row)]])) (fun K z=>?_) ?_
 ·refine aA rfl ?_;simp only[RR,seval]
  refine aP fun b hb=>?_;simp only[RR,seval];exact z _ _ ⟨b,rfl,bO _ _ _⟩
 rintro fr H ⟨b,f1,hb⟩;refine bQ (fun fr H=>nQ 1 (fr 3) (vs.map bK) H∧fr 1= .ptr 3 b 0 0∧H b=some (.rows 3 [[.isl 1 (vs.map bK), .isl 2 (aa.map Ar.row), .isl 5 (fs.map Fu.row)]])) (fun K z=>?_) ?_
 ·refine aA rfl ?_
  simp only[RR,seval];refine Ig fun b0 hb0=>?_;have hne:b≠b0:=fun e=>by rw[e,hb0]at hb;cases hb
  have hb':(upd H b0 (some (.rows 1 []))) b=some (.rows 3 [[.isl 1 (vs.map bK), .isl 2 (aa.map Ar.row), .isl 5 (fs.map Fu.row)]]):=by simp only[upd,if_neg hne,hb]
  have hown:nQ 1 (.osl 1 b0 0) [] (upd H b0 (some (.rows 1 []))):=⟨b0,rfl,bO _ _ _⟩;generalize upd H b0 (some (.rows 1 []))=H1 at hb' hown⊢;simp only[f1,hb',Zd,RR,seval];refine nO hown (by simp only[List.length_nil,aD];omega) (fun _ _=>trivial) fun v2 H2 hv2 hk2=>?_;simp only[RR,seval];exact z _ _ ⟨hv2,f1,hk2 b _ hb' (hown.nb' hb' (by decide))⟩
 rintro fr H ⟨hown,f1,hb⟩;refine bQ (fun fr H=>nQ 1 (fr 3) ((vs++aa.map Ar.name).map bK) H∧fr 1= .ptr 3 b 0 0∧H b=some (.rows 3 [[.isl 1 (vs.map bK), .isl 2 (aa.map Ar.row), .isl 5 (fs.map Fu.row)]])) (fun K z=>?_) ?_
 ·refine aB fun K z=>?_;refine aA rfl ?_;simp only[RR,seval]
  apply z;clear z;refine aM ?_;refine cR (fun mm fr H=> ∃k:Nat,mm=aa.length-k∧k≤aa.length∧fr 4= .int .i64 k∧nQ 1 (fr 3) ((vs++(aa.take k).map Ar.name).map bK) H∧fr 1= .ptr 3 b 0 0∧H b=some (.rows 3 [[.isl 1 (vs.map bK), .isl 2 (aa.map Ar.row), .isl 5 (fs.map Fu.row)]])) (aa.length) ⟨0,rfl,Nat.zero_le _,rfl,by simpa [upd]using hown,f1,hb⟩ ?_;rintro mm fr H ⟨k,rfl,hkk,hik,hown,f1,hb⟩ K2 hK2;refine aI ?_;refine aB fun K z=>?_;refine aA rfl ?_;simp only[RR,seval];simp only[hik,f1,hb,aD,RR,seval];apply z;clear z;refine aH _ rfl (fun hc=>?_) (fun hc=>?_)
  ·have hltk:k<aa.length:=by have:=aC hc;omega
   clear hc;refine aK ?_;simp only[aT];refine aI ?_;refine aM ?_;have hg:=Dt (aG hltk);have htk:aa.take (k+1)=aa.take k++[aa[k]]:=bR hltk;generalize aa[k]=a at hg htk;have htk2:(vs++(aa.take (k+1)).map Ar.name).map bK=(vs++(aa.take k).map Ar.name).map bK++[[.str a.name]]:=by rw[htk];simp [bK]
   refine aA rfl ?_;simp only[f1,hb,hik,hg,RR,seval];refine cY ?_;simp only[RR,seval];refine nO hown (by simp only[aD,bP,bU,List.length_nil,cU];omega) (fun _ _=>trivial) fun v2 H2 hv2 hk2=>?_;simp only[aT,aX,RR,seval];have hb2:=hk2 b _ hb (hown.nb' hb (by decide));refine aA rfl ?_;simp only[RR,seval];simp only[hik,aT,RR,seval];rw[aQ _ (by omega)];refine hK2 (aa.length-(k+1)) _ _ (by omega) ⟨k+1,rfl,by omega,rfl,by rw[htk2];exact hv2,f1,hb2⟩
  refine bF ?_;simp only[aT,aX,reduceIte];have hknk:k=aa.length:=by have:=aF hc;omega
  clear hc;subst hknk;rw[List.take_length]at hown;exact z _ _ ⟨hown,f1,hb⟩
 rintro fr H ⟨hown,f1,hb⟩;refine bQ (fun fr H=>nQ 1 (fr 3) (G.map bK) H) (fun K z=>?_) ?_
 ·refine aB fun K z=>?_;refine aA rfl ?_;simp only[RR,seval]
  apply z;clear z;refine aM ?_;refine cR (fun mm fr H=> ∃k:Nat,mm=fs.length-k∧k≤fs.length∧fr 5= .int .i64 k∧nQ 1 (fr 3) ((vs++aa.map Ar.name++(fs.take k).map Fu.name).map bK) H∧fr 1= .ptr 3 b 0 0∧H b=some (.rows 3 [[.isl 1 (vs.map bK), .isl 2 (aa.map Ar.row), .isl 5 (fs.map Fu.row)]])) (fs.length) ⟨0,rfl,Nat.zero_le _,rfl,by simpa [upd]using hown,f1,hb⟩ ?_;rintro mm fr H ⟨k,rfl,hkk,hik,hown,f1,hb⟩ K2 hK2;refine aI ?_;refine aB fun K z=>?_;refine aA rfl ?_;simp only[RR,seval];simp only[hik,f1,hb,aD,RR,seval];apply z;clear z;refine aH _ rfl (fun hc=>?_) (fun hc=>?_)
  ·have hltk:k<fs.length:=by have:=aC hc;omega
   clear hc;refine aK ?_;simp only[aT];refine aI ?_;refine aM ?_;have hg:=kK (aG hltk);have htk:fs.take (k+1)=fs.take k++[fs[k]]:=bR hltk;generalize fs[k]=a at hg htk;have htk2:(vs++aa.map Ar.name++(fs.take (k+1)).map Fu.name).map bK=(vs++aa.map Ar.name++(fs.take k).map Fu.name).map bK++[[.str a.name]]:=by rw[htk];simp [bK]
   refine aA rfl ?_;simp only[f1,hb,hik,hg,RR,seval];refine cY ?_;simp only[RR,seval];refine nO hown (by simp only[aD,bP,bU,List.length_nil,cU];omega) (fun _ _=>trivial) fun v2 H2 hv2 hk2=>?_;simp only[aT,aX,RR,seval];have hb2:=hk2 b _ hb (hown.nb' hb (by decide));refine aA rfl ?_;simp only[RR,seval];simp only[hik,aT,RR,seval];rw[aQ _ (by omega)];refine hK2 (fs.length-(k+1)) _ _ (by omega) ⟨k+1,rfl,by omega,rfl,by rw[htk2];exact hv2,f1,hb2⟩
  refine bF ?_;simp only[aT,aX,reduceIte];have hknk:k=fs.length:=by have:=aF hc;omega
  clear hc;subst hknk;rw[List.take_length,←hG]at hown;exact z _ _ hown
 rintro fr H hown;refine aB fun K z=>?_;refine aA rfl ?_;simp only[RR,seval];apply z;clear z;refine aO ?_;simp only[bB,aL,bH,RR,seval];exact Qi.gives hown.own
theorem vZ (p:Pg) (hp:p.few):cJ cK 72 [p.av] (.isl 1 ((fA p).map bK)):=(Iy p hp).pure
theorem zX (p:Pg) (hp:p.few) (i:Nat) (hi:i<p.funs.length) (s:dD):cJ cK 75 [p.av, .int .i64 i, .str s] (.tup [.int .i64 (cP p i s).1, .int .i64 (cP p i s).2]):=by
 have gv:=hp.v;have ga:=hp.a;have gf:=hp.f;have hgl:=nG p;have hglob:=vZ p hp;have hplace:=uD (fA p) s (by simp only[cI];omega);have hgi:=aG hi;have hfs:=hp.fs _ (bA hi)
 have hF:cP p i s=match bY (dX p.funs[i]) s with |some k=>(1,(k:Int))|none=>jY p s:=by
  simp only[cP,hgi,Option.bind_some]
  all_goals (cases bY (dX p.funs[i]) s<;>rfl)
 have hGd:jY p s=match bY (fA p) s with
  |none=>(0, -1)
  |some k=>if k<p.vars.length then(2,(k:Int))else if k-p.vars.length<p.arrs.length then(3,((k-p.vars.length:Nat):Int))else(4,((k-p.vars.length-p.arrs.length:Nat):Int)):=rfl
 have hnm:=Da p.funs[i] (by omega) (by omega);have hpl:=uD (dX p.funs[i]) s (by simp only[cI,dX,bP];omega);generalize p.funs[i]=g at hgi hF hnm hpl;have hlen:=fun k hk=>(eL (fA p) s k hk).1;generalize cP p i s=res at hF⊢;generalize fA p=G at *;obtain⟨vs,aa,fs⟩:=p;simp only[Pg.av,Pg.row]at hglob⊢;simp only at gv ga gf hgi hgl hGd hi;have hrow:=kK hgi;refine bI 58 [.tmp 6, .tmp 7] Tryz.func75 rfl rfl rfl rfl ?_;refine bQ (fun fr H=> ∃b,fr 1= .int .i64 i∧fr 2= .str s∧fr 3= .ptr 3 b 0 0∧H b=some (.rows 3 [[.isl 1 (vs.map bK), .isl 2 (aa.map Ar.row), .isl 5 (fs.map Fu.row)]])) (fun K z=>?_) ?_
 ·refine aA rfl ?_;simp only[RR,seval]
  refine aP fun b hb=>?_;simp only[RR,seval];exact z _ _ ⟨b,rfl,rfl,rfl,bO _ _ _⟩
 rintro fr H ⟨b,f1,f2,f3,hb⟩;have e1:decide ((i:Int)<fs.length)=true:=bG (by omega);refine bQ (fun fr H=>res=jY ⟨vs,aa,fs⟩ s∧fr 2= .str s∧fr 3= .ptr 3 b 0 0∧H b=some (.rows 3 [[.isl 1 (vs.map bK), .isl 2 (aa.map Ar.row), .isl 5 (fs.map Fu.row)]])) (fun K z=>?_) ?_
 ·refine aB fun K z=>?_;refine aA rfl ?_;simp only[RR,seval]
  simp only[f1,f3,hb,aD,e1,RR,seval];apply z;clear z;refine aH true rfl (fun _=>?_) (fun hc=>by cases hc);refine aB fun K z=>?_;refine aA rfl ?_;simp only[RR,seval];simp only[f1,f3,hb,hrow,RR,seval];refine aN hnm ?_;simp only[RR,seval];simp only[f2,seval];refine aN hpl ?_;simp only[RR,seval];apply z;clear z
  cases hpn:bY (dX g) s with
  |some k=>
   rw[hpn]at hF;refine aB fun K z=>?_;refine aA rfl ?_;simp only[RR,seval];simp only[gG,RR,seval];apply z;clear z;refine aH true rfl (fun _=>?_) (fun hc=>by cases hc)
   repeat' (first|(refine aB fun K z=>?_;refine aA rfl ?_;simp only[RR,seval];apply z;clear z)|(refine aI ?_)|(refine aM ?_)|(refine aH true rfl (fun _=>?_) (fun hc=>by cases hc))|(refine aH false rfl (fun hc=>by cases hc) (fun _=>?_))|(refine aK ?_;simp only[aT,aX])|(refine bF ?_;simp only[aT,aX,reduceIte,Nat.reduceEqDiff])|(refine aA rfl ?_;simp only[hpn,gG,aT,aX,RR,seval])|(refine aR (fun h=>?_) (fun h=>?_)<;>simp only[h,hpn,gG,aT,aX,RR,seval])|(refine aV (fun h=>?_) (fun h=>?_)<;>simp only[h,hpn,gG,aT,aX,RR,seval])|(refine aH _ rfl (fun h=>?_) (fun h=>?_))|(refine aO ?_;simp only[aT,bB,aL,bH,RR,seval];refine aZ.pure ?_))
   rw[hF]
  |none=>
   rw[hpn]at hF;refine aB fun K z=>?_;refine aA rfl ?_;simp only[RR,seval];simp only[gG,RR,seval];apply z;clear z;refine aH false rfl (fun hc=>by cases hc) (fun _=>?_);refine aK ?_;simp only[aT];exact z _ _ ⟨hF,f2,f3,hb⟩
 rintro fr H ⟨hres,f2,f3,hb⟩;rw[hGd]at hres;refine aB fun K z=>?_;refine aA rfl ?_;simp only[RR,seval];simp only[f3,hb,RR,seval];refine aN hglob ?_;simp only[RR,seval];simp only[f2,seval];refine aN hplace ?_;simp only[RR,seval];apply z;clear z
 cases hpn:bY G s with
 |none=>
  rw[hpn]at hres
  repeat' (first|(refine aB fun K z=>?_;refine aA rfl ?_;simp only[gG,RR,seval];apply z;clear z)|(refine aI ?_)|(refine aM ?_)|(refine aH true rfl (fun _=>?_) (fun hc=>by cases hc))|(refine aH false rfl (fun hc=>by cases hc) (fun _=>?_))|(refine aK ?_;simp only[aT,aX])|(refine bF ?_;simp only[aT,aX,reduceIte,Nat.reduceEqDiff])|(refine aA rfl ?_;simp only[hpn,gG,aT,aX,RR,seval])|(refine aR (fun h=>?_) (fun h=>?_)<;>simp only[h,hpn,gG,aT,aX,RR,seval])|(refine aV (fun h=>?_) (fun h=>?_)<;>simp only[h,hpn,gG,aT,aX,RR,seval])|(refine aH _ rfl (fun h=>?_) (fun h=>?_))|(refine aO ?_;simp only[aT,bB,aL,bH,RR,seval];refine aZ.pure ?_))
  rw[hres]
 |some k=>
  rw[hpn]at hres;simp only at hres;have hk:=hlen k hpn;have w1:IntKind.wrap .i64 ((k:Int)-vs.length)=(k:Int)-vs.length:=aQ _ (by omega);have w2:IntKind.wrap .i64 ((k:Int)-vs.length-aa.length)=(k:Int)-vs.length-aa.length:=aQ _ (by omega);have d0:decide ((k:Int)<0)=false:=aU (by omega);by_cases c1:k<vs.length
  ·have d1:decide ((k:Int)<vs.length)=true:=bG (by omega)
   repeat' (first|(refine aB fun K z=>?_;refine aA rfl ?_;simp only[gG,f3,hb,d0,d1,aD,RR,seval];apply z;clear z)|(refine aI ?_)|(refine aM ?_)|(refine aH true rfl (fun _=>?_) (fun hc=>by cases hc))|(refine aH false rfl (fun hc=>by cases hc) (fun _=>?_))|(refine aK ?_;simp only[aT])|(refine bF ?_;simp only[aT,aX,reduceIte,Nat.reduceEqDiff])|(refine aA rfl ?_;simp only[hpn,gG,f3,hb,d0,d1,aD,aT,aX,RR,seval])|(refine aR (fun h=>?_) (fun h=>?_)<;>simp only[h,hpn,gG,f3,hb,d0,d1,aD,aT,aX,RR,seval])|(refine aV (fun h=>?_) (fun h=>?_)<;>simp only[h,hpn,gG,f3,hb,d0,d1,aD,aT,aX,RR,seval])|(refine aH _ rfl (fun h=>?_) (fun h=>?_))|(refine aO ?_;simp only[aT,bB,aL,bH,RR,seval];refine aZ.pure ?_))
   rw[hres,if_pos c1]
  have d1:decide ((k:Int)<vs.length)=false:=aU (by omega);by_cases c2:k-vs.length<aa.length
  ·have d2:decide ((k:Int)-vs.length<aa.length)=true:=bG (by omega)
   repeat' (first|(refine aB fun K z=>?_;refine aA rfl ?_;simp only[gG,f3,hb,d0,d1,d2,w1,aD,RR,seval];apply z;clear z)|(refine aI ?_)|(refine aM ?_)|(refine aH true rfl (fun _=>?_) (fun hc=>by cases hc))|(refine aH false rfl (fun hc=>by cases hc) (fun _=>?_))|(refine aK ?_;simp only[aT])|(refine bF ?_;simp only[aT,aX,reduceIte,Nat.reduceEqDiff])|(refine aA rfl ?_;simp only[hpn,gG,f3,hb,d0,d1,d2,w1,aD,aT,aX,RR,seval])|(refine aR (fun h=>?_) (fun h=>?_)<;>simp only[h,hpn,gG,f3,hb,d0,d1,d2,w1,aD,aT,aX,RR,seval])|(refine aV (fun h=>?_) (fun h=>?_)<;>simp only[h,hpn,gG,f3,hb,d0,d1,d2,w1,aD,aT,aX,RR,seval])|(refine aH _ rfl (fun h=>?_) (fun h=>?_))|(refine aO ?_;simp only[aT,bB,aL,bH,RR,seval];refine aZ.pure ?_))
   rw[hres,if_neg c1,if_pos c2];simp only;rw[show((k-vs.length:Nat):Int)=(k:Int)-vs.length by omega]
  have d2:decide ((k:Int)-vs.length<aa.length)=false:=aU (by omega);refine aI ?_;refine aB fun K z=>?_;refine aA rfl ?_;simp only[RR,seval];simp only[gG,seval];apply z;clear z;refine aH false rfl (fun hc=>by cases hc) (fun _=>?_);refine aK ?_;simp only[aT];refine aI ?_;refine aB fun K z=>?_;refine aA rfl ?_;simp only[RR,seval];simp only[f3,hb,aD,d1,RR,seval];apply z;clear z;refine aH false rfl (fun hc=>by cases hc) (fun _=>?_);refine aK ?_;simp only[aT];refine aB fun K z=>?_;refine aA rfl ?_;simp only[RR,seval];simp only[f3,hb,aD,w1,RR,seval];apply z;clear z;refine aI ?_;refine aB fun K z=>?_;refine aA rfl ?_;simp only[RR,seval];simp only[f3,hb,aD,d2,RR,seval];apply z;clear z;refine aH false rfl (fun hc=>by cases hc) (fun _=>?_);refine aK ?_;simp only[aT];refine aB fun K z=>?_;refine eB (fun x=>x≠b) [(0,true),(1,true),(2,true),(3,true),(4,true),(5,true),(6,true)] dG (by kernel_rfl) rfl ?_;simp only[oX,f3,hb,aD,w2,RR,seval];apply z;clear z;refine aO ?_;simp only[bB,aL,bH,RR,seval];refine aZ.pure ?_;rw[hres,if_neg c1,if_neg c2];simp only;rw[show((k-vs.length-aa.length:Nat):Int)=(k:Int)-vs.length-aa.length by omega]
theorem wQ (l:List dD) (hl:cI l):cJ cK 71 [.isl 1 (l.map bK)] (.bool (decide l.Nodup)):=by
 have hfit:l.length≤9223372036854775807:=hl;refine bI 18 [.tmp 2] Tryz.func71 rfl rfl rfl rfl ?_;refine aB fun K z=>?_;refine aA rfl ?_;simp only[RR,seval];apply z;clear z;refine bQ (fun fr H=>l.Nodup) (fun K z=>?_) ?_
 ·refine aB fun K z=>?_;refine aA rfl ?_;simp only[RR,seval]
  apply z;clear z;refine aM ?_;refine cR (fun mm fr H=> ∃k:Nat,mm=l.length-k∧k≤l.length∧fr 3= .int .i64 k∧fr 0= .isl 1 (l.map bK)∧(∀i (h:i<l.length),i<k→bY l l[i]=some i)) (l.length) ⟨0,rfl,Nat.zero_le _,rfl,rfl,fun i _ h=>by omega⟩ ?_;rintro mm fr H ⟨k,rfl,hkk,hik,h0,hall⟩ K2 hK2;refine aI ?_;refine aB fun K z=>?_;refine aA rfl ?_;simp only[RR,seval];simp only[hik,h0,aD,RR,seval];apply z;clear z;refine aH _ rfl (fun hc=>?_) (fun hc=>?_)
  ·have hltk:k<l.length:=by have:=aC hc;omega
   clear hc;refine aK ?_;simp only[aT];refine aI ?_;refine aM ?_;have hg:=yE (aG hltk);have hcon:=uD l l[k] hl;refine aB fun K z=>?_;refine aA rfl ?_;simp only[RR,seval];simp only[h0,hik,hg,RR,seval];refine aN hcon ?_;simp only[RR,seval];simp only[hik,RR,seval];apply z;clear z;by_cases hpk:bY l l[k]=some k
   ·refine aH false (by rw[hpk];simp [upd,ev,gG]) (fun hc=>by cases hc) (fun _=>?_)
    refine aK ?_;simp only[aT,aX];refine aA rfl ?_;simp only[RR,seval];simp only[hik,aT,RR,seval];rw[aQ _ (by omega)];refine hK2 (l.length-(k+1)) _ _ (by omega) ⟨k+1,rfl,by omega,rfl,h0,fun i h hi=>if e:i=k then by subst e;exact hpk else hall i h (by omega)⟩
   have hne: ¬gG (bY l l[k])=(k:Int):=fun e=>by
    cases hh:bY l l[k]with
    |none=>rw[hh]at e;simp only[gG]at e;omega
    |some j=>rw[hh]at e hpk;simp only[gG]at e;exact hpk (by congr 1;omega)
   refine aH true (by simp [upd,ev,hne]) (fun _=>?_) (fun hc=>by cases hc)
   repeat' (first|(refine aB fun K z=>?_;refine aA rfl ?_;simp only[RR,seval];apply z;clear z)|(refine aI ?_)|(refine aM ?_)|(refine aH true rfl (fun _=>?_) (fun hc=>by cases hc))|(refine aH false rfl (fun hc=>by cases hc) (fun _=>?_))|(refine aK ?_;simp only[aT,aX])|(refine bF ?_;simp only[aT,aX,reduceIte,Nat.reduceEqDiff])|(refine aA rfl ?_;simp only[h0,aT,aX,RR,seval])|(refine aR (fun h=>?_) (fun h=>?_)<;>simp only[h,h0,aT,aX,RR,seval])|(refine aV (fun h=>?_) (fun h=>?_)<;>simp only[h,h0,aT,aX,RR,seval])|(refine aH _ rfl (fun h=>?_) (fun h=>?_))|(refine aO ?_;simp only[aT,aX,bB,aL,bH,RR,seval];refine aZ.pure ?_))
   congr 1;symm;exact aU fun hnd=>hpk ((pI l).1 hnd k hltk)
  refine bF ?_;simp only[aT,aX,reduceIte];have hknk:k=l.length:=by have:=aF hc;omega
  clear hc;subst hknk;exact z _ _ ((pI l).2 fun i h=>hall i h h)
 rintro fr H h0;refine aB fun K z=>?_;refine aA rfl ?_;simp only[RR,seval];apply z;clear z;refine aO ?_;simp only[bB,aL,bH,RR,seval];refine aZ.pure ?_;congr 1;exact(bG h0).symm
end Go.Proofs.YtnfbbjhdflhmjaaGreatDoor
namespace Go.Al
theorem G9 {l:List Us} {i:Nat} {u:Us} (h:l[i]?=some u):(l.map Us.row)[i]?=some [.str u.name, .int .i64 u.kind, .int .i64 u.num]:=kB _ h
def kR (p:Pg) (i:Nat) (u:Us):Bool:= !decide (u.kind=4)||(match p.funs[(cP p i u.name).2.toNat]? with |some g=>decide ((g.params.length:Int)=u.num)|none=>false)
def eR (p:Pg):Nat→List Fu→Bool
 |_,[]=>true
 |i,f::l=>(dN f.body).all (kR p i)&&eR p (i+1) l
def Br:dD:=[109,97,105,110]
def xY (p:Pg):Bool:=match p.funs[p.funs.length- 1]? with |some g=>decide (g.name=Br)&&decide (g.params.length=0)&& !g.word|none=>false
def lV (p:Pg):Bool:=eR p 0 p.funs&&xY p
def gQ (p:Pg):Int:=if fI p then(if lV p then 0 else 1)else 4
theorem gU (p:Pg): ∀(l:List Fu) (i:Nat),eU p i l=true→ ∀(j:Nat) f,l[j]?=some f→(dX f).Nodup∧(dN f.body).all (fG p (i+j))=true
 |[],i,_,j,f,hf=>by simp at hf
 |g::l,i,h,j,f,hf=>by
  simp only[eU,aS,aW]at h
  cases j with
  |zero=>simp at hf;subst hf;exact h.1
  |succ j=>
   have:=gU p l (i+1) h.2 j f (by simpa using hf);rwa [show i+1+j=i+(j+1)by omega]at this
theorem yJ (p:Pg) (i:Nat) (s:dD) (h:(cP p i s).1=4):0≤(cP p i s).2∧(cP p i s).2<p.funs.length:=by
 unfold cP at *;split at h
 ·exact absurd h (by simp)
 rename_i hn;unfold jY at *;split at h
 ·exact absurd h (by decide)
 rename_i k hk;split at h
 ·exact absurd h (by simp)
 rename_i c1;split at h
 ·exact absurd h (by simp)
 rename_i c2;have:=(eL _ _ _ hk).1;rw[nG]at this;rw[if_neg c1,if_neg c2];simp only;omega
end Go.Al
namespace Go.Proofs.YtnfbbjhdflhmjaaGreatDoor
open Go.Al
set_option maxHeartbeats 4000000 in
theorem Gi (p:Pg) (hp:p.few):cJ cK 46 [p.av] (.bool (fI p)):=by
 have hok:=hp.ok;have ga:=hp.f;have hglob:=vZ p hp;have hun:=wQ (fA p) (by have:=hp.gl;simp only[cI];omega);have hfind:=fun i hi s=>zX p hp i hi s;have hbd:=fun i s=>Hd p i s (by have:=hp.gl;omega) (fun f hf=>by have:=hp.nl f hf;omega);have hN:fI p=(decide (fA p).Nodup&&eU p 0 p.funs):=rfl;have hok2: ∀(i:Nat) (u:Us),fG p i u= !((decide (u.kind=1)&& !decide ((cP p i u.name).1=1)&& !decide ((cP p i u.name).1=2))||(decide (u.kind=3)&& !decide ((cP p i u.name).1=3))||(decide (u.kind=4)&&(!decide ((cP p i u.name).1=4)||decide ((i:Int)≤(cP p i u.name).2)))):=fun _ _=>rfl;have hstep: ∀(i:Nat) (f:Fu) (l:List Fu),eU p i (f::l)=(decide (dX f).Nodup&&(dN f.body).all (fG p i)&&eU p (i+1) l):=fun _ _ _=>rfl;have hfs:=hp.fs;have hokf:=hok.funs;have hnil: ∀i:Nat,eU p i []=true:=fun _=>rfl;generalize cP p=FF at *;generalize eU p=NF at *;generalize fG p=OU at *;generalize fA p=G at *;generalize fI p=res at hN⊢;obtain⟨vs,aa,fs⟩:=p;simp only[Pg.av,Pg.row]at hglob hfind⊢;simp only at ga hfs hokf hN;refine bI 94 [.tmp 2] Tryz.func46 rfl rfl rfl rfl ?_;refine bQ (fun fr H=> ∃b,fr 1= .ptr 3 b 0 0∧H b=some (.rows 3 [[.isl 1 (vs.map bK), .isl 2 (aa.map Ar.row), .isl 5 (fs.map Fu.row)]])) (fun K z=>?_) ?_
 ·refine aA rfl ?_;simp only[RR,seval]
  refine aP fun b hb=>?_;simp only[RR,seval];exact z _ _ ⟨b,rfl,bO _ _ _⟩
 rintro fr H ⟨b,f1,hb⟩;refine aI ?_;refine aB fun K z=>?_;refine aA rfl ?_;simp only[RR,seval];simp only[f1,hb,RR,seval];refine aN hglob ?_;simp only[RR,seval];refine aN hun ?_;simp only[RR,seval];apply z;clear z;refine aH (!decide G.Nodup) rfl (fun hc=>?_) (fun hc=>?_)
 ·repeat' (first|(refine aB fun K z=>?_;refine aA rfl ?_;simp only[RR,seval];apply z;clear z)|(refine aI ?_)|(refine aM ?_)|(refine aH true rfl (fun _=>?_) (fun hc=>by cases hc))|(refine aH false rfl (fun hc=>by cases hc) (fun _=>?_))|(refine aK ?_;simp only[aT,aX])|(refine bF ?_;simp only[aT,aX,reduceIte,Nat.reduceEqDiff])|(refine aA rfl ?_;simp only[f1,aT,aX,RR,seval])|(refine aR (fun h=>?_) (fun h=>?_)<;>simp only[h,f1,aT,aX,RR,seval])|(refine aV (fun h=>?_) (fun h=>?_)<;>simp only[h,f1,aT,aX,RR,seval])|(refine aH _ rfl (fun h=>?_) (fun h=>?_))|(refine aO ?_;simp only[aT,bB,aL,bH,RR,seval];refine aZ.pure ?_))
  rw[hN,show decide G.Nodup=false by simpa using hc];rfl
 rw[show decide G.Nodup=true by simpa using hc,Bool.true_and]at hN;refine aK ?_;simp only[aT];refine bQ (fun fr H=>res=true) (fun K z=>?_) ?_
 ·refine aB fun K z=>?_;refine aA rfl ?_;simp only[RR,seval]
  apply z;clear z;refine aM ?_;refine cR (fun mm fr H=> ∃k:Nat,mm=fs.length-k∧k≤fs.length∧fr 3= .int .i64 k∧fr 1= .ptr 3 b 0 0∧H b=some (.rows 3 [[.isl 1 (vs.map bK), .isl 2 (aa.map Ar.row), .isl 5 (fs.map Fu.row)]])∧res=NF k (fs.drop k)) (fs.length) ⟨0,rfl,Nat.zero_le _,rfl,f1,hb,by rw[List.drop_zero];exact hN⟩ ?_;rintro mm fr H ⟨k,rfl,hkk,hik,f1,hb,hall⟩ K2 hK2;refine aI ?_;refine aB fun K z=>?_;refine aA rfl ?_;simp only[RR,seval];simp only[hik,f1,hb,aD,RR,seval];apply z;clear z;refine aH _ rfl (fun hc=>?_) (fun hc=>?_)
  ·have hltk:k<fs.length:=by have:=aC hc;omega
   clear hc;refine aK ?_;simp only[aT];refine aI ?_;refine aM ?_;have hg:=kK (aG hltk);have hfsk:=hfs _ (bA hltk);have hokk:=hokf _ (bA hltk);rw[bD hltk,hstep]at hall;generalize fs[k]=g at hg hfsk hokk hall;have hnm:=Da g (by omega) (by omega);have hun:=wQ (dX g) (by simp only[cI,dX,bP];omega);have hus:=Iv _ g.body rfl (by omega) hokk.body;have hul:=mP _ g.body rfl;refine aI ?_;refine aB fun K z=>?_;refine aA rfl ?_;simp only[RR,seval];simp only[f1,hb,hik,hg,RR,seval];refine aN hnm ?_;simp only[RR,seval];refine aN hun ?_;simp only[RR,seval];apply z;clear z;refine aH (!decide (dX g).Nodup) rfl (fun hc=>?_) (fun hc=>?_)
   ·repeat' (first|(refine aB fun K z=>?_;refine aA rfl ?_;simp only[RR,seval];apply z;clear z)|(refine aI ?_)|(refine aM ?_)|(refine aH true rfl (fun _=>?_) (fun hc=>by cases hc))|(refine aH false rfl (fun hc=>by cases hc) (fun _=>?_))|(refine aK ?_;simp only[aT,aX])|(refine bF ?_;simp only[aT,aX,reduceIte,Nat.reduceEqDiff])|(refine aA rfl ?_;simp only[f1,aT,aX,RR,seval])|(refine aR (fun h=>?_) (fun h=>?_)<;>simp only[h,f1,aT,aX,RR,seval])|(refine aV (fun h=>?_) (fun h=>?_)<;>simp only[h,f1,aT,aX,RR,seval])|(refine aH _ rfl (fun h=>?_) (fun h=>?_))|(refine aO ?_;simp only[aT,aX,bB,aL,bH,RR,seval];refine aZ.pure ?_))
    rw[hall,show decide (dX g).Nodup=false by simpa using hc];rfl
   rw[show decide (dX g).Nodup=true by simpa using hc,Bool.true_and]at hall;refine aK ?_;simp only[aT];refine aB fun K z=>?_;refine aA rfl ?_;simp only[RR,seval];simp only[f1,hb,hik,hg,RR,seval];refine aN hus ?_;simp only[RR,seval];apply z;clear z;generalize dN g.body=us at hall hul;refine aB fun K z=>?_;refine aA rfl ?_;simp only[RR,seval];apply z;clear z;refine aM ?_;refine cR (fun mm fr H=> ∃j:Nat,mm=us.length-j∧j≤us.length∧fr 5= .int .i64 j∧fr 1= .ptr 3 b 0 0∧H b=some (.rows 3 [[.isl 1 (vs.map bK), .isl 2 (aa.map Ar.row), .isl 5 (fs.map Fu.row)]])∧fr 3= .int .i64 k∧fr 4= .isl 3 (us.map Us.row)∧us.all (OU k)=(us.drop j).all (OU k)) (us.length) ⟨0,rfl,Nat.zero_le _,rfl,f1,hb,hik,rfl,by rw[List.drop_zero]⟩ ?_;rintro mm fr H ⟨j,rfl,hkj,hij,f1,hb,hik,f4,hua⟩ K3 hK3;refine aI ?_;refine aB fun K z=>?_;refine aA rfl ?_;simp only[RR,seval];simp only[hij,f4,aD,RR,seval];apply z;clear z;refine aH _ rfl (fun hc=>?_) (fun hc=>?_)
   ·have hltj:j<us.length:=by have:=aC hc;omega
    clear hc;refine aK ?_;simp only[aT];refine aI ?_;refine aM ?_;have hgu:=G9 (aG hltj);rw[bD hltj,List.all_cons]at hua;generalize us[j]=u at hgu hua;have hfn:=hfind k hltk u.name;have hbk:=hbd k u.name;have hou:=hok2 k u;generalize FF k u.name=r at hfn hbk hou;refine aB fun K z=>?_;refine eB (fun x=>x≠b) [(0,true),(1,true),(2,true),(3,true),(4,true),(5,true),(6,true),(7,true),(8,true),(9,true),(10,true),(11,true),(12,true)] dG (by kernel_rfl) rfl ?_;simp only[oX,f1,hb,hik,hij,f4,hgu,RR,seval];refine aN hfn ?_;simp only[RR,seval];apply z;clear z;refine bQ (fun fr H=>fr 93= .bool (!OU k u)∧fr 1= .ptr 3 b 0 0∧H b=some (.rows 3 [[.isl 1 (vs.map bK), .isl 2 (aa.map Ar.row), .isl 5 (fs.map Fu.row)]])∧fr 3= .int .i64 k∧fr 4= .isl 3 (us.map Us.row)∧fr 5= .int .i64 j) (fun K z=>?_) ?_
    ·refine aA rfl ?_;simp only[RR,seval]
     simp only[hij,f4,hgu,RR,seval]
     repeat' ((first|refine aR (fun h=>?_) (fun h=>?_)|refine aV (fun h=>?_) (fun h=>?_))<;>simp only[h,hik,hij,f4,hgu,RR,seval])
     all_goals
      refine z _ _ ⟨?_,f1,hb,hik,f4,hij⟩;clear z hK2 hK3;simp [upd,hou, *]
    rintro fr H ⟨f93,f1,hb,hik,f4,hij⟩;refine aH (!OU k u) f93 (fun hc=>?_) (fun hc=>?_)
    ·repeat' (first|(refine aB fun K z=>?_;refine aA rfl ?_;simp only[RR,seval];apply z;clear z)|(refine aI ?_)|(refine aM ?_)|(refine aH true rfl (fun _=>?_) (fun hc=>by cases hc))|(refine aH false rfl (fun hc=>by cases hc) (fun _=>?_))|(refine aK ?_;simp only[aT,aX])|(refine bF ?_;simp only[aT,aX,reduceIte,Nat.reduceEqDiff])|(refine aA rfl ?_;simp only[f1,aT,aX,RR,seval])|(refine aR (fun h=>?_) (fun h=>?_)<;>simp only[h,f1,aT,aX,RR,seval])|(refine aV (fun h=>?_) (fun h=>?_)<;>simp only[h,f1,aT,aX,RR,seval])|(refine aH _ rfl (fun h=>?_) (fun h=>?_))|(refine aO ?_;simp only[aT,aX,bB,aL,bH,RR,seval];refine aZ.pure ?_))
     rw[hall,hua,show OU k u=false by simpa using hc];rfl
    rw[show OU k u=true by simpa using hc,Bool.true_and]at hua;refine aK ?_;simp only[aT,aX];refine aA rfl ?_;simp only[RR,seval];simp only[hij,aT,RR,seval];rw[aQ _ (by omega)];refine hK3 (us.length-(j+1)) _ _ (by omega) ⟨j+1,rfl,by omega,rfl,f1,hb,hik,f4,hua⟩
   refine bF ?_;simp only[aT,aX,reduceIte,Nat.reduceEqDiff];have hknj:j=us.length:=by have:=aF hc;omega
   clear hc;subst hknj;rw[List.drop_length]at hua;rw[hua,List.all_nil,Bool.true_and]at hall
   try simp only[aT,aX]
   refine aA rfl ?_;simp only[RR,seval];simp only[hik,aT,RR,seval];rw[aQ _ (by omega)];refine hK2 (fs.length-(k+1)) _ _ (by omega) ⟨k+1,rfl,by omega,rfl,f1,hb,hall⟩
  refine bF ?_;simp only[aT,aX,reduceIte];have hknk:k=fs.length:=by have:=aF hc;omega
  clear hc;subst hknk;rw[List.drop_length,hnil]at hall;exact z _ _ hall
 rintro fr H h0
 repeat' (first|(refine aB fun K z=>?_;refine aA rfl ?_;simp only[h0,RR,seval];apply z;clear z)|(refine aI ?_)|(refine aM ?_)|(refine aH true rfl (fun _=>?_) (fun hc=>by cases hc))|(refine aH false rfl (fun hc=>by cases hc) (fun _=>?_))|(refine aK ?_;simp only[aT,aX])|(refine bF ?_;simp only[aT,aX,reduceIte,Nat.reduceEqDiff])|(refine aA rfl ?_;simp only[h0,aT,aX,RR,seval])|(refine aR (fun h=>?_) (fun h=>?_)<;>simp only[h,h0,aT,aX,RR,seval])|(refine aV (fun h=>?_) (fun h=>?_)<;>simp only[h,h0,aT,aX,RR,seval])|(refine aH _ rfl (fun h=>?_) (fun h=>?_))|(refine aO ?_;simp only[bB,aL,bH,h0,RR,seval];refine aZ.pure ?_))
 rfl
end Go.Proofs.YtnfbbjhdflhmjaaGreatDoor
namespace Go.Al
def Ds (n:Int):List AV:=[.int .i64 n]
def Mu (l:List Int):List AV:=[.isl 1 (l.map Ds)]
theorem S7 {l:List Int} {i:Nat} {n:Int} (h:l[i]?=some n):(l.map Ds)[i]?=some [.int .i64 n]:=kB _ h
theorem R2 {l:List (List Int)} {i:Nat} {n:List Int} (h:l[i]?=some n):(l.map Mu)[i]?=some [.isl 1 (n.map Ds)]:=kB _ h
end Go.Al
namespace Go.Proofs.YtnfbbjhdflhmjaaGreatDoor
open Go.Al
set_option maxHeartbeats 4000000 in
theorem Am (p:Pg) (hp:p.few) (hn:fI p=true) (h1:1≤p.funs.length):cJ cK 47 [p.av] (.bool (lV p)):=by
 have hok:=hp.ok;have ga:=hp.f;have hfind:=fun i hi s=>zX p hp i hi s;have hN:lV p=(eR p 0 p.funs&&xY p):=rfl;have hL:xY p=match p.funs[p.funs.length- 1]? with |some g=>decide (g.name=Br)&&decide (g.params.length=0)&& !g.word|none=>false:=rfl
 have hok2: ∀(i:Nat) (u:Us),kR p i u=(!decide (u.kind=4)||(match p.funs[(cP p i u.name).2.toNat]? with |some g=>decide ((g.params.length:Int)=u.num)|none=>false)):=fun _ _=>rfl;have hstep: ∀(i:Nat) (f:Fu) (l:List Fu),eR p i (f::l)=((dN f.body).all (kR p i)&&eR p (i+1) l):=fun _ _ _=>rfl;have hnil: ∀i:Nat,eR p i []=true:=fun _=>rfl
 have hcall: ∀(i:Nat) f,p.funs[i]?=some f→ ∀u∈dN f.body,u.kind=4→0≤(cP p i u.name).2∧(cP p i u.name).2<p.funs.length:=fun i f hf u hu hk=>by
  simp only[fI,aS]at hn;have h2:=(gU p p.funs 0 hn.2 i f hf).2;rw[List.all_eq_true,Nat.zero_add]at h2;have h3:=h2 u hu;refine yJ p i u.name ?_;simp only[fG,hk,decide_true,Bool.true_and]at h3;by_cases h4:(cP p i u.name).1=4
  ·exact h4
  simp [h4]at h3
 have hfs:=hp.fs;have hokf:=hok.funs;generalize xY p=LB at *;generalize eR p=NF at *;generalize kR p=OU at *;generalize cP p=FF at *;generalize lV p=res at hN⊢;obtain⟨vs,aa,fs⟩:=p;simp only[Pg.av,Pg.row]at hfind⊢;simp only at ga hfs hokf hN hcall hok2 hL h1;refine bI 81 [.tmp 2] Tryz.func47 rfl rfl rfl rfl ?_;refine bQ (fun fr H=> ∃b,fr 1= .ptr 3 b 0 0∧H b=some (.rows 3 [[.isl 1 (vs.map bK), .isl 2 (aa.map Ar.row), .isl 5 (fs.map Fu.row)]])) (fun K z=>?_) ?_
 ·refine aA rfl ?_;simp only[RR,seval]
  refine aP fun b hb=>?_;simp only[RR,seval];exact z _ _ ⟨b,rfl,bO _ _ _⟩
 rintro fr H ⟨b,f1,hb⟩;refine bQ (fun fr H=>res=LB∧fr 1= .ptr 3 b 0 0∧H b=some (.rows 3 [[.isl 1 (vs.map bK), .isl 2 (aa.map Ar.row), .isl 5 (fs.map Fu.row)]])) (fun K z=>?_) ?_
 ·refine aB fun K z=>?_;refine aA rfl ?_;simp only[RR,seval]
  apply z;clear z;refine aM ?_;refine cR (fun mm fr H=> ∃k:Nat,mm=fs.length-k∧k≤fs.length∧fr 3= .int .i64 k∧fr 1= .ptr 3 b 0 0∧H b=some (.rows 3 [[.isl 1 (vs.map bK), .isl 2 (aa.map Ar.row), .isl 5 (fs.map Fu.row)]])∧res=(NF k (fs.drop k)&&LB)) (fs.length) ⟨0,rfl,Nat.zero_le _,rfl,f1,hb,by rw[List.drop_zero];exact hN⟩ ?_;rintro mm fr H ⟨k,rfl,hkk,hik,f1,hb,hall⟩ K2 hK2;refine aI ?_;refine aB fun K z=>?_;refine aA rfl ?_;simp only[RR,seval];simp only[hik,f1,hb,aD,RR,seval];apply z;clear z;refine aH _ rfl (fun hc=>?_) (fun hc=>?_)
  ·have hltk:k<fs.length:=by have:=aC hc;omega
   clear hc;refine aK ?_;simp only[aT];refine aI ?_;refine aM ?_;have hg0:=aG hltk;have hg:=kK hg0;have hfsk:=hfs _ (bA hltk);have hokk:=hokf _ (bA hltk);have hck:=hcall k _ hg0;rw[bD hltk,hstep]at hall;generalize fs[k]=g at hg hfsk hokk hall hck;have hus:=Iv _ g.body rfl (by omega) hokk.body;have hul:=mP _ g.body rfl;refine aB fun K z=>?_;refine aA rfl ?_;simp only[RR,seval];simp only[f1,hb,hik,hg,RR,seval];refine aN hus ?_;simp only[RR,seval];apply z;clear z;generalize dN g.body=us at hall hul hck;refine aB fun K z=>?_;refine aA rfl ?_;simp only[RR,seval];apply z;clear z;refine aM ?_;refine cR (fun mm fr H=> ∃j:Nat,mm=us.length-j∧j≤us.length∧fr 5= .int .i64 j∧fr 1= .ptr 3 b 0 0∧H b=some (.rows 3 [[.isl 1 (vs.map bK), .isl 2 (aa.map Ar.row), .isl 5 (fs.map Fu.row)]])∧fr 3= .int .i64 k∧fr 4= .isl 3 (us.map Us.row)∧us.all (OU k)=(us.drop j).all (OU k)) (us.length) ⟨0,rfl,Nat.zero_le _,rfl,f1,hb,hik,rfl,by rw[List.drop_zero]⟩ ?_;rintro mm fr H ⟨j,rfl,hkj,hij,f1,hb,hik,f4,hua⟩ K3 hK3;refine aI ?_;refine aB fun K z=>?_;refine aA rfl ?_;simp only[RR,seval];simp only[hij,f4,aD,RR,seval];apply z;clear z;refine aH _ rfl (fun hc=>?_) (fun hc=>?_)
   ·have hltj:j<us.length:=by have:=aC hc;omega
    clear hc;refine aK ?_;simp only[aT];refine aI ?_;refine aM ?_;have hgu:=G9 (aG hltj);have hcu:=hck _ (bA hltj);rw[bD hltj,List.all_cons]at hua;generalize us[j]=u at hgu hua hcu;have hou:=hok2 k u;by_cases hk4:u.kind=4
    ·have hfn:=hfind k hltk u.name
     obtain⟨c1,c2⟩:=hcu hk4;generalize FF k u.name=r at hfn hou c1 c2;obtain⟨n,hn2⟩:=Int.eq_ofNat_of_zero_le c1;have hnl:n<fs.length:=by omega
     have hgn:=kK (aG hnl);rw[hn2,Int.toNat_natCast,aG hnl,hk4]at hou;simp only[decide_true,Bool.not_true,Bool.false_or]at hou;generalize fs[n]=gn at hgn hou;have k4:decide (u.kind=4)=true:=bG hk4;refine aI ?_;refine aB fun K z=>?_;refine aA rfl ?_;simp only[RR,seval];simp only[hij,f4,hgu,k4,RR,seval];apply z;clear z;refine aH false rfl (fun hc=>by cases hc) (fun _=>?_);refine aK ?_;simp only[aT];refine aB fun K z=>?_;refine eB (fun x=>x≠b) [(0,true),(1,true),(2,true),(3,true),(4,true),(5,true),(6,true),(7,true),(8,true),(9,true),(10,true),(11,true),(12,true)] dG (by kernel_rfl) rfl ?_;simp only[oX,f1,hb,hik,hij,f4,hgu,RR,seval];refine aN hfn ?_;simp only[hn2,RR,seval];apply z;clear z;refine aB fun K z=>?_;refine eB (fun x=>x≠b) [(0,true),(1,true),(2,true),(3,true),(4,true),(5,true),(6,true),(7,true),(8,true),(9,true),(10,true),(11,true),(12,true)] dG (by kernel_rfl) rfl ?_;simp only[oX,f1,hb,hij,f4,hgu,hgn,aD,RR,seval];apply z;clear z;refine aH (!decide ((gn.params.length:Int)=u.num)) rfl (fun hc=>?_) (fun hc=>?_)
     ·repeat' (first|(refine aB fun K z=>?_;refine aA rfl ?_;simp only[RR,seval];apply z;clear z)|(refine aI ?_)|(refine aM ?_)|(refine aH true rfl (fun _=>?_) (fun hc=>by cases hc))|(refine aH false rfl (fun hc=>by cases hc) (fun _=>?_))|(refine aK ?_;simp only[aT,aX])|(refine bF ?_;simp only[aT,aX,reduceIte,Nat.reduceEqDiff])|(refine aA rfl ?_;simp only[f1,aT,aX,RR,seval])|(refine aR (fun h=>?_) (fun h=>?_)<;>simp only[h,f1,aT,aX,RR,seval])|(refine aV (fun h=>?_) (fun h=>?_)<;>simp only[h,f1,aT,aX,RR,seval])|(refine aH _ rfl (fun h=>?_) (fun h=>?_))|(refine aO ?_;simp only[aT,aX,bB,aL,bH,RR,seval];refine aZ.pure ?_))
      rw[hall,hua,hou,show decide ((gn.params.length:Int)=u.num)=false by simpa using hc];rfl
     rw[hou,show decide ((gn.params.length:Int)=u.num)=true by simpa using hc,Bool.true_and]at hua;refine aK ?_;simp only[aT,aX];refine aA rfl ?_;simp only[RR,seval];simp only[hij,aT,RR,seval];rw[aQ _ (by omega)];refine hK3 (us.length-(j+1)) _ _ (by omega) ⟨j+1,rfl,by omega,rfl,f1,hb,hik,f4,hua⟩
    have k4:decide (u.kind=4)=false:=aU hk4;rw[k4]at hou;simp only[Bool.not_false,Bool.true_or]at hou;rw[hou,Bool.true_and]at hua;refine aI ?_;refine aB fun K z=>?_;refine aA rfl ?_;simp only[RR,seval];simp only[hij,f4,hgu,k4,RR,seval];apply z;clear z;refine aH true rfl (fun _=>?_) (fun hc=>by cases hc);refine bF ?_;simp only[aT,aX,reduceIte,Nat.reduceEqDiff];refine aA rfl ?_;simp only[RR,seval];simp only[hij,aT,RR,seval];rw[aQ _ (by omega)];refine hK3 (us.length-(j+1)) _ _ (by omega) ⟨j+1,rfl,by omega,rfl,f1,hb,hik,f4,hua⟩
   refine bF ?_;simp only[aT,aX,reduceIte,Nat.reduceEqDiff];have hknj:j=us.length:=by have:=aF hc;omega
   clear hc;subst hknj;rw[List.drop_length]at hua;rw[hua,List.all_nil,Bool.true_and]at hall
   try simp only[aT,aX]
   refine aA rfl ?_;simp only[RR,seval];simp only[hik,aT,RR,seval];rw[aQ _ (by omega)];refine hK2 (fs.length-(k+1)) _ _ (by omega) ⟨k+1,rfl,by omega,rfl,f1,hb,hall⟩
  refine bF ?_;simp only[aT,aX,reduceIte];have hknk:k=fs.length:=by have:=aF hc;omega
  clear hc;subst hknk;rw[List.drop_length,hnil,Bool.true_and]at hall;exact z _ _ ⟨hall,f1,hb⟩
 rintro fr H ⟨hres,f1,hb⟩;have hlt:fs.length- 1<fs.length:=by omega
 have hg:=kK (aG hlt);rw[aG hlt]at hL;generalize fs[fs.length- 1]=g at hg hL;have w1:IntKind.wrap .i64 ((fs.length:Int)- 1)=((fs.length- 1:Nat):Int):=by rw[aQ _ (by omega)];omega
 have d1:decide ((g.params.length:Int)=0)=decide (g.params.length=0):=by rw[Bool.eq_iff_iff];simp only[aW];omega
 refine aB fun K z=>?_;refine aA rfl ?_;simp only[RR,seval];simp only[f1,hb,w1,hg,aD,RR,seval];refine aP fun b1 hb1=>?_;simp only[RR,seval];apply z;clear z;have hH1:(upd (upd H b1 (some (.rows 5 [[.str [], .nsl, .nsl, .bool false, .nsl]]))) b1 (some (.rows 5 [[.str g.name, .isl 1 (g.params.map bK), .isl 1 (g.locs.map bK), .bool g.word, .isl 5 (g.body.map Sm.row)]]))) b1=some (.rows 5 [[.str g.name, .isl 1 (g.params.map bK), .isl 1 (g.locs.map bK), .bool g.word, .isl 5 (g.body.map Sm.row)]]):=bO _ _ _;generalize(upd (upd H b1 (some (.rows 5 [[.str [], .nsl, .nsl, .bool false, .nsl]]))) b1 (some (.rows 5 [[.str g.name, .isl 1 (g.params.map bK), .isl 1 (g.locs.map bK), .bool g.word, .isl 5 (g.body.map Sm.row)]])))=H1 at hH1⊢;simp only at hL;subst hres;rw[hL]
 cases e1:decide (g.name=Br)with
 |false=>
  have e1':decide (g.name=[109,97,105,110])=false:=e1
  repeat' (first|(refine aB fun K z=>?_;refine aA rfl ?_;simp only[hH1,e1',RR,seval];apply z;clear z)|(refine aI ?_)|(refine aM ?_)|(refine aH true rfl (fun _=>?_) (fun hc=>by cases hc))|(refine aH false rfl (fun hc=>by cases hc) (fun _=>?_))|(refine aK ?_;simp only[aT,aX])|(refine bF ?_;simp only[aT,aX,reduceIte,Nat.reduceEqDiff])|(refine aA rfl ?_;simp only[hH1,e1',d1,aD,aT,aX,RR,seval])|(refine aR (fun h=>?_) (fun h=>?_)<;>simp only[h,hH1,e1',d1,aD,aT,aX,RR,seval])|(refine aV (fun h=>?_) (fun h=>?_)<;>simp only[h,hH1,e1',d1,aD,aT,aX,RR,seval])|(refine aH _ rfl (fun h=>?_) (fun h=>?_))|(refine aO ?_;simp only[bB,aL,bH,RR,seval];refine aZ.pure ?_))
  rfl
 |true=>
  have e1':decide (g.name=[109,97,105,110])=true:=e1
  cases e2:decide (g.params.length=0)with
  |false=>
   rw[e2]at d1
   repeat' (first|(refine aB fun K z=>?_;refine aA rfl ?_;simp only[hH1,e1',d1,aD,RR,seval];apply z;clear z)|(refine aI ?_)|(refine aM ?_)|(refine aH true rfl (fun _=>?_) (fun hc=>by cases hc))|(refine aH false rfl (fun hc=>by cases hc) (fun _=>?_))|(refine aK ?_;simp only[aT,aX])|(refine bF ?_;simp only[aT,aX,reduceIte,Nat.reduceEqDiff])|(refine aA rfl ?_;simp only[hH1,e1',d1,aD,aT,aX,RR,seval])|(refine aR (fun h=>?_) (fun h=>?_)<;>simp only[h,hH1,e1',d1,aD,aT,aX,RR,seval])|(refine aV (fun h=>?_) (fun h=>?_)<;>simp only[h,hH1,e1',d1,aD,aT,aX,RR,seval])|(refine aH _ rfl (fun h=>?_) (fun h=>?_))|(refine aO ?_;simp only[bB,aL,bH,RR,seval];refine aZ.pure ?_))
   rfl
  |true=>
   rw[e2]at d1
   repeat' (first|(refine aB fun K z=>?_;refine aA rfl ?_;simp only[hH1,e1',d1,aD,RR,seval];apply z;clear z)|(refine aI ?_)|(refine aM ?_)|(refine aH true rfl (fun _=>?_) (fun hc=>by cases hc))|(refine aH false rfl (fun hc=>by cases hc) (fun _=>?_))|(refine aK ?_;simp only[aT,aX])|(refine bF ?_;simp only[aT,aX,reduceIte,Nat.reduceEqDiff])|(refine aA rfl ?_;simp only[hH1,e1',d1,aD,aT,aX,RR,seval])|(refine aR (fun h=>?_) (fun h=>?_)<;>simp only[h,hH1,e1',d1,aD,aT,aX,RR,seval])|(refine aV (fun h=>?_) (fun h=>?_)<;>simp only[h,hH1,e1',d1,aD,aT,aX,RR,seval])|(refine aH _ rfl (fun h=>?_) (fun h=>?_))|(refine aO ?_;simp only[bB,aL,bH,RR,seval];refine aZ.pure ?_))
   rfl
theorem Jq (p:Pg) (hp:p.few) (h1:1≤p.funs.length):cJ cK 24 [p.av] (.int .i64 (gQ p)):=by
 have hnames:=Gi p hp;have hnums:=fun h=>Am p hp h h1;have hC:gQ p=if fI p then(if lV p then 0 else 1)else 4:=rfl
 simp only[Pg.av,Pg.row]at hnames hnums⊢;generalize gQ p=res at *;refine bI 9 [.tmp 2] Tryz.func24 rfl rfl rfl rfl ?_;refine bQ (fun fr H=> ∃b,fr 1= .ptr 3 b 0 0∧H b=some (.rows 3 [[.isl 1 (p.vars.map bK), .isl 2 (p.arrs.map Ar.row), .isl 5 (p.funs.map Fu.row)]])) (fun K z=>?_) ?_
 ·refine aA rfl ?_;simp only[RR,seval]
  refine aP fun b hb=>?_;simp only[RR,seval];exact z _ _ ⟨b,rfl,bO _ _ _⟩
 rintro fr H ⟨b,f1,hb⟩;refine aI ?_;refine aB fun K z=>?_;refine aA rfl ?_;simp only[RR,seval];simp only[f1,hb,RR,seval];refine aN hnames ?_;simp only[RR,seval];apply z;clear z
 cases hn:fI p with
 |false=>
  rw[hn]at hC
  repeat' (first|(refine aB fun K z=>?_;refine aA rfl ?_;simp only[RR,seval];apply z;clear z)|(refine aI ?_)|(refine aM ?_)|(refine aH true rfl (fun _=>?_) (fun hc=>by cases hc))|(refine aH false rfl (fun hc=>by cases hc) (fun _=>?_))|(refine aK ?_;simp only[aT,aX])|(refine bF ?_;simp only[aT,aX,reduceIte,Nat.reduceEqDiff])|(refine aA rfl ?_;simp only[hn,aT,aX,RR,seval])|(refine aR (fun h=>?_) (fun h=>?_)<;>simp only[h,hn,aT,aX,RR,seval])|(refine aV (fun h=>?_) (fun h=>?_)<;>simp only[h,hn,aT,aX,RR,seval])|(refine aH _ rfl (fun h=>?_) (fun h=>?_))|(refine aO ?_;simp only[aT,bB,aL,bH,RR,seval];refine aZ.pure ?_))
  rw[hC];rfl
 |true=>
  rw[hn]at hC;refine aH false (by simp [upd,ev]) (fun hc=>by cases hc) (fun _=>?_);refine aK ?_;simp only[aT];refine aI ?_;refine aB fun K z=>?_;refine aA rfl ?_;simp only[RR,seval];simp only[f1,hb,RR,seval];refine aN (hnums hn) ?_;simp only[RR,seval];apply z;clear z
  cases hm:lV p with
  |false=>
   rw[hm]at hC
   repeat' (first|(refine aB fun K z=>?_;refine aA rfl ?_;simp only[RR,seval];apply z;clear z)|(refine aI ?_)|(refine aM ?_)|(refine aH true rfl (fun _=>?_) (fun hc=>by cases hc))|(refine aH false rfl (fun hc=>by cases hc) (fun _=>?_))|(refine aK ?_;simp only[aT,aX])|(refine bF ?_;simp only[aT,aX,reduceIte,Nat.reduceEqDiff])|(refine aA rfl ?_;simp only[hm,aT,aX,RR,seval])|(refine aR (fun h=>?_) (fun h=>?_)<;>simp only[h,hm,aT,aX,RR,seval])|(refine aV (fun h=>?_) (fun h=>?_)<;>simp only[h,hm,aT,aX,RR,seval])|(refine aH _ rfl (fun h=>?_) (fun h=>?_))|(refine aO ?_;simp only[aT,bB,aL,bH,RR,seval];refine aZ.pure ?_))
   rw[hC];rfl
  |true=>
   rw[hm]at hC
   repeat' (first|(refine aB fun K z=>?_;refine aA rfl ?_;simp only[RR,seval];apply z;clear z)|(refine aI ?_)|(refine aM ?_)|(refine aH true rfl (fun _=>?_) (fun hc=>by cases hc))|(refine aH false rfl (fun hc=>by cases hc) (fun _=>?_))|(refine aK ?_;simp only[aT])|(refine bF ?_;simp only[aT,aX,reduceIte,Nat.reduceEqDiff])|(refine aA rfl ?_;simp only[hm,aT,aX,RR,seval])|(refine aR (fun h=>?_) (fun h=>?_)<;>simp only[h,hm,aT,aX,RR,seval])|(refine aV (fun h=>?_) (fun h=>?_)<;>simp only[h,hm,aT,aX,RR,seval])|(refine aH _ rfl (fun h=>?_) (fun h=>?_))|(refine aO ?_;simp only[bB,aL,bH,RR,seval];refine aZ.pure ?_))
   rw[hC];rfl
end Go.Proofs.YtnfbbjhdflhmjaaGreatDoor
namespace Go.Al
def Zg (p:Pg) (i n:Nat) (u:Us):Bool:=decide (u.kind=4)&&decide ((cP p i u.name).1=4)&&decide ((cP p i u.name).2=n)
def Hu (p:Pg) (i:Nat) (f:Fu):List Int:=((List.range p.funs.length).filter fun n=>(dN f.body).any (Zg p i n)).map fun(n:Nat)=>(n:Int)
def iK (p:Pg):Nat→List Fu→List (List Int)
 |_,[]=>[]
 |i,f::l=>Hu p i f::iK p (i+1) l
def Q1 (p:Pg):List (List Int):=iK p 0 p.funs
theorem Aq (p:Pg): ∀(l:List Fu) (i:Nat),(iK p i l).length=l.length
 |[],_=>rfl
 |f::l,i=>by simp [iK,Aq p l (i+1)]
theorem yR (p:Pg): ∀(l:List Fu) (i k:Nat) (h:k<l.length),iK p i (l.take (k+1))=iK p i (l.take k)++[Hu p (i+k) l[k]]
 |f::l,i,0,_=>by simp [iK]
 |f::l,i,k+1,h=>by
  have:=yR p l (i+1) k (by simpa using h);rw[List.take_succ_cons,List.take_succ_cons,iK,this,iK];simp only[List.cons_append,List.getElem_cons_succ];rw[show i+1+k=i+(k+1)by omega]
def O5 (b:Bool):List AV:=[.bool b]
def jZ (N:Nat) (q:Nat→Us→Bool) (us:List Us):List Bool:=(List.range N).map fun n=>us.any (q n)
theorem Yw (N:Nat) (q:Nat→Us→Bool):jZ N q []=List.replicate N false:=by
 apply List.ext_getElem
 ·simp [jZ]
 intro i h1 h2;simp [jZ]
theorem Xw (N:Nat) (q:Nat→Us→Bool) (us:List Us) (u:Us) (h: ∀n,n<N→q n u=false):jZ N q (us++[u])=jZ N q us:=by
 apply List.ext_getElem
 ·simp [jZ]
 intro i h1 h2;have :i<N:=by simpa [jZ]using h1
 simp [jZ,h i this]
theorem Yv (N:Nat) (q:Nat→Us→Bool) (us:List Us) (u:Us) (m:Nat) (hm:m<N) (h: ∀n,n<N→q n u=decide (n=m)):jZ N q (us++[u])=(jZ N q us).set m true:=by
 apply List.ext_getElem
 ·simp [jZ]
 intro i h1 h2;have hi:i<N:=by simpa [jZ]using h1
 simp only[jZ,List.getElem_map,List.getElem_range,List.any_append,List.any_cons,List.any_nil,Bool.or_false,h i hi,List.getElem_set];by_cases e:i=m
 ·subst e;simp
 have e': ¬m=i:=fun x=>e x.symm;simp [e,e']
theorem S5 (l:List Int):(l.map Ds).all (fun r=>r.all one)=true:=by
 rw[List.all_eq_true];intro r hr;obtain⟨t,_,rfl⟩:=List.mem_map.1 hr;rfl
theorem Q8 (l:List (List Int)):(l.map Mu).all (fun r=>r.all one)=true:=by
 rw[List.all_eq_true];intro r hr;obtain⟨t,_,rfl⟩:=List.mem_map.1 hr;rfl
end Go.Al
namespace Go.Proofs.YtnfbbjhdflhmjaaGreatDoor
open Go.Al
end Go.Proofs.YtnfbbjhdflhmjaaGreatDoor
namespace Go.Proofs.YtnfbbjhdflhmjaaGreatDoor
open Go.Al
end Go.Proofs.YtnfbbjhdflhmjaaGreatDoor
