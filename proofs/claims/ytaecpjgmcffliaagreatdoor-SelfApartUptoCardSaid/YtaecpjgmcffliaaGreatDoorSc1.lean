/- Chapter 16, the judge's: names and uses. Chapter 16, the judge's: what a name is; are names right? Chapter 16, the judge's: are names right, are numbers? Chapter 16, the judge's: are numbers right? Check; comparing lists of lists. Chapter 16, the judge's: lists of lists compared; the calls of each function. Chapter 16, the judge's: the calls of each function. -/
import Derived.Test.YtaecpjgmcffliaaGreatDoorSy2
import Derived.Test.YtaecpjgmcffliaaGreatDoorAl4
set_option linter.unusedSimpArgs false
set_option linter.unusedVariables false
set_option maxRecDepth 10000
namespace Go.Al
def cC:List cN→cN→Option Nat
 |[],_=>none
 |x::l,s=>if x=s then some 0 else(cC l s).map (· +1)
def fY:Option Nat→Int|some n=>n|none=> -1
theorem fU: ∀(l:List cN) (s:cN) (k:Nat),cC l s=some k→k<l.length∧l[k]?=some s
 |[],s,k,h=>by cases h
 |x::l,s,k,h=>by
  simp only[cC]at h;split at h
  ·rename_i e;cases h;exact⟨by simp,by simp [e]⟩
  rw[bH]at h;obtain⟨j,hj,rfl⟩:=h;have:=fU l s j hj;exact⟨by simp only[aQ];omega,by simpa using this.2⟩
theorem oP: ∀(l:List cN) (s:cN) (k:Nat),(l.take k).contains s=false→cC l s=(cC (l.drop k) s).map (· +k)
 |l,s,0,_=>by simp
 |[],s,k+1,_=>by simp [cC]
 |x::l,s,k+1,h=>by
  simp only[List.take_succ_cons,List.contains_cons,Bool.or_eq_false_iff]at h;have hne: ¬x=s:=fun e=>by rw[e]at h;simp at h
  simp only[cC,if_neg hne,List.drop_succ_cons];rw[oP l s k h.2];cases cC (l.drop k) s<;>simp [Nat.add_assoc]
def eD (f:Fu):List cN:=f.params++f.locs
def gB (p:Pg):List cN:=p.vars++p.arrs.map Ar.name++p.funs.map Fu.name
def lM (p:Pg) (s:cN):Int×Int:=match cC (gB p) s with
 |none=>(0, -1)
 |some k=>if k<p.vars.length then(2,k)else if k-p.vars.length<p.arrs.length then(3,((k-p.vars.length:Nat):Int))else(4,((k-p.vars.length-p.arrs.length:Nat):Int))
def dX (p:Pg) (f:Nat) (s:cN):Int×Int:=match(p.funs[f]?).bind fun g=>cC (eD g) s with
 |some k=>(1,k)
 |none=>lM p s
structure Us where
 name:cN
 kind:Int
 num:Int
def Us.row (u:Us):List AV:=[.str u.name, .int .i64 u.kind, .int .i64 u.num]
def jI (e:Ex):List Us:=if e.kind=2 then [⟨e.name,1,0⟩]else if e.kind=3 then [⟨e.name,3,0⟩]else if e.kind=4 then [⟨e.name,4,e.kids.length⟩]else []
def eB:List Ex→List Us
 |[]=>[]
 | .mk k o n s kids::l=>jI (.mk k o n s kids)++eB kids++eB l
theorem iM (e:Ex) (l:List Ex):eB (e::l)=jI e++eB e.kids++eB l:=by cases e;rw[eB];rfl
def jN (e:Sm):List Us:=if e.kind=1 then [⟨e.name,1,0⟩]else if e.kind=2 then [⟨e.name,3,0⟩]else if e.kind=6 then [⟨e.name,4,e.es.length⟩]else []
def dJ:List Sm→List Us
 |[]=>[]
 | .mk k s es t u::l=>jN (.mk k s es t u)++eB es++dJ t++dJ u++dJ l
theorem jM (e:Sm) (l:List Sm):dJ (e::l)=jN e++eB e.es++dJ e.thn++dJ e.els++dJ l:=by cases e;rw[dJ];rfl
theorem Fp (e:Ex):(jI e).length≤1:=by
 unfold jI
 repeat' split
 all_goals simp
theorem Fq (e:Sm):(jN e).length≤1:=by
 unfold jN
 repeat' split
 all_goals simp
theorem pO (n:Nat): ∀l:List Ex,jA l=n→(eB l).length≤n:=by
 induction n using Nat.strongRecOn with
 |_ n ih=>
  intro l hn
  cases l with
  |nil=>simp [eB]
  |cons e l=>
   have hs:=e.sz_eq;simp only[jA]at hn;rw[iM,aI,aI];have:=Fp e;have h1:=ih (jA e.kids) (by omega) e.kids rfl;have h2:=ih (jA l) (by omega) l rfl;omega
theorem lW (n:Nat): ∀l:List Sm,gH l=n→(dJ l).length≤n:=by
 induction n using Nat.strongRecOn with
 |_ n ih=>
  intro l hn
  cases l with
  |nil=>simp [dJ]
  |cons e l=>
   have hs:=e.sz_eq;simp only[gH]at hn;rw[jM,aI,aI,aI,aI];have:=Fq e;have h0:=pO _ e.es rfl;have h1:=ih (gH e.thn) (by omega) e.thn rfl;have h2:=ih (gH e.els) (by omega) e.els rfl;have h3:=ih (gH l) (by omega) l rfl;omega
theorem vT {l:List Ex} {k:Nat} (h:k<l.length):eB (l.take (k+1))=eB (l.take k)++(jI l[k]++eB l[k].kids):=by
 have key: ∀a b:List Ex,eB (a++b)=eB a++eB b:=by
  intro a b
  induction a with
  |nil=>simp [eB]
  |cons e a ih=>rw[List.cons_append,iM,iM,ih];simp only[List.append_assoc]
 rw[bL h,key,iM];simp [eB]
theorem vS {l:List Sm} {k:Nat} (h:k<l.length):dJ (l.take (k+1))=dJ (l.take k)++(jN l[k]++eB l[k].es++dJ l[k].thn++dJ l[k].els):=by
 have key: ∀a b:List Sm,dJ (a++b)=dJ a++dJ b:=by
  intro a b
  induction a with
  |nil=>simp [dJ]
  |cons e a ih=>rw[List.cons_append,jM,jM,ih];simp only[List.append_assoc]
 rw[bL h,key,jM];simp [dJ]
theorem Yw (l:List Ex) (k:Nat):jA (l.take k)≤jA l:=by
 induction l generalizing k with
 |nil=>simp
 |cons e l ih=>
  cases k with
  |zero=>simp [jA]
  |succ k=>simp only[List.take_succ_cons,jA];have:=ih k;omega
theorem Yv (l:List Sm) (k:Nat):gH (l.take k)≤gH l:=by
 induction l generalizing k with
 |nil=>simp
 |cons e l ih=>
  cases k with
  |zero=>simp [gH]
  |succ k=>simp only[List.take_succ_cons,gH];have:=ih k;omega
theorem X7 (l:List cN):(l.map bG).all (fun r=>r.all one)=true:=by
 rw[List.all_eq_true];intro r hr;obtain⟨t,_,rfl⟩:=List.mem_map.1 hr;rfl
theorem N8 (l:List Us):(l.map Us.row).all (fun r=>r.all one)=true:=by
 rw[List.all_eq_true];intro r hr;obtain⟨t,_,rfl⟩:=List.mem_map.1 hr;rfl
end Go.Al
namespace Go.Proofs.YtaecpjgmcffliaaGreatDoor
open Go.Al
theorem tC (l:List cN) (s:cN) (hl:cQ l):cM cG 190 [.isl 1 (l.map bG), .str s] (.int .i64 (fY (cC l s))):=by
 have hl:l.length≤9223372036854775807:=hl;refine bM 19 [.tmp 4] Tryz.func190 rfl rfl rfl rfl ?_;refine aB fun K z=>?_;refine aA rfl ?_;simp only[RR,seval];apply z;clear z;refine bT (fun fr H=>cC l s=none) (fun K z=>?_) ?_
 ·refine aB fun K z=>?_;refine aA rfl ?_;simp only[RR,seval]
  apply z;clear z;refine aN ?_;refine cJ (fun mm fr H=> ∃k:Nat,mm=l.length-k∧k≤l.length∧fr 5= .int .i64 k∧fr 0= .isl 1 (l.map bG)∧fr 1= .str s∧cC l s=(cC (l.drop k) s).map (· +k)) (l.length) ⟨0,rfl,Nat.zero_le _,rfl,rfl,rfl,by simp⟩ ?_;rintro mm fr H ⟨k,rfl,hkk,hik,h0,f1,hp⟩ K2 hK2;refine aJ ?_;refine aB fun K z=>?_;refine aA rfl ?_;simp only[RR,seval];simp only[hik,h0,aC,RR,seval];apply z;clear z;refine aH _ rfl (fun hc=>?_) (fun hc=>?_)
  ·have hltk:k<l.length:=by have:=aD hc;omega
   clear hc;refine aK ?_;simp only[aU];refine aJ ?_;refine aN ?_;have hg:=vH (aG hltk);rw[bD hltk]at hp;simp only[cC]at hp;generalize l[k]=x at hg hp;refine aB fun K z=>?_;refine aA rfl ?_;simp only[RR,seval];simp only[h0,f1,hik,hg,RR,seval];apply z;clear z;refine aH _ rfl (fun hc=>?_) (fun hc=>?_)
   ·have e:x=s:=aD hc
    rw[if_pos e]at hp
    repeat' (first|(refine aB fun K z=>?_;refine aA rfl ?_;simp only[hik,RR,seval];apply z;clear z)|(refine aJ ?_)|(refine aN ?_)|(refine aH true rfl (fun _=>?_) (fun hc=>by cases hc))|(refine aH false rfl (fun hc=>by cases hc) (fun _=>?_))|(refine aK ?_;simp only[aU,aW])|(refine bI ?_;simp only[aU,aW,reduceIte,Nat.reduceEqDiff])|(refine aA rfl ?_;simp only[hik,aU,aW,RR,seval])|(refine aO (fun h=>?_) (fun h=>?_)<;>simp only[h,hik,aU,aW,RR,seval])|(refine aR (fun h=>?_) (fun h=>?_)<;>simp only[h,hik,aU,aW,RR,seval])|(refine aH _ rfl (fun h=>?_) (fun h=>?_))|(refine aM ?_;simp only[aU,aW,aZ,aL,bJ,RR,seval];refine bB.pure ?_))
    rw[hp];simp [fY]
   have e: ¬x=s:=aE hc;rw[if_neg e]at hp;refine aK ?_;simp only[aU,aW];refine aA rfl ?_;simp only[RR,seval];simp only[hik,aU,RR,seval];rw[aV _ (by omega)];refine hK2 (l.length-(k+1)) _ _ (by omega) ⟨k+1,rfl,by omega,rfl,h0,f1,by rw[hp,Option.map_map];congr 1;funext y;simp only[Function.comp];omega⟩
  refine bI ?_;simp only[aU,aW,reduceIte];have hknk:k=l.length:=by have:=aE hc;omega
  clear hc;subst hknk;rw[List.drop_length]at hp;exact z _ _ (by rw[hp];rfl)
 rintro fr H h0;refine aB fun K z=>?_;refine aA rfl ?_;simp only[RR,seval];apply z;clear z;refine aM ?_;simp only[aZ,aL,bJ,RR,seval];refine bB.pure ?_;rw[h0];rfl
theorem Db (f:Fu) (h:f.params.length≤1000000) (h2:f.locs.length≤1200000):cM cG 140 [.agg f.row] (.isl 1 ((eD f).map bG)):=by
 refine bM 10 [.tmp 2] Tryz.func140 rfl rfl rfl rfl ?_;simp only[Fu.row];refine bT (fun fr H=> ∃b,fr 1= .ptr 5 b 0 0∧H b=some (.rows 5 [[.str f.name, .isl 1 (f.params.map bG), .isl 1 (f.locs.map bG), .bool f.word, .isl 5 (f.body.map Sm.row)]])) (fun K z=>?_) ?_
 ·refine aA rfl ?_;simp only[RR,seval]
  refine aT fun b hb=>?_;simp only[RR,seval];exact z _ _ ⟨b,rfl,aS _ _ _⟩
 rintro fr H ⟨b,f1,hb⟩;refine bT (fun fr H=>cH 1 (fr 2) ((eD f).map bG) H) (fun K z=>?_) ?_
 ·refine dE (fun x=>x≠b) [(1,false),(2,false),(4,false),(5,false),(0,true),(3,true),(6,true),(7,true)] cX (by kernel_rfl) rfl ?_
  simp only[mR,dG,f1,hb,rE,sW,RR,seval];refine yM fun b0 hb0=>?_;have hne:b≠b0:=fun e=>by rw[e,hb0]at hb;cases hb
  have hb':(upd H b0 (some (.rows 1 []))) b=some (.rows 5 [[.str f.name, .isl 1 (f.params.map bG), .isl 1 (f.locs.map bG), .bool f.word, .isl 5 (f.body.map Sm.row)]]):=by simp only[upd,if_neg hne,hb]
  have hown:oK 1 (.osl 1 b0 0) [] (upd H b0 (some (.rows 1 []))):=⟨b0,rfl,aS _ _ _⟩;generalize upd H b0 (some (.rows 1 []))=H1 at hb' hown⊢;simp only[X7,RR,seval];refine mV hown (by simp only[List.length_nil,aC];omega) (fun x hx=>hown.far hb' (by decide) x hx) fun v2 H2 hv2 hk2=>?_;have hb2:=hk2 b _ hb' (hown.nb' hb' (by decide));simp only[X7,RR,seval];refine mV hv2 (by simp only[List.nil_append,aC];omega) (fun x hx=>hv2.far hb2 (by decide) x hx) fun v3 H3 hv3 _=>?_;simp only[RR,seval];refine z _ _ ?_;simp only[upd,reduceIte,eD,List.map_append];exact hv3.own
 rintro fr H hown;refine aM ?_;simp only[aZ,aL,bJ,RR,seval];exact hown.gives1 rfl
set_option maxHeartbeats 2000000 in
theorem Uh (n:Nat): ∀l:List Ex,jA l=n→n≤1000000→rT l→cM cG 191 [.isl 5 (l.map Ex.row)] (.isl 3 ((eB l).map Us.row)):=by
 induction n using Nat.strongRecOn with
 |_ n ih=>
  intro l hn hbd hok;have hfit:l.length≤9223372036854775807:=hok.fit;refine bM 64 [.tmp 2] Tryz.func191 rfl rfl rfl rfl ?_;refine aB fun K z=>?_;refine aA rfl ?_;simp only[RR,seval];apply z;clear z;refine aB fun K z=>?_;refine aA rfl ?_;simp only[RR,seval];apply z;clear z;refine bT (fun fr H=>cH 3 (fr 3) ((eB l).map Us.row) H) (fun K z=>?_) ?_
  ·refine aB fun K z=>?_;refine aA rfl ?_;simp only[RR,seval]
   apply z;clear z;refine aN ?_;refine cJ (fun mm fr H=> ∃k:Nat,mm=l.length-k∧k≤l.length∧fr 4= .int .i64 k∧fr 0= .isl 5 (l.map Ex.row)∧cH 3 (fr 3) ((eB (l.take k)).map Us.row) H) (l.length) ⟨0,rfl,Nat.zero_le _,rfl,rfl, .inl ⟨rfl,by simp [eB]⟩⟩ ?_;rintro mm fr H ⟨k,rfl,hkk,hik,h0,hown⟩ K2 hK2;refine aJ ?_;refine aB fun K z=>?_;refine aA rfl ?_;simp only[RR,seval];simp only[hik,h0,aC,RR,seval];apply z;clear z;refine aH _ rfl (fun hc=>?_) (fun hc=>?_)
   ·have hltk:k<l.length:=by have:=aD hc;omega
    clear hc;refine aK ?_;simp only[aU];refine aJ ?_;refine aN ?_;have hg:=nM (aG hltk);have hmem:=bE hltk;have hoke:=hok.all _ hmem;have hsz:=fH hmem;have htk:=vT hltk;have hlt1:=pO _ (l.take k) rfl;have hlt2:=Yw l k;have hul:=Fp l[k];generalize l[k]=e at hg htk hoke hsz hul;have hse:=e.sz_eq;have hkl:=pO _ e.kids rfl;have hfk:e.kids.length≤9223372036854775807:=hoke.kids.fit;refine bT (fun fr H=>fr 0= .isl 5 (l.map Ex.row)∧cH 3 (fr 3) ((eB (l.take k)++jI e).map Us.row) H∧fr 4= .int .i64 k) (fun K z=>?_) ?_
    ·refine aB fun K z=>?_;refine aA rfl ?_;simp only[RR,seval]
     simp only[h0,hik,hg,RR,seval];apply z;clear z;refine aN ?_;refine aB fun K z=>?_;refine aA rfl ?_;simp only[RR,seval];apply z;clear z;have hb32:(((eB (l.take k)).map Us.row).length+1) *32≤140737488355328:=by rw[aC];omega
     by_cases k2:e.kind=2
     ·refine aH true (congrArg AV.bool (bQ k2)) (fun _=>?_) (fun hc=>by cases hc)
      refine aA rfl ?_;simp only[RR,seval];simp only[h0,hik,hg,RR,seval];refine cK ?_;simp only[RR,seval];refine eZ hown hb32 (fun _=>trivial) fun v' H' hv' _=>?_;simp only[RR,seval];refine z _ _ ⟨h0, ?_,hik⟩;rw[show jI e=[⟨e.name,1,0⟩]by simp [jI,k2],List.map_append];exact hv'
     refine aH false (congrArg AV.bool (aX k2)) (fun hc=>by cases hc) (fun _=>?_);refine aB fun K z=>?_;refine aA rfl ?_;simp only[RR,seval];apply z;clear z;by_cases k3:e.kind=3
     ·refine aH true (congrArg AV.bool (bQ k3)) (fun _=>?_) (fun hc=>by cases hc)
      refine aA rfl ?_;simp only[RR,seval];simp only[h0,hik,hg,RR,seval];refine cK ?_;simp only[RR,seval];refine eZ hown hb32 (fun _=>trivial) fun v' H' hv' _=>?_;simp only[RR,seval];refine z _ _ ⟨h0, ?_,hik⟩;rw[show jI e=[⟨e.name,3,0⟩]by simp [jI,k3],List.map_append];exact hv'
     refine aH false (congrArg AV.bool (aX k3)) (fun hc=>by cases hc) (fun _=>?_);refine aB fun K z=>?_;refine aA rfl ?_;simp only[RR,seval];apply z;clear z;by_cases k4:e.kind=4
     ·refine aH true (congrArg AV.bool (bQ k4)) (fun _=>?_) (fun hc=>by cases hc)
      refine dE (fun _=>True) [(0,false),(1,true),(2,true),(3,true),(4,true),(5,true),(6,true),(7,true),(8,true),(9,true),(10,true),(11,true),(12,true),(13,true),(14,true),(15,true)] cX (by kernel_rfl) rfl ?_;simp only[mR,dG,h0,hik,hg,RR,seval];refine cK ?_;simp only[aC,RR,seval];refine eZ hown hb32 (fun _=>trivial) fun v' H' hv' _=>?_;simp only[RR,seval];refine z _ _ ⟨h0, ?_,hik⟩;rw[show jI e=[⟨e.name,4,e.kids.length⟩]by simp [jI,k4],List.map_append];exact hv'
     refine aH false (congrArg AV.bool (aX k4)) (fun hc=>by cases hc) (fun _=>?_);refine aK ?_;simp only[aU,aW];refine z _ _ ⟨h0, ?_,hik⟩;rw[show jI e=[]by simp [jI,k2,k3,k4],List.append_nil];exact hown
    rintro fr H ⟨h0,hown,hik⟩;refine aA rfl ?_;simp only[h0,hik,hg,RR,seval];refine aP (ih _ (by omega) e.kids rfl (by omega) hoke.kids) ?_;simp only[RR,seval];simp only[N8,seval];refine eZ hown (by simp only[aC,aI];omega) (fun _=>trivial) fun v' H' hv' _=>?_;simp only[aU,aW,RR,seval];refine aA rfl ?_;simp only[RR,seval];simp only[hik,aU,RR,seval];rw[aV _ (by omega)];refine hK2 (l.length-(k+1)) _ _ (by omega) ⟨k+1,rfl,by omega,rfl,h0,by rw[htk,←List.append_assoc,List.map_append];exact hv'⟩
   refine bI ?_;simp only[aU,aW,reduceIte];have hknk:k=l.length:=by have:=aE hc;omega
   clear hc;subst hknk;rw[List.take_length]at hown;exact z _ _ hown
  rintro fr H hown;refine aB fun K z=>?_;refine aA rfl ?_;simp only[RR,seval];apply z;clear z;refine aM ?_;simp only[aZ,aL,bJ,RR,seval];exact hown.gives1 rfl
set_option maxHeartbeats 2000000 in
theorem Jw (n:Nat): ∀l:List Sm,gH l=n→n≤1000000→rI l→cM cG 141 [.isl 5 (l.map Sm.row)] (.isl 3 ((dJ l).map Us.row)):=by
 induction n using Nat.strongRecOn with
 |_ n ih=>
  intro l hn hbd hok;have hfit:l.length≤9223372036854775807:=hok.fit;refine bM 80 [.tmp 2] Tryz.func141 rfl rfl rfl rfl ?_;refine aB fun K z=>?_;refine aA rfl ?_;simp only[RR,seval];apply z;clear z;refine aB fun K z=>?_;refine aA rfl ?_;simp only[RR,seval];apply z;clear z;refine bT (fun fr H=>cH 3 (fr 3) ((dJ l).map Us.row) H) (fun K z=>?_) ?_
  ·refine aB fun K z=>?_;refine aA rfl ?_;simp only[RR,seval]
   apply z;clear z;refine aN ?_;refine cJ (fun mm fr H=> ∃k:Nat,mm=l.length-k∧k≤l.length∧fr 4= .int .i64 k∧fr 0= .isl 5 (l.map Sm.row)∧cH 3 (fr 3) ((dJ (l.take k)).map Us.row) H) (l.length) ⟨0,rfl,Nat.zero_le _,rfl,rfl, .inl ⟨rfl,by simp [dJ]⟩⟩ ?_;rintro mm fr H ⟨k,rfl,hkk,hik,h0,hown⟩ K2 hK2;refine aJ ?_;refine aB fun K z=>?_;refine aA rfl ?_;simp only[RR,seval];simp only[hik,h0,aC,RR,seval];apply z;clear z;refine aH _ rfl (fun hc=>?_) (fun hc=>?_)
   ·have hltk:k<l.length:=by have:=aD hc;omega
    clear hc;refine aK ?_;simp only[aU];refine aJ ?_;refine aN ?_;have hg:=sC (aG hltk);have hmem:=bE hltk;have hoke:=hok.all _ hmem;have hsz:=eS hmem;have htk:=vS hltk;have hlt1:=lW _ (l.take k) rfl;have hlt2:=Yv l k;have hul:=Fq l[k];generalize l[k]=e at hg htk hoke hsz hul;have hse:=e.sz_eq;have hkl:=pO _ e.es rfl;have hkt:=lW _ e.thn rfl;have hke:=lW _ e.els rfl;refine bT (fun fr H=>fr 0= .isl 5 (l.map Sm.row)∧cH 3 (fr 3) ((dJ (l.take k)++jN e).map Us.row) H∧fr 4= .int .i64 k) (fun K z=>?_) ?_
    ·refine aB fun K z=>?_;refine aA rfl ?_;simp only[RR,seval]
     simp only[h0,hik,hg,RR,seval];apply z;clear z;refine aN ?_;refine aB fun K z=>?_;refine aA rfl ?_;simp only[RR,seval];apply z;clear z;have hb32:(((dJ (l.take k)).map Us.row).length+1) *32≤140737488355328:=by rw[aC];omega
     by_cases k2:e.kind=1
     ·refine aH true (congrArg AV.bool (bQ k2)) (fun _=>?_) (fun hc=>by cases hc)
      refine aA rfl ?_;simp only[RR,seval];simp only[h0,hik,hg,RR,seval];refine cK ?_;simp only[RR,seval];refine eZ hown hb32 (fun _=>trivial) fun v' H' hv' _=>?_;simp only[RR,seval];refine z _ _ ⟨h0, ?_,hik⟩;rw[show jN e=[⟨e.name,1,0⟩]by simp [jN,k2],List.map_append];exact hv'
     refine aH false (congrArg AV.bool (aX k2)) (fun hc=>by cases hc) (fun _=>?_);refine aB fun K z=>?_;refine aA rfl ?_;simp only[RR,seval];apply z;clear z;by_cases k3:e.kind=2
     ·refine aH true (congrArg AV.bool (bQ k3)) (fun _=>?_) (fun hc=>by cases hc)
      refine aA rfl ?_;simp only[RR,seval];simp only[h0,hik,hg,RR,seval];refine cK ?_;simp only[RR,seval];refine eZ hown hb32 (fun _=>trivial) fun v' H' hv' _=>?_;simp only[RR,seval];refine z _ _ ⟨h0, ?_,hik⟩;rw[show jN e=[⟨e.name,3,0⟩]by simp [jN,k3],List.map_append];exact hv'
     refine aH false (congrArg AV.bool (aX k3)) (fun hc=>by cases hc) (fun _=>?_);refine aB fun K z=>?_;refine aA rfl ?_;simp only[RR,seval];apply z;clear z;by_cases k4:e.kind=6
     ·refine aH true (congrArg AV.bool (bQ k4)) (fun _=>?_) (fun hc=>by cases hc)
      refine dE (fun _=>True) [(0,false),(1,true),(2,true),(3,true),(4,true),(5,true),(6,true),(7,true),(8,true),(9,true),(10,true),(11,true),(12,true),(13,true),(14,true),(15,true)] cX (by kernel_rfl) rfl ?_;simp only[mR,dG,h0,hik,hg,RR,seval];refine cK ?_;simp only[aC,RR,seval];refine eZ hown hb32 (fun _=>trivial) fun v' H' hv' _=>?_;simp only[RR,seval];refine z _ _ ⟨h0, ?_,hik⟩;rw[show jN e=[⟨e.name,4,e.es.length⟩]by simp [jN,k4],List.map_append];exact hv'
     refine aH false (congrArg AV.bool (aX k4)) (fun hc=>by cases hc) (fun _=>?_);refine aK ?_;simp only[aU,aW];refine z _ _ ⟨h0, ?_,hik⟩;rw[show jN e=[]by simp [jN,k2,k3,k4],List.append_nil];exact hown
    rintro fr H ⟨h0,hown,hik⟩;refine aB fun K z=>?_;refine aA rfl ?_;simp only[RR,seval];simp only[h0,hik,hg,RR,seval];refine aP (Uh _ e.es rfl (by omega) hoke.es) ?_;simp only[RR,seval];simp only[N8,seval];refine eZ hown (by simp only[aC,aI];omega) (fun _=>trivial) fun v' H' hv' _=>?_;simp only[RR,seval];apply z;clear z;rw[←List.map_append]at hv';refine aB fun K z=>?_;refine aA rfl ?_;simp only[RR,seval];simp only[h0,hik,hg,RR,seval];refine aP (ih _ (by omega) e.thn rfl (by omega) hoke.thn) ?_;simp only[RR,seval];simp only[N8,seval];refine eZ hv' (by simp only[aC,aI];omega) (fun _=>trivial) fun v2 H2 hv2 _=>?_;simp only[RR,seval];apply z;clear z;rw[←List.map_append]at hv2;refine aA rfl ?_;simp only[h0,hik,hg,RR,seval];refine aP (ih _ (by omega) e.els rfl (by omega) hoke.els) ?_;simp only[RR,seval];simp only[N8,seval];refine eZ hv2 (by simp only[aC,aI];omega) (fun _=>trivial) fun v3 H3 hv3 _=>?_;simp only[aU,aW,RR,seval];refine aA rfl ?_;simp only[RR,seval];simp only[hik,aU,RR,seval];rw[aV _ (by omega)];refine hK2 (l.length-(k+1)) _ _ (by omega) ⟨k+1,rfl,by omega,rfl,h0,by rw[htk];simp only[←List.append_assoc];rw[List.map_append];exact hv3⟩
   refine bI ?_;simp only[aU,aW,reduceIte];have hknk:k=l.length:=by have:=aE hc;omega
   clear hc;subst hknk;rw[List.take_length]at hown;exact z _ _ hown
  rintro fr H hown;refine aB fun K z=>?_;refine aA rfl ?_;simp only[RR,seval];apply z;clear z;refine aM ?_;simp only[aZ,aL,bJ,RR,seval];exact hown.gives1 rfl
end Go.Proofs.YtaecpjgmcffliaaGreatDoor
namespace Go.Al
structure Pg.few (p:Pg):Prop where
 ok:p.ok
 v:p.vars.length≤10000
 a:p.arrs.length≤10000
 f:p.funs.length≤10000
 fs: ∀f∈p.funs,f.params.length≤10000∧f.locs.length≤1100000∧gH f.body≤1000000
theorem oR: ∀l:List cN,l.Nodup↔ ∀(i:Nat) (h:i<l.length),cC l l[i]=some i
 |[]=>by simp
 |x::l=>by
  rw[List.nodup_cons,oR l];constructor
  ·rintro⟨h1,h2⟩ i hi
   cases i with
   |zero=>simp [cC]
   |succ i=>
    have hi':i<l.length:=by simpa using hi
    have hne: ¬x=l[i]:=fun e=>h1 (e▸bE hi');simp only[List.getElem_cons_succ,cC,if_neg hne,h2 i hi',Option.map_some]
  intro h;refine⟨fun hx=>?_,fun i hi=>?_⟩
  ·obtain⟨i,hi,e⟩:=List.getElem_of_mem hx
   have:=h (i+1) (by simpa using hi);simp [cC,e]at this
  have:=h (i+1) (by simpa using hi);simp only[List.getElem_cons_succ,cC]at this;split at this
  ·simp at this
  rw[bH]at this;obtain⟨j,hj,e⟩:=this;rw[hj];congr 1;omega
def fD (p:Pg) (i:Nat) (u:Us):Bool:=
 !((decide (u.kind=1)&& !decide ((dX p i u.name).1=1)&& !decide ((dX p i u.name).1=2))||(decide (u.kind=3)&& !decide ((dX p i u.name).1=3))||
   (decide (u.kind=4)&&(!decide ((dX p i u.name).1=4)||decide ((i:Int)≤(dX p i u.name).2))))
def eM (p:Pg):Nat→List Fu→Bool
 |_,[]=>true
 |i,f::l=>decide (eD f).Nodup&&(dJ f.body).all (fD p i)&&eM p (i+1) l
def gX (p:Pg):Bool:=decide (gB p).Nodup&&eM p 0 p.funs
theorem tP (p:Pg):(gB p).length=p.vars.length+p.arrs.length+p.funs.length:=by simp [gB];omega
theorem E8 (p:Pg) (s:cN) (h:(gB p).length≤1000000): -1≤(lM p s).2∧(lM p s).2≤1000000∧0≤(lM p s).1∧(lM p s).1≤4:=by
 unfold lM;split
 ·simp
 rename_i k hk;have:=(fU _ _ _ hk).1;split
 ·simp only;omega
 split<;>simp only <;>omega
theorem E9 (p:Pg) (i:Nat) (s:cN) (h:(gB p).length≤1000000) (h2: ∀f∈p.funs,(eD f).length≤1200000): -1≤(dX p i s).2∧(dX p i s).2≤1200000∧0≤(dX p i s).1∧(dX p i s).1≤4:=by
 unfold dX;split
 ·rename_i k hk
  rw[bU]at hk;obtain⟨f,hf,hk⟩:=hk;have:=(fU _ _ _ hk).1;have:=h2 f (fG hf);simp only;omega
 have:=E8 p s h;exact⟨this.1,by omega,this.2.2⟩
theorem Pg.few.gl {p:Pg} (h:p.few):(gB p).length≤30000:=by
 rw[tP];have:=h.v;have:=h.a;have:=h.f;omega
theorem Pg.few.nl {p:Pg} (h:p.few): ∀f∈p.funs,(eD f).length≤1200000:=fun f hf=>by
 have:=h.fs f hf;simp only[eD,aI];omega
end Go.Al
namespace Go.Proofs.YtaecpjgmcffliaaGreatDoor
open Go.Al
theorem Ko (p:Pg) (hp:p.few):J3 cG 139 [p.av] 1 ((gB p).map bG):=by
 have gv:=hp.v;have ga:=hp.a;have gf:=hp.f;have hG:gB p=p.vars++p.arrs.map Ar.name++p.funs.map Fu.name:=rfl;generalize gB p=G at hG⊢;obtain⟨vs,aa,fs⟩:=p;simp only at gv ga gf hG;refine bM 43 [.tmp 2] Tryz.func139 rfl rfl rfl rfl ?_;simp only[Pg.av,Pg.row];refine bT (fun fr H=> ∃b,fr 1= .ptr 3 b 0 0∧H b=some (.rows 3 [[.isl 1 (vs.map bG), .isl 2 (aa.map Ar.row), .isl 5 (fs.map Fu.row)]])) (fun K z=>?_) ?_
 ·refine aA rfl ?_;simp only[RR,seval]
  refine aT fun b hb=>?_;simp only[RR,seval];exact z _ _ ⟨b,rfl,aS _ _ _⟩
 rintro fr H ⟨b,f1,hb⟩;refine bT (fun fr H=>oK 1 (fr 3) (vs.map bG) H∧fr 1= .ptr 3 b 0 0∧H b=some (.rows 3 [[.isl 1 (vs.map bG), .isl 2 (aa.map Ar.row), .isl 5 (fs.map Fu.row)]])) (fun K z=>?_) ?_
 ·refine aA rfl ?_
  simp only[RR,seval];refine yM fun b0 hb0=>?_;have hne:b≠b0:=fun e=>by rw[e,hb0]at hb;cases hb
  have hb':(upd H b0 (some (.rows 1 []))) b=some (.rows 3 [[.isl 1 (vs.map bG), .isl 2 (aa.map Ar.row), .isl 5 (fs.map Fu.row)]]):=by simp only[upd,if_neg hne,hb]
  have hown:oK 1 (.osl 1 b0 0) [] (upd H b0 (some (.rows 1 []))):=⟨b0,rfl,aS _ _ _⟩;generalize upd H b0 (some (.rows 1 []))=H1 at hb' hown⊢;simp only[f1,hb',X7,RR,seval];refine mV hown (by simp only[List.length_nil,aC];omega) (fun _ _=>trivial) fun v2 H2 hv2 hk2=>?_;simp only[RR,seval];exact z _ _ ⟨hv2,f1,hk2 b _ hb' (hown.nb' hb' (by decide))⟩
 rintro fr H ⟨hown,f1,hb⟩;refine bT (fun fr H=>oK 1 (fr 3) ((vs++aa.map Ar.name).map bG) H∧fr 1= .ptr 3 b 0 0∧H b=some (.rows 3 [[.isl 1 (vs.map bG), .isl 2 (aa.map Ar.row), .isl 5 (fs.map Fu.row)]])) (fun K z=>?_) ?_
 ·refine aB fun K z=>?_;refine aA rfl ?_;simp only[RR,seval]
  apply z;clear z;refine aN ?_;refine cJ (fun mm fr H=> ∃k:Nat,mm=aa.length-k∧k≤aa.length∧fr 4= .int .i64 k∧oK 1 (fr 3) ((vs++(aa.take k).map Ar.name).map bG) H∧fr 1= .ptr 3 b 0 0∧H b=some (.rows 3 [[.isl 1 (vs.map bG), .isl 2 (aa.map Ar.row), .isl 5 (fs.map Fu.row)]])) (aa.length) ⟨0,rfl,Nat.zero_le _,rfl,by simpa [upd]using hown,f1,hb⟩ ?_;rintro mm fr H ⟨k,rfl,hkk,hik,hown,f1,hb⟩ K2 hK2;refine aJ ?_;refine aB fun K z=>?_;refine aA rfl ?_;simp only[RR,seval];simp only[hik,f1,hb,aC,RR,seval];apply z;clear z;refine aH _ rfl (fun hc=>?_) (fun hc=>?_)
  ·have hltk:k<aa.length:=by have:=aD hc;omega
   clear hc;refine aK ?_;simp only[aU];refine aJ ?_;refine aN ?_;have hg:=Ip (aG hltk);have htk:aa.take (k+1)=aa.take k++[aa[k]]:=bL hltk;generalize aa[k]=a at hg htk;have htk2:(vs++(aa.take (k+1)).map Ar.name).map bG=(vs++(aa.take k).map Ar.name).map bG++[[.str a.name]]:=by rw[htk];simp [bG]
   refine aA rfl ?_;simp only[f1,hb,hik,hg,RR,seval];refine cK ?_;simp only[RR,seval];refine mV hown (by simp only[aC,aI,aQ,List.length_nil,dR];omega) (fun _ _=>trivial) fun v2 H2 hv2 hk2=>?_;simp only[aU,aW,RR,seval];have hb2:=hk2 b _ hb (hown.nb' hb (by decide));refine aA rfl ?_;simp only[RR,seval];simp only[hik,aU,RR,seval];rw[aV _ (by omega)];refine hK2 (aa.length-(k+1)) _ _ (by omega) ⟨k+1,rfl,by omega,rfl,by rw[htk2];exact hv2,f1,hb2⟩
  refine bI ?_;simp only[aU,aW,reduceIte];have hknk:k=aa.length:=by have:=aE hc;omega
  clear hc;subst hknk;rw[List.take_length]at hown;exact z _ _ ⟨hown,f1,hb⟩
 rintro fr H ⟨hown,f1,hb⟩;refine bT (fun fr H=>oK 1 (fr 3) (G.map bG) H) (fun K z=>?_) ?_
 ·refine aB fun K z=>?_;refine aA rfl ?_;simp only[RR,seval]
  apply z;clear z;refine aN ?_;refine cJ (fun mm fr H=> ∃k:Nat,mm=fs.length-k∧k≤fs.length∧fr 5= .int .i64 k∧oK 1 (fr 3) ((vs++aa.map Ar.name++(fs.take k).map Fu.name).map bG) H∧fr 1= .ptr 3 b 0 0∧H b=some (.rows 3 [[.isl 1 (vs.map bG), .isl 2 (aa.map Ar.row), .isl 5 (fs.map Fu.row)]])) (fs.length) ⟨0,rfl,Nat.zero_le _,rfl,by simpa [upd]using hown,f1,hb⟩ ?_;rintro mm fr H ⟨k,rfl,hkk,hik,hown,f1,hb⟩ K2 hK2;refine aJ ?_;refine aB fun K z=>?_;refine aA rfl ?_;simp only[RR,seval];simp only[hik,f1,hb,aC,RR,seval];apply z;clear z;refine aH _ rfl (fun hc=>?_) (fun hc=>?_)
  ·have hltk:k<fs.length:=by have:=aD hc;omega
   clear hc;refine aK ?_;simp only[aU];refine aJ ?_;refine aN ?_;have hg:=jK (aG hltk);have htk:fs.take (k+1)=fs.take k++[fs[k]]:=bL hltk;generalize fs[k]=a at hg htk;have htk2:(vs++aa.map Ar.name++(fs.take (k+1)).map Fu.name).map bG=(vs++aa.map Ar.name++(fs.take k).map Fu.name).map bG++[[.str a.name]]:=by rw[htk];simp [bG]
   refine aA rfl ?_;simp only[f1,hb,hik,hg,RR,seval];refine cK ?_;simp only[RR,seval];refine mV hown (by simp only[aC,aI,aQ,List.length_nil,dR];omega) (fun _ _=>trivial) fun v2 H2 hv2 hk2=>?_;simp only[aU,aW,RR,seval];have hb2:=hk2 b _ hb (hown.nb' hb (by decide));refine aA rfl ?_;simp only[RR,seval];simp only[hik,aU,RR,seval];rw[aV _ (by omega)];refine hK2 (fs.length-(k+1)) _ _ (by omega) ⟨k+1,rfl,by omega,rfl,by rw[htk2];exact hv2,f1,hb2⟩
  refine bI ?_;simp only[aU,aW,reduceIte];have hknk:k=fs.length:=by have:=aE hc;omega
  clear hc;subst hknk;rw[List.take_length,←hG]at hown;exact z _ _ hown
 rintro fr H hown;refine aB fun K z=>?_;refine aA rfl ?_;simp only[RR,seval];apply z;clear z;refine aM ?_;simp only[aZ,aL,bJ,RR,seval];exact J3.gives hown.own
theorem vC (p:Pg) (hp:p.few):cM cG 139 [p.av] (.isl 1 ((gB p).map bG)):=(Ko p hp).pure
theorem Kq (p:Pg) (hp:p.few) (i:Nat) (hi:i<p.funs.length) (s:cN):cM cG 142 [p.av, .int .i64 i, .str s] (.tup [.int .i64 (dX p i s).1, .int .i64 (dX p i s).2]):=by
 have gv:=hp.v;have ga:=hp.a;have gf:=hp.f;have hgl:=tP p;have hglob:=vC p hp;have hplace:=tC (gB p) s (by simp only[cQ];omega);have hgi:=aG hi;have hfs:=hp.fs _ (bE hi)
 have hF:dX p i s=match cC (eD p.funs[i]) s with |some k=>(1,(k:Int))|none=>lM p s:=by
  simp only[dX,hgi,Option.bind_some]
  all_goals (cases cC (eD p.funs[i]) s<;>rfl)
 have hGd:lM p s=match cC (gB p) s with
  |none=>(0, -1)
  |some k=>if k<p.vars.length then(2,(k:Int))else if k-p.vars.length<p.arrs.length then(3,((k-p.vars.length:Nat):Int))else(4,((k-p.vars.length-p.arrs.length:Nat):Int)):=rfl
 have hnm:=Db p.funs[i] (by omega) (by omega);have hpl:=tC (eD p.funs[i]) s (by simp only[cQ,eD,aI];omega);generalize p.funs[i]=g at hgi hF hnm hpl;have hlen:=fun k hk=>(fU (gB p) s k hk).1;generalize dX p i s=res at hF⊢;generalize gB p=G at *;obtain⟨vs,aa,fs⟩:=p;simp only[Pg.av,Pg.row]at hglob⊢;simp only at gv ga gf hgi hgl hGd hi;have hrow:=jK hgi;refine bM 58 [.tmp 6, .tmp 7] Tryz.func142 rfl rfl rfl rfl ?_;refine bT (fun fr H=> ∃b,fr 1= .int .i64 i∧fr 2= .str s∧fr 3= .ptr 3 b 0 0∧H b=some (.rows 3 [[.isl 1 (vs.map bG), .isl 2 (aa.map Ar.row), .isl 5 (fs.map Fu.row)]])) (fun K z=>?_) ?_
 ·refine aA rfl ?_;simp only[RR,seval]
  refine aT fun b hb=>?_;simp only[RR,seval];exact z _ _ ⟨b,rfl,rfl,rfl,aS _ _ _⟩
 rintro fr H ⟨b,f1,f2,f3,hb⟩;have e1:decide ((i:Int)<fs.length)=true:=bQ (by omega);refine bT (fun fr H=>res=lM ⟨vs,aa,fs⟩ s∧fr 2= .str s∧fr 3= .ptr 3 b 0 0∧H b=some (.rows 3 [[.isl 1 (vs.map bG), .isl 2 (aa.map Ar.row), .isl 5 (fs.map Fu.row)]])) (fun K z=>?_) ?_
 ·refine aB fun K z=>?_;refine aA rfl ?_;simp only[RR,seval]
  simp only[f1,f3,hb,aC,e1,RR,seval];apply z;clear z;refine aH true rfl (fun _=>?_) (fun hc=>by cases hc);refine aB fun K z=>?_;refine aA rfl ?_;simp only[RR,seval];simp only[f1,f3,hb,hrow,RR,seval];refine aP hnm ?_;simp only[RR,seval];simp only[f2,seval];refine aP hpl ?_;simp only[RR,seval];apply z;clear z
  cases hpn:cC (eD g) s with
  |some k=>
   rw[hpn]at hF;refine aB fun K z=>?_;refine aA rfl ?_;simp only[RR,seval];simp only[fY,RR,seval];apply z;clear z;refine aH true rfl (fun _=>?_) (fun hc=>by cases hc)
   repeat' (first|(refine aB fun K z=>?_;refine aA rfl ?_;simp only[RR,seval];apply z;clear z)|(refine aJ ?_)|(refine aN ?_)|(refine aH true rfl (fun _=>?_) (fun hc=>by cases hc))|(refine aH false rfl (fun hc=>by cases hc) (fun _=>?_))|(refine aK ?_;simp only[aU,aW])|(refine bI ?_;simp only[aU,aW,reduceIte,Nat.reduceEqDiff])|(refine aA rfl ?_;simp only[hpn,fY,aU,aW,RR,seval])|(refine aO (fun h=>?_) (fun h=>?_)<;>simp only[h,hpn,fY,aU,aW,RR,seval])|(refine aR (fun h=>?_) (fun h=>?_)<;>simp only[h,hpn,fY,aU,aW,RR,seval])|(refine aH _ rfl (fun h=>?_) (fun h=>?_))|(refine aM ?_;simp only[aU,aZ,aL,bJ,RR,seval];refine bB.pure ?_))
   rw[hF]
  |none=>
   rw[hpn]at hF;refine aB fun K z=>?_;refine aA rfl ?_;simp only[RR,seval];simp only[fY,RR,seval];apply z;clear z;refine aH false rfl (fun hc=>by cases hc) (fun _=>?_);refine aK ?_;simp only[aU];exact z _ _ ⟨hF,f2,f3,hb⟩
 rintro fr H ⟨hres,f2,f3,hb⟩;rw[hGd]at hres;refine aB fun K z=>?_;refine aA rfl ?_;simp only[RR,seval];simp only[f3,hb,RR,seval];refine aP hglob ?_;simp only[RR,seval];simp only[f2,seval];refine aP hplace ?_;simp only[RR,seval];apply z;clear z
 cases hpn:cC G s with
 |none=>
  rw[hpn]at hres
  repeat' (first|(refine aB fun K z=>?_;refine aA rfl ?_;simp only[fY,RR,seval];apply z;clear z)|(refine aJ ?_)|(refine aN ?_)|(refine aH true rfl (fun _=>?_) (fun hc=>by cases hc))|(refine aH false rfl (fun hc=>by cases hc) (fun _=>?_))|(refine aK ?_;simp only[aU,aW])|(refine bI ?_;simp only[aU,aW,reduceIte,Nat.reduceEqDiff])|(refine aA rfl ?_;simp only[hpn,fY,aU,aW,RR,seval])|(refine aO (fun h=>?_) (fun h=>?_)<;>simp only[h,hpn,fY,aU,aW,RR,seval])|(refine aR (fun h=>?_) (fun h=>?_)<;>simp only[h,hpn,fY,aU,aW,RR,seval])|(refine aH _ rfl (fun h=>?_) (fun h=>?_))|(refine aM ?_;simp only[aU,aZ,aL,bJ,RR,seval];refine bB.pure ?_))
  rw[hres]
 |some k=>
  rw[hpn]at hres;simp only at hres;have hk:=hlen k hpn;have w1:IntKind.wrap .i64 ((k:Int)-vs.length)=(k:Int)-vs.length:=aV _ (by omega);have w2:IntKind.wrap .i64 ((k:Int)-vs.length-aa.length)=(k:Int)-vs.length-aa.length:=aV _ (by omega);have d0:decide ((k:Int)<0)=false:=aX (by omega);by_cases c1:k<vs.length
  ·have d1:decide ((k:Int)<vs.length)=true:=bQ (by omega)
   repeat' (first|(refine aB fun K z=>?_;refine aA rfl ?_;simp only[fY,f3,hb,d0,d1,aC,RR,seval];apply z;clear z)|(refine aJ ?_)|(refine aN ?_)|(refine aH true rfl (fun _=>?_) (fun hc=>by cases hc))|(refine aH false rfl (fun hc=>by cases hc) (fun _=>?_))|(refine aK ?_;simp only[aU])|(refine bI ?_;simp only[aU,aW,reduceIte,Nat.reduceEqDiff])|(refine aA rfl ?_;simp only[hpn,fY,f3,hb,d0,d1,aC,aU,aW,RR,seval])|(refine aO (fun h=>?_) (fun h=>?_)<;>simp only[h,hpn,fY,f3,hb,d0,d1,aC,aU,aW,RR,seval])|(refine aR (fun h=>?_) (fun h=>?_)<;>simp only[h,hpn,fY,f3,hb,d0,d1,aC,aU,aW,RR,seval])|(refine aH _ rfl (fun h=>?_) (fun h=>?_))|(refine aM ?_;simp only[aU,aZ,aL,bJ,RR,seval];refine bB.pure ?_))
   rw[hres,if_pos c1]
  have d1:decide ((k:Int)<vs.length)=false:=aX (by omega);by_cases c2:k-vs.length<aa.length
  ·have d2:decide ((k:Int)-vs.length<aa.length)=true:=bQ (by omega)
   repeat' (first|(refine aB fun K z=>?_;refine aA rfl ?_;simp only[fY,f3,hb,d0,d1,d2,w1,aC,RR,seval];apply z;clear z)|(refine aJ ?_)|(refine aN ?_)|(refine aH true rfl (fun _=>?_) (fun hc=>by cases hc))|(refine aH false rfl (fun hc=>by cases hc) (fun _=>?_))|(refine aK ?_;simp only[aU])|(refine bI ?_;simp only[aU,aW,reduceIte,Nat.reduceEqDiff])|(refine aA rfl ?_;simp only[hpn,fY,f3,hb,d0,d1,d2,w1,aC,aU,aW,RR,seval])|(refine aO (fun h=>?_) (fun h=>?_)<;>simp only[h,hpn,fY,f3,hb,d0,d1,d2,w1,aC,aU,aW,RR,seval])|(refine aR (fun h=>?_) (fun h=>?_)<;>simp only[h,hpn,fY,f3,hb,d0,d1,d2,w1,aC,aU,aW,RR,seval])|(refine aH _ rfl (fun h=>?_) (fun h=>?_))|(refine aM ?_;simp only[aU,aZ,aL,bJ,RR,seval];refine bB.pure ?_))
   rw[hres,if_neg c1,if_pos c2];simp only;rw[show((k-vs.length:Nat):Int)=(k:Int)-vs.length by omega]
  have d2:decide ((k:Int)-vs.length<aa.length)=false:=aX (by omega);refine aJ ?_;refine aB fun K z=>?_;refine aA rfl ?_;simp only[RR,seval];simp only[fY,seval];apply z;clear z;refine aH false rfl (fun hc=>by cases hc) (fun _=>?_);refine aK ?_;simp only[aU];refine aJ ?_;refine aB fun K z=>?_;refine aA rfl ?_;simp only[RR,seval];simp only[f3,hb,aC,d1,RR,seval];apply z;clear z;refine aH false rfl (fun hc=>by cases hc) (fun _=>?_);refine aK ?_;simp only[aU];refine aB fun K z=>?_;refine aA rfl ?_;simp only[RR,seval];simp only[f3,hb,aC,w1,RR,seval];apply z;clear z;refine aJ ?_;refine aB fun K z=>?_;refine aA rfl ?_;simp only[RR,seval];simp only[f3,hb,aC,d2,RR,seval];apply z;clear z;refine aH false rfl (fun hc=>by cases hc) (fun _=>?_);refine aK ?_;simp only[aU];refine aB fun K z=>?_;refine dE (fun x=>x≠b) [(0,true),(1,true),(2,true),(3,true),(4,true),(5,true),(6,true)] cX (by kernel_rfl) rfl ?_;simp only[mR,f3,hb,aC,w2,RR,seval];apply z;clear z;refine aM ?_;simp only[aZ,aL,bJ,RR,seval];refine bB.pure ?_;rw[hres,if_neg c1,if_neg c2];simp only;rw[show((k-vs.length-aa.length:Nat):Int)=(k:Int)-vs.length-aa.length by omega]
theorem vU (l:List cN) (hl:cQ l):cM cG 138 [.isl 1 (l.map bG)] (.bool (decide l.Nodup)):=by
 have hfit:l.length≤9223372036854775807:=hl;refine bM 18 [.tmp 2] Tryz.func138 rfl rfl rfl rfl ?_;refine aB fun K z=>?_;refine aA rfl ?_;simp only[RR,seval];apply z;clear z;refine bT (fun fr H=>l.Nodup) (fun K z=>?_) ?_
 ·refine aB fun K z=>?_;refine aA rfl ?_;simp only[RR,seval]
  apply z;clear z;refine aN ?_;refine cJ (fun mm fr H=> ∃k:Nat,mm=l.length-k∧k≤l.length∧fr 3= .int .i64 k∧fr 0= .isl 1 (l.map bG)∧(∀i (h:i<l.length),i<k→cC l l[i]=some i)) (l.length) ⟨0,rfl,Nat.zero_le _,rfl,rfl,fun i _ h=>by omega⟩ ?_;rintro mm fr H ⟨k,rfl,hkk,hik,h0,hall⟩ K2 hK2;refine aJ ?_;refine aB fun K z=>?_;refine aA rfl ?_;simp only[RR,seval];simp only[hik,h0,aC,RR,seval];apply z;clear z;refine aH _ rfl (fun hc=>?_) (fun hc=>?_)
  ·have hltk:k<l.length:=by have:=aD hc;omega
   clear hc;refine aK ?_;simp only[aU];refine aJ ?_;refine aN ?_;have hg:=vH (aG hltk);have hcon:=tC l l[k] hl;refine aB fun K z=>?_;refine aA rfl ?_;simp only[RR,seval];simp only[h0,hik,hg,RR,seval];refine aP hcon ?_;simp only[RR,seval];simp only[hik,RR,seval];apply z;clear z;by_cases hpk:cC l l[k]=some k
   ·refine aH false (by rw[hpk];simp [upd,ev,fY]) (fun hc=>by cases hc) (fun _=>?_)
    refine aK ?_;simp only[aU,aW];refine aA rfl ?_;simp only[RR,seval];simp only[hik,aU,RR,seval];rw[aV _ (by omega)];refine hK2 (l.length-(k+1)) _ _ (by omega) ⟨k+1,rfl,by omega,rfl,h0,fun i h hi=>if e:i=k then by subst e;exact hpk else hall i h (by omega)⟩
   have hne: ¬fY (cC l l[k])=(k:Int):=fun e=>by
    cases hh:cC l l[k]with
    |none=>rw[hh]at e;simp only[fY]at e;omega
    |some j=>rw[hh]at e hpk;simp only[fY]at e;exact hpk (by congr 1;omega)
   refine aH true (by simp [upd,ev,hne]) (fun _=>?_) (fun hc=>by cases hc)
   repeat' (first|(refine aB fun K z=>?_;refine aA rfl ?_;simp only[RR,seval];apply z;clear z)|(refine aJ ?_)|(refine aN ?_)|(refine aH true rfl (fun _=>?_) (fun hc=>by cases hc))|(refine aH false rfl (fun hc=>by cases hc) (fun _=>?_))|(refine aK ?_;simp only[aU,aW])|(refine bI ?_;simp only[aU,aW,reduceIte,Nat.reduceEqDiff])|(refine aA rfl ?_;simp only[h0,aU,aW,RR,seval])|(refine aO (fun h=>?_) (fun h=>?_)<;>simp only[h,h0,aU,aW,RR,seval])|(refine aR (fun h=>?_) (fun h=>?_)<;>simp only[h,h0,aU,aW,RR,seval])|(refine aH _ rfl (fun h=>?_) (fun h=>?_))|(refine aM ?_;simp only[aU,aW,aZ,aL,bJ,RR,seval];refine bB.pure ?_))
   congr 1;symm;exact aX fun hnd=>hpk ((oR l).1 hnd k hltk)
  refine bI ?_;simp only[aU,aW,reduceIte];have hknk:k=l.length:=by have:=aE hc;omega
  clear hc;subst hknk;exact z _ _ ((oR l).2 fun i h=>hall i h h)
 rintro fr H h0;refine aB fun K z=>?_;refine aA rfl ?_;simp only[RR,seval];apply z;clear z;refine aM ?_;simp only[aZ,aL,bJ,RR,seval];refine bB.pure ?_;congr 1;exact(bQ h0).symm
end Go.Proofs.YtaecpjgmcffliaaGreatDoor
namespace Go.Al
theorem BD {l:List Us} {i:Nat} {u:Us} (h:l[i]?=some u):(l.map Us.row)[i]?=some [.str u.name, .int .i64 u.kind, .int .i64 u.num]:=nL _ h
def wT (p:Pg) (i:Nat) (u:Us):Bool:= !decide (u.kind=4)||(match p.funs[(dX p i u.name).2.toNat]? with |some g=>decide ((g.params.length:Int)=u.num)|none=>false)
def fK (p:Pg):Nat→List Fu→Bool
 |_,[]=>true
 |i,f::l=>(dJ f.body).all (wT p i)&&fK p (i+1) l
def Aw:cN:=[109,97,105,110]
def wY (p:Pg):Bool:=match p.funs[p.funs.length- 1]? with |some g=>decide (g.name=Aw)&&decide (g.params.length=0)&& !g.word|none=>false
def oQ (p:Pg):Bool:=fK p 0 p.funs&&wY p
def gY (p:Pg):Int:=if gX p then(if oQ p then 0 else 1)else 4
theorem lR (p:Pg): ∀(l:List Fu) (i:Nat),eM p i l=true→ ∀(j:Nat) f,l[j]?=some f→(eD f).Nodup∧(dJ f.body).all (fD p (i+j))=true
 |[],i,_,j,f,hf=>by simp at hf
 |g::l,i,h,j,f,hf=>by
  simp only[eM,bA,bC]at h
  cases j with
  |zero=>simp at hf;subst hf;exact h.1
  |succ j=>
   have:=lR p l (i+1) h.2 j f (by simpa using hf);rwa [show i+1+j=i+(j+1)by omega]at this
theorem xL (p:Pg) (i:Nat) (s:cN) (h:(dX p i s).1=4):0≤(dX p i s).2∧(dX p i s).2<p.funs.length:=by
 unfold dX at *;split at h
 ·exact absurd h (by simp)
 rename_i hn;unfold lM at *;split at h
 ·exact absurd h (by decide)
 rename_i k hk;split at h
 ·exact absurd h (by simp)
 rename_i c1;split at h
 ·exact absurd h (by simp)
 rename_i c2;have:=(fU _ _ _ hk).1;rw[tP]at this;rw[if_neg c1,if_neg c2];simp only;omega
end Go.Al
namespace Go.Proofs.YtaecpjgmcffliaaGreatDoor
open Go.Al
set_option maxHeartbeats 4000000 in
theorem Ia (p:Pg) (hp:p.few):cM cG 93 [p.av] (.bool (gX p)):=by
 have hok:=hp.ok;have ga:=hp.f;have hglob:=vC p hp;have hun:=vU (gB p) (by have:=hp.gl;simp only[cQ];omega);have hfind:=fun i hi s=>Kq p hp i hi s;have hbd:=fun i s=>E9 p i s (by have:=hp.gl;omega) (fun f hf=>by have:=hp.nl f hf;omega);have hN:gX p=(decide (gB p).Nodup&&eM p 0 p.funs):=rfl;have hok2: ∀(i:Nat) (u:Us),fD p i u= !((decide (u.kind=1)&& !decide ((dX p i u.name).1=1)&& !decide ((dX p i u.name).1=2))||(decide (u.kind=3)&& !decide ((dX p i u.name).1=3))||(decide (u.kind=4)&&(!decide ((dX p i u.name).1=4)||decide ((i:Int)≤(dX p i u.name).2)))):=fun _ _=>rfl;have hstep: ∀(i:Nat) (f:Fu) (l:List Fu),eM p i (f::l)=(decide (eD f).Nodup&&(dJ f.body).all (fD p i)&&eM p (i+1) l):=fun _ _ _=>rfl;have hfs:=hp.fs;have hokf:=hok.funs;have hnil: ∀i:Nat,eM p i []=true:=fun _=>rfl;generalize dX p=FF at *;generalize eM p=NF at *;generalize fD p=OU at *;generalize gB p=G at *;generalize gX p=res at hN⊢;obtain⟨vs,aa,fs⟩:=p;simp only[Pg.av,Pg.row]at hglob hfind⊢;simp only at ga hfs hokf hN;refine bM 94 [.tmp 2] Tryz.func93 rfl rfl rfl rfl ?_;refine bT (fun fr H=> ∃b,fr 1= .ptr 3 b 0 0∧H b=some (.rows 3 [[.isl 1 (vs.map bG), .isl 2 (aa.map Ar.row), .isl 5 (fs.map Fu.row)]])) (fun K z=>?_) ?_
 ·refine aA rfl ?_;simp only[RR,seval]
  refine aT fun b hb=>?_;simp only[RR,seval];exact z _ _ ⟨b,rfl,aS _ _ _⟩
 rintro fr H ⟨b,f1,hb⟩;refine aJ ?_;refine aB fun K z=>?_;refine aA rfl ?_;simp only[RR,seval];simp only[f1,hb,RR,seval];refine aP hglob ?_;simp only[RR,seval];refine aP hun ?_;simp only[RR,seval];apply z;clear z;refine aH (!decide G.Nodup) rfl (fun hc=>?_) (fun hc=>?_)
 ·repeat' (first|(refine aB fun K z=>?_;refine aA rfl ?_;simp only[RR,seval];apply z;clear z)|(refine aJ ?_)|(refine aN ?_)|(refine aH true rfl (fun _=>?_) (fun hc=>by cases hc))|(refine aH false rfl (fun hc=>by cases hc) (fun _=>?_))|(refine aK ?_;simp only[aU,aW])|(refine bI ?_;simp only[aU,aW,reduceIte,Nat.reduceEqDiff])|(refine aA rfl ?_;simp only[f1,aU,aW,RR,seval])|(refine aO (fun h=>?_) (fun h=>?_)<;>simp only[h,f1,aU,aW,RR,seval])|(refine aR (fun h=>?_) (fun h=>?_)<;>simp only[h,f1,aU,aW,RR,seval])|(refine aH _ rfl (fun h=>?_) (fun h=>?_))|(refine aM ?_;simp only[aU,aZ,aL,bJ,RR,seval];refine bB.pure ?_))
  rw[hN,show decide G.Nodup=false by simpa using hc];rfl
 rw[show decide G.Nodup=true by simpa using hc,Bool.true_and]at hN;refine aK ?_;simp only[aU];refine bT (fun fr H=>res=true) (fun K z=>?_) ?_
 ·refine aB fun K z=>?_;refine aA rfl ?_;simp only[RR,seval]
  apply z;clear z;refine aN ?_;refine cJ (fun mm fr H=> ∃k:Nat,mm=fs.length-k∧k≤fs.length∧fr 3= .int .i64 k∧fr 1= .ptr 3 b 0 0∧H b=some (.rows 3 [[.isl 1 (vs.map bG), .isl 2 (aa.map Ar.row), .isl 5 (fs.map Fu.row)]])∧res=NF k (fs.drop k)) (fs.length) ⟨0,rfl,Nat.zero_le _,rfl,f1,hb,by rw[List.drop_zero];exact hN⟩ ?_;rintro mm fr H ⟨k,rfl,hkk,hik,f1,hb,hall⟩ K2 hK2;refine aJ ?_;refine aB fun K z=>?_;refine aA rfl ?_;simp only[RR,seval];simp only[hik,f1,hb,aC,RR,seval];apply z;clear z;refine aH _ rfl (fun hc=>?_) (fun hc=>?_)
  ·have hltk:k<fs.length:=by have:=aD hc;omega
   clear hc;refine aK ?_;simp only[aU];refine aJ ?_;refine aN ?_;have hg:=jK (aG hltk);have hfsk:=hfs _ (bE hltk);have hokk:=hokf _ (bE hltk);rw[bD hltk,hstep]at hall;generalize fs[k]=g at hg hfsk hokk hall;have hnm:=Db g (by omega) (by omega);have hun:=vU (eD g) (by simp only[cQ,eD,aI];omega);have hus:=Jw _ g.body rfl (by omega) hokk.body;have hul:=lW _ g.body rfl;refine aJ ?_;refine aB fun K z=>?_;refine aA rfl ?_;simp only[RR,seval];simp only[f1,hb,hik,hg,RR,seval];refine aP hnm ?_;simp only[RR,seval];refine aP hun ?_;simp only[RR,seval];apply z;clear z;refine aH (!decide (eD g).Nodup) rfl (fun hc=>?_) (fun hc=>?_)
   ·repeat' (first|(refine aB fun K z=>?_;refine aA rfl ?_;simp only[RR,seval];apply z;clear z)|(refine aJ ?_)|(refine aN ?_)|(refine aH true rfl (fun _=>?_) (fun hc=>by cases hc))|(refine aH false rfl (fun hc=>by cases hc) (fun _=>?_))|(refine aK ?_;simp only[aU,aW])|(refine bI ?_;simp only[aU,aW,reduceIte,Nat.reduceEqDiff])|(refine aA rfl ?_;simp only[f1,aU,aW,RR,seval])|(refine aO (fun h=>?_) (fun h=>?_)<;>simp only[h,f1,aU,aW,RR,seval])|(refine aR (fun h=>?_) (fun h=>?_)<;>simp only[h,f1,aU,aW,RR,seval])|(refine aH _ rfl (fun h=>?_) (fun h=>?_))|(refine aM ?_;simp only[aU,aW,aZ,aL,bJ,RR,seval];refine bB.pure ?_))
    rw[hall,show decide (eD g).Nodup=false by simpa using hc];rfl
   rw[show decide (eD g).Nodup=true by simpa using hc,Bool.true_and]at hall;refine aK ?_;simp only[aU];refine aB fun K z=>?_;refine aA rfl ?_;simp only[RR,seval];simp only[f1,hb,hik,hg,RR,seval];refine aP hus ?_;simp only[RR,seval];apply z;clear z;generalize dJ g.body=us at hall hul;refine aB fun K z=>?_;refine aA rfl ?_;simp only[RR,seval];apply z;clear z;refine aN ?_;refine cJ (fun mm fr H=> ∃j:Nat,mm=us.length-j∧j≤us.length∧fr 5= .int .i64 j∧fr 1= .ptr 3 b 0 0∧H b=some (.rows 3 [[.isl 1 (vs.map bG), .isl 2 (aa.map Ar.row), .isl 5 (fs.map Fu.row)]])∧fr 3= .int .i64 k∧fr 4= .isl 3 (us.map Us.row)∧us.all (OU k)=(us.drop j).all (OU k)) (us.length) ⟨0,rfl,Nat.zero_le _,rfl,f1,hb,hik,rfl,by rw[List.drop_zero]⟩ ?_;rintro mm fr H ⟨j,rfl,hkj,hij,f1,hb,hik,f4,hua⟩ K3 hK3;refine aJ ?_;refine aB fun K z=>?_;refine aA rfl ?_;simp only[RR,seval];simp only[hij,f4,aC,RR,seval];apply z;clear z;refine aH _ rfl (fun hc=>?_) (fun hc=>?_)
   ·have hltj:j<us.length:=by have:=aD hc;omega
    clear hc;refine aK ?_;simp only[aU];refine aJ ?_;refine aN ?_;have hgu:=BD (aG hltj);rw[bD hltj,List.all_cons]at hua;generalize us[j]=u at hgu hua;have hfn:=hfind k hltk u.name;have hbk:=hbd k u.name;have hou:=hok2 k u;generalize FF k u.name=r at hfn hbk hou;refine aB fun K z=>?_;refine dE (fun x=>x≠b) [(0,true),(1,true),(2,true),(3,true),(4,true),(5,true),(6,true),(7,true),(8,true),(9,true),(10,true),(11,true),(12,true)] cX (by kernel_rfl) rfl ?_;simp only[mR,f1,hb,hik,hij,f4,hgu,RR,seval];refine aP hfn ?_;simp only[RR,seval];apply z;clear z;refine bT (fun fr H=>fr 93= .bool (!OU k u)∧fr 1= .ptr 3 b 0 0∧H b=some (.rows 3 [[.isl 1 (vs.map bG), .isl 2 (aa.map Ar.row), .isl 5 (fs.map Fu.row)]])∧fr 3= .int .i64 k∧fr 4= .isl 3 (us.map Us.row)∧fr 5= .int .i64 j) (fun K z=>?_) ?_
    ·refine aA rfl ?_;simp only[RR,seval]
     simp only[hij,f4,hgu,RR,seval]
     repeat' ((first|refine aO (fun h=>?_) (fun h=>?_)|refine aR (fun h=>?_) (fun h=>?_))<;>simp only[h,hik,hij,f4,hgu,RR,seval])
     all_goals
      refine z _ _ ⟨?_,f1,hb,hik,f4,hij⟩;clear z hK2 hK3;simp [upd,hou, *]
    rintro fr H ⟨f93,f1,hb,hik,f4,hij⟩;refine aH (!OU k u) f93 (fun hc=>?_) (fun hc=>?_)
    ·repeat' (first|(refine aB fun K z=>?_;refine aA rfl ?_;simp only[RR,seval];apply z;clear z)|(refine aJ ?_)|(refine aN ?_)|(refine aH true rfl (fun _=>?_) (fun hc=>by cases hc))|(refine aH false rfl (fun hc=>by cases hc) (fun _=>?_))|(refine aK ?_;simp only[aU,aW])|(refine bI ?_;simp only[aU,aW,reduceIte,Nat.reduceEqDiff])|(refine aA rfl ?_;simp only[f1,aU,aW,RR,seval])|(refine aO (fun h=>?_) (fun h=>?_)<;>simp only[h,f1,aU,aW,RR,seval])|(refine aR (fun h=>?_) (fun h=>?_)<;>simp only[h,f1,aU,aW,RR,seval])|(refine aH _ rfl (fun h=>?_) (fun h=>?_))|(refine aM ?_;simp only[aU,aW,aZ,aL,bJ,RR,seval];refine bB.pure ?_))
     rw[hall,hua,show OU k u=false by simpa using hc];rfl
    rw[show OU k u=true by simpa using hc,Bool.true_and]at hua;refine aK ?_;simp only[aU,aW];refine aA rfl ?_;simp only[RR,seval];simp only[hij,aU,RR,seval];rw[aV _ (by omega)];refine hK3 (us.length-(j+1)) _ _ (by omega) ⟨j+1,rfl,by omega,rfl,f1,hb,hik,f4,hua⟩
   refine bI ?_;simp only[aU,aW,reduceIte,Nat.reduceEqDiff];have hknj:j=us.length:=by have:=aE hc;omega
   clear hc;subst hknj;rw[List.drop_length]at hua;rw[hua,List.all_nil,Bool.true_and]at hall
   try simp only[aU,aW]
   refine aA rfl ?_;simp only[RR,seval];simp only[hik,aU,RR,seval];rw[aV _ (by omega)];refine hK2 (fs.length-(k+1)) _ _ (by omega) ⟨k+1,rfl,by omega,rfl,f1,hb,hall⟩
  refine bI ?_;simp only[aU,aW,reduceIte];have hknk:k=fs.length:=by have:=aE hc;omega
  clear hc;subst hknk;rw[List.drop_length,hnil]at hall;exact z _ _ hall
 rintro fr H h0
 repeat' (first|(refine aB fun K z=>?_;refine aA rfl ?_;simp only[h0,RR,seval];apply z;clear z)|(refine aJ ?_)|(refine aN ?_)|(refine aH true rfl (fun _=>?_) (fun hc=>by cases hc))|(refine aH false rfl (fun hc=>by cases hc) (fun _=>?_))|(refine aK ?_;simp only[aU,aW])|(refine bI ?_;simp only[aU,aW,reduceIte,Nat.reduceEqDiff])|(refine aA rfl ?_;simp only[h0,aU,aW,RR,seval])|(refine aO (fun h=>?_) (fun h=>?_)<;>simp only[h,h0,aU,aW,RR,seval])|(refine aR (fun h=>?_) (fun h=>?_)<;>simp only[h,h0,aU,aW,RR,seval])|(refine aH _ rfl (fun h=>?_) (fun h=>?_))|(refine aM ?_;simp only[aZ,aL,bJ,h0,RR,seval];refine bB.pure ?_))
 rfl
end Go.Proofs.YtaecpjgmcffliaaGreatDoor
namespace Go.Al
end Go.Al
namespace Go.Proofs.YtaecpjgmcffliaaGreatDoor
open Go.Al
set_option maxHeartbeats 4000000 in
theorem zM (p:Pg) (hp:p.few) (hn:gX p=true) (h1:1≤p.funs.length):cM cG 94 [p.av] (.bool (oQ p)):=by
 have hok:=hp.ok;have ga:=hp.f;have hfind:=fun i hi s=>Kq p hp i hi s;have hN:oQ p=(fK p 0 p.funs&&wY p):=rfl;have hL:wY p=match p.funs[p.funs.length- 1]? with |some g=>decide (g.name=Aw)&&decide (g.params.length=0)&& !g.word|none=>false:=rfl
 have hok2: ∀(i:Nat) (u:Us),wT p i u=(!decide (u.kind=4)||(match p.funs[(dX p i u.name).2.toNat]? with |some g=>decide ((g.params.length:Int)=u.num)|none=>false)):=fun _ _=>rfl;have hstep: ∀(i:Nat) (f:Fu) (l:List Fu),fK p i (f::l)=((dJ f.body).all (wT p i)&&fK p (i+1) l):=fun _ _ _=>rfl;have hnil: ∀i:Nat,fK p i []=true:=fun _=>rfl
 have hcall: ∀(i:Nat) f,p.funs[i]?=some f→ ∀u∈dJ f.body,u.kind=4→0≤(dX p i u.name).2∧(dX p i u.name).2<p.funs.length:=fun i f hf u hu hk=>by
  simp only[gX,bA]at hn;have h2:=(lR p p.funs 0 hn.2 i f hf).2;rw[List.all_eq_true,Nat.zero_add]at h2;have h3:=h2 u hu;refine xL p i u.name ?_;simp only[fD,hk,decide_true,Bool.true_and]at h3;by_cases h4:(dX p i u.name).1=4
  ·exact h4
  simp [h4]at h3
 have hfs:=hp.fs;have hokf:=hok.funs;generalize wY p=LB at *;generalize fK p=NF at *;generalize wT p=OU at *;generalize dX p=FF at *;generalize oQ p=res at hN⊢;obtain⟨vs,aa,fs⟩:=p;simp only[Pg.av,Pg.row]at hfind⊢;simp only at ga hfs hokf hN hcall hok2 hL h1;refine bM 81 [.tmp 2] Tryz.func94 rfl rfl rfl rfl ?_;refine bT (fun fr H=> ∃b,fr 1= .ptr 3 b 0 0∧H b=some (.rows 3 [[.isl 1 (vs.map bG), .isl 2 (aa.map Ar.row), .isl 5 (fs.map Fu.row)]])) (fun K z=>?_) ?_
 ·refine aA rfl ?_;simp only[RR,seval]
  refine aT fun b hb=>?_;simp only[RR,seval];exact z _ _ ⟨b,rfl,aS _ _ _⟩
 rintro fr H ⟨b,f1,hb⟩;refine bT (fun fr H=>res=LB∧fr 1= .ptr 3 b 0 0∧H b=some (.rows 3 [[.isl 1 (vs.map bG), .isl 2 (aa.map Ar.row), .isl 5 (fs.map Fu.row)]])) (fun K z=>?_) ?_
 ·refine aB fun K z=>?_;refine aA rfl ?_;simp only[RR,seval]
  apply z;clear z;refine aN ?_;refine cJ (fun mm fr H=> ∃k:Nat,mm=fs.length-k∧k≤fs.length∧fr 3= .int .i64 k∧fr 1= .ptr 3 b 0 0∧H b=some (.rows 3 [[.isl 1 (vs.map bG), .isl 2 (aa.map Ar.row), .isl 5 (fs.map Fu.row)]])∧res=(NF k (fs.drop k)&&LB)) (fs.length) ⟨0,rfl,Nat.zero_le _,rfl,f1,hb,by rw[List.drop_zero];exact hN⟩ ?_;rintro mm fr H ⟨k,rfl,hkk,hik,f1,hb,hall⟩ K2 hK2;refine aJ ?_;refine aB fun K z=>?_;refine aA rfl ?_;simp only[RR,seval];simp only[hik,f1,hb,aC,RR,seval];apply z;clear z;refine aH _ rfl (fun hc=>?_) (fun hc=>?_)
  ·have hltk:k<fs.length:=by have:=aD hc;omega
   clear hc;refine aK ?_;simp only[aU];refine aJ ?_;refine aN ?_;have hg0:=aG hltk;have hg:=jK hg0;have hfsk:=hfs _ (bE hltk);have hokk:=hokf _ (bE hltk);have hck:=hcall k _ hg0;rw[bD hltk,hstep]at hall;generalize fs[k]=g at hg hfsk hokk hall hck;have hus:=Jw _ g.body rfl (by omega) hokk.body;have hul:=lW _ g.body rfl;refine aB fun K z=>?_;refine aA rfl ?_;simp only[RR,seval];simp only[f1,hb,hik,hg,RR,seval];refine aP hus ?_;simp only[RR,seval];apply z;clear z;generalize dJ g.body=us at hall hul hck;refine aB fun K z=>?_;refine aA rfl ?_;simp only[RR,seval];apply z;clear z;refine aN ?_;refine cJ (fun mm fr H=> ∃j:Nat,mm=us.length-j∧j≤us.length∧fr 5= .int .i64 j∧fr 1= .ptr 3 b 0 0∧H b=some (.rows 3 [[.isl 1 (vs.map bG), .isl 2 (aa.map Ar.row), .isl 5 (fs.map Fu.row)]])∧fr 3= .int .i64 k∧fr 4= .isl 3 (us.map Us.row)∧us.all (OU k)=(us.drop j).all (OU k)) (us.length) ⟨0,rfl,Nat.zero_le _,rfl,f1,hb,hik,rfl,by rw[List.drop_zero]⟩ ?_;rintro mm fr H ⟨j,rfl,hkj,hij,f1,hb,hik,f4,hua⟩ K3 hK3;refine aJ ?_;refine aB fun K z=>?_;refine aA rfl ?_;simp only[RR,seval];simp only[hij,f4,aC,RR,seval];apply z;clear z;refine aH _ rfl (fun hc=>?_) (fun hc=>?_)
   ·have hltj:j<us.length:=by have:=aD hc;omega
    clear hc;refine aK ?_;simp only[aU];refine aJ ?_;refine aN ?_;have hgu:=BD (aG hltj);have hcu:=hck _ (bE hltj);rw[bD hltj,List.all_cons]at hua;generalize us[j]=u at hgu hua hcu;have hou:=hok2 k u;by_cases hk4:u.kind=4
    ·have hfn:=hfind k hltk u.name
     obtain⟨c1,c2⟩:=hcu hk4;generalize FF k u.name=r at hfn hou c1 c2;obtain⟨n,hn2⟩:=Int.eq_ofNat_of_zero_le c1;have hnl:n<fs.length:=by omega
     have hgn:=jK (aG hnl);rw[hn2,Int.toNat_natCast,aG hnl,hk4]at hou;simp only[decide_true,Bool.not_true,Bool.false_or]at hou;generalize fs[n]=gn at hgn hou;have k4:decide (u.kind=4)=true:=bQ hk4;refine aJ ?_;refine aB fun K z=>?_;refine aA rfl ?_;simp only[RR,seval];simp only[hij,f4,hgu,k4,RR,seval];apply z;clear z;refine aH false rfl (fun hc=>by cases hc) (fun _=>?_);refine aK ?_;simp only[aU];refine aB fun K z=>?_;refine dE (fun x=>x≠b) [(0,true),(1,true),(2,true),(3,true),(4,true),(5,true),(6,true),(7,true),(8,true),(9,true),(10,true),(11,true),(12,true)] cX (by kernel_rfl) rfl ?_;simp only[mR,f1,hb,hik,hij,f4,hgu,RR,seval];refine aP hfn ?_;simp only[hn2,RR,seval];apply z;clear z;refine aB fun K z=>?_;refine dE (fun x=>x≠b) [(0,true),(1,true),(2,true),(3,true),(4,true),(5,true),(6,true),(7,true),(8,true),(9,true),(10,true),(11,true),(12,true)] cX (by kernel_rfl) rfl ?_;simp only[mR,f1,hb,hij,f4,hgu,hgn,aC,RR,seval];apply z;clear z;refine aH (!decide ((gn.params.length:Int)=u.num)) rfl (fun hc=>?_) (fun hc=>?_)
     ·repeat' (first|(refine aB fun K z=>?_;refine aA rfl ?_;simp only[RR,seval];apply z;clear z)|(refine aJ ?_)|(refine aN ?_)|(refine aH true rfl (fun _=>?_) (fun hc=>by cases hc))|(refine aH false rfl (fun hc=>by cases hc) (fun _=>?_))|(refine aK ?_;simp only[aU,aW])|(refine bI ?_;simp only[aU,aW,reduceIte,Nat.reduceEqDiff])|(refine aA rfl ?_;simp only[f1,aU,aW,RR,seval])|(refine aO (fun h=>?_) (fun h=>?_)<;>simp only[h,f1,aU,aW,RR,seval])|(refine aR (fun h=>?_) (fun h=>?_)<;>simp only[h,f1,aU,aW,RR,seval])|(refine aH _ rfl (fun h=>?_) (fun h=>?_))|(refine aM ?_;simp only[aU,aW,aZ,aL,bJ,RR,seval];refine bB.pure ?_))
      rw[hall,hua,hou,show decide ((gn.params.length:Int)=u.num)=false by simpa using hc];rfl
     rw[hou,show decide ((gn.params.length:Int)=u.num)=true by simpa using hc,Bool.true_and]at hua;refine aK ?_;simp only[aU,aW];refine aA rfl ?_;simp only[RR,seval];simp only[hij,aU,RR,seval];rw[aV _ (by omega)];refine hK3 (us.length-(j+1)) _ _ (by omega) ⟨j+1,rfl,by omega,rfl,f1,hb,hik,f4,hua⟩
    have k4:decide (u.kind=4)=false:=aX hk4;rw[k4]at hou;simp only[Bool.not_false,Bool.true_or]at hou;rw[hou,Bool.true_and]at hua;refine aJ ?_;refine aB fun K z=>?_;refine aA rfl ?_;simp only[RR,seval];simp only[hij,f4,hgu,k4,RR,seval];apply z;clear z;refine aH true rfl (fun _=>?_) (fun hc=>by cases hc);refine bI ?_;simp only[aU,aW,reduceIte,Nat.reduceEqDiff];refine aA rfl ?_;simp only[RR,seval];simp only[hij,aU,RR,seval];rw[aV _ (by omega)];refine hK3 (us.length-(j+1)) _ _ (by omega) ⟨j+1,rfl,by omega,rfl,f1,hb,hik,f4,hua⟩
   refine bI ?_;simp only[aU,aW,reduceIte,Nat.reduceEqDiff];have hknj:j=us.length:=by have:=aE hc;omega
   clear hc;subst hknj;rw[List.drop_length]at hua;rw[hua,List.all_nil,Bool.true_and]at hall
   try simp only[aU,aW]
   refine aA rfl ?_;simp only[RR,seval];simp only[hik,aU,RR,seval];rw[aV _ (by omega)];refine hK2 (fs.length-(k+1)) _ _ (by omega) ⟨k+1,rfl,by omega,rfl,f1,hb,hall⟩
  refine bI ?_;simp only[aU,aW,reduceIte];have hknk:k=fs.length:=by have:=aE hc;omega
  clear hc;subst hknk;rw[List.drop_length,hnil,Bool.true_and]at hall;exact z _ _ ⟨hall,f1,hb⟩
 rintro fr H ⟨hres,f1,hb⟩;have hlt:fs.length- 1<fs.length:=by omega
 have hg:=jK (aG hlt);rw[aG hlt]at hL;generalize fs[fs.length- 1]=g at hg hL;have w1:IntKind.wrap .i64 ((fs.length:Int)- 1)=((fs.length- 1:Nat):Int):=by rw[aV _ (by omega)];omega
 have d1:decide ((g.params.length:Int)=0)=decide (g.params.length=0):=by rw[Bool.eq_iff_iff];simp only[bC];omega
 refine aB fun K z=>?_;refine aA rfl ?_;simp only[RR,seval];simp only[f1,hb,w1,hg,aC,RR,seval];refine aT fun b1 hb1=>?_;simp only[RR,seval];apply z;clear z;have hH1:(upd (upd H b1 (some (.rows 5 [[.str [], .nsl, .nsl, .bool false, .nsl]]))) b1 (some (.rows 5 [[.str g.name, .isl 1 (g.params.map bG), .isl 1 (g.locs.map bG), .bool g.word, .isl 5 (g.body.map Sm.row)]]))) b1=some (.rows 5 [[.str g.name, .isl 1 (g.params.map bG), .isl 1 (g.locs.map bG), .bool g.word, .isl 5 (g.body.map Sm.row)]]):=aS _ _ _;generalize(upd (upd H b1 (some (.rows 5 [[.str [], .nsl, .nsl, .bool false, .nsl]]))) b1 (some (.rows 5 [[.str g.name, .isl 1 (g.params.map bG), .isl 1 (g.locs.map bG), .bool g.word, .isl 5 (g.body.map Sm.row)]])))=H1 at hH1⊢;simp only at hL;subst hres;rw[hL]
 cases e1:decide (g.name=Aw)with
 |false=>
  have e1':decide (g.name=[109,97,105,110])=false:=e1
  repeat' (first|(refine aB fun K z=>?_;refine aA rfl ?_;simp only[hH1,e1',RR,seval];apply z;clear z)|(refine aJ ?_)|(refine aN ?_)|(refine aH true rfl (fun _=>?_) (fun hc=>by cases hc))|(refine aH false rfl (fun hc=>by cases hc) (fun _=>?_))|(refine aK ?_;simp only[aU,aW])|(refine bI ?_;simp only[aU,aW,reduceIte,Nat.reduceEqDiff])|(refine aA rfl ?_;simp only[hH1,e1',d1,aC,aU,aW,RR,seval])|(refine aO (fun h=>?_) (fun h=>?_)<;>simp only[h,hH1,e1',d1,aC,aU,aW,RR,seval])|(refine aR (fun h=>?_) (fun h=>?_)<;>simp only[h,hH1,e1',d1,aC,aU,aW,RR,seval])|(refine aH _ rfl (fun h=>?_) (fun h=>?_))|(refine aM ?_;simp only[aZ,aL,bJ,RR,seval];refine bB.pure ?_))
  rfl
 |true=>
  have e1':decide (g.name=[109,97,105,110])=true:=e1
  cases e2:decide (g.params.length=0)with
  |false=>
   rw[e2]at d1
   repeat' (first|(refine aB fun K z=>?_;refine aA rfl ?_;simp only[hH1,e1',d1,aC,RR,seval];apply z;clear z)|(refine aJ ?_)|(refine aN ?_)|(refine aH true rfl (fun _=>?_) (fun hc=>by cases hc))|(refine aH false rfl (fun hc=>by cases hc) (fun _=>?_))|(refine aK ?_;simp only[aU,aW])|(refine bI ?_;simp only[aU,aW,reduceIte,Nat.reduceEqDiff])|(refine aA rfl ?_;simp only[hH1,e1',d1,aC,aU,aW,RR,seval])|(refine aO (fun h=>?_) (fun h=>?_)<;>simp only[h,hH1,e1',d1,aC,aU,aW,RR,seval])|(refine aR (fun h=>?_) (fun h=>?_)<;>simp only[h,hH1,e1',d1,aC,aU,aW,RR,seval])|(refine aH _ rfl (fun h=>?_) (fun h=>?_))|(refine aM ?_;simp only[aZ,aL,bJ,RR,seval];refine bB.pure ?_))
   rfl
  |true=>
   rw[e2]at d1
   repeat' (first|(refine aB fun K z=>?_;refine aA rfl ?_;simp only[hH1,e1',d1,aC,RR,seval];apply z;clear z)|(refine aJ ?_)|(refine aN ?_)|(refine aH true rfl (fun _=>?_) (fun hc=>by cases hc))|(refine aH false rfl (fun hc=>by cases hc) (fun _=>?_))|(refine aK ?_;simp only[aU,aW])|(refine bI ?_;simp only[aU,aW,reduceIte,Nat.reduceEqDiff])|(refine aA rfl ?_;simp only[hH1,e1',d1,aC,aU,aW,RR,seval])|(refine aO (fun h=>?_) (fun h=>?_)<;>simp only[h,hH1,e1',d1,aC,aU,aW,RR,seval])|(refine aR (fun h=>?_) (fun h=>?_)<;>simp only[h,hH1,e1',d1,aC,aU,aW,RR,seval])|(refine aH _ rfl (fun h=>?_) (fun h=>?_))|(refine aM ?_;simp only[aZ,aL,bJ,RR,seval];refine bB.pure ?_))
   rfl
theorem Lm (p:Pg) (hp:p.few) (h1:1≤p.funs.length):cM cG 61 [p.av] (.int .i64 (gY p)):=by
 have hnames:=Ia p hp;have hnums:=fun h=>zM p hp h h1;have hC:gY p=if gX p then(if oQ p then 0 else 1)else 4:=rfl
 simp only[Pg.av,Pg.row]at hnames hnums⊢;generalize gY p=res at *;refine bM 9 [.tmp 2] Tryz.func61 rfl rfl rfl rfl ?_;refine bT (fun fr H=> ∃b,fr 1= .ptr 3 b 0 0∧H b=some (.rows 3 [[.isl 1 (p.vars.map bG), .isl 2 (p.arrs.map Ar.row), .isl 5 (p.funs.map Fu.row)]])) (fun K z=>?_) ?_
 ·refine aA rfl ?_;simp only[RR,seval]
  refine aT fun b hb=>?_;simp only[RR,seval];exact z _ _ ⟨b,rfl,aS _ _ _⟩
 rintro fr H ⟨b,f1,hb⟩;refine aJ ?_;refine aB fun K z=>?_;refine aA rfl ?_;simp only[RR,seval];simp only[f1,hb,RR,seval];refine aP hnames ?_;simp only[RR,seval];apply z;clear z
 cases hn:gX p with
 |false=>
  rw[hn]at hC
  repeat' (first|(refine aB fun K z=>?_;refine aA rfl ?_;simp only[RR,seval];apply z;clear z)|(refine aJ ?_)|(refine aN ?_)|(refine aH true rfl (fun _=>?_) (fun hc=>by cases hc))|(refine aH false rfl (fun hc=>by cases hc) (fun _=>?_))|(refine aK ?_;simp only[aU,aW])|(refine bI ?_;simp only[aU,aW,reduceIte,Nat.reduceEqDiff])|(refine aA rfl ?_;simp only[hn,aU,aW,RR,seval])|(refine aO (fun h=>?_) (fun h=>?_)<;>simp only[h,hn,aU,aW,RR,seval])|(refine aR (fun h=>?_) (fun h=>?_)<;>simp only[h,hn,aU,aW,RR,seval])|(refine aH _ rfl (fun h=>?_) (fun h=>?_))|(refine aM ?_;simp only[aU,aZ,aL,bJ,RR,seval];refine bB.pure ?_))
  rw[hC];rfl
 |true=>
  rw[hn]at hC;refine aH false (by simp [upd,ev]) (fun hc=>by cases hc) (fun _=>?_);refine aK ?_;simp only[aU];refine aJ ?_;refine aB fun K z=>?_;refine aA rfl ?_;simp only[RR,seval];simp only[f1,hb,RR,seval];refine aP (hnums hn) ?_;simp only[RR,seval];apply z;clear z
  cases hm:oQ p with
  |false=>
   rw[hm]at hC
   repeat' (first|(refine aB fun K z=>?_;refine aA rfl ?_;simp only[RR,seval];apply z;clear z)|(refine aJ ?_)|(refine aN ?_)|(refine aH true rfl (fun _=>?_) (fun hc=>by cases hc))|(refine aH false rfl (fun hc=>by cases hc) (fun _=>?_))|(refine aK ?_;simp only[aU,aW])|(refine bI ?_;simp only[aU,aW,reduceIte,Nat.reduceEqDiff])|(refine aA rfl ?_;simp only[hm,aU,aW,RR,seval])|(refine aO (fun h=>?_) (fun h=>?_)<;>simp only[h,hm,aU,aW,RR,seval])|(refine aR (fun h=>?_) (fun h=>?_)<;>simp only[h,hm,aU,aW,RR,seval])|(refine aH _ rfl (fun h=>?_) (fun h=>?_))|(refine aM ?_;simp only[aU,aZ,aL,bJ,RR,seval];refine bB.pure ?_))
   rw[hC];rfl
  |true=>
   rw[hm]at hC
   repeat' (first|(refine aB fun K z=>?_;refine aA rfl ?_;simp only[RR,seval];apply z;clear z)|(refine aJ ?_)|(refine aN ?_)|(refine aH true rfl (fun _=>?_) (fun hc=>by cases hc))|(refine aH false rfl (fun hc=>by cases hc) (fun _=>?_))|(refine aK ?_;simp only[aU])|(refine bI ?_;simp only[aU,aW,reduceIte,Nat.reduceEqDiff])|(refine aA rfl ?_;simp only[hm,aU,aW,RR,seval])|(refine aO (fun h=>?_) (fun h=>?_)<;>simp only[h,hm,aU,aW,RR,seval])|(refine aR (fun h=>?_) (fun h=>?_)<;>simp only[h,hm,aU,aW,RR,seval])|(refine aH _ rfl (fun h=>?_) (fun h=>?_))|(refine aM ?_;simp only[aZ,aL,bJ,RR,seval];refine bB.pure ?_))
   rw[hC];rfl
end Go.Proofs.YtaecpjgmcffliaaGreatDoor
namespace Go.Al
end Go.Al
namespace Go.Proofs.YtaecpjgmcffliaaGreatDoor
open Go.Al
end Go.Proofs.YtaecpjgmcffliaaGreatDoor
namespace Go.Proofs.YtaecpjgmcffliaaGreatDoor
open Go.Al
end Go.Proofs.YtaecpjgmcffliaaGreatDoor
