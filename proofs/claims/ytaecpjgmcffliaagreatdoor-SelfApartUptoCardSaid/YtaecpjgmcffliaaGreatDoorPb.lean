/- Chapter 52: a short text is that of one list of statements only, in plain Lean. -/
import Derived.Test.YtaecpjgmcffliaaGreatDoorPa
import Derived.Test.YtaecpjgmcffliaaGreatDoorWc
set_option linter.unusedSimpArgs false
set_option linter.unusedVariables false
set_option maxRecDepth 10000
namespace Go.Proofs.YtaecpjgmcffliaaGreatDoor
open Go.Al
structure DS where
 stk:List Ex
 body:List Sm
 frs:List (Int×Ex×List Sm)
 acc:Option Nat
 col:Bool
def Vi:Ex:= .mk 0 0 0 [] []
def CV (c:UInt8):Int:=4+(Zv.findIdx (· ==c):Nat)
def Tu (c:UInt8):Bool:=decide (48≤c.toNat)&&decide (c.toNat≤57)
def C5 (c:UInt8):Bool:=decide (97≤c.toNat)&&decide (c.toNat≤122)
def qG (s:DS) (c:UInt8):DS:=
 if s.col then {s with col:=false,stk:=s.stk.tail,body:=s.body++[.mk 1 [c] [s.stk.headD Vi] [] []]}
 else if Tu c then {s with acc:=some (s.acc.getD 0 *10+(c.toNat- 48))}
 else if c=32 then {s with acc:=none,stk:= .mk 1 0 ((s.acc.getD 0:Nat):Int) [] []::s.stk}
 else if C5 c then {s with stk:= .mk 2 0 0 [c] []::s.stk}
 else if c=64 then {s with stk:= .mk 3 0 0 [116] [s.stk.headD Vi]::s.stk.tail}
 else if c=63 then {s with stk:= .mk 5 0 0 [] []::s.stk}
 else if c=33 then {s with stk:= .mk 7 0 0 [] [s.stk.headD Vi]::s.stk.tail}
 else if c=58 then {s with col:=true}
 else if c=35 then {s with stk:=s.stk.tail.tail,body:=s.body++[.mk 2 [116] [s.stk.tail.headD Vi,s.stk.headD Vi] [] []]}
 else if c=46 then {s with stk:=s.stk.tail,body:=s.body++[.mk 3 [] [s.stk.headD Vi] [] []]}
 else if c=73 then {s with stk:=s.stk.tail,body:=[],frs:=(4,s.stk.headD Vi,s.body)::s.frs}
 else if c=68 then {s with stk:=s.stk.tail,body:=[],frs:=(5,s.stk.headD Vi,s.body)::s.frs}
 else if c=70∨c=69 then(match s.frs with
  |(k,e,b)::r=>{s with body:=b++[.mk k [] [e] s.body []],frs:=r}
  |[]=>s)
 else if c=87 then s
 else {s with stk:= .mk 6 (CV c) 0 [] [s.stk.tail.headD Vi,s.stk.headD Vi]::s.stk.tail.tail}
def Eo (t:cN) (s:DS):DS:=t.foldl qG s
theorem eE (a b:cN) (s:DS):Eo (a++b) s=Eo b (Eo a s):=List.foldl_append
theorem eL (c:UInt8) (s:DS):Eo [c] s=qG s c:=rfl
def DS.calm (s:DS):Prop:=s.acc=none∧s.col=false
theorem Oc (n:Nat): ∀s:DS,s.calm→Eo (Lib.decDigits n) s={s with acc:=some n}:=by
 induction n using Nat.strongRecOn with
 |_ n ih=>
  intro s hs
  have one: ∀(d:Nat) (s:DS),d<10→s.col=false→qG s (UInt8.ofNat (48+d))={s with acc:=some (s.acc.getD 0 *10+d)}:=fun d s hd hc=>by
   have hv:(UInt8.ofNat (48+d)).toNat=48+d:=by simp;omega
   have hdg:Tu (UInt8.ofNat (48+d))=true:=by simp only[Tu,hv,bA,bC];omega
   unfold qG;rw[if_neg (by rw[hc];decide),if_pos hdg,hv];congr 2;omega
  rw[Lib.decDigits];split
  ·rename_i h
   rw[eL,one n s h hs.2,hs.1];simp
  rename_i h;rw[eE,ih (n/10) (by omega) s hs,eL,one (n % 10) {s with acc:=some (n/10)} (Nat.mod_lt _ (by omega)) hs.2];simp only[Option.getD_some];congr 2;omega
inductive SX:Ex→Prop where
 |num (n:Int) (h:iN n):SX (.mk 1 0 n [] [])
 |var (c:UInt8) (h:C5 c=true):SX (.mk 2 0 0 [c] [])
 |idx (a:Ex) (ha:SX a):SX (.mk 3 0 0 [116] [a])
 |get:SX (.mk 5 0 0 [] [])
 |neg (a:Ex) (ha:SX a):SX (.mk 7 0 0 [] [a])
 |op (o:Int) (a b:Ex) (h:4≤o∧o≤15) (ha:SX a) (hb:SX b):SX (.mk 6 o 0 [] [a,b])
theorem vE (a:Ex):eQ [a]=jU a:=by simp [eQ]
theorem J9 (a b:Ex):eQ [a,b]=jU a++jU b:=by simp [eQ]
theorem mT {e:Ex} (h:SX e): ∀s:DS,s.calm→Eo (jU e) s={s with stk:=e::s.stk}:=by
 induction h with
 |num n h=>
  intro s hs;have e1:jU (.mk 1 0 n [] [])=Lib.decDigits n.toNat++[32]:=by simp [jU,eQ,fB]
  rw[e1,eE,Oc _ s hs,eL];unfold qG;rw[if_neg (by rw[hs.2];decide),if_neg (by decide),if_pos rfl];simp only[Option.getD_some,Int.toNat_of_nonneg h.1];obtain⟨stk,body,frs,acc,col⟩:=s;obtain⟨rfl,rfl⟩:=hs;rfl
 |var c h=>
  intro s hs;have e1:jU (.mk 2 0 0 [c] [])=[c]:=by simp [jU,eQ,fB]
  have hc:97≤c.toNat∧c.toNat≤122:=by simp only[C5,bA,bC]at h;exact h
  have hd:Tu c=false:=by
   cases e:Tu c with
   |false=>rfl
   |true=>simp only[Tu,bA,bC]at e;omega
  have h32:c≠32:=fun e=>by rw[e]at hc;exact absurd hc (by decide)
  rw[e1,eL];unfold qG;rw[if_neg (by rw[hs.2];decide),if_neg (by rw[hd];decide),if_neg h32,if_pos h]
 |idx a ha ih=>
  intro s hs;have e1:jU (.mk 3 0 0 [116] [a])=jU a++[64]:=by rw[jU,vE];simp [fB]
  rw[e1,eE,ih s hs,eL];obtain⟨stk,body,frs,acc,col⟩:=s;obtain⟨rfl,rfl⟩:=hs;rfl
 |get=>
  intro s hs;have e1:jU (.mk 5 0 0 [] [])=[63]:=by simp [jU,eQ,fB]
  rw[e1,eL];obtain⟨stk,body,frs,acc,col⟩:=s;obtain⟨rfl,rfl⟩:=hs;rfl
 |neg a ha ih=>
  intro s hs;have e1:jU (.mk 7 0 0 [] [a])=jU a++[33]:=by rw[jU,vE];simp [fB]
  rw[e1,eE,ih s hs,eL];obtain⟨stk,body,frs,acc,col⟩:=s;obtain⟨rfl,rfl⟩:=hs;rfl
 |op o a b h ha hb iha ihb=>
  intro s hs
  have key: ∀o:Int,4≤o∧o≤15→ ∃c:UInt8,Zv[(o- 4).toNat]?=some c∧ ∀s:DS,s.calm→qG s c={s with stk:= .mk 6 o 0 [] [s.stk.tail.headD Vi,s.stk.headD Vi]::s.stk.tail.tail}:=by
   intro o ho;have :o=4∨o=5∨o=6∨o=7∨o=8∨o=9∨o=10∨o=11∨o=12∨o=13∨o=14∨o=15:=by omega
   rcases this with rfl|rfl|rfl|rfl|rfl|rfl|rfl|rfl|rfl|rfl|rfl|rfl<;>exact⟨_,rfl,fun s hs=>by
    obtain⟨stk,body,frs,acc,col⟩:=s;obtain⟨rfl,rfl⟩:=hs
    rfl⟩
  obtain⟨c,hc,hstep⟩:=key o h;have e1:jU (.mk 6 o 0 [] [a,b])=jU a++(jU b++[c]):=by rw[jU,J9];simp [fB,hc]
  rw[e1,eE,iha s hs,eE,ihb {s with stk:=a::s.stk} hs,eL,hstep {s with stk:=b::a::s.stk} hs];rfl
inductive SS:Sm→Prop where
 |set (c:UInt8) (e:Ex) (he:SX e):SS (.mk 1 [c] [e] [] [])
 |store (a e:Ex) (ha:SX a) (he:SX e):SS (.mk 2 [116] [a,e] [] [])
 |put (e:Ex) (he:SX e):SS (.mk 3 [] [e] [] [])
 |cond (e:Ex) (t:List Sm) (he:SX e) (ht: ∀s∈t,SS s):SS (.mk 4 [] [e] t [])
 |loop (e:Ex) (t:List Sm) (he:SX e) (ht: ∀s∈t,SS s):SS (.mk 5 [] [e] t [])
theorem sM {l:List Sm} (h: ∀m∈l, ∀s:DS,s.calm→Eo (mZ m) s={s with body:=s.body++[m]}): ∀s:DS,s.calm→Eo (iZ l) s={s with body:=s.body++l}:=by
 induction l with
 |nil=>intro s _;rw[iZ,List.append_nil];rfl
 |cons m l ih=>
  intro s hs;rw[iZ,eE,h m (List.mem_cons_self) s hs,ih (fun x hx=>h x (List.mem_cons_of_mem _ hx)) {s with body:=s.body++[m]} hs];simp only[List.append_assoc,List.cons_append,List.nil_append]
theorem Iz {m:Sm} (h:SS m): ∀s:DS,s.calm→Eo (mZ m) s={s with body:=s.body++[m]}:=by
 induction h with
 |set c e he=>
  intro s hs;have e1:mZ (.mk 1 [c] [e] [] [])=jU e++([58]++[c]):=by simp [mZ,vE]
  rw[e1,eE,mT he s hs,eE,eL,eL];obtain⟨stk,body,frs,acc,col⟩:=s;obtain⟨rfl,rfl⟩:=hs;rfl
 |store a e ha he=>
  intro s hs;have e1:mZ (.mk 2 [116] [a,e] [] [])=jU a++(jU e++[35]):=by simp [mZ,J9]
  rw[e1,eE,mT ha s hs,eE,mT he {s with stk:=a::s.stk} hs,eL];obtain⟨stk,body,frs,acc,col⟩:=s;obtain⟨rfl,rfl⟩:=hs;rfl
 |put e he=>
  intro s hs;have e1:mZ (.mk 3 [] [e] [] [])=jU e++[46]:=by simp [mZ,vE]
  rw[e1,eE,mT he s hs,eL];obtain⟨stk,body,frs,acc,col⟩:=s;obtain⟨rfl,rfl⟩:=hs;rfl
 |cond e t he ht ih=>
  intro s hs;have e1:mZ (.mk 4 [] [e] t [])=jU e++([73]++(iZ t++[70])):=by simp [mZ,vE]
  have q:qG {s with stk:=e::s.stk} 73={s with body:=[],frs:=(4,e,s.body)::s.frs}:=by
   obtain⟨stk,body,frs,acc,col⟩:=s;obtain⟨rfl,rfl⟩:=hs;rfl
  rw[e1,eE,mT he s hs,eE,eL,q,eE,sM ih {s with body:=[],frs:=(4,e,s.body)::s.frs} hs,eL];obtain⟨stk,body,frs,acc,col⟩:=s;obtain⟨rfl,rfl⟩:=hs;rfl
 |loop e t he ht ih=>
  intro s hs;have e1:mZ (.mk 5 [] [e] t [])=[87]++(jU e++([68]++(iZ t++[69]))):=by simp [mZ,vE]
  have q0:qG s 87=s:=by
   obtain⟨stk,body,frs,acc,col⟩:=s;obtain⟨rfl,rfl⟩:=hs;rfl
  have q:qG {s with stk:=e::s.stk} 68={s with body:=[],frs:=(5,e,s.body)::s.frs}:=by
   obtain⟨stk,body,frs,acc,col⟩:=s;obtain⟨rfl,rfl⟩:=hs;rfl
  rw[e1,eE,eL,q0,eE,mT he s hs,eE,eL,q,eE,sM ih {s with body:=[],frs:=(5,e,s.body)::s.frs} hs,eL];obtain⟨stk,body,frs,acc,col⟩:=s;obtain⟨rfl,rfl⟩:=hs;rfl
theorem Yu {l m:List Sm} (hl: ∀s∈l,SS s) (hm: ∀s∈m,SS s) (h:iZ l=iZ m):l=m:=by
 have h1:=sM (fun s hs=>Iz (hl s hs)) ⟨[],[],[],none,false⟩ ⟨rfl,rfl⟩;have h2:=sM (fun s hs=>Iz (hm s hs)) ⟨[],[],[],none,false⟩ ⟨rfl,rfl⟩;rw[h,h2]at h1;injection h1 with _ h1
 simpa using h1.symm
theorem Ds {p:Pg} (h:fN p=0):gX p=true∧oQ p=true:=by
 have hr:=jE h;unfold fN at h;rw[if_pos hr]at h;by_cases h2:gY p=0
 ·unfold gY at h2
  split at h2
  ·rename_i a1
   split at h2
   ·rename_i a2;exact⟨a1,a2⟩
   cases h2
  cases h2
 rw[if_neg h2]at h;exact absurd h h2
structure vP (p:Pg) (f:Fu):Prop where
 funs:p.funs=[f]
 params:f.params=[]
 locs:f.locs=[]
 arrs: ∀a∈p.arrs,a.name=[116]
 vars: ∀s∈p.vars,oZ s=true
 uses: ∀u∈dJ f.body,fD p 0 u=true
 right:dW f.body 1=true
 kinds:f.body.all lJ=true
theorem He {p:Pg} (h:dY (fun l=>l.all lJ) p=true): ∃f,vP p f:=by
 simp only[dY,bA,bC]at h;obtain⟨h0,h1,h2,h3,h4,h5,h6⟩:=h;obtain⟨n1,n2⟩:=Ds h0;have hr:=jE h0
 obtain⟨f,hf⟩: ∃f,p.funs=[f]:=by
  match hp:p.funs,h1 with
  |[f],_=>exact⟨f,rfl⟩
 rw[hf]at h2 h6;simp only[List.all_cons,List.all_nil,Bool.and_true,bC]at h2 h6;refine⟨f,hf, ?_,List.eq_nil_of_length_eq_zero h2,fun a ha=>?_,fun s hs=>List.all_eq_true.1 h4 s hs,fun u hu=>?_, ?_,h6⟩
 ·simp only[oQ,bA,wY,hf]at n2
  have:=n2.2;simp only[List.length_singleton,Nat.sub_self,List.getElem?_cons_zero,bA,bC]at this;exact List.eq_nil_of_length_eq_zero this.1.2
 ·have:=List.all_eq_true.1 h5 a ha
  simp only[zH,bA,bC]at this;exact this.1
 ·simp only[gX,bA,hf,eM,List.all_eq_true]at n1
  exact n1.2.1.2 u hu
 simp only[dH,bA,hf,List.all_cons,List.all_nil,eT]at hr;exact hr.2.1.2
theorem pP {p:Pg} {f:Fu} (h:vP p f) {u:Us} (hu:fD p 0 u=true):(u.kind=1→ ∃c,u.name=[c]∧C5 c=true)∧(u.kind=3→u.name=[116]):=by
 have hF:dX p 0 u.name=lM p u.name:=by
  simp only[dX,h.funs,List.getElem?_cons_zero,Option.bind_some,eD,h.params,h.locs,List.append_nil,cC]
 simp only[fD,hF,Bool.not_eq_true',Bool.or_eq_false_iff,Bool.and_eq_false_iff,decide_eq_false_iff_not,Bool.not_eq_false',bC]at hu;obtain⟨⟨k1,k3⟩,_⟩:=hu;unfold lM at k1 k3
 cases hp:cC (gB p) u.name with
 |none=>
  rw[hp]at k1 k3;simp only at k1 k3;refine⟨fun e=>?_,fun e=>?_⟩
  ·rcases k1 with(c|c)|c
   ·exact absurd e c
   ·exact absurd c (by decide)
   exact absurd c (by decide)
  rcases k3 with c|c
  ·exact absurd e c
  exact absurd c (by decide)
 |some k=>
  rw[hp]at k1 k3;obtain⟨_,hg⟩:=fU _ _ _ hp;simp only at k1 k3;refine⟨fun e=>?_,fun e=>?_⟩
  ·by_cases hv:k<p.vars.length
   ·have hm:u.name∈p.vars:=by
     rw[gB,List.append_assoc,List.getElem?_append_left hv]at hg;exact fG hg
    have:=h.vars _ hm;unfold oZ at this;split at this
    ·rename_i c hc
     simp only[bA,bC]at this;exact⟨c,hc,by simp only[C5,bA,bC];omega⟩
    cases this
   rw[if_neg hv]at k1;rcases k1 with(c|c)|c
   ·exact absurd e c
   ·split at c<;>simp at c
   split at c<;>simp at c
  rcases k3 with c|c
  ·exact absurd e c
  split at c
  ·simp at c
  rename_i hv;split at c
  ·rename_i ha
   rw[gB,List.append_assoc,List.getElem?_append_right (by omega),List.getElem?_append_left (by rw[aC];exact ha),cE,bH]at hg;obtain⟨a,ha2,e2⟩:=hg;rw[←e2];exact h.arrs a (fG ha2)
  simp at c
theorem Au {α:Type} {l:List α} (h:l.length=1): ∃a,l=[a]:=by
 match l,h with
 |[a],_=>exact⟨a,rfl⟩
theorem V9 {α:Type} {l:List α} (h:l.length=2): ∃a b,l=[a,b]:=by
 match l,h with
 |[a,b],_=>exact⟨a,b,rfl⟩
theorem AH {p:Pg} {f:Fu} (h:vP p f) (N:Nat): ∀(e:Ex) (lv:Int),e.sz≤N→e.ok→fO e lv=true→rD jJ e=true→(∀u∈jI e++eB e.kids,fD p 0 u=true)→SX e:=by
 induction N with
 |zero=>intro e _ he;have:=e.sz_eq;omega
 |succ N ih=>
  intro e lv hz ho hr hk hu;have hkids:=fun a ha=>ho.kids.all a ha;have hn:iN e.num:=ho.num;have hsz:=e.sz_eq;simp only[fO,bA]at hr;obtain⟨⟨h1,h2⟩,h3⟩:=hr;rw[rC,bA]at hk
  have hmem: ∀(l:List Ex),(∀u∈eB l,fD p 0 u=true)→ ∀a∈l, ∀u∈jI a++eB a.kids,fD p 0 u=true:=by
   intro l
   induction l with
   |nil=>intro _ a ha;cases ha
   |cons x l ihl=>
    intro hl a ha u hu2;rw[iM]at hl;rcases List.mem_cons.1 ha with rfl|ha
    ·exact hl u (List.mem_append_left _ hu2)
    exact ihl (fun u hu=>hl u (List.mem_append_right _ hu)) a ha u hu2
  have hm: ∀a∈e.kids,SX a:=fun a ha=>ih a _ (by have:=fH ha;omega) (hkids a ha) (oO h3 a ha) (List.all_eq_true.1 hk.2 a ha) (hmem e.kids (fun u hu2=>hu u (List.mem_append_right _ hu2)) a ha);have hux: ∀u∈jI e,fD p 0 u=true:=fun u hu2=>hu u (List.mem_append_left _ hu2);have hk1:=hk.1;clear hu hmem;obtain⟨k,o,n,s,l⟩:=e;simp only[Ex.kind,Ex.op,Ex.num,Ex.name,Ex.kids,jI]at h2 hm hn hux hk1;have h9:=h1;clear h1;have h1:(decide (lv≤24)&&(decide (k=6)||decide (o=0))&&(decide (k=1)||decide (n=0))&&(if k=2∨k=3∨k=4 then cV s else decide (s=[])))=true:=h9;clear h9;simp only[bA,Bool.or_eq_true,bC]at h1;simp only[jJ,Bool.or_eq_true,bC]at hk1;rcases hk1 with((((rfl|rfl)|rfl)|rfl)|rfl)|rfl<;>simp [fV]at h1 h2
  ·obtain⟨⟨_,rfl⟩,rfl⟩:=h1;subst h2;exact .num n hn
  ·obtain⟨⟨⟨_,rfl⟩,rfl⟩,_⟩:=h1;subst h2
   obtain⟨c,rfl,hc⟩:=(pP h (hux ⟨s,1,0⟩ (by simp))).1 rfl;exact .var c hc
  ·obtain⟨⟨⟨_,rfl⟩,rfl⟩,_⟩:=h1;obtain⟨a,rfl⟩:=Au h2
   have :s=[116]:=(pP h (hux ⟨s,3,0⟩ (by simp))).2 rfl;subst this;exact .idx a (hm a (List.mem_cons_self))
  ·obtain⟨⟨⟨_,rfl⟩,rfl⟩,rfl⟩:=h1;subst h2;exact .get
  ·obtain⟨⟨_,rfl⟩,rfl⟩:=h1;obtain⟨⟨g1,g2⟩,g3⟩:=h2;obtain⟨a,b,rfl⟩:=V9 g3
   exact .op o a b ⟨g1,g2⟩ (hm a (List.mem_cons_self)) (hm b (by simp))
  obtain⟨⟨⟨_,rfl⟩,rfl⟩,rfl⟩:=h1;obtain⟨a,rfl⟩:=Au h2;exact .neg a (hm a (List.mem_cons_self))
theorem Ov {p:Pg}: ∀(l:List Ex),(∀u∈eB l,fD p 0 u=true)→ ∀a∈l, ∀u∈jI a++eB a.kids,fD p 0 u=true
 |[],_,a,ha=>by cases ha
 |x::l,hl,a,ha=>fun u hu2=>by
  rw[iM]at hl;rcases List.mem_cons.1 ha with rfl|ha
  ·exact hl u (List.mem_append_left _ hu2)
  exact Ov l (fun u hu=>hl u (List.mem_append_right _ hu)) a ha u hu2
theorem Di {p:Pg}: ∀(l:List Sm),(∀u∈dJ l,fD p 0 u=true)→ ∀a∈l, ∀u∈jN a++eB a.es++dJ a.thn++dJ a.els,fD p 0 u=true
 |[],_,a,ha=>by cases ha
 |x::l,hl,a,ha=>fun u hu2=>by
  rw[jM]at hl;rcases List.mem_cons.1 ha with rfl|ha
  ·exact hl u (List.mem_append_left _ hu2)
  exact Di l (fun u hu=>hl u (List.mem_append_right _ hu)) a ha u hu2
theorem AI {p:Pg} {f:Fu} (h:vP p f) (N:Nat): ∀(e:Sm) (lv:Int),e.sz≤N→e.ok→fP e lv=true→lJ e=true→(∀u∈jN e++eB e.es++dJ e.thn++dJ e.els,fD p 0 u=true)→SS e:=by
 induction N with
 |zero=>intro e _ he;have:=e.sz_eq;omega
 |succ N ih=>
  intro e lv hz ho hr hk hu;have hsz:=e.sz_eq;have hs1:=ho.es;have hs2:=ho.thn;simp only[fP,bA]at hr;obtain⟨⟨⟨⟨h1,h2⟩,h3⟩,h4⟩,h5⟩:=hr;rw[qW,bA,bA]at hk;obtain⟨hk0,hk1,hk2⟩:=hk;have hue: ∀u∈eB e.es,fD p 0 u=true:=fun u hu2=>hu u (by simp [hu2]);have hut: ∀u∈dJ e.thn,fD p 0 u=true:=fun u hu2=>hu u (by simp [hu2]);have hux: ∀u∈jN e,fD p 0 u=true:=fun u hu2=>hu u (by simp [hu2]);have hm: ∀a∈e.es,SX a:=fun a ha=>AH h a.sz a _ (bF _) (hs1.all a ha) (oO h3 a ha) (List.all_eq_true.1 hk1 a ha) (Ov e.es hue a ha);have ht: ∀a∈e.thn,SS a:=fun a ha=>ih a _ (by have:=eS ha;omega) (hs2.all a ha) (oN h4 a ha) (List.all_eq_true.1 hk2 a ha) (Di e.thn hut a ha);clear hu hue hut;obtain⟨k,s,l,t,u⟩:=e;simp only[Sm.kind,Sm.name,Sm.es,Sm.thn,Sm.els,jN]at h2 hm ht hk0 hux;have h9:=h1;clear h1;have h1:(decide (lv≤24)&&(decide (k=4)||decide (u.length=0))&&(decide (k=4)||decide (k=5)||decide (t.length=0))&&(if k=1∨k=2∨k=6 then cV s else decide (s=[])))=true:=h9;clear h9;simp only[bA,Bool.or_eq_true,bC]at h1;have hk0:(if k=4 then decide (u.length=0)else decide (k=1)||decide (k=2)||decide (k=3)||decide (k=5))=true:=hk0
  have hkk:k=4∧u.length=0∨k=1∨k=2∨k=3∨k=5:=by
   by_cases c:k=4
   ·rw[if_pos c]at hk0;exact .inl ⟨c,aD hk0⟩
   rw[if_neg c]at hk0;simp only[Bool.or_eq_true,bC]at hk0;omega
  rcases hkk with⟨rfl,hu0⟩|rfl|rfl|rfl|rfl<;>simp [sH]at h1 h2
  ·obtain rfl:u=[]:=List.eq_nil_of_length_eq_zero hu0
   obtain⟨_,rfl⟩:=h1;obtain⟨a,rfl⟩:=Au h2;exact .cond a t (hm a (List.mem_cons_self)) ht
  ·obtain⟨⟨⟨_,rfl⟩,rfl⟩,_⟩:=h1;obtain⟨a,rfl⟩:=Au h2
   obtain⟨c,rfl,_⟩:=(pP h (hux ⟨s,1,0⟩ (by simp))).1 rfl;exact .set c a (hm a (List.mem_cons_self))
  ·obtain⟨⟨⟨_,rfl⟩,rfl⟩,_⟩:=h1;obtain⟨a,b,rfl⟩:=V9 h2
   have :s=[116]:=(pP h (hux ⟨s,3,0⟩ (by simp))).2 rfl;subst this;exact .store a b (hm a (List.mem_cons_self)) (hm b (by simp))
  ·obtain⟨⟨⟨_,rfl⟩,rfl⟩,rfl⟩:=h1;obtain⟨a,rfl⟩:=Au h2;exact .put a (hm a (List.mem_cons_self))
  obtain⟨⟨_,rfl⟩,rfl⟩:=h1;obtain⟨a,rfl⟩:=Au h2;exact .loop a t (hm a (List.mem_cons_self)) ht
theorem wH {p:Pg} (ho:p.ok) (h:dY (fun l=>l.all lJ) p=true): ∃f,p.funs=[f]∧ ∀s∈f.body,SS s:=by
 obtain⟨f,hf⟩:=He h;refine⟨f,hf.funs,fun s hs=>?_⟩;have hfo:=ho.funs f (by rw[hf.funs];simp);exact AI hf s.sz s 1 (bF _) (hfo.body.all s hs) (oN hf.right s hs) (List.all_eq_true.1 hf.kinds s hs) (Di f.body hf.uses s hs)
end Go.Proofs.YtaecpjgmcffliaaGreatDoor
namespace Go.Proofs.YtaecpjgmcffliaaGreatDoor
open Go.Al
theorem Ys (k:Int) (s:cN) (l:List Ex) (t u:List Sm):(eQ l).length≤(mZ (.mk k s l t u)).length:=by
 rw[mZ]
 repeat' split
 all_goals first|exact bF _|(simp only[aI,aQ,List.length_nil];omega)
theorem J8 (k:Int) (s:cN) (l:List Ex) (t u:List Sm) (h:k=4∨k=5):(iZ t).length≤(mZ (.mk k s l t u)).length:=by
 rw[mZ];rcases h with rfl|rfl
 ·simp only[Int.reduceEq,if_true,if_false,aI,aQ,List.length_nil];omega
 simp only[Int.reduceEq,if_true,if_false,aI,aQ,List.length_nil];omega
theorem Oy {l:List Sm} {e:Sm} (h:e∈l):(mZ e).length≤(iZ l).length:=by
 obtain⟨i,hi,rfl⟩:=List.getElem_of_mem h;have h1:=vW l (i+1);rw[bL hi,lY,aI]at h1;omega
theorem K9 {l:List Ex} {e:Ex} (h:e∈l):(jU e).length≤(eQ l).length:=by
 obtain⟨i,hi,rfl⟩:=List.getElem_of_mem h;have h1:=lX l (i+1);rw[bL hi,gR,aI]at h1;omega
set_option maxHeartbeats 4000000 in
theorem Ii (N:Nat): ∀(l:List Sm) (lv:Int),gH l≤N→rI l→dW l lv=true→l.all lJ=true→(iZ l).length≤140737488355328→cM cG 31 [.isl 5 (l.map Sm.row)] (.str (iZ l)):=by
 induction N using Nat.strongRecOn with
 |_ N ih=>
  intro l lv hs ho hr hsm hl;have hfit:l.length≤9223372036854775807:=ho.fit;have hef: ∀e∈l,e.es.length≤9223372036854775807:=fun e he=>(ho.all e he).es.fit
  have hkd: ∀e∈l,e.kind=1∨e.kind=2∨e.kind=3∨e.kind=4∨e.kind=5:=fun e he=>by
   have:=List.all_eq_true.1 hsm e he;rw[qW,bA]at this;have:=this.1;split at this
   ·omega
   simp only[Bool.or_eq_true,bC]at this;omega
  have hE: ∀e∈l, ∀x∈e.es,JX x:=fun e he x hx=>by
   have h1:=List.all_eq_true.1 hsm e he;rw[qW,bA,bA,List.all_eq_true]at h1;have h2:=oN hr e he;simp only[fP,bA]at h2;have h3:=Oy he;have h4:(eQ e.es).length≤(mZ e).length:=by obtain⟨k,s,a,t,u⟩:=e;exact Ys k s a t u
   have h5:=K9 hx;exact Y1 _ x (lv+1) (bF _) ((ho.all e he).es.all x hx) (oO h2.1.1.2 x hx) (h1.2.1 x hx) (by omega)
  have hT: ∀e∈l,e.kind=4∨e.kind=5→cM cG 31 [.isl 5 (e.thn.map Sm.row)] (.str (iZ e.thn)):=fun e he hk=>by
   have h1:=List.all_eq_true.1 hsm e he;rw[qW,bA,bA]at h1;have h2:=oN hr e he;simp only[fP,bA]at h2;have h3:=Oy he;have h4:(iZ e.thn).length≤(mZ e).length:=by obtain⟨k,s,a,t,u⟩:=e;exact J8 k s a t u hk
   have h6:=eS he;have h7:=e.sz_eq;exact ih (gH e.thn) (by omega) e.thn (lv+1) (bF _) (ho.all e he).thn h2.1.2 h1.2.2 (by omega)
  clear ih hsm hr ho;refine bM 78 [.tmp 2] Tryz.func31 rfl rfl rfl rfl ?_;refine aB fun _ y=>aA rfl ?_;simp only[RR,seval];apply y;clear y;refine aB fun _ y=>aA rfl ?_;simp only[RR,seval];apply y;clear y;refine aJ ?_;refine aB fun _ y=>aA rfl ?_;simp only[RR,seval];apply y;clear y;refine bN fun F1 M1 hfr hH=>?_;have g0:=hfr 0;have g2:=hfr 2;have g3:=hfr 3;have g4:=hfr 4
  try simp only[RR,seval]at g0 g2 g3 g4
  have f0:=g0;clear g0;have f2:=g2;clear g2;have f3:=g3;clear g3;have f4:=g4;clear g4;clear hfr hH;refine aN ?_;refine cF [0,2] (l.length) (fun k fr M=>fr 4= .int .i64 (k:Nat)∧fr 3= .str (iZ (l.take k))) ⟨f4,by rw[f3,List.take_zero,show iZ []=[]by simp only[iZ]]⟩ ?_;rintro k F2 M2 hk0 ⟨fx,f3⟩ agx K0 hK0;have f0:=(agx 0 rfl).trans f0;have f2:=(agx 2 rfl).trans f2;have f4:=fx;clear fx;have ag0:=aY.refl [0,2] F2;clear agx;refine aJ ?_;refine aB fun _ y=>aA rfl ?_;simp only[f0,f4,aC,RR,seval];apply y;clear y;refine aH _ rfl (fun hc=>?_) (fun hc=>?_)
  ·have hlt0:k<l.length:=by have:=aD hc;omega
   clear hc;have hg:=sC (aG hlt0);have htk:l.take (k+1)=l.take k++[l[k]]:=bL hlt0;have hex:=hE _ (bE hlt0);have hth:=hT _ (bE hlt0);have hk5:=hkd _ (bE hlt0);have hel:=hef _ (bE hlt0);have hle:=vW l (k+1);generalize l[k]=e at hg htk hex hth hk5 hel;rw[htk,lY]at hle;obtain⟨kd,nm,es,th,ee⟩:=e;simp only[Sm.kind,Sm.name,Sm.es,Sm.thn,Sm.els]at hg hex hth hk5 hel;have hX:=Ys kd nm es th ee;obtain⟨P,hP⟩: ∃P,iZ (l.take k)=P:=⟨_,rfl⟩;obtain⟨out,hout⟩: ∃out,mZ (.mk kd nm es th ee)=out:=⟨_,rfl⟩;rw[hP,hout,aI]at hle;rw[hout]at hX;rw[hP]at f3;refine aK ?_;try simp only[RR]
   refine aJ ?_;refine aN ?_;refine aB fun _ y=>aA rfl ?_;simp only[f0,f4,hg,RR,seval];refine aT fun b5 hn5=>?_;simp only[RR,seval];apply y;clear y;refine aB fun _ y=>aA rfl ?_;simp only[RR,seval];apply y;clear y;refine aJ ?_;refine aB fun _ y=>aA rfl ?_;simp only[RR,seval];apply y;clear y;refine bN fun F3 M3 hfr hH=>?_;have g0:=hfr 0;have g2:=hfr 2;have g3:=hfr 3;have g4:=hfr 4;have g5:=hfr 5;have g6:=hfr 6;have g7:=hfr 7;have gb5:=hH b5
   try simp only[f0,f2,f4,f3,RR,seval]at g0 g2 g3 g4 g5 g6 g7 gb5
   have ag0:aY [0,2] F2 F3:=aY.same hfr (by repeat (first|exact ag0|refine aY.upd rfl ?_));have f0:=g0;clear g0;have f2:=g2;clear g2;have f3:=g3;clear g3;have f4:=g4;clear g4;have f5:=g5;clear g5;have f6:=g6;clear g6;have f7:=g7;clear g7;have hb5:=gb5;clear gb5;clear hfr hH;refine aN ?_;refine cF [0,2,3,4,5] (es.length) (fun j fr M=>fr 7= .int .i64 (j:Nat)∧M b5=M3 b5∧fr 6= .str (eQ (es.take j))) ⟨f7,rfl,by rw[f6,List.take_zero,show eQ []=[]by simp only[eQ]]⟩ ?_;rintro j F4 M4 hk2 ⟨fx,gb5,f6⟩ agx K2 hK2;have f0:=(agx 0 rfl).trans f0;have f2:=(agx 2 rfl).trans f2;have f3:=(agx 3 rfl).trans f3;have f4:=(agx 4 rfl).trans f4;have f5:=(agx 5 rfl).trans f5;have f7:=fx;clear fx;have hb5:=gb5.trans hb5;have ag0:aY [0,2] F2 F4:=aY.sub agx rfl ag0;have ag2:=aY.refl [0,2,3,4,5] F4;have e2_b5:=gb5;clear gb5;clear agx;refine aJ ?_;refine aB fun _ y=>aA rfl ?_;simp only[f5,f7,hb5,aC,RR,seval];apply y;clear y;refine aH _ rfl (fun hc=>?_) (fun hc=>?_)
   ·have hlt2:j<es.length:=by have:=aD hc;omega
    clear hc;have hge:=nM (aG hlt2);have htj:es.take (j+1)=es.take j++[es[j]]:=bL hlt2;have hec:=hex _ (bE hlt2);have hlj:=lX es (j+1);generalize es[j]=e at hge htj hec;rw[htj,gR]at hlj;simp only[aI]at hlj;unfold JX at hec;rw[Ex.row_eq]at hec;refine aK ?_;try simp only[RR]
    refine aJ ?_;refine aN ?_;have hcat5:(eQ (es.take j)).length+(jU e).length≤maxLen:=by unfold maxLen;(try simp only[aI,aQ,List.length_nil]);omega
    refine aA rfl ?_;simp only[f5,f7,f6,hb5,hge,RR,seval];refine aP (hec) ?_;simp only[hcat5,RR,seval];refine aA rfl ?_;simp only[f7,RR,seval]
    try rw[aV _ (by omega)]
    refine hK2 _ _ hlt2 ⟨by first|rfl|(simp only[aF,seval];rfl),(by first|exact e2_b5|(simp only[aF,seval];first|done|exact e2_b5)),by rw[htj,gR];first|rfl|simp only[aF,seval]⟩ (by repeat (first|exact ag2|refine aY.upd rfl ?_))
   have hkn2:j=es.length:=by have:=aE hc;omega
   clear hc;rw[hkn2,List.take_length]at f6;refine bI ?_;simp only[RR,seval];refine aB fun _ y=>aA rfl ?_;simp only[f5,hb5,RR,seval];apply y;clear y;refine bN fun F6 M6 hfr hH=>?_;have g0:=hfr 0;have g2:=hfr 2;have g3:=hfr 3;have g4:=hfr 4;have g5:=hfr 5;have g6:=hfr 6;have g7:=hfr 7;have g34:=hfr 34;have gb5:=hH b5
   try simp only[f0,f2,f3,f4,f5,f7,f6,hb5,RR,seval]at g0 g2 g3 g4 g5 g6 g7 g34 gb5
   have ag0:aY [0,2] F2 F6:=aY.same hfr (by repeat (first|exact ag0|refine aY.upd rfl ?_));have f0:=g0;clear g0;have f2:=g2;clear g2;have f3:=g3;clear g3;have f4:=g4;clear g4;have f5:=g5;clear g5;have f6:=g6;clear g6;have f7:=g7;clear g7;have f34:=g34;clear g34;have hb5:=gb5;clear gb5;clear hfr hH;refine dU (fun fr M=>aY [0,2,4,5,6,7,34] F6 fr∧M b5=M6 b5∧fr 3= .str (P++out)) (fun KB4 hKB4=>?_) ?_
   ·have agB4:=aY.refl [0,2,4,5,6,7,34] F6
    have eB4_b5:M6 b5=M6 b5:=rfl;refine aN ?_;refine aB fun _ y=>aA rfl ?_;simp only[f34,RR,seval];apply y;clear y;refine aH _ rfl (fun hc13=>?_) (fun hc13=>?_)
    ·obtain rfl:=aD hc13
     have hpr:out=eQ es++([58]++nm):=by rw[←hout];simp [mZ]
     rw[hpr]at hle;simp only[aI,aQ,List.length_nil]at hle;have hcat7:(P).length+(eQ es).length≤maxLen:=by unfold maxLen;(try simp only[aI,aQ,List.length_nil]);omega
     have hcat8:(P++eQ es).length+1≤maxLen:=by unfold maxLen;(try simp only[aI]);omega
     have hcat9:(P++eQ es++[58]).length+(nm).length≤maxLen:=by unfold maxLen;(try simp only[aI,aQ,List.length_nil]);omega
     refine aA rfl ?_;simp only[f3,f5,f6,hb5,hcat7,hcat8,hcat9,RR,seval];refine hKB4 _ _ ⟨(by repeat (first|exact agB4|refine aY.upd rfl ?_)),(by first|exact eB4_b5|(simp only[aF,seval];first|done|exact eB4_b5)), ?_⟩;rw[hpr];simp only[aF,seval,List.append_assoc,List.cons_append,List.nil_append]
    refine aB fun _ y=>aA rfl ?_;simp only[f34,RR,seval];apply y;clear y;refine aH _ rfl (fun hc15=>?_) (fun hc15=>?_)
    ·obtain rfl:=aD hc15
     have hpr:out=eQ es++[35]:=by rw[←hout];simp [mZ]
     rw[hpr]at hle;simp only[aI,aQ,List.length_nil]at hle;have hcat10:(P).length+(eQ es).length≤maxLen:=by unfold maxLen;(try simp only[aI,aQ,List.length_nil]);omega
     have hcat11:(P++eQ es).length+1≤maxLen:=by unfold maxLen;(try simp only[aI]);omega
     refine aA rfl ?_;simp only[f3,f6,hcat10,hcat11,RR,seval];refine hKB4 _ _ ⟨(by repeat (first|exact agB4|refine aY.upd rfl ?_)),(by first|exact eB4_b5|(simp only[aF,seval];first|done|exact eB4_b5)), ?_⟩;rw[hpr];simp only[aF,seval,List.append_assoc]
    refine aB fun _ y=>aA rfl ?_;simp only[f34,RR,seval];apply y;clear y;refine aH _ rfl (fun hc17=>?_) (fun hc17=>?_)
    ·obtain rfl:=aD hc17
     have hpr:out=eQ es++[46]:=by rw[←hout];simp [mZ]
     rw[hpr]at hle;simp only[aI,aQ,List.length_nil]at hle;have hcat12:(P).length+(eQ es).length≤maxLen:=by unfold maxLen;(try simp only[aI,aQ,List.length_nil]);omega
     have hcat13:(P++eQ es).length+1≤maxLen:=by unfold maxLen;(try simp only[aI]);omega
     refine aA rfl ?_;simp only[f3,f6,hcat12,hcat13,RR,seval];refine hKB4 _ _ ⟨(by repeat (first|exact agB4|refine aY.upd rfl ?_)),(by first|exact eB4_b5|(simp only[aF,seval];first|done|exact eB4_b5)), ?_⟩;rw[hpr];simp only[aF,seval,List.append_assoc]
    refine aB fun _ y=>aA rfl ?_;simp only[f34,RR,seval];apply y;clear y;refine aH _ rfl (fun hc19=>?_) (fun hc19=>?_)
    ·obtain rfl:=aD hc19
     have hpr:out=eQ es++([73]++(iZ th++[70])):=by rw[←hout];simp [mZ]
     rw[hpr]at hle;simp only[aI,aQ,List.length_nil]at hle;have htc:=hth (.inl rfl);have hcat14:(P).length+(eQ es).length≤maxLen:=by unfold maxLen;(try simp only[aI,aQ,List.length_nil]);omega
     have hcat15:(P++eQ es).length+1≤maxLen:=by unfold maxLen;(try simp only[aI]);omega
     have hcat16:(P++eQ es++[73]).length+(iZ th).length≤maxLen:=by unfold maxLen;(try simp only[aI,aQ,List.length_nil]);omega
     have hcat17:(P++eQ es++[73]++iZ th).length+1≤maxLen:=by unfold maxLen;(try simp only[aI,aQ,List.length_nil]);omega
     refine aA rfl ?_;simp only[f3,f5,f6,hb5,hcat14,hcat15,RR,seval];refine aP (htc) ?_;simp only[hcat16,hcat17,RR,seval];refine hKB4 _ _ ⟨(by repeat (first|exact agB4|refine aY.upd rfl ?_)),(by first|exact eB4_b5|(simp only[aF,seval];first|done|exact eB4_b5)), ?_⟩;rw[hpr];simp only[aF,seval,List.append_assoc,List.cons_append,List.nil_append]
    obtain rfl:kd=5:=by
     have h1:=aE hc13;have h2:=aE hc15;have h3:=aE hc17;have h4:=aE hc19;omega
    have hpr:out=[87]++(eQ es++([68]++(iZ th++[69]))):=by rw[←hout];simp [mZ]
    rw[hpr]at hle;simp only[aI,aQ,List.length_nil]at hle;have htc:=hth (.inr rfl);have hcat18:(P).length+1≤maxLen:=by unfold maxLen;(try simp only[aI,aQ,List.length_nil]);omega
    have hcat19:(P++[87]).length+(eQ es).length≤maxLen:=by unfold maxLen;(try simp only[aI,aQ,List.length_nil]);omega
    have hcat20:(P++[87]++eQ es).length+1≤maxLen:=by unfold maxLen;(try simp only[aI,aQ,List.length_nil]);omega
    have hcat21:(P++[87]++eQ es++[68]).length+(iZ th).length≤maxLen:=by unfold maxLen;(try simp only[aI,aQ,List.length_nil]);omega
    have hcat22:(P++[87]++eQ es++[68]++iZ th).length+1≤maxLen:=by unfold maxLen;(try simp only[aI,aQ,List.length_nil]);omega
    refine aA rfl ?_;simp only[f3,f5,f6,hb5,hcat18,hcat19,hcat20,RR,seval];refine aP (htc) ?_;simp only[hcat21,hcat22,RR,seval];refine hKB4 _ _ ⟨(by repeat (first|exact agB4|refine aY.upd rfl ?_)),(by first|exact eB4_b5|(simp only[aF,seval];first|done|exact eB4_b5)), ?_⟩;rw[hpr];simp only[aF,seval,List.append_assoc,List.cons_append,List.nil_append]
   rintro F23 M23 ⟨agx,gb5,f3⟩;have f0:=(agx 0 rfl).trans f0;have f2:=(agx 2 rfl).trans f2;have f4:=(agx 4 rfl).trans f4;have f5:=(agx 5 rfl).trans f5;have f6:=(agx 6 rfl).trans f6;have f7:=(agx 7 rfl).trans f7;have f34:=(agx 34 rfl).trans f34;have hb5:=gb5.trans hb5;have ag0:aY [0,2] F2 F23:=aY.sub agx rfl ag0;clear agx;clear gb5;simp only[RR,seval];refine aA rfl ?_;simp only[f4,RR,seval]
   try rw[aV _ (by omega)]
   refine hK0 _ _ hlt0 ⟨by first|rfl|(simp only[aF,seval];rfl),by rw[htk,lY,hP,hout];first|exact f3|rfl|simp only[aF,seval]⟩ (by repeat (first|exact ag0|refine aY.upd rfl ?_))
  have hkn0:k=l.length:=by have:=aE hc;omega
  clear hc;rw[hkn0,List.take_length]at f3;refine bI ?_;simp only[RR,seval];refine aB fun _ y=>aA rfl ?_;simp only[f3,RR,seval];apply y;clear y;refine aM ?_;simp only[aZ,aL,bJ,RR,seval];refine bB.pure ?_;rfl
theorem Jn {F:Nat→Prop} {ds:List (Option Nat)} {Q:dN} {d:Option Nat} {rest:List Oper} {fr:Fr} {H:Hp} {b:Nat} {bs:List UInt8}
  (hb:gP b bs H) (hF: ∀b,F b) (h: ∀H2,(∀x o,H x=some o→fC o→H2 x=some o)→cI cG F ds Q rest (dF fr d (.str bs)) H2):oJ cG F ds Q d rest fr H 30 [.ptr 2 b 0 0]:=by
 obtain⟨H0,hm,hs,hpl⟩:=hb.least;refine jH (Oq b bs H0 hm) (cY.refl _) hs (fun b _=>hF b) fun ae H' ⟨e,e2⟩ hnew=>?_;subst e;subst e2;refine h _ fun x o hx hp=>?_;simp only[gA,lG,hpl x o hx hp,Option.isSome_none,Bool.false_eq_true,if_false,hx]
theorem wI {p:Pg} (hp:p.ok) (h:dY (fun l=>l.all lJ) p=true): ∃f,p.funs=[f]∧rI f.body∧dW f.body 1=true∧f.body.all lJ=true:=by
 obtain⟨f,hf⟩:=He h;exact⟨f,hf.funs,(hp.funs f (by rw[hf.funs];exact List.mem_singleton.2 rfl)).body,hf.right,hf.kinds⟩
set_option maxHeartbeats 4000000 in
theorem mK (p:Pg) (hp:p.ok) (hfew:dH p=true→p.few) (hl: ∀f∈p.funs,dY (fun l=>l.all lJ) p=true→(iZ f.body).length≤1000000000000):cM cG 12 [p.av] (.tup [.str (zC p).1, .int .i64 (zC p).2]):=by
 have hS:=qZ p hp hfew;have hX:zC p=if dY (fun l=>l.all lJ) p=true then(match p.funs with |f::_=>iZ f.body++[36]|[]=>[36],0)else([],1):=rfl
 cases hq:dY (fun l=>l.all lJ) p with
 |false=>
  rw[hq]at hX hS;simp only[Bool.false_eq_true,if_false]at hX;rw[hX];obtain⟨vs,aa,fs⟩:=p;simp only[Pg.av,Pg.row]at *;refine bM 18 [.tmp 2, .tmp 3] Tryz.func12 rfl rfl rfl rfl ?_;refine aB fun _ y=>aA rfl ?_;simp only[RR,seval];refine aT fun b1 hn1=>?_;simp only[RR,seval];apply y;clear y;refine aJ ?_;refine aB fun _ y=>aA rfl ?_;simp only[RR,seval];refine aP (hS) ?_;simp only[RR,seval];apply y;clear y;refine aH true rfl (fun _=>?_) (fun hc=>by cases hc);refine aB fun _ y=>aA rfl ?_;simp only[RR,seval];apply y;clear y;refine aM ?_;simp only[aZ,aL,bJ,RR,seval];refine bB.pure ?_;rfl
 |true=>
  rw[hq]at hX hS;simp only[if_true]at hX;obtain⟨f,hf,ho,hr,hk⟩:=wI hp hq;have hlb:=hl f (by rw[hf];exact List.mem_singleton.2 rfl) hq;rw[hf]at hX;simp only at hX;rw[hX];have hst:=fun b bs hl=>vQ f.body ho.fit (fun e he=>Rb _ e 1 (bF _) (ho.all e he) (oN hr e he)) b bs hl;obtain⟨vs,aa,fs⟩:=p;simp only at hf;subst hf;simp only[Pg.av,Pg.row]at *;have hrw:f.row=[.str f.name, .isl 1 (f.params.map bG), .isl 1 (f.locs.map bG), .bool f.word, .isl 5 (f.body.map Sm.row)]:=rfl;have w2:(0:Int)<(([f]:List Fu).length:Int):=by simp
  have hg:([f].map Fu.row)[0]?=some [.str f.name, .isl 1 (f.params.map bG), .isl 1 (f.locs.map bG), .bool f.word, .isl 5 (f.body.map Sm.row)]:=jK rfl;generalize iZ f.body=out at *;refine bM 18 [.tmp 2, .tmp 3] Tryz.func12 rfl rfl rfl rfl ?_;refine aB fun _ y=>aA rfl ?_;simp only[hrw,RR,seval];refine aT fun b1 hn1=>?_;simp only[RR,seval];apply y;clear y;refine aJ ?_;refine aB fun _ y=>aA rfl ?_;simp only[RR,seval];refine aP (hS) ?_;simp only[RR,seval];apply y;clear y;refine aH false rfl (fun hc=>by cases hc) (fun _=>?_);refine aK ?_;try simp only[RR]
  refine aB fun K y=>?_;refine Q5 (by kernel_rfl) Vn rfl fun b4 hn4=>?_;simp only[jB];have hB:gP b4 [] (upd (upd lG b1 (some (.rows 3 [[.isl 1 (vs.map bG), .isl 2 (aa.map Ar.row), .isl 5 [[.str f.name, .isl 1 (f.params.map bG), .isl 1 (f.locs.map bG), .bool f.word, .isl 5 (f.body.map Sm.row)]]]]))) b4 (some (.bld TB none 0))):= .inl ⟨rfl,aS _ _ _⟩
  have hb1:(upd (upd lG b1 (some (.rows 3 [[.isl 1 (vs.map bG), .isl 2 (aa.map Ar.row), .isl 5 [[.str f.name, .isl 1 (f.params.map bG), .isl 1 (f.locs.map bG), .bool f.word, .isl 5 (f.body.map Sm.row)]]]]))) b4 (some (.bld TB none 0))) b1=some (.rows 3 [[.isl 1 (vs.map bG), .isl 2 (aa.map Ar.row), .isl 5 [[.str f.name, .isl 1 (f.params.map bG), .isl 1 (f.locs.map bG), .bool f.word, .isl 5 (f.body.map Sm.row)]]]]):=by
   rw[dK _ _ (fun e=>by rw[←e,aS]at hn4;cases hn4)];exact aS _ _ _
  apply y;clear y;refine aB fun _ y=>aA rfl ?_;simp only[hb1,RR,seval];refine dS (by first|exact hB|exact hB.new (by assumption) _|exact hB.new2 (by assumption) _ _|exact hB.set (o:= .rows _ _) (by assumption) trivial _) (hst b4 [] (by simp only[List.nil_append];omega)) (cY.refl _) (fun _=>trivial) fun M1 hB hk' hn'=>?_;have gb1:=hk' b1 _ hb1 trivial;have hb1:=gb1;clear gb1;simp only[RR,seval];apply y;clear y;refine aB fun _ y=>aA rfl ?_;simp only[RR,seval];refine dS (by first|exact hB|exact hB.new (by assumption) _|exact hB.new2 (by assumption) _ _|exact hB.set (o:= .rows _ _) (by assumption) trivial _) (cT b4 ([]++out) [36] (by simp only[aI,aQ,List.length_nil];omega)) (cY.refl _) (fun _=>trivial) fun M2 hB hk' hn'=>?_;have gb1:=hk' b1 _ hb1 trivial;have hb1:=gb1;clear gb1;simp only[RR,seval];apply y;clear y;refine aB fun _ y=>aA rfl ?_;simp only[RR,seval];refine Jn hB (fun _=>trivial) fun M9 hk''=>?_;simp only[RR,seval];apply y;clear y;refine aM ?_;simp only[aZ,aL,bJ,RR,seval];refine bB.pure ?_;rfl
set_option maxHeartbeats 4000000 in
theorem Tt (p:Pg) (hp:p.ok) (hfew:dH p=true→p.few) (hl: ∀f∈p.funs,dY (fun l=>l.all lJ) p=true→(iZ f.body).length≤1000000000000):cM cG 13 [p.av] (.tup [.str (zC p).1, .int .i64 (zC p).2]):=by
 have hS:=nK p hp hfew;rw[←qV]at hS;have hX:zC p=if dY (fun l=>l.all lJ) p=true then(match p.funs with |f::_=>iZ f.body++[36]|[]=>[36],0)else([],1):=rfl
 cases hq:dY (fun l=>l.all lJ) p with
 |false=>
  rw[hq]at hX hS;simp only[Bool.false_eq_true,if_false]at hX;rw[hX];obtain⟨vs,aa,fs⟩:=p;simp only[Pg.av,Pg.row]at *;refine bM 14 [.tmp 2, .tmp 3] Tryz.func13 rfl rfl rfl rfl ?_;refine aB fun _ y=>aA rfl ?_;simp only[RR,seval];refine aT fun b1 hn1=>?_;simp only[RR,seval];apply y;clear y;refine aJ ?_;refine aB fun _ y=>aA rfl ?_;simp only[RR,seval];refine aP (hS) ?_;simp only[RR,seval];apply y;clear y;refine aH true rfl (fun _=>?_) (fun hc=>by cases hc);refine aB fun _ y=>aA rfl ?_;simp only[RR,seval];apply y;clear y;refine aM ?_;simp only[aZ,aL,bJ,RR,seval];refine bB.pure ?_;rfl
 |true=>
  rw[hq]at hX hS;simp only[if_true]at hX;obtain⟨f,hf,ho,hr,hk⟩:=wI hp hq;have hlb:=hl f (by rw[hf];exact List.mem_singleton.2 rfl) hq;rw[hf]at hX;simp only at hX;rw[hX];have hst:=Ii _ f.body 1 (bF _) ho hr hk (by omega);obtain⟨vs,aa,fs⟩:=p;simp only at hf;subst hf;simp only[Pg.av,Pg.row]at *;have hrw:f.row=[.str f.name, .isl 1 (f.params.map bG), .isl 1 (f.locs.map bG), .bool f.word, .isl 5 (f.body.map Sm.row)]:=rfl;have w2:(0:Int)<(([f]:List Fu).length:Int):=by simp
  have hg:([f].map Fu.row)[0]?=some [.str f.name, .isl 1 (f.params.map bG), .isl 1 (f.locs.map bG), .bool f.word, .isl 5 (f.body.map Sm.row)]:=jK rfl;generalize iZ f.body=out at *;have hcc:out.length+1≤maxLen:=by unfold maxLen;omega
  refine bM 14 [.tmp 2, .tmp 3] Tryz.func13 rfl rfl rfl rfl ?_;refine aB fun _ y=>aA rfl ?_;simp only[hrw,RR,seval];refine aT fun b1 hn1=>?_;simp only[RR,seval];apply y;clear y;refine aJ ?_;refine aB fun _ y=>aA rfl ?_;simp only[RR,seval];refine aP (hS) ?_;simp only[RR,seval];apply y;clear y;refine aH false rfl (fun hc=>by cases hc) (fun _=>?_);refine aK ?_;try simp only[RR]
  refine aB fun _ y=>aA rfl ?_;simp only[RR,seval];refine aP (hst) ?_;simp only[hcc,RR,seval];apply y;clear y;refine aM ?_;simp only[aZ,aL,bJ,RR,seval];refine bB.pure ?_;rfl
end Go.Proofs.YtaecpjgmcffliaaGreatDoor
