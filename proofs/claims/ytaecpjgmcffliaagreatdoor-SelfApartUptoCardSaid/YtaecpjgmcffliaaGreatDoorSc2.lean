/- Chapter 16, the program's: what names are, as maps. Chapter 16, the program's: what names are, second part. Chapter 16, the program's: what names are in a function; find. Chapter 16, the program's: visit. Chapter 16, the program's: visit, and what Check does with each use. Chapter 16, in plain Lean: the program's maps say what the judge's lists say. Chapter 16, the program's: what Check does with a use. Chapter 16, the program's: Check. -/
import Derived.Test.YtaecpjgmcffliaaGreatDoorSc1
set_option linter.unusedSimpArgs false
set_option linter.unusedVariables false
set_option maxRecDepth 10000
namespace Go.Al
structure Th where
 name:cN
 kind:Int
 num:Int
def Kt (k n:Int):AV:= .agg [.int .i64 k, .int .i64 n]
def xO (t:Th):AV×AV:=(.str t.name,Kt t.kind t.num)
def eY:List Th→cN→Option (Int×Int)
 |[],_=>none
 |t::l,s=>if s=t.name then some (t.kind,t.num)else eY l s
def yQ (m:List Th) (t:Th):List Th:=if(eY m t.name).isSome then m else m++[t]
def Fa (m:List Th) (u:Bool) (t:Th):Bool:=if(eY m t.name).isSome then false else u
theorem lA (s:cN): ∀(m:List Th) (i:Nat), ∃r,pM (.str s) (m.map xO) i=some r∧r.map (·.2)=(eY m s).map (fun p=>Kt p.1 p.2)
 |[],i=>⟨none,rfl,rfl⟩
 |t::m,i=>by
  simp only[List.map_cons,xO,pM,I7,eY];by_cases h:s=t.name
  ·simp only[h,decide_true,if_true]
   exact⟨_,rfl,rfl⟩
  simp only[h,decide_false,if_false];exact lA s m (i+1)
theorem tI (s:cN): ∀(m:List Th) (t:Th),eY (m++[t]) s=match eY m s with |some p=>some p|none=>if s=t.name then some (t.kind,t.num)else none
 |[],t=>by simp only[List.nil_append,eY]
 |u::m,t=>by
  simp only[List.cons_append,eY];by_cases h:s=u.name
  ·simp only[h,if_true]
  simp only[h,if_false];exact tI s m t
end Go.Al
namespace Go.Proofs.YtaecpjgmcffliaaGreatDoor
open Go.Al
def nU (bm bu b:Nat) (m:List Th) (u:Bool) (H:Hp):Prop:=H bm=some (.rows 1 [[.mp b]])∧H bu=some (.rows 1 [[.bool u]])∧H b=some (.amap (m.map xO))
theorem xH (t:Th) (bm bu b:Nat) (m:List Th) (u:Bool) (H:Hp) (h:nU bm bu b m u H):
  rK cG 127 [.str t.name,Kt t.kind t.num, .ptr 1 bm 0 0, .ptr 1 bu 0 0] H (fun ae H'=> ∃v,ae= .ret v∧(v= .tup []∧nU bm bu b (yQ m t) (Fa m u t) H'∧keeps (fun x=>x=bu∨x=b) H H')):=by
 obtain⟨h1,h2,h3⟩:=h;have n1:bm≠bu:=fun e=>by rw[e,h2]at h1;simp at h1
 have n2:bm≠b:=fun e=>by rw[e,h3]at h1;simp at h1
 have n3:bu≠b:=fun e=>by rw[e,h3]at h2;simp at h2
 refine bM 18 [] Tryz.func127 rfl rfl rfl rfl ?_;simp only[Kt];refine bT (fun fr H'=> ∃b5,fr 0= .str t.name∧fr 2= .ptr 1 bm 0 0∧fr 3= .ptr 1 bu 0 0∧fr 5= .ptr 2 b5 0 0∧H' b5=some (.rows 2 [[.int .i64 t.kind, .int .i64 t.num]])∧keeps (fun _=>False) H H') (fun K z=>?_) ?_
 ·refine aA rfl ?_;simp only[RR,seval]
  refine aT fun b5 hb5=>?_;simp only[RR,seval];exact z _ _ ⟨b5,rfl,rfl,rfl,rfl,aS _ _ _,(keeps.refl _ H).new hb5 _⟩
 rintro fr H1 ⟨b5,f0,f2,f3,f5,hb5,hk⟩;have k1:=hk _ _ (fun h=>h) h1;have k2:=hk _ _ (fun h=>h) h2;have k3:=hk _ _ (fun h=>h) h3;obtain⟨r,hr,hr2⟩:=lA t.name m 0
 have hnew: ∀x o,H1 x=none→keeps (fun _=>False) H (upd H1 x o):=fun x o hx b' o' _ hb'=>by
  have:=hk b' o' (fun h=>h) hb';have hne:b'≠x:=fun e=>by rw[e,hx]at this;cases this
  simp only[upd,if_neg hne];exact this
 cases hl:eY m t.name with
 |some q=>
  rw[hl]at hr2
  obtain⟨p,rfl,hp⟩: ∃p,r=some p∧p.2=Kt q.1 q.2:=by
   cases r with
   |none=>simp at hr2
   |some p=>exact⟨p,rfl,by simpa using hr2⟩
  refine aJ ?_;refine aB fun K z=>?_;refine aA rfl ?_;simp only[RR,seval];simp only[f0,f2,k1,k3,hr,hp,Kt,Option.getD_some,RR,seval];refine aT fun b6 hb6=>?_;simp only[RR,seval];apply z;clear z
  have hH:(upd (upd H1 b6 (some (.rows 2 [[.int .i64 0, .int .i64 0]]))) b6 (some (.rows 2 [[.int .i64 q.1, .int .i64 q.2]]))) bu=some (.rows 1 [[.bool u]]):=by
   have :bu≠b6:=fun e=>by rw[e,hb6]at k2;cases k2
   simp only[upd,if_neg this];exact k2
  have hK2:keeps (fun _=>False) H (upd (upd H1 b6 (some (.rows 2 [[.int .i64 0, .int .i64 0]]))) b6 (some (.rows 2 [[.int .i64 q.1, .int .i64 q.2]]))):=by
   intro b' o' _ hb';have h5:=hk b' o' (fun h=>h) hb';have :b'≠b6:=fun e=>by rw[e,hb6]at h5;cases h5
   simp only[upd,if_neg this];exact h5
  generalize(upd (upd H1 b6 (some (.rows 2 [[.int .i64 0, .int .i64 0]]))) b6 (some (.rows 2 [[.int .i64 q.1, .int .i64 q.2]])))=H2 at hH hK2⊢;refine aB fun K z=>?_;refine aA rfl ?_;simp only[RR,seval];apply z;clear z;refine aH true rfl (fun _=>?_) (fun hc=>by cases hc);refine aB fun K z=>?_;refine aA rfl ?_;simp only[RR,seval];simp only[f3,hH,RR,seval];apply z;clear z;refine aM ?_;simp only[aU,aZ,aL,bJ,seval];refine bB.whole ⟨rfl,⟨?_,aS _ _ _|>.trans (by simp only[Fa,hl,Option.isSome_some,if_true]), ?_⟩,fun b' o' hm hb'=>?_⟩
  ·simp only[upd,if_neg n1];exact hK2 _ _ (fun h=>h) h1
  ·have :b≠bu:=fun e=>n3 e.symm
   simp only[upd,if_neg this,yQ,hl,Option.isSome_some,if_true];exact hK2 _ _ (fun h=>h) h3
  have :b'≠bu:=fun e=>hm (.inl e);simp only[upd,if_neg this];exact hK2 b' o' (fun h=>h) hb'
 |none=>
  rw[hl]at hr2;obtain rfl:r=none:=by cases r with |none=>rfl|some p=>simp at hr2
  refine aJ ?_;refine aB fun K z=>?_;refine aA rfl ?_;simp only[RR,seval];simp only[f0,f2,k1,k3,hr,Option.getD_none,RR,seval];refine aT fun b6 hb6=>?_;simp only[RR,seval];apply z;clear z
  have hK2:keeps (fun _=>False) H1 (upd (upd H1 b6 (some (.rows 2 [[.int .i64 0, .int .i64 0]]))) b6 (some (.rows 2 [[.int .i64 0, .int .i64 0]]))):=by
   intro b' o' _ hb';have :b'≠b6:=fun e=>by rw[e,hb6]at hb';cases hb'
   simp only[upd,if_neg this];exact hb'
  generalize(upd (upd H1 b6 (some (.rows 2 [[.int .i64 0, .int .i64 0]]))) b6 (some (.rows 2 [[.int .i64 0, .int .i64 0]])))=H2 at hK2⊢;have j1:=hK2 _ _ (fun h=>h) k1;have j2:=hK2 _ _ (fun h=>h) k2;have j3:=hK2 _ _ (fun h=>h) k3;have j5:=hK2 _ _ (fun h=>h) hb5;refine aB fun K z=>?_;refine aA rfl ?_;simp only[RR,seval];apply z;clear z;refine aH false rfl (fun hc=>by cases hc) (fun _=>?_);refine aK ?_;simp only[aU];refine aA rfl ?_
  have hput:Ew (m.map xO) (.str t.name) (.agg [.int .i64 t.kind, .int .i64 t.num])=some ((yQ m t).map xO):=by
   simp only[Ew,hr,yQ,hl,Option.isSome_none,Bool.false_eq_true,if_false,List.map_append,List.map_cons,List.map_nil,xO,Kt]
  simp only[f0,f2,f5,j1,j3,j5,hput,RR,seval];simp only[aZ,aL,bJ];refine bB.whole ⟨rfl,⟨?_, ?_,aS _ _ _⟩,fun b' o' hm hb'=>?_⟩
  ·simp only[upd,if_neg n2];exact j1
  ·simp only[upd,if_neg n3]
   rw[j2];simp only[Fa,hl,Option.isSome_none,Bool.false_eq_true,if_false]
  have :b'≠b:=fun e=>hm (.inr e);simp only[upd,if_neg this];exact hK2 b' o' (fun h=>h) (hk b' o' (fun h=>h) hb')
end Go.Proofs.YtaecpjgmcffliaaGreatDoor
namespace Go.Al
def jC (k:Int):Nat→List cN→List Th
 |_,[]=>[]
 |i,s::l=>⟨s,k,i⟩::jC k (i+1) l
theorem lZ (k:Int): ∀(l:List cN) (i j:Nat) (h:j<l.length),jC k i (l.take (j+1))=jC k i (l.take j)++[⟨l[j],k,((i+j:Nat):Int)⟩]
 |s::l,i,0,_=>by simp [jC]
 |s::l,i,j+1,h=>by
  have:=lZ k l (i+1) j (by simpa using h);rw[List.take_succ_cons,List.take_succ_cons,jC,this,jC];simp only[List.cons_append,List.getElem_cons_succ];rw[show i+1+j=i+(j+1)by omega]
def lE (l:List Th):List Th×Bool:=l.foldl (fun p t=>(yQ p.1 t,Fa p.1 p.2 t)) ([],true)
theorem nA (l:List Th) (t:Th):lE (l++[t])=(yQ (lE l).1 t,Fa (lE l).1 (lE l).2 t):=by simp [lE]
def jX (p:Pg):List Th:=jC 2 0 p.vars++jC 3 0 (p.arrs.map Ar.name)++jC 4 0 (p.funs.map Fu.name)
def wX (f:Fu):List Th:=jC 1 0 (f.params++f.locs)
end Go.Al
namespace Go.Proofs.YtaecpjgmcffliaaGreatDoor
open Go.Al
theorem Ig (nm:cN) (n0:Int) (bm bu b:Nat) (m:List Th) (u:Bool) (H:Hp) (h:nU bm bu b m u H):
  rK cG 128 [.str nm, .int .i64 n0, .ptr 1 bm 0 0, .ptr 1 bu 0 0] H (fun ae H'=> ∃v,ae= .ret v∧(v= .tup []∧nU bm bu b (yQ m ⟨nm,1,n0⟩) (Fa m u ⟨nm,1,n0⟩) H'∧keeps (fun x=>x=bu∨x=b) H H')):=by
 obtain⟨h1,h2,h3⟩:=h;have n1:bm≠bu:=fun e=>by rw[e,h2]at h1;simp at h1
 have n2:bm≠b:=fun e=>by rw[e,h3]at h1;simp at h1
 have n3:bu≠b:=fun e=>by rw[e,h3]at h2;simp at h2
 refine bM 19 [] Tryz.func128 rfl rfl rfl rfl ?_;have hk:keeps (fun _=>False) H H:=keeps.refl _ H;have k1:=h1;have k2:=h2;have k3:=h3;obtain⟨r,hr,hr2⟩:=lA nm m 0
 cases hl:eY m nm with
 |some q=>
  rw[hl]at hr2
  obtain⟨p,rfl,hp⟩: ∃p,r=some p∧p.2=Kt q.1 q.2:=by
   cases r with
   |none=>simp at hr2
   |some p=>exact⟨p,rfl,by simpa using hr2⟩
  refine aJ ?_;refine aB fun K z=>?_;refine aA rfl ?_;simp only[RR,seval];simp only[k1,k3,hr,hp,Kt,Option.getD_some,RR,seval];refine aT fun b6 hb6=>?_;simp only[RR,seval];apply z;clear z
  have hH:(upd (upd H b6 (some (.rows 2 [[.int .i64 0, .int .i64 0]]))) b6 (some (.rows 2 [[.int .i64 q.1, .int .i64 q.2]]))) bu=some (.rows 1 [[.bool u]]):=by
   have :bu≠b6:=fun e=>by rw[e,hb6]at k2;cases k2
   simp only[upd,if_neg this];exact k2
  have hK2:keeps (fun _=>False) H (upd (upd H b6 (some (.rows 2 [[.int .i64 0, .int .i64 0]]))) b6 (some (.rows 2 [[.int .i64 q.1, .int .i64 q.2]]))):=by
   intro b' o' _ hb';have h5:=hk b' o' (fun h=>h) hb';have :b'≠b6:=fun e=>by rw[e,hb6]at h5;cases h5
   simp only[upd,if_neg this];exact h5
  generalize(upd (upd H b6 (some (.rows 2 [[.int .i64 0, .int .i64 0]]))) b6 (some (.rows 2 [[.int .i64 q.1, .int .i64 q.2]])))=H2 at hH hK2⊢;refine aB fun K z=>?_;refine aA rfl ?_;simp only[RR,seval];apply z;clear z;refine aH true rfl (fun _=>?_) (fun hc=>by cases hc);refine aB fun K z=>?_;refine aA rfl ?_;simp only[RR,seval];simp only[hH,RR,seval];apply z;clear z;refine aM ?_;simp only[aU,aZ,aL,bJ,seval];refine bB.whole ⟨rfl,⟨?_,aS _ _ _|>.trans (by simp only[Fa,hl,Option.isSome_some,if_true]), ?_⟩,fun b' o' hm hb'=>?_⟩
  ·simp only[upd,if_neg n1];exact hK2 _ _ (fun h=>h) h1
  ·have :b≠bu:=fun e=>n3 e.symm
   simp only[upd,if_neg this,yQ,hl,Option.isSome_some,if_true];exact hK2 _ _ (fun h=>h) h3
  have :b'≠bu:=fun e=>hm (.inl e);simp only[upd,if_neg this];exact hK2 b' o' (fun h=>h) hb'
 |none=>
  rw[hl]at hr2;obtain rfl:r=none:=by cases r with |none=>rfl|some p=>simp at hr2
  refine aJ ?_;refine aB fun K z=>?_;refine aA rfl ?_;simp only[RR,seval];simp only[k1,k3,hr,Option.getD_none,RR,seval];refine aT fun b6 hb6=>?_;simp only[RR,seval];apply z;clear z
  have hK2:keeps (fun _=>False) H (upd (upd H b6 (some (.rows 2 [[.int .i64 0, .int .i64 0]]))) b6 (some (.rows 2 [[.int .i64 0, .int .i64 0]]))):=by
   intro b' o' _ hb';have :b'≠b6:=fun e=>by rw[e,hb6]at hb';cases hb'
   simp only[upd,if_neg this];exact hb'
  generalize(upd (upd H b6 (some (.rows 2 [[.int .i64 0, .int .i64 0]]))) b6 (some (.rows 2 [[.int .i64 0, .int .i64 0]])))=H2 at hK2⊢;have j1:=hK2 _ _ (fun h=>h) k1;have j2:=hK2 _ _ (fun h=>h) k2;have j3:=hK2 _ _ (fun h=>h) k3;refine aB fun K z=>?_;refine aA rfl ?_;simp only[RR,seval];apply z;clear z;refine aH false rfl (fun hc=>by cases hc) (fun _=>?_);refine aK ?_;simp only[aU];refine aA rfl ?_
  have hput:Ew (m.map xO) (.str nm) (.agg [.int .i64 1, .int .i64 n0])=some ((yQ m ⟨nm,1,n0⟩).map xO):=by
   simp only[Ew,hr,yQ,hl,Option.isSome_none,Bool.false_eq_true,if_false,List.map_append,List.map_cons,List.map_nil,xO,Kt]
  simp only[j1,j3,hput,RR,seval];simp only[aZ,aL,bJ];refine bB.whole ⟨rfl,⟨?_, ?_,aS _ _ _⟩,fun b' o' hm hb'=>?_⟩
  ·simp only[upd,if_neg n2];exact j1
  ·simp only[upd,if_neg n3]
   rw[j2];simp only[Fa,hl,Option.isSome_none,Bool.false_eq_true,if_false]
  have :b'≠b:=fun e=>hm (.inr e);simp only[upd,if_neg this];exact hK2 b' o' (fun h=>h) (hk b' o' (fun h=>h) hb')
theorem sU {bm bu b:Nat} {m:List Th} {u:Bool} {H:Hp} (h:nU bm bu b m u H) {x sz:Nat} {r:List (List AV)} (hx:H x=some (.rows sz r)) (hs:sz≠1): ¬(x=bu∨x=b):=by
 obtain⟨h1,h2,h3⟩:=h;rintro(e|e)
 ·rw[e,h2]at hx
  simp only[Option.some.injEq,iG.rows.injEq]at hx;exact hs hx.1.symm
 rw[e,h3]at hx;cases hx
theorem Jt {bm bu b:Nat} {m:List Th} {u:Bool} {H:Hp} (h:nU bm bu b m u H) {x:Nat} (hx:H x=none) (o o':Option iG):nU bm bu b m u (upd (upd H x o) x o'):=by
 obtain⟨h1,h2,h3⟩:=h;refine⟨?_, ?_, ?_⟩
 ·have :bm≠x:=fun e=>by rw[e,hx]at h1;cases h1
  simp only[upd,if_neg this];exact h1
 ·have :bu≠x:=fun e=>by rw[e,hx]at h2;cases h2
  simp only[upd,if_neg this];exact h2
 have :b≠x:=fun e=>by rw[e,hx]at h3;cases h3
 simp only[upd,if_neg this];exact h3
set_option maxHeartbeats 2000000 in
set_option maxRecDepth 10000 in
theorem Im (p:Pg) (hp:p.few):rK cG 85 [p.av] lG (fun ae H'=> ∃v,ae= .ret v∧ ∃b,v= .tup [.mp b, .bool (lE (jX p)).2]∧H' b=some (.amap ((lE (jX p)).1.map xO))):=by
 have gv:=hp.v;have ga:=hp.a;have gf:=hp.f;have hG:jX p=jC 2 0 p.vars++jC 3 0 (p.arrs.map Ar.name)++jC 4 0 (p.funs.map Fu.name):=rfl;generalize jX p=G at hG⊢;obtain⟨vs,aa,fs⟩:=p;simp only at gv ga gf hG;refine bM 61 [.tmp 2, .tmp 3] Tryz.func85 rfl rfl rfl rfl ?_;simp only[Pg.av,Pg.row];refine bT (fun fr H=> ∃b1,fr 1= .ptr 3 b1 0 0∧H b1=some (.rows 3 [[.isl 1 (vs.map bG), .isl 2 (aa.map Ar.row), .isl 5 (fs.map Fu.row)]])) (fun K z=>?_) ?_
 ·refine aA rfl ?_;simp only[RR,seval]
  refine aT fun b1 hb1=>?_;simp only[RR,seval];exact z _ _ ⟨b1,rfl,aS _ _ _⟩
 rintro fr H ⟨b1,f1,hb⟩;refine bT (fun fr H=> ∃b bm bu,fr 1= .ptr 3 b1 0 0∧H b1=some (.rows 3 [[.isl 1 (vs.map bG), .isl 2 (aa.map Ar.row), .isl 5 (fs.map Fu.row)]])∧fr 4= .ptr 1 bm 0 0∧fr 5= .ptr 1 bu 0 0∧nU bm bu b [] true H) (fun K z=>?_) ?_
 ·refine aA rfl ?_;simp only[RR,seval]
  refine aT fun b hb0=>?_;simp only[RR,seval];refine aT fun bm hbm=>?_;simp only[RR,seval];refine aT fun bu hbu=>?_;simp only[RR,seval];have e1:bm≠b:=fun e=>by rw[e,aS]at hbm;cases hbm
  have e2:bu≠b:=fun e=>by
   rw[e]at hbu;have :b≠bm:=fun e=>e1 e.symm;simp only[upd,if_neg this,if_true]at hbu;cases hbu
  have e3:bu≠bm:=fun e=>by rw[e,aS]at hbu;cases hbu
  have e4:bm≠bu:=fun e=>e3 e.symm;have q0:b1≠b:=fun e=>by rw[e,hb0]at hb;cases hb
  have q1:b1≠bm:=fun e=>by
   rw[←e]at hbm;simp only[upd,if_neg q0]at hbm;rw[hb]at hbm;cases hbm
  have q2:b1≠bu:=fun e=>by
   rw[←e]at hbu;simp only[upd,if_neg q0,if_neg q1]at hbu;rw[hb]at hbu;cases hbu
  have e5:b≠bm:=fun e=>e1 e.symm;have e6:b≠bu:=fun e=>e2 e.symm;simp only[upd,e3,e4,reduceIte,RR,seval];refine z _ _ ⟨b,bm,bu,f1, ?_,rfl,rfl, ?_, ?_, ?_⟩
  ·simp only[upd,if_neg q0,if_neg q1,if_neg q2];exact hb
  ·simp [upd,e4]
  ·simp [upd]
  simp [upd,e5,e6]
 rintro fr H ⟨b,bm,bu,f1,hb,f4,f5,hI⟩;refine aB fun K z=>?_;refine aA rfl ?_;simp only[RR,seval];simp only[f4,f5,seval];apply z;clear z;refine bT (fun fr H=>fr 1= .ptr 3 b1 0 0∧fr 4= .ptr 1 bm 0 0∧fr 5= .ptr 1 bu 0 0∧fr 6= .fn (.func 127) [] [.ptr 1 bm 0 0, .ptr 1 bu 0 0]∧H b1=some (.rows 3 [[.isl 1 (vs.map bG), .isl 2 (aa.map Ar.row), .isl 5 (fs.map Fu.row)]])∧nU bm bu b (lE (jC 2 0 (vs))).1 (lE (jC 2 0 (vs))).2 H) (fun K z=>?_) ?_
 ·refine aB fun K z=>?_;refine aA rfl ?_;simp only[RR,seval]
  simp only[f1,hb,aC,RR,seval];apply z;clear z;refine aN ?_;refine cJ (fun mm fr H=> ∃k:Nat,mm=vs.length-k∧k≤vs.length∧fr 18= .int .i64 k∧fr 16= .isl 1 (vs.map bG)∧fr 17= .int .i64 vs.length∧fr 1= .ptr 3 b1 0 0∧fr 4= .ptr 1 bm 0 0∧fr 5= .ptr 1 bu 0 0∧fr 6= .fn (.func 127) [] [.ptr 1 bm 0 0, .ptr 1 bu 0 0]∧H b1=some (.rows 3 [[.isl 1 (vs.map bG), .isl 2 (aa.map Ar.row), .isl 5 (fs.map Fu.row)]])∧nU bm bu b (lE (jC 2 0 (vs.take k))).1 (lE (jC 2 0 (vs.take k))).2 H) (vs.length) ⟨0,rfl,Nat.zero_le _,rfl,rfl,rfl,f1,f4,f5,rfl,hb,hI⟩ ?_;rintro mm fr H ⟨k,rfl,hkk,hik,fS,fL,f1,f4,f5,f6,hb,hI⟩ K2 hK2;refine aB fun K z=>?_;refine aA rfl ?_;simp only[RR,seval];simp only[hik,fL,RR,seval];apply z;clear z;refine aJ ?_;refine aH _ rfl (fun hc=>?_) (fun hc=>?_)
  ·have hltk:k<vs.length:=by have:=aD hc;omega
   clear hc;refine aK ?_;simp only[aU];refine aJ ?_;refine aN ?_;have hg:=vH (aG hltk);have htk:=lZ 2 vs 0 k hltk;rw[Nat.zero_add]at htk;generalize vs[k]=s at hg htk;refine aB fun K z=>?_;refine aA rfl ?_;simp only[RR,seval];simp only[hik,fS,hg,RR,seval];apply z;clear z;refine aA rfl ?_;simp only[f6,RR,seval];refine dO (xH ⟨s,2,k⟩ bm bu b _ _ _ hI) (cY.refl _) (fun _=>trivial) fun v H' ⟨hv,hI',hkp⟩=>?_;subst hv;simp only[aU,aW,RR,seval];refine aA rfl ?_;simp only[RR,seval];simp only[hik,aU,RR,seval];rw[aV _ (by omega)];refine hK2 (vs.length-(k+1)) _ _ (by omega) ⟨k+1,rfl,by omega,rfl,fS,fL,f1,f4,f5,f6,hkp b1 _ (sU hI hb (by decide)) hb,by rw[htk,nA];exact hI'⟩
  refine bI ?_;simp only[aU,aW,reduceIte];have hknk:k=vs.length:=by have:=aE hc;omega
  clear hc;subst hknk;rw[List.take_length]at hI;exact z _ _ ⟨f1,f4,f5,f6,hb,hI⟩
 rintro fr H ⟨f1,f4,f5,f6,hb,hI⟩;refine bT (fun fr H=>fr 1= .ptr 3 b1 0 0∧fr 4= .ptr 1 bm 0 0∧fr 5= .ptr 1 bu 0 0∧fr 6= .fn (.func 127) [] [.ptr 1 bm 0 0, .ptr 1 bu 0 0]∧H b1=some (.rows 3 [[.isl 1 (vs.map bG), .isl 2 (aa.map Ar.row), .isl 5 (fs.map Fu.row)]])∧nU bm bu b (lE (jC 2 0 vs++jC 3 0 (aa.map Ar.name))).1 (lE (jC 2 0 vs++jC 3 0 (aa.map Ar.name))).2 H) (fun K z=>?_) ?_
 ·refine aB fun K z=>?_;refine aA rfl ?_;simp only[RR,seval]
  simp only[f1,hb,aC,RR,seval];apply z;clear z;refine aN ?_;refine cJ (fun mm fr H=> ∃k:Nat,mm=aa.length-k∧k≤aa.length∧fr 32= .int .i64 k∧fr 30= .isl 2 (aa.map Ar.row)∧fr 31= .int .i64 aa.length∧fr 1= .ptr 3 b1 0 0∧fr 4= .ptr 1 bm 0 0∧fr 5= .ptr 1 bu 0 0∧fr 6= .fn (.func 127) [] [.ptr 1 bm 0 0, .ptr 1 bu 0 0]∧H b1=some (.rows 3 [[.isl 1 (vs.map bG), .isl 2 (aa.map Ar.row), .isl 5 (fs.map Fu.row)]])∧nU bm bu b (lE (jC 2 0 vs++jC 3 0 ((aa.take k).map Ar.name))).1 (lE (jC 2 0 vs++jC 3 0 ((aa.take k).map Ar.name))).2 H) (aa.length) ⟨0,rfl,Nat.zero_le _,rfl,rfl,rfl,f1,f4,f5,f6,hb,by simpa [jC]using hI⟩ ?_;rintro mm fr H ⟨k,rfl,hkk,hik,fS,fL,f1,f4,f5,f6,hb,hI⟩ K2 hK2;refine aB fun K z=>?_;refine aA rfl ?_;simp only[RR,seval];simp only[hik,fL,RR,seval];apply z;clear z;refine aJ ?_;refine aH _ rfl (fun hc=>?_) (fun hc=>?_)
  ·have hltk:k<aa.length:=by have:=aD hc;omega
   clear hc;refine aK ?_;simp only[aU];refine aJ ?_;refine aN ?_;have hg:=Ip (aG hltk);have htk:=lZ 3 (aa.map Ar.name) 0 k (by rw[aC];exact hltk);rw[Nat.zero_add,←List.map_take,←List.map_take,List.getElem_map]at htk;generalize aa[k]=a at hg htk;refine aB fun K z=>?_;refine aA rfl ?_;simp only[RR,seval];simp only[hik,fS,hg,RR,seval];refine aT fun bx hbx=>?_;simp only[RR,seval];apply z;clear z;have hI2:=Jt hI hbx (some (.rows 2 [[.str [], .int .i64 0]])) (some (.rows 2 [[.str a.name, .int .i64 a.size]]));have hbx2:(upd (upd H bx (some (.rows 2 [[.str [], .int .i64 0]]))) bx (some (.rows 2 [[.str a.name, .int .i64 a.size]]))) bx=some (.rows 2 [[.str a.name, .int .i64 a.size]]):=aS _ _ _
   have hb2:(upd (upd H bx (some (.rows 2 [[.str [], .int .i64 0]]))) bx (some (.rows 2 [[.str a.name, .int .i64 a.size]]))) b1=some (.rows 3 [[.isl 1 (vs.map bG), .isl 2 (aa.map Ar.row), .isl 5 (fs.map Fu.row)]]):=by
    have :b1≠bx:=fun e=>by rw[e,hbx]at hb;cases hb
    simp only[upd,if_neg this];exact hb
   generalize(upd (upd H bx (some (.rows 2 [[.str [], .int .i64 0]]))) bx (some (.rows 2 [[.str a.name, .int .i64 a.size]])))=H2 at hI2 hbx2 hb2⊢;refine aA rfl ?_;simp only[f6,hbx2,RR,seval];refine dO (xH ⟨a.name,3,k⟩ bm bu b _ _ _ hI2) (cY.refl _) (fun _=>trivial) fun v H' ⟨hv,hI',hkp⟩=>?_;subst hv;simp only[aU,aW,RR,seval];refine aA rfl ?_;simp only[RR,seval];simp only[hik,aU,RR,seval];rw[aV _ (by omega)];refine hK2 (aa.length-(k+1)) _ _ (by omega) ⟨k+1,rfl,by omega,rfl,fS,fL,f1,f4,f5,f6,hkp b1 _ (sU hI2 hb2 (by decide)) hb2,by rw[htk,←List.append_assoc,nA];exact hI'⟩
  refine bI ?_;simp only[aU,aW,reduceIte];have hknk:k=aa.length:=by have:=aE hc;omega
  clear hc;subst hknk;rw[List.take_length]at hI;exact z _ _ ⟨f1,f4,f5,f6,hb,hI⟩
 rintro fr H ⟨f1,f4,f5,f6,hb,hI⟩;refine bT (fun fr H=>fr 1= .ptr 3 b1 0 0∧fr 4= .ptr 1 bm 0 0∧fr 5= .ptr 1 bu 0 0∧fr 6= .fn (.func 127) [] [.ptr 1 bm 0 0, .ptr 1 bu 0 0]∧H b1=some (.rows 3 [[.isl 1 (vs.map bG), .isl 2 (aa.map Ar.row), .isl 5 (fs.map Fu.row)]])∧nU bm bu b (lE (jC 2 0 vs++jC 3 0 (aa.map Ar.name)++jC 4 0 (fs.map Fu.name))).1 (lE (jC 2 0 vs++jC 3 0 (aa.map Ar.name)++jC 4 0 (fs.map Fu.name))).2 H) (fun K z=>?_) ?_
 ·refine aB fun K z=>?_;refine aA rfl ?_;simp only[RR,seval]
  simp only[f1,hb,aC,RR,seval];apply z;clear z;refine aN ?_;refine cJ (fun mm fr H=> ∃k:Nat,mm=fs.length-k∧k≤fs.length∧fr 47= .int .i64 k∧fr 45= .isl 5 (fs.map Fu.row)∧fr 46= .int .i64 fs.length∧fr 1= .ptr 3 b1 0 0∧fr 4= .ptr 1 bm 0 0∧fr 5= .ptr 1 bu 0 0∧fr 6= .fn (.func 127) [] [.ptr 1 bm 0 0, .ptr 1 bu 0 0]∧H b1=some (.rows 3 [[.isl 1 (vs.map bG), .isl 2 (aa.map Ar.row), .isl 5 (fs.map Fu.row)]])∧nU bm bu b (lE (jC 2 0 vs++jC 3 0 (aa.map Ar.name)++jC 4 0 ((fs.take k).map Fu.name))).1 (lE (jC 2 0 vs++jC 3 0 (aa.map Ar.name)++jC 4 0 ((fs.take k).map Fu.name))).2 H) (fs.length) ⟨0,rfl,Nat.zero_le _,rfl,rfl,rfl,f1,f4,f5,f6,hb,by simpa [jC]using hI⟩ ?_;rintro mm fr H ⟨k,rfl,hkk,hik,fS,fL,f1,f4,f5,f6,hb,hI⟩ K2 hK2;refine aB fun K z=>?_;refine aA rfl ?_;simp only[RR,seval];simp only[hik,fL,RR,seval];apply z;clear z;refine aJ ?_;refine aH _ rfl (fun hc=>?_) (fun hc=>?_)
  ·have hltk:k<fs.length:=by have:=aD hc;omega
   clear hc;refine aK ?_;simp only[aU];refine aJ ?_;refine aN ?_;have hg:=jK (aG hltk);have htk:=lZ 4 (fs.map Fu.name) 0 k (by rw[aC];exact hltk);rw[Nat.zero_add,←List.map_take,←List.map_take,List.getElem_map]at htk;generalize fs[k]=f at hg htk;refine aB fun K z=>?_;refine aA rfl ?_;simp only[RR,seval];simp only[hik,fS,hg,RR,seval];refine aT fun bx hbx=>?_;simp only[RR,seval];apply z;clear z;have hI2:=Jt hI hbx (some (.rows 5 [[.str [], .nsl, .nsl, .bool false, .nsl]])) (some (.rows 5 [[.str f.name, .isl 1 (f.params.map bG), .isl 1 (f.locs.map bG), .bool f.word, .isl 5 (f.body.map Sm.row)]]));have hbx2:(upd (upd H bx (some (.rows 5 [[.str [], .nsl, .nsl, .bool false, .nsl]]))) bx (some (.rows 5 [[.str f.name, .isl 1 (f.params.map bG), .isl 1 (f.locs.map bG), .bool f.word, .isl 5 (f.body.map Sm.row)]]))) bx=some (.rows 5 [[.str f.name, .isl 1 (f.params.map bG), .isl 1 (f.locs.map bG), .bool f.word, .isl 5 (f.body.map Sm.row)]]):=aS _ _ _
   have hb2:(upd (upd H bx (some (.rows 5 [[.str [], .nsl, .nsl, .bool false, .nsl]]))) bx (some (.rows 5 [[.str f.name, .isl 1 (f.params.map bG), .isl 1 (f.locs.map bG), .bool f.word, .isl 5 (f.body.map Sm.row)]]))) b1=some (.rows 3 [[.isl 1 (vs.map bG), .isl 2 (aa.map Ar.row), .isl 5 (fs.map Fu.row)]]):=by
    have :b1≠bx:=fun e=>by rw[e,hbx]at hb;cases hb
    simp only[upd,if_neg this];exact hb
   generalize(upd (upd H bx (some (.rows 5 [[.str [], .nsl, .nsl, .bool false, .nsl]]))) bx (some (.rows 5 [[.str f.name, .isl 1 (f.params.map bG), .isl 1 (f.locs.map bG), .bool f.word, .isl 5 (f.body.map Sm.row)]])))=H2 at hI2 hbx2 hb2⊢;refine aA rfl ?_;simp only[f6,hbx2,RR,seval];refine dO (xH ⟨f.name,4,k⟩ bm bu b _ _ _ hI2) (cY.refl _) (fun _=>trivial) fun v H' ⟨hv,hI',hkp⟩=>?_;subst hv;simp only[aU,aW,RR,seval];refine aA rfl ?_;simp only[RR,seval];simp only[hik,aU,RR,seval];rw[aV _ (by omega)];refine hK2 (fs.length-(k+1)) _ _ (by omega) ⟨k+1,rfl,by omega,rfl,fS,fL,f1,f4,f5,f6,hkp b1 _ (sU hI2 hb2 (by decide)) hb2,by rw[htk,←List.append_assoc,nA];exact hI'⟩
  refine bI ?_;simp only[aU,aW,reduceIte];have hknk:k=fs.length:=by have:=aE hc;omega
  clear hc;subst hknk;rw[List.take_length]at hI;exact z _ _ ⟨f1,f4,f5,f6,hb,hI⟩
 rintro fr H ⟨f1,f4,f5,f6,hb,hI⟩;rw[←hG]at hI;obtain⟨i1,i2,i3⟩:=hI;refine aB fun K z=>?_;refine dE (fun x=>x≠bm∧x≠bu) [(0,true),(1,true),(2,true),(3,true)] cX (by kernel_rfl) rfl ?_;simp only[mR,f4,f5,i1,i2,RR,seval];apply z;clear z;refine aM ?_;simp only[aZ,aL,bJ,RR,seval];exact bB.whole ⟨b,rfl,i3⟩
end Go.Proofs.YtaecpjgmcffliaaGreatDoor
namespace Go.Al
theorem Dl (k:Int): ∀(l m:List cN) (i:Nat),jC k i (l++m)=jC k i l++jC k (i+l.length) m
 |[],m,i=>by simp [jC]
 |s::l,m,i=>by
  simp only[List.cons_append,jC,Dl k l m (i+1),aQ];rw[show i+1+l.length=i+(l.length+1)by omega]
theorem Rk (k:Int) (a b:List cN) (j:Nat) (h:j<b.length):jC k 0 (a++b.take (j+1))=jC k 0 (a++b.take j)++[⟨b[j],k,((a.length+j:Nat):Int)⟩]:=by
 rw[Dl,Dl,lZ k b _ j h,List.append_assoc,Nat.zero_add]
end Go.Al
namespace Go.Proofs.YtaecpjgmcffliaaGreatDoor
open Go.Al
set_option maxRecDepth 10000 in
set_option maxHeartbeats 2000000 in
theorem Lx (f:Fu) (hp:f.params.length≤10000) (hl:f.locs.length≤1100000):rK cG 86 [.agg f.row] lG (fun ae H'=> ∃v,ae= .ret v∧ ∃b,v= .tup [.mp b, .bool (lE (wX f)).2]∧H' b=some (.amap ((lE (wX f)).1.map xO))):=by
 have hG:wX f=jC 1 0 (f.params++f.locs):=rfl;generalize wX f=G at hG⊢;refine bM 45 [.tmp 2, .tmp 3] Tryz.func86 rfl rfl rfl rfl ?_;simp only[Fu.row];refine bT (fun fr H=> ∃b1,fr 1= .ptr 5 b1 0 0∧H b1=some (.rows 5 [[.str f.name, .isl 1 (f.params.map bG), .isl 1 (f.locs.map bG), .bool f.word, .isl 5 (f.body.map Sm.row)]])) (fun K z=>?_) ?_
 ·refine aA rfl ?_;simp only[RR,seval]
  refine aT fun b1 hb1=>?_;simp only[RR,seval];exact z _ _ ⟨b1,rfl,aS _ _ _⟩
 rintro fr H ⟨b1,f1,hb⟩;refine bT (fun fr H=> ∃b bm bu,fr 1= .ptr 5 b1 0 0∧H b1=some (.rows 5 [[.str f.name, .isl 1 (f.params.map bG), .isl 1 (f.locs.map bG), .bool f.word, .isl 5 (f.body.map Sm.row)]])∧fr 4= .ptr 1 bm 0 0∧fr 5= .ptr 1 bu 0 0∧nU bm bu b [] true H) (fun K z=>?_) ?_
 ·refine aA rfl ?_;simp only[RR,seval]
  refine aT fun b hb0=>?_;simp only[RR,seval];refine aT fun bm hbm=>?_;simp only[RR,seval];refine aT fun bu hbu=>?_;simp only[RR,seval];have e1:bm≠b:=fun e=>by rw[e,aS]at hbm;cases hbm
  have e2:bu≠b:=fun e=>by
   rw[e]at hbu;have :b≠bm:=fun e=>e1 e.symm;simp only[upd,if_neg this,if_true]at hbu;cases hbu
  have e3:bu≠bm:=fun e=>by rw[e,aS]at hbu;cases hbu
  have e4:bm≠bu:=fun e=>e3 e.symm;have q0:b1≠b:=fun e=>by rw[e,hb0]at hb;cases hb
  have q1:b1≠bm:=fun e=>by
   rw[←e]at hbm;simp only[upd,if_neg q0]at hbm;rw[hb]at hbm;cases hbm
  have q2:b1≠bu:=fun e=>by
   rw[←e]at hbu;simp only[upd,if_neg q0,if_neg q1]at hbu;rw[hb]at hbu;cases hbu
  have e5:b≠bm:=fun e=>e1 e.symm;have e6:b≠bu:=fun e=>e2 e.symm;simp only[upd,e3,e4,reduceIte,RR,seval];refine z _ _ ⟨b,bm,bu,f1, ?_,rfl,rfl, ?_, ?_, ?_⟩
  ·simp only[upd,if_neg q0,if_neg q1,if_neg q2];exact hb
  ·simp [upd,e4]
  ·simp [upd]
  simp [upd,e5,e6]
 rintro fr H ⟨b,bm,bu,f1,hb,f4,f5,hI⟩;refine aB fun K z=>?_;refine aA rfl ?_;simp only[RR,seval];simp only[f4,f5,seval];apply z;clear z;refine bT (fun fr H=>fr 1= .ptr 5 b1 0 0∧fr 4= .ptr 1 bm 0 0∧fr 5= .ptr 1 bu 0 0∧fr 6= .fn (.func 128) [] [.ptr 1 bm 0 0, .ptr 1 bu 0 0]∧H b1=some (.rows 5 [[.str f.name, .isl 1 (f.params.map bG), .isl 1 (f.locs.map bG), .bool f.word, .isl 5 (f.body.map Sm.row)]])∧nU bm bu b (lE (jC 1 0 (f.params))).1 (lE (jC 1 0 (f.params))).2 H) (fun K z=>?_) ?_
 ·refine aB fun K z=>?_;refine aA rfl ?_;simp only[RR,seval]
  simp only[f1,hb,aC,RR,seval];apply z;clear z;refine aN ?_;refine cJ (fun mm fr H=> ∃k:Nat,mm=f.params.length-k∧k≤f.params.length∧fr 16= .int .i64 k∧fr 14= .isl 1 (f.params.map bG)∧fr 15= .int .i64 f.params.length∧fr 1= .ptr 5 b1 0 0∧fr 4= .ptr 1 bm 0 0∧fr 5= .ptr 1 bu 0 0∧fr 6= .fn (.func 128) [] [.ptr 1 bm 0 0, .ptr 1 bu 0 0]∧H b1=some (.rows 5 [[.str f.name, .isl 1 (f.params.map bG), .isl 1 (f.locs.map bG), .bool f.word, .isl 5 (f.body.map Sm.row)]])∧nU bm bu b (lE (jC 1 0 (f.params.take k))).1 (lE (jC 1 0 (f.params.take k))).2 H) (f.params.length) ⟨0,rfl,Nat.zero_le _,rfl,rfl,rfl,f1,f4,f5,rfl,hb,hI⟩ ?_;rintro mm fr H ⟨k,rfl,hkk,hik,fS,fL,f1,f4,f5,f6,hb,hI⟩ K2 hK2;refine aB fun K z=>?_;refine aA rfl ?_;simp only[RR,seval];simp only[hik,fL,RR,seval];apply z;clear z;refine aJ ?_;refine aH _ rfl (fun hc=>?_) (fun hc=>?_)
  ·have hltk:k<f.params.length:=by have:=aD hc;omega
   clear hc;refine aK ?_;simp only[aU];refine aJ ?_;refine aN ?_;have hg:=vH (aG hltk);have htk:=lZ 1 f.params 0 k hltk;rw[Nat.zero_add]at htk;generalize f.params[k]=s at hg htk;refine aB fun K z=>?_;refine aA rfl ?_;simp only[RR,seval];simp only[hik,fS,hg,RR,seval];apply z;clear z;refine aA rfl ?_;simp only[f6,RR,seval];refine dO (Ig s k bm bu b _ _ _ hI) (cY.refl _) (fun _=>trivial) fun v H' ⟨hv,hI',hkp⟩=>?_;subst hv;simp only[aU,aW,RR,seval];refine aA rfl ?_;simp only[RR,seval];simp only[hik,aU,RR,seval];rw[aV _ (by omega)];refine hK2 (f.params.length-(k+1)) _ _ (by omega) ⟨k+1,rfl,by omega,rfl,fS,fL,f1,f4,f5,f6,hkp b1 _ (sU hI hb (by decide)) hb,by rw[htk,nA];exact hI'⟩
  refine bI ?_;simp only[aU,aW,reduceIte];have hknk:k=f.params.length:=by have:=aE hc;omega
  clear hc;subst hknk;rw[List.take_length]at hI;exact z _ _ ⟨f1,f4,f5,f6,hb,hI⟩
 rintro fr H ⟨f1,f4,f5,f6,hb,hI⟩;refine bT (fun fr H=>fr 1= .ptr 5 b1 0 0∧fr 4= .ptr 1 bm 0 0∧fr 5= .ptr 1 bu 0 0∧fr 6= .fn (.func 128) [] [.ptr 1 bm 0 0, .ptr 1 bu 0 0]∧H b1=some (.rows 5 [[.str f.name, .isl 1 (f.params.map bG), .isl 1 (f.locs.map bG), .bool f.word, .isl 5 (f.body.map Sm.row)]])∧nU bm bu b (lE (jC 1 0 (f.params++f.locs))).1 (lE (jC 1 0 (f.params++f.locs))).2 H) (fun K z=>?_) ?_
 ·refine aB fun K z=>?_;refine aA rfl ?_;simp only[RR,seval]
  simp only[f1,hb,aC,RR,seval];apply z;clear z;refine aN ?_;refine cJ (fun mm fr H=> ∃k:Nat,mm=f.locs.length-k∧k≤f.locs.length∧fr 29= .int .i64 k∧fr 27= .isl 1 (f.locs.map bG)∧fr 28= .int .i64 f.locs.length∧fr 1= .ptr 5 b1 0 0∧fr 4= .ptr 1 bm 0 0∧fr 5= .ptr 1 bu 0 0∧fr 6= .fn (.func 128) [] [.ptr 1 bm 0 0, .ptr 1 bu 0 0]∧H b1=some (.rows 5 [[.str f.name, .isl 1 (f.params.map bG), .isl 1 (f.locs.map bG), .bool f.word, .isl 5 (f.body.map Sm.row)]])∧nU bm bu b (lE (jC 1 0 (f.params++f.locs.take k))).1 (lE (jC 1 0 (f.params++f.locs.take k))).2 H) (f.locs.length) ⟨0,rfl,Nat.zero_le _,rfl,rfl,rfl,f1,f4,f5,f6,hb,by rw[List.take_zero,List.append_nil];exact hI⟩ ?_;rintro mm fr H ⟨k,rfl,hkk,hik,fS,fL,f1,f4,f5,f6,hb,hI⟩ K2 hK2;refine aB fun K z=>?_;refine aA rfl ?_;simp only[RR,seval];simp only[hik,fL,RR,seval];apply z;clear z;refine aJ ?_;refine aH _ rfl (fun hc=>?_) (fun hc=>?_)
  ·have hltk:k<f.locs.length:=by have:=aD hc;omega
   clear hc;refine aK ?_;simp only[aU];refine aJ ?_;refine aN ?_;have hg:=vH (aG hltk);have htk:=Rk 1 f.params f.locs k hltk;have w1:IntKind.wrap .i64 ((f.params.length:Int)+k)=((f.params.length+k:Nat):Int):=by rw[aV _ (by omega)];omega
   generalize f.locs[k]=s at hg htk;refine aB fun K z=>?_;refine aA rfl ?_;simp only[RR,seval];simp only[hik,fS,hg,RR,seval];apply z;clear z;refine aA rfl ?_;simp only[f6,f1,hb,w1,aC,RR,seval];refine dO (Ig s ((f.params.length+k:Nat):Int) bm bu b _ _ _ hI) (cY.refl _) (fun _=>trivial) fun v H' ⟨hv,hI',hkp⟩=>?_;subst hv;simp only[aU,aW,RR,seval];refine aA rfl ?_;simp only[RR,seval];simp only[hik,aU,RR,seval];rw[aV _ (by omega)];refine hK2 (f.locs.length-(k+1)) _ _ (by omega) ⟨k+1,rfl,by omega,rfl,fS,fL,f1,f4,f5,f6,hkp b1 _ (sU hI hb (by decide)) hb,by rw[htk,nA];exact hI'⟩
  refine bI ?_;simp only[aU,aW,reduceIte];have hknk:k=f.locs.length:=by have:=aE hc;omega
  clear hc;subst hknk;rw[List.take_length]at hI;exact z _ _ ⟨f1,f4,f5,f6,hb,hI⟩
 rintro fr H ⟨f1,f4,f5,f6,hb,hI⟩;rw[←hG]at hI;obtain⟨i1,i2,i3⟩:=hI;refine aB fun K z=>?_;refine dE (fun x=>x≠bm∧x≠bu) [(0,true),(1,true),(2,true),(3,true)] cX (by kernel_rfl) rfl ?_;simp only[mR,f4,f5,i1,i2,RR,seval];apply z;clear z;refine aM ?_;simp only[aZ,aL,bJ,RR,seval];exact bB.whole ⟨b,rfl,i3⟩
def nY (mo mi:List Th) (s:cN):Int×Int:=match eY mi s with |some r=>r|none=>match eY mo s with |some r=>r|none=>(0, -1)
set_option maxRecDepth 10000 in
theorem E7 (mo mi:List Th) (bo bi:Nat) (s:cN) (H:Hp) (ho:H bo=some (.amap (mo.map xO))) (hi:H bi=some (.amap (mi.map xO))):
  rK cG 89 [.agg [.mp bo, .mp bi], .str s] H (fun ae H'=> ∃v,ae= .ret v∧(v=Kt (nY mo mi s).1 (nY mo mi s).2∧keeps (fun _=>False) H H')):=by
 obtain⟨ri,hri,hri2⟩:=lA s mi 0;obtain⟨ro,hro,hro2⟩:=lA s mo 0;refine bM 28 [.cell 4 149] Tryz.func89 rfl rfl rfl rfl ?_;refine bT (fun fr H'=> ∃b2 b4,fr 1= .str s∧fr 2= .ptr 2 b2 0 0∧fr 4= .ptr 2 b4 0 0∧H' b2=some (.rows 2 [[.mp bo, .mp bi]])∧H' b4=some (.rows 2 [[.int .i64 0, .int .i64 0]])∧H b4=none∧keeps (fun _=>False) H H'∧b2≠b4) (fun K z=>?_) ?_
 ·refine aA rfl ?_;simp only[RR,seval]
  refine aT fun b2 hb2=>?_;simp only[RR,seval];refine aT fun b4 hb4=>?_;simp only[RR,seval];have hne:b2≠b4:=fun e=>by rw[←e,aS]at hb4;cases hb4
  have hne':b4≠b2:=fun e=>hne e.symm;have h4:H b4=none:=by simpa only[upd,if_neg hne']using hb4
  refine z _ _ ⟨b2,b4,rfl,rfl,rfl,by simp [upd,hne],aS _ _ _,h4, ?_,hne⟩;exact((keeps.refl _ H).new hb2 _).new h4 _
 rintro fr H1 ⟨b2,b4,f1,f2,f4,h2,h4,hn4,hk,hne⟩;have hset: ∀(H2:Hp) o,keeps (fun _=>False) H H2→keeps (fun _=>False) H (upd H2 b4 o):=fun H2 o h=>h.new hn4 o;have ki:=hk _ _ (fun h=>h) hi;have ko:=hk _ _ (fun h=>h) ho
 cases hl:eY mi s with
 |some q=>
  have hM:nY mo mi s=q:=by simp only[nY,hl]
  rw[hM];rw[hl]at hri2
  obtain⟨p,rfl,hp⟩: ∃p,ri=some p∧p.2=Kt q.1 q.2:=by
   cases ri with
   |none=>simp at hri2
   |some p=>exact⟨p,rfl,by simpa using hri2⟩
  refine aJ ?_;refine aB fun K z=>?_;refine aA rfl ?_;simp only[RR,seval];simp only[f1,f2,h2,ki,hri,hp,Kt,Option.getD_some,RR,seval];refine aT fun b6 hb6=>?_;simp only[RR,seval];apply z;clear z;have n4:b4≠b6:=fun e=>by rw[e,hb6]at h4;cases h4
  have n4':b6≠b4:=fun e=>n4 e.symm;have h6:(upd (upd H1 b6 (some (.rows 2 [[.int .i64 0, .int .i64 0]]))) b6 (some (.rows 2 [[.int .i64 q.1, .int .i64 q.2]]))) b6=some (.rows 2 [[.int .i64 q.1, .int .i64 q.2]]):=aS _ _ _;have h4':(upd (upd H1 b6 (some (.rows 2 [[.int .i64 0, .int .i64 0]]))) b6 (some (.rows 2 [[.int .i64 q.1, .int .i64 q.2]]))) b4=some (.rows 2 [[.int .i64 0, .int .i64 0]]):=by simp only[upd,if_neg n4];exact h4
  have hK2:keeps (fun _=>False) H (upd (upd H1 b6 (some (.rows 2 [[.int .i64 0, .int .i64 0]]))) b6 (some (.rows 2 [[.int .i64 q.1, .int .i64 q.2]]))):=by
   intro b' o' _ hb';have h5:=hk b' o' (fun h=>h) hb';have :b'≠b6:=fun e=>by rw[e,hb6]at h5;cases h5
   simp only[upd,if_neg this];exact h5
  generalize(upd (upd H1 b6 (some (.rows 2 [[.int .i64 0, .int .i64 0]]))) b6 (some (.rows 2 [[.int .i64 q.1, .int .i64 q.2]])))=H2 at h6 h4' hK2⊢;refine aB fun K z=>?_;refine aA rfl ?_;simp only[RR,seval];apply z;clear z;refine aH true rfl (fun _=>?_) (fun hc=>by cases hc);refine aB fun K z=>?_;refine aA rfl ?_;simp only[RR,seval];simp only[f4,h6,h4',RR,seval];apply z;clear z;refine aM ?_;have hu:upd H2 b4 (some (.rows 2 [[.int .i64 q.1, .int .i64 q.2]])) b4=some (.rows 2 [[.int .i64 q.1, .int .i64 q.2]]):=aS _ _ _;have hkk:=hset H2 (some (.rows 2 [[.int .i64 q.1, .int .i64 q.2]])) hK2;generalize upd H2 b4 (some (.rows 2 [[.int .i64 q.1, .int .i64 q.2]]))=H3 at hu hkk⊢;simp only[aU,aZ,aL,bJ,f4,hu,RR,seval];exact bB.whole ⟨rfl,hkk⟩
 |none=>
  rw[hl]at hri2;obtain rfl:ri=none:=by cases ri with |none=>rfl|some p=>simp at hri2
  refine aJ ?_;refine aB fun K z=>?_;refine aA rfl ?_;simp only[RR,seval];simp only[f1,f2,h2,ki,hri,Option.getD_none,RR,seval];refine aT fun b6 hb6=>?_;simp only[RR,seval];apply z;clear z;have n4:b4≠b6:=fun e=>by rw[e,hb6]at h4;cases h4
  have n2:b2≠b6:=fun e=>by rw[e,hb6]at h2;cases h2
  have h4':(upd (upd H1 b6 (some (.rows 2 [[.int .i64 0, .int .i64 0]]))) b6 (some (.rows 2 [[.int .i64 0, .int .i64 0]]))) b4=some (.rows 2 [[.int .i64 0, .int .i64 0]]):=by simp only[upd,if_neg n4];exact h4
  have h2':(upd (upd H1 b6 (some (.rows 2 [[.int .i64 0, .int .i64 0]]))) b6 (some (.rows 2 [[.int .i64 0, .int .i64 0]]))) b2=some (.rows 2 [[.mp bo, .mp bi]]):=by simp only[upd,if_neg n2];exact h2
  have hK2:keeps (fun _=>False) H (upd (upd H1 b6 (some (.rows 2 [[.int .i64 0, .int .i64 0]]))) b6 (some (.rows 2 [[.int .i64 0, .int .i64 0]]))):=by
   intro b' o' _ hb';have h5:=hk b' o' (fun h=>h) hb';have :b'≠b6:=fun e=>by rw[e,hb6]at h5;cases h5
   simp only[upd,if_neg this];exact h5
  generalize(upd (upd H1 b6 (some (.rows 2 [[.int .i64 0, .int .i64 0]]))) b6 (some (.rows 2 [[.int .i64 0, .int .i64 0]])))=H2 at h4' h2' hK2⊢;refine aB fun K z=>?_;refine aA rfl ?_;simp only[RR,seval];apply z;clear z;refine aH false rfl (fun hc=>by cases hc) (fun _=>?_);refine aK ?_;simp only[aU];have ko2:=hK2 _ _ (fun h=>h) ho
  cases hlo:eY mo s with
  |some q=>
   have hM:nY mo mi s=q:=by simp only[nY,hl,hlo]
   rw[hM];rw[hlo]at hro2
   obtain⟨p,rfl,hp⟩: ∃p,ro=some p∧p.2=Kt q.1 q.2:=by
    cases ro with
    |none=>simp at hro2
    |some p=>exact⟨p,rfl,by simpa using hro2⟩
   refine aJ ?_;refine aB fun K z=>?_;refine aA rfl ?_;simp only[RR,seval];simp only[f1,f2,h2',ko2,hro,hp,Kt,Option.getD_some,RR,seval];refine aT fun b7 hb7=>?_;simp only[RR,seval];apply z;clear z;have m4:b4≠b7:=fun e=>by rw[e,hb7]at h4';cases h4'
   have h7:(upd (upd H2 b7 (some (.rows 2 [[.int .i64 0, .int .i64 0]]))) b7 (some (.rows 2 [[.int .i64 q.1, .int .i64 q.2]]))) b7=some (.rows 2 [[.int .i64 q.1, .int .i64 q.2]]):=aS _ _ _;have h4'':(upd (upd H2 b7 (some (.rows 2 [[.int .i64 0, .int .i64 0]]))) b7 (some (.rows 2 [[.int .i64 q.1, .int .i64 q.2]]))) b4=some (.rows 2 [[.int .i64 0, .int .i64 0]]):=by simp only[upd,if_neg m4];exact h4'
   have hK3:keeps (fun _=>False) H (upd (upd H2 b7 (some (.rows 2 [[.int .i64 0, .int .i64 0]]))) b7 (some (.rows 2 [[.int .i64 q.1, .int .i64 q.2]]))):=by
    intro b' o' _ hb';have h5:=hK2 b' o' (fun h=>h) hb';have :b'≠b7:=fun e=>by rw[e,hb7]at h5;cases h5
    simp only[upd,if_neg this];exact h5
   generalize(upd (upd H2 b7 (some (.rows 2 [[.int .i64 0, .int .i64 0]]))) b7 (some (.rows 2 [[.int .i64 q.1, .int .i64 q.2]])))=H3 at h7 h4'' hK3⊢;refine aB fun K z=>?_;refine aA rfl ?_;simp only[RR,seval];apply z;clear z;refine aH true rfl (fun _=>?_) (fun hc=>by cases hc);refine aB fun K z=>?_;refine aA rfl ?_;simp only[RR,seval];simp only[f4,h7,h4'',RR,seval];apply z;clear z;refine aM ?_;have hu:upd H3 b4 (some (.rows 2 [[.int .i64 q.1, .int .i64 q.2]])) b4=some (.rows 2 [[.int .i64 q.1, .int .i64 q.2]]):=aS _ _ _;have hkk:=hset H3 (some (.rows 2 [[.int .i64 q.1, .int .i64 q.2]])) hK3;generalize upd H3 b4 (some (.rows 2 [[.int .i64 q.1, .int .i64 q.2]]))=H4 at hu hkk⊢;simp only[aU,aZ,aL,bJ,f4,hu,RR,seval];exact bB.whole ⟨rfl,hkk⟩
  |none=>
   have hM:nY mo mi s=(0, -1):=by simp only[nY,hl,hlo]
   rw[hM];rw[hlo]at hro2;obtain rfl:ro=none:=by cases ro with |none=>rfl|some p=>simp at hro2
   refine aJ ?_;refine aB fun K z=>?_;refine aA rfl ?_;simp only[RR,seval];simp only[f1,f2,h2',ko2,hro,Option.getD_none,RR,seval];refine aT fun b7 hb7=>?_;simp only[RR,seval];apply z;clear z;have m4:b4≠b7:=fun e=>by rw[e,hb7]at h4';cases h4'
   have h4'':(upd (upd H2 b7 (some (.rows 2 [[.int .i64 0, .int .i64 0]]))) b7 (some (.rows 2 [[.int .i64 0, .int .i64 0]]))) b4=some (.rows 2 [[.int .i64 0, .int .i64 0]]):=by simp only[upd,if_neg m4];exact h4'
   have hK3:keeps (fun _=>False) H (upd (upd H2 b7 (some (.rows 2 [[.int .i64 0, .int .i64 0]]))) b7 (some (.rows 2 [[.int .i64 0, .int .i64 0]]))):=by
    intro b' o' _ hb';have h5:=hK2 b' o' (fun h=>h) hb';have :b'≠b7:=fun e=>by rw[e,hb7]at h5;cases h5
    simp only[upd,if_neg this];exact h5
   generalize(upd (upd H2 b7 (some (.rows 2 [[.int .i64 0, .int .i64 0]]))) b7 (some (.rows 2 [[.int .i64 0, .int .i64 0]])))=H3 at h4'' hK3⊢;refine aB fun K z=>?_;refine aA rfl ?_;simp only[RR,seval];apply z;clear z;refine aH false rfl (fun hc=>by cases hc) (fun _=>?_);refine aK ?_;simp only[aU];refine aB fun K z=>?_;refine aA rfl ?_;simp only[RR,seval];simp only[f4,h4'',RR,seval];apply z;clear z;refine aM ?_;have hu:upd H3 b4 (some (.rows 2 [[.int .i64 0, .int .i64 (-1)]])) b4=some (.rows 2 [[.int .i64 0, .int .i64 (-1)]]):=aS _ _ _;have hkk:=hset H3 (some (.rows 2 [[.int .i64 0, .int .i64 (-1)]])) hK3;generalize upd H3 b4 (some (.rows 2 [[.int .i64 0, .int .i64 (-1)]]))=H4 at hu hkk⊢;simp only[aZ,aL,bJ,f4,hu,RR,seval];exact bB.whole ⟨rfl,hkk⟩
end Go.Proofs.YtaecpjgmcffliaaGreatDoor
namespace Go.Proofs.YtaecpjgmcffliaaGreatDoor
open Go.Al
def X2 (u:Us):AV:= .agg [.int .i64 (if u.kind=1 then 2 else u.kind), .str u.name, .int .i64 u.num]
structure BP (σ:Type) (g:FuncId) (caps:List AV) where
 D:σ→Hp→Prop
 step:σ→Us→σ
 M:Nat→Prop
 spec: ∀s H u,(u.kind=1∨u.kind=3∨u.kind=4)→D s H→rK cG g (X2 u::caps) H (fun ae H'=> ∃v,ae= .ret v∧(v= .tup []∧D (step s u) H'∧keeps M H H'))
 ext: ∀s H H',D s H→keeps (fun _=>False) H H'→D s H'
 old: ∀s H,D s H→ ∀b,M b→H b≠none
set_option maxHeartbeats 4000000 in
theorem Lc {σ:Type} {g:FuncId} {caps:List AV} (V:BP σ g caps) (b3 b5:Nat) (hm3: ¬V.M b3) (hm5: ¬V.M b5) (n:Nat): ∀l:List Ex,jA l=n→rT l→ ∀(s:σ) (H:Hp),H b3=some (.rows 1 [[.fn (.func g) [] caps]])→H b5=some (.rows 1 [[.fn (.func 129) [] [.ptr 1 b3 0 0, .ptr 1 b5 0 0]]])→V.D s H→
  rK cG 129 [.isl 5 (l.map Ex.row), .ptr 1 b3 0 0, .ptr 1 b5 0 0] H (fun ae H'=> ∃v,ae= .ret v∧(v= .tup []∧V.D ((eB l).foldl V.step s) H'∧keeps V.M H H')):=by
 induction n using Nat.strongRecOn with
 |_ n ih=>
  intro l hn hok s H0 i3 i5 hD;have hfit:l.length≤9223372036854775807:=hok.fit;refine bM 43 [] Tryz.func129 rfl rfl rfl rfl ?_;refine aB fun K z=>?_;refine aA rfl ?_;simp only[RR,seval];simp only[aC,seval];apply z;clear z;refine aN ?_;refine cJ (fun mm fr H=> ∃k:Nat,mm=l.length-k∧k≤l.length∧fr 8= .int .i64 k∧fr 1= .ptr 1 b3 0 0∧fr 2= .ptr 1 b5 0 0∧fr 6= .isl 5 (l.map Ex.row)∧fr 7= .int .i64 l.length∧V.D ((eB (l.take k)).foldl V.step s) H∧keeps V.M H0 H) (l.length) ⟨0,rfl,Nat.zero_le _,rfl,rfl,rfl,rfl,rfl,by simpa [eB]using hD,keeps.refl _ _⟩ ?_;rintro mm fr H ⟨k,rfl,hkk,hik,f3,f5,fS,fL,hDk,hkp⟩ K2 hK2;refine aB fun K z=>?_;refine aA rfl ?_;simp only[RR,seval];simp only[hik,fL,RR,seval];apply z;clear z;refine aJ ?_;refine aH _ rfl (fun hc=>?_) (fun hc=>?_)
  ·have hltk:k<l.length:=by have:=aD hc;omega
   clear hc;refine aK ?_;simp only[aU];refine aJ ?_;refine aN ?_;have hg:=nM (aG hltk);have hmem:=bE hltk;have hoke:=hok.all _ hmem;have hsz:=fH hmem;have htk:=vT hltk;generalize l[k]=e at hg htk hoke hsz;have hse:=e.sz_eq;have j3:=hkp _ _ hm3 i3;have j5:=hkp _ _ hm5 i5;refine aB fun K z=>?_;refine aA rfl ?_;simp only[RR,seval];simp only[hik,fS,hg,RR,seval];refine aT fun bx hbx=>?_;simp only[RR,seval];apply z;clear z;have hxM: ¬V.M bx:=fun hm=>V.old _ _ hDk bx hm hbx;have hx:(upd (upd H bx (some (.rows 5 [[.int .i64 0, .int .i64 0, .int .u32 0, .str [], .nsl]]))) bx (some (.rows 5 [[.int .i64 e.kind, .int .i64 e.op, .int .u32 e.num, .str e.name, .isl 5 (e.kids.map Ex.row)]]))) bx=some (.rows 5 [[.int .i64 e.kind, .int .i64 e.op, .int .u32 e.num, .str e.name, .isl 5 (e.kids.map Ex.row)]]):=aS _ _ _;have hkx:keeps (fun _=>False) H (upd (upd H bx (some (.rows 5 [[.int .i64 0, .int .i64 0, .int .u32 0, .str [], .nsl]]))) bx (some (.rows 5 [[.int .i64 e.kind, .int .i64 e.op, .int .u32 e.num, .str e.name, .isl 5 (e.kids.map Ex.row)]]))):=((keeps.refl _ H).new hbx _).new hbx _;generalize(upd (upd H bx (some (.rows 5 [[.int .i64 0, .int .i64 0, .int .u32 0, .str [], .nsl]]))) bx (some (.rows 5 [[.int .i64 e.kind, .int .i64 e.op, .int .u32 e.num, .str e.name, .isl 5 (e.kids.map Ex.row)]])))=H1 at hx hkx⊢;have hD1:=V.ext _ _ _ hDk hkx;have hk1:keeps V.M H0 H1:=hkp.trans (hkx.mono fun _ h=>h.elim);have j3:=hkx _ _ (fun h=>h) j3;have j5:=hkx _ _ (fun h=>h) j5;refine bT (fun fr H=>fr 1= .ptr 1 b3 0 0∧fr 2= .ptr 1 b5 0 0∧fr 6= .isl 5 (l.map Ex.row)∧fr 7= .int .i64 l.length∧fr 8= .int .i64 k∧fr 5= .ptr 5 bx 0 0∧H bx=some (.rows 5 [[.int .i64 e.kind, .int .i64 e.op, .int .u32 e.num, .str e.name, .isl 5 (e.kids.map Ex.row)]])∧V.D ((eB (l.take k)++jI e).foldl V.step s) H∧keeps V.M H0 H) (fun K z=>?_) ?_
   ·refine aB fun K z=>?_;refine aA rfl ?_;simp only[RR,seval]
    simp only[hx,RR,seval];apply z;clear z;refine aN ?_;refine aB fun K z=>?_;refine aA rfl ?_;simp only[RR,seval];apply z;clear z;by_cases k1:e.kind=2
    ·refine aH true (congrArg AV.bool (bQ k1)) (fun _=>?_) (fun hc=>by cases hc)
     refine aA rfl ?_;simp only[f3,j3,hx,RR,seval];refine dO (V.spec ((eB (l.take k)).foldl V.step s) H1 ⟨e.name,1,0⟩ (by simp) hD1) (cY.refl _) (fun _=>trivial) fun v H' ⟨hv,hD',hkp'⟩=>?_;subst hv;simp only[aU,aW,RR,seval];refine z _ _ ⟨f3,f5,fS,fL,hik,rfl,hkp' _ _ hxM hx, ?_,hk1.trans hkp'⟩;rw[show jI e=[⟨e.name,1,0⟩]by simp [jI,k1],List.foldl_append];exact hD'
    refine aH false (congrArg AV.bool (aX k1)) (fun hc=>by cases hc) (fun _=>?_);refine aB fun K z=>?_;refine aA rfl ?_;simp only[RR,seval];apply z;clear z;by_cases k3:e.kind=3
    ·refine aH true (congrArg AV.bool (bQ k3)) (fun _=>?_) (fun hc=>by cases hc)
     refine aA rfl ?_;simp only[f3,j3,hx,RR,seval];refine dO (V.spec ((eB (l.take k)).foldl V.step s) H1 ⟨e.name,3,0⟩ (by simp) hD1) (cY.refl _) (fun _=>trivial) fun v H' ⟨hv,hD',hkp'⟩=>?_;subst hv;simp only[aU,aW,RR,seval];refine z _ _ ⟨f3,f5,fS,fL,hik,rfl,hkp' _ _ hxM hx, ?_,hk1.trans hkp'⟩;rw[show jI e=[⟨e.name,3,0⟩]by simp [jI,k3],List.foldl_append];exact hD'
    refine aH false (congrArg AV.bool (aX k3)) (fun hc=>by cases hc) (fun _=>?_);refine aB fun K z=>?_;refine aA rfl ?_;simp only[RR,seval];apply z;clear z;by_cases k4:e.kind=4
    ·refine aH true (congrArg AV.bool (bQ k4)) (fun _=>?_) (fun hc=>by cases hc)
     refine aA rfl ?_;simp only[f3,j3,hx,aC,RR,seval];refine dO (V.spec ((eB (l.take k)).foldl V.step s) H1 ⟨e.name,4,e.kids.length⟩ (by simp) hD1) (cY.refl _) (fun _=>trivial) fun v H' ⟨hv,hD',hkp'⟩=>?_;subst hv;simp only[aU,aW,RR,seval];refine z _ _ ⟨f3,f5,fS,fL,hik,rfl,hkp' _ _ hxM hx, ?_,hk1.trans hkp'⟩;rw[show jI e=[⟨e.name,4,e.kids.length⟩]by simp [jI,k4],List.foldl_append];exact hD'
    refine aH false (congrArg AV.bool (aX k4)) (fun hc=>by cases hc) (fun _=>?_);refine aK ?_;simp only[aU,aW];refine z _ _ ⟨f3,f5,fS,fL,hik,rfl,hx, ?_,hk1⟩;rw[show jI e=[]by simp [jI,k1,k3,k4],List.append_nil];exact hD1
   rintro fr H2 ⟨f3,f5,fS,fL,hik,fx,hx,hD2,hk2⟩;have j3:=hk2 _ _ hm3 i3;have j5:=hk2 _ _ hm5 i5;refine aA rfl ?_;simp only[f5,fx,hx,j5,RR,seval];refine dO (ih _ (by omega) e.kids rfl hoke.kids _ H2 j3 j5 hD2) (cY.refl _) (fun _=>trivial) fun v H' ⟨hv,hD',hkp'⟩=>?_;subst hv;simp only[aU,aW,RR,seval];refine aA rfl ?_;simp only[RR,seval];simp only[hik,aU,RR,seval];rw[aV _ (by omega)];refine hK2 (l.length-(k+1)) _ _ (by omega) ⟨k+1,rfl,by omega,rfl,f3,f5,fS,fL,by rw[htk,←List.append_assoc,List.foldl_append];exact hD',hk2.trans hkp'⟩
  refine bI ?_;simp only[aU,aW,reduceIte];have hknk:k=l.length:=by have:=aE hc;omega
  clear hc;subst hknk;rw[List.take_length]at hDk;simp only[aZ,aL,bJ];exact bB.whole ⟨rfl,hDk,hkp⟩
set_option maxHeartbeats 4000000 in
theorem La {σ:Type} {g:FuncId} {caps:List AV} (V:BP σ g caps) (b3 b5 b4:Nat) (hm3: ¬V.M b3) (hm5: ¬V.M b5) (hm4: ¬V.M b4) (n:Nat): ∀l:List Sm,gH l=n→rI l→ ∀(s:σ) (H:Hp),H b3=some (.rows 1 [[.fn (.func g) [] caps]])→H b5=some (.rows 1 [[.fn (.func 129) [] [.ptr 1 b3 0 0, .ptr 1 b5 0 0]]])→H b4=some (.rows 1 [[.fn (.func 130) [] [.ptr 1 b3 0 0, .ptr 1 b5 0 0, .ptr 1 b4 0 0]]])→V.D s H→
  rK cG 130 [.isl 5 (l.map Sm.row), .ptr 1 b3 0 0, .ptr 1 b5 0 0, .ptr 1 b4 0 0] H (fun ae H'=> ∃v,ae= .ret v∧(v= .tup []∧V.D ((dJ l).foldl V.step s) H'∧keeps V.M H H')):=by
 induction n using Nat.strongRecOn with
 |_ n ih=>
  intro l hn hok s H0 i3 i5 i4 hD;have hfit:l.length≤9223372036854775807:=hok.fit;refine bM 52 [] Tryz.func130 rfl rfl rfl rfl ?_;refine aB fun K z=>?_;refine aA rfl ?_;simp only[RR,seval];simp only[aC,seval];apply z;clear z;refine aN ?_;refine cJ (fun mm fr H=> ∃k:Nat,mm=l.length-k∧k≤l.length∧fr 9= .int .i64 k∧fr 1= .ptr 1 b3 0 0∧fr 2= .ptr 1 b5 0 0∧fr 3= .ptr 1 b4 0 0∧fr 7= .isl 5 (l.map Sm.row)∧fr 8= .int .i64 l.length∧V.D ((dJ (l.take k)).foldl V.step s) H∧keeps V.M H0 H) (l.length) ⟨0,rfl,Nat.zero_le _,rfl,rfl,rfl,rfl,rfl,rfl,by simpa [dJ]using hD,keeps.refl _ _⟩ ?_;rintro mm fr H ⟨k,rfl,hkk,hik,f3,f5,f4p,fS,fL,hDk,hkp⟩ K2 hK2;refine aB fun K z=>?_;refine aA rfl ?_;simp only[RR,seval];simp only[hik,fL,RR,seval];apply z;clear z;refine aJ ?_;refine aH _ rfl (fun hc=>?_) (fun hc=>?_)
  ·have hltk:k<l.length:=by have:=aD hc;omega
   clear hc;refine aK ?_;simp only[aU];refine aJ ?_;refine aN ?_;have hg:=sC (aG hltk);have hmem:=bE hltk;have hoke:=hok.all _ hmem;have hsz:=eS hmem;have htk:=vS hltk;generalize l[k]=e at hg htk hoke hsz;have hse:=e.sz_eq;have j3:=hkp _ _ hm3 i3;have j5:=hkp _ _ hm5 i5;have j4:=hkp _ _ hm4 i4;refine aB fun K z=>?_;refine aA rfl ?_;simp only[RR,seval];simp only[hik,fS,hg,RR,seval];refine aT fun bx hbx=>?_;simp only[RR,seval];apply z;clear z;have hxM: ¬V.M bx:=fun hm=>V.old _ _ hDk bx hm hbx;have hx:(upd (upd H bx (some (.rows 5 [[.int .i64 0, .str [], .nsl, .nsl, .nsl]]))) bx (some (.rows 5 [[.int .i64 e.kind, .str e.name, .isl 5 (e.es.map Ex.row), .isl 5 (e.thn.map Sm.row), .isl 5 (e.els.map Sm.row)]]))) bx=some (.rows 5 [[.int .i64 e.kind, .str e.name, .isl 5 (e.es.map Ex.row), .isl 5 (e.thn.map Sm.row), .isl 5 (e.els.map Sm.row)]]):=aS _ _ _;have hkx:keeps (fun _=>False) H (upd (upd H bx (some (.rows 5 [[.int .i64 0, .str [], .nsl, .nsl, .nsl]]))) bx (some (.rows 5 [[.int .i64 e.kind, .str e.name, .isl 5 (e.es.map Ex.row), .isl 5 (e.thn.map Sm.row), .isl 5 (e.els.map Sm.row)]]))):=((keeps.refl _ H).new hbx _).new hbx _;generalize(upd (upd H bx (some (.rows 5 [[.int .i64 0, .str [], .nsl, .nsl, .nsl]]))) bx (some (.rows 5 [[.int .i64 e.kind, .str e.name, .isl 5 (e.es.map Ex.row), .isl 5 (e.thn.map Sm.row), .isl 5 (e.els.map Sm.row)]])))=H1 at hx hkx⊢;have hD1:=V.ext _ _ _ hDk hkx;have hk1:keeps V.M H0 H1:=hkp.trans (hkx.mono fun _ h=>h.elim);have j3:=hkx _ _ (fun h=>h) j3;have j5:=hkx _ _ (fun h=>h) j5;have j4:=hkx _ _ (fun h=>h) j4;refine bT (fun fr H=>fr 1= .ptr 1 b3 0 0∧fr 2= .ptr 1 b5 0 0∧fr 3= .ptr 1 b4 0 0∧fr 7= .isl 5 (l.map Sm.row)∧fr 8= .int .i64 l.length∧fr 9= .int .i64 k∧fr 6= .ptr 5 bx 0 0∧H bx=some (.rows 5 [[.int .i64 e.kind, .str e.name, .isl 5 (e.es.map Ex.row), .isl 5 (e.thn.map Sm.row), .isl 5 (e.els.map Sm.row)]])∧V.D ((dJ (l.take k)++jN e).foldl V.step s) H∧keeps V.M H0 H) (fun K z=>?_) ?_
   ·refine aB fun K z=>?_;refine aA rfl ?_;simp only[RR,seval]
    simp only[hx,RR,seval];apply z;clear z;refine aN ?_;refine aB fun K z=>?_;refine aA rfl ?_;simp only[RR,seval];apply z;clear z;by_cases k1:e.kind=1
    ·refine aH true (congrArg AV.bool (bQ k1)) (fun _=>?_) (fun hc=>by cases hc)
     refine aA rfl ?_;simp only[f3,j3,hx,RR,seval];refine dO (V.spec ((dJ (l.take k)).foldl V.step s) H1 ⟨e.name,1,0⟩ (by simp) hD1) (cY.refl _) (fun _=>trivial) fun v H' ⟨hv,hD',hkp'⟩=>?_;subst hv;simp only[aU,aW,RR,seval];refine z _ _ ⟨f3,f5,f4p,fS,fL,hik,rfl,hkp' _ _ hxM hx, ?_,hk1.trans hkp'⟩;rw[show jN e=[⟨e.name,1,0⟩]by simp [jN,k1],List.foldl_append];exact hD'
    refine aH false (congrArg AV.bool (aX k1)) (fun hc=>by cases hc) (fun _=>?_);refine aB fun K z=>?_;refine aA rfl ?_;simp only[RR,seval];apply z;clear z;by_cases k3:e.kind=2
    ·refine aH true (congrArg AV.bool (bQ k3)) (fun _=>?_) (fun hc=>by cases hc)
     refine aA rfl ?_;simp only[f3,j3,hx,RR,seval];refine dO (V.spec ((dJ (l.take k)).foldl V.step s) H1 ⟨e.name,3,0⟩ (by simp) hD1) (cY.refl _) (fun _=>trivial) fun v H' ⟨hv,hD',hkp'⟩=>?_;subst hv;simp only[aU,aW,RR,seval];refine z _ _ ⟨f3,f5,f4p,fS,fL,hik,rfl,hkp' _ _ hxM hx, ?_,hk1.trans hkp'⟩;rw[show jN e=[⟨e.name,3,0⟩]by simp [jN,k3],List.foldl_append];exact hD'
    refine aH false (congrArg AV.bool (aX k3)) (fun hc=>by cases hc) (fun _=>?_);refine aB fun K z=>?_;refine aA rfl ?_;simp only[RR,seval];apply z;clear z;by_cases k4:e.kind=6
    ·refine aH true (congrArg AV.bool (bQ k4)) (fun _=>?_) (fun hc=>by cases hc)
     refine aA rfl ?_;simp only[f3,j3,hx,aC,RR,seval];refine dO (V.spec ((dJ (l.take k)).foldl V.step s) H1 ⟨e.name,4,e.es.length⟩ (by simp) hD1) (cY.refl _) (fun _=>trivial) fun v H' ⟨hv,hD',hkp'⟩=>?_;subst hv;simp only[aU,aW,RR,seval];refine z _ _ ⟨f3,f5,f4p,fS,fL,hik,rfl,hkp' _ _ hxM hx, ?_,hk1.trans hkp'⟩;rw[show jN e=[⟨e.name,4,e.es.length⟩]by simp [jN,k4],List.foldl_append];exact hD'
    refine aH false (congrArg AV.bool (aX k4)) (fun hc=>by cases hc) (fun _=>?_);refine aK ?_;simp only[aU,aW];refine z _ _ ⟨f3,f5,f4p,fS,fL,hik,rfl,hx, ?_,hk1⟩;rw[show jN e=[]by simp [jN,k1,k3,k4],List.append_nil];exact hD1
   rintro fr H2 ⟨f3,f5,f4p,fS,fL,hik,fx,hx,hD2,hk2⟩;have j3:=hk2 _ _ hm3 i3;have j5:=hk2 _ _ hm5 i5;have j4:=hk2 _ _ hm4 i4;refine aB fun K z=>?_;refine aA rfl ?_;simp only[RR,seval];simp only[f5,fx,hx,j5,RR,seval];refine dO (Lc V b3 b5 hm3 hm5 _ e.es rfl hoke.es _ H2 j3 j5 hD2) (cY.refl _) (fun _=>trivial) fun v H3 ⟨hv,hD3,hkp3⟩=>?_;subst hv;simp only[RR,seval];apply z;clear z;have hx:=hkp3 _ _ hxM hx;have j3:=hkp3 _ _ hm3 j3;have j5:=hkp3 _ _ hm5 j5;have j4:=hkp3 _ _ hm4 j4;refine aB fun K z=>?_;refine aA rfl ?_;simp only[RR,seval];simp only[f4p,fx,hx,j4,RR,seval];refine dO (ih _ (by omega) e.thn rfl hoke.thn _ H3 j3 j5 j4 hD3) (cY.refl _) (fun _=>trivial) fun v H4 ⟨hv,hD4,hkp4⟩=>?_;subst hv;simp only[RR,seval];apply z;clear z;have hx:=hkp4 _ _ hxM hx;have j3:=hkp4 _ _ hm3 j3;have j5:=hkp4 _ _ hm5 j5;have j4:=hkp4 _ _ hm4 j4;refine aA rfl ?_;simp only[f4p,fx,hx,j4,RR,seval];refine dO (ih _ (by omega) e.els rfl hoke.els _ H4 j3 j5 j4 hD4) (cY.refl _) (fun _=>trivial) fun v H' ⟨hv,hD',hkp'⟩=>?_;subst hv;simp only[aU,aW,RR,seval];refine aA rfl ?_;simp only[RR,seval];simp only[hik,aU,RR,seval];rw[aV _ (by omega)];refine hK2 (l.length-(k+1)) _ _ (by omega) ⟨k+1,rfl,by omega,rfl,f3,f5,f4p,fS,fL,by rw[htk,←List.append_assoc,←List.append_assoc,←List.append_assoc,List.foldl_append,List.foldl_append,List.foldl_append];exact hD',((hk2.trans hkp3).trans hkp4).trans hkp'⟩
  refine bI ?_;simp only[aU,aW,reduceIte];have hknk:k=l.length:=by have:=aE hc;omega
  clear hc;subst hknk;rw[List.take_length]at hDk;simp only[aZ,aL,bJ];exact bB.whole ⟨rfl,hDk,hkp⟩
end Go.Proofs.YtaecpjgmcffliaaGreatDoor
namespace Go.Proofs.YtaecpjgmcffliaaGreatDoor
open Go.Al
theorem Ri {σ:Type} {g:FuncId} {caps:List AV} (V:BP σ g caps) (f:Fu) (hf:f.ok) (s:σ) (H:Hp) (hD:V.D s H):
  rK cG 87 [.agg f.row, .fn (.func g) [] caps] H (fun ae H'=> ∃v,ae= .ret v∧(v= .tup []∧V.D ((dJ f.body).foldl V.step s) H'∧keeps V.M H H')):=by
 refine bM 12 [] Tryz.func87 rfl rfl rfl rfl ?_;simp only[Fu.row];refine bT (fun fr H'=> ∃b2 b3,fr 2= .ptr 5 b2 0 0∧fr 3= .ptr 1 b3 0 0∧H' b2=some (.rows 5 [[.str f.name, .isl 1 (f.params.map bG), .isl 1 (f.locs.map bG), .bool f.word, .isl 5 (f.body.map Sm.row)]])∧H' b3=some (.rows 1 [[.fn (.func g) [] caps]])∧H b2=none∧H b3=none∧keeps (fun _=>False) H H'∧V.D s H') (fun K z=>?_) ?_
 ·refine aA rfl ?_;simp only[RR,seval]
  refine aT fun b2 hb2=>?_;simp only[RR,seval];refine aT fun b3 hb3=>?_;simp only[RR,seval];have hne:b2≠b3:=fun e=>by rw[←e,aS]at hb3;cases hb3
  have hne':b3≠b2:=fun e=>hne e.symm;have h3:H b3=none:=by simpa only[upd,if_neg hne']using hb3
  have hk:keeps (fun _=>False) H (upd (upd H b2 (some (.rows 5 [[.str f.name, .isl 1 (f.params.map bG), .isl 1 (f.locs.map bG), .bool f.word, .isl 5 (f.body.map Sm.row)]]))) b3 (some (.rows 1 [[.fn (.func g) [] caps]]))):=((keeps.refl _ H).new hb2 _).new h3 _;exact z _ _ ⟨b2,b3,rfl,rfl,by simp [upd,hne],aS _ _ _,hb2,h3,hk,V.ext _ _ _ hD hk⟩
 rintro fr H1 ⟨b2,b3,f2,f3,h2,h3,n2,n3,hk,hD1⟩;have hM: ∀b,V.M b→H b≠none:=V.old s H hD;refine bT (fun fr H'=> ∃b4,fr 2= .ptr 5 b2 0 0∧fr 3= .ptr 1 b3 0 0∧fr 4= .ptr 1 b4 0 0∧H' b4=some (.rows 1 [[.nfn]])∧H b4=none∧H1 b4=none∧keeps (fun _=>False) H1 H') (fun K z=>?_) ?_
 ·refine aA rfl ?_;simp only[RR,seval]
  refine aT fun b4 hb4=>?_;simp only[RR,seval]
  have h4:H b4=none:=by
   cases e:H b4 with
   |none=>rfl
   |some o=>have:=hk _ _ (fun h=>h) e;rw[hb4]at this;cases this
  exact z _ _ ⟨b4,f2,f3,rfl,aS _ _ _,h4,hb4,(keeps.refl _ H1).new hb4 _⟩
 rintro fr H2 ⟨b4,f2,f3,f4,h4,n4,n41,hk2⟩;refine bT (fun fr H'=> ∃b5,fr 2= .ptr 5 b2 0 0∧fr 3= .ptr 1 b3 0 0∧fr 4= .ptr 1 b4 0 0∧fr 5= .ptr 1 b5 0 0∧H' b5=some (.rows 1 [[.nfn]])∧H b5=none∧H1 b5=none∧H2 b5=none∧keeps (fun _=>False) H2 H') (fun K z=>?_) ?_
 ·refine aA rfl ?_;simp only[RR,seval]
  refine aT fun b5 hb5=>?_;simp only[RR,seval]
  have h5:H1 b5=none:=by
   cases e:H1 b5 with
   |none=>rfl
   |some o=>have:=hk2 _ _ (fun h=>h) e;rw[hb5]at this;cases this
  have h50:H b5=none:=by
   cases e:H b5 with
   |none=>rfl
   |some o=>have:=hk _ _ (fun h=>h) e;rw[h5]at this;cases this
  exact z _ _ ⟨b5,f2,f3,f4,rfl,aS _ _ _,h50,h5,hb5,(keeps.refl _ H2).new hb5 _⟩
 rintro fr H3 ⟨b5,f2,f3,f4,f5,h5,n5,n51,n52,hk3⟩;have m2:=hk3 _ _ (fun h=>h) (hk2 _ _ (fun h=>h) h2);have m3:=hk3 _ _ (fun h=>h) (hk2 _ _ (fun h=>h) h3);have m4:=hk3 _ _ (fun h=>h) h4;have d25:b2≠b5:=fun e=>by rw[e,n51]at h2;cases h2
 have d24:b2≠b4:=fun e=>by rw[e,n41]at h2;cases h2
 have d35:b3≠b5:=fun e=>by rw[e,n51]at h3;cases h3
 have d34:b3≠b4:=fun e=>by rw[e,n41]at h3;cases h3
 have d45:b4≠b5:=fun e=>by rw[e,n52]at h4;cases h4
 have d54:b5≠b4:=fun e=>d45 e.symm;refine aB fun K z=>?_;refine aA rfl ?_;simp only[RR,seval];simp only[f3,f5,h5,RR,seval];apply z;clear z;have m4':(upd H3 b5 (some (.rows 1 [[.fn (.func 129) [] [.ptr 1 b3 0 0, .ptr 1 b5 0 0]]]))) b4=some (.rows 1 [[.nfn]]):=by simp only[upd,if_neg d45];exact m4
 refine aB fun K z=>?_;refine aA rfl ?_;simp only[RR,seval];simp only[f3,f4,f5,d45,m4,RR,seval];apply z;clear z;have j2:(upd (upd H3 b5 (some (.rows 1 [[.fn (.func 129) [] [.ptr 1 b3 0 0, .ptr 1 b5 0 0]]]))) b4 (some (.rows 1 [[.fn (.func 130) [] [.ptr 1 b3 0 0, .ptr 1 b5 0 0, .ptr 1 b4 0 0]]]))) b2=some (.rows 5 [[.str f.name, .isl 1 (f.params.map bG), .isl 1 (f.locs.map bG), .bool f.word, .isl 5 (f.body.map Sm.row)]]):=by simp only[upd,if_neg d25,if_neg d24];exact m2
 have j3:(upd (upd H3 b5 (some (.rows 1 [[.fn (.func 129) [] [.ptr 1 b3 0 0, .ptr 1 b5 0 0]]]))) b4 (some (.rows 1 [[.fn (.func 130) [] [.ptr 1 b3 0 0, .ptr 1 b5 0 0, .ptr 1 b4 0 0]]]))) b3=some (.rows 1 [[.fn (.func g) [] caps]]):=by simp only[upd,if_neg d35,if_neg d34];exact m3
 have j4:(upd (upd H3 b5 (some (.rows 1 [[.fn (.func 129) [] [.ptr 1 b3 0 0, .ptr 1 b5 0 0]]]))) b4 (some (.rows 1 [[.fn (.func 130) [] [.ptr 1 b3 0 0, .ptr 1 b5 0 0, .ptr 1 b4 0 0]]]))) b4=some (.rows 1 [[.fn (.func 130) [] [.ptr 1 b3 0 0, .ptr 1 b5 0 0, .ptr 1 b4 0 0]]]):=aS _ _ _;have j5:(upd (upd H3 b5 (some (.rows 1 [[.fn (.func 129) [] [.ptr 1 b3 0 0, .ptr 1 b5 0 0]]]))) b4 (some (.rows 1 [[.fn (.func 130) [] [.ptr 1 b3 0 0, .ptr 1 b5 0 0, .ptr 1 b4 0 0]]]))) b5=some (.rows 1 [[.fn (.func 129) [] [.ptr 1 b3 0 0, .ptr 1 b5 0 0]]]):=by simp only[upd,if_neg d54,if_true]
 have hkk:keeps (fun _=>False) H (upd (upd H3 b5 (some (.rows 1 [[.fn (.func 129) [] [.ptr 1 b3 0 0, .ptr 1 b5 0 0]]]))) b4 (some (.rows 1 [[.fn (.func 130) [] [.ptr 1 b3 0 0, .ptr 1 b5 0 0, .ptr 1 b4 0 0]]]))):=(((hk.trans hk2).trans hk3).new n5 _).new n4 _;generalize(upd (upd H3 b5 (some (.rows 1 [[.fn (.func 129) [] [.ptr 1 b3 0 0, .ptr 1 b5 0 0]]]))) b4 (some (.rows 1 [[.fn (.func 130) [] [.ptr 1 b3 0 0, .ptr 1 b5 0 0, .ptr 1 b4 0 0]]])))=H4 at j2 j3 j4 j5 hkk⊢;have hD4:=V.ext _ _ _ hD hkk;refine aA rfl ?_;simp only[f2,f4,j2,j4,RR,seval];refine dO (La V b3 b5 b4 (fun h=>hM _ h n3) (fun h=>hM _ h n5) (fun h=>hM _ h n4) _ f.body rfl hf.body s H4 j3 j5 j4 hD4) (cY.refl _) (fun _=>trivial) fun v H' ⟨hv,hD',hkp⟩=>?_;subst hv;simp only[aZ,aL,bJ,RR,seval];exact bB.whole ⟨rfl,hD',(hkk.mono fun _ h=>h.elim).trans hkp⟩
end Go.Proofs.YtaecpjgmcffliaaGreatDoor
namespace Go.Al
theorem nI (s:cN): ∀a b:List Th,eY (a++b) s=match eY a s with |some r=>some r|none=>eY b s
 |[],b=>rfl
 |t::a,b=>by
  simp only[List.cons_append,eY];by_cases h:s=t.name
  ·simp only[h,if_true]
  simp only[h,if_false];exact nI s a b
theorem lQ (s:cN): ∀a b:List cN,cC (a++b) s=match cC a s with |some n=>some n|none=>(cC b s).map (· +a.length)
 |[],b=>by simp [cC]
 |x::a,b=>by
  simp only[List.cons_append,cC];by_cases h:x=s
  ·simp only[h,if_true]
  simp only[h,if_false];rw[lQ s a b]
  cases cC a s with
  |some n=>rfl
  |none=>cases cC b s<;>simp [Nat.add_assoc]
theorem mN (k:Int) (s:cN): ∀(l:List cN) (i:Nat),eY (jC k i l) s=(cC l s).map fun n=>(k,((i+n:Nat):Int))
 |[],i=>rfl
 |x::l,i=>by
  simp only[jC,eY,cC];by_cases h:x=s
  ·subst h;simp
  have h': ¬s=x:=fun e=>h e.symm;simp only[if_neg h,if_neg h',mN k s l (i+1),Option.map_map];congr 1;funext n;simp only[Function.comp];rw[show i+1+n=i+(n+1)by omega]
theorem wW (s:cN): ∀l:List Th,(eY l s).isSome=(l.map Th.name).contains s
 |[]=>rfl
 |t::l=>by
  simp only[eY,List.map_cons,List.contains_cons];by_cases h:s=t.name
  ·subst h;simp
  have :(s==t.name)=false:=by simp [h]
  rw[if_neg h,this,Bool.false_or];exact wW s l
theorem wF (s:cN) (l:List Th):eY (lE l).1 s=eY l s:=by
 suffices h: ∀n (l:List Th),l.length=n→ ∀s,eY (lE l).1 s=eY l s from h _ l rfl s
 intro n
 induction n with
 |zero=>intro l hl s;have:=List.eq_nil_of_length_eq_zero hl;subst this;rfl
 |succ n ih=>
  intro l hl s;have hne:l≠[]:=fun e=>by subst e;simp at hl
  obtain⟨l',t,rfl⟩: ∃l' t,l=l'++[t]:=⟨l.dropLast,l.getLast hne,(List.dropLast_concat_getLast hne).symm⟩;have hl':l'.length=n:=by simpa using hl
  rw[nA,tI];simp only[yQ,ih l' hl']
  cases h1:eY l' t.name with
  |some q=>
   simp only[Option.isSome_some,if_true,ih l' hl']
   cases h2:eY l' s with
   |some r=>rfl
   |none=>
    have : ¬s=t.name:=fun e=>by rw[e,h1]at h2;cases h2
    simp only[if_neg this]
  |none=>
   simp only[Option.isSome_none,Bool.false_eq_true,if_false];rw[tI,ih l' hl']
theorem Ai (l:List Th):(lE l).2=decide (l.map Th.name).Nodup:=by
 suffices h: ∀n (l:List Th),l.length=n→(lE l).2=decide (l.map Th.name).Nodup from h _ l rfl
 intro n
 induction n with
 |zero=>intro l hl;have:=List.eq_nil_of_length_eq_zero hl;subst this;rfl
 |succ n ih=>
  intro l hl;have hne:l≠[]:=fun e=>by subst e;simp at hl
  obtain⟨l',t,rfl⟩: ∃l' t,l=l'++[t]:=⟨l.dropLast,l.getLast hne,(List.dropLast_concat_getLast hne).symm⟩;have hl':l'.length=n:=by simpa using hl
  have hs:=wW t.name l';rw[nA];simp only[Fa,wF,ih l' hl',hs,List.map_append,List.map_cons,List.map_nil];rw[Bool.eq_iff_iff];simp only[bC,List.nodup_append,List.nodup_cons,List.not_mem_nil,not_false_eq_true,List.nodup_nil,and_true,true_and,List.mem_singleton,List.contains_iff_mem];constructor
  ·intro h
   split at h
   ·cases h
   rename_i hn;refine⟨aD h,fun a ha b hb e=>?_⟩;subst hb;subst e;exact hn ha
  rintro⟨h1,h2⟩;rw[if_neg (fun hm=>h2 _ hm _ rfl rfl)];exact bQ h1
theorem sX (k:Int): ∀(l:List cN) (i:Nat),(jC k i l).map Th.name=l
 |[],_=>rfl
 |s::l,i=>by simp only[jC,List.map_cons,sX k l (i+1)]
theorem Io (p:Pg):(jX p).map Th.name=gB p:=by simp only[jX,gB,List.map_append,sX]
theorem Ly (f:Fu):(wX f).map Th.name=eD f:=by simp only[wX,eD,sX]
theorem Tf (p:Pg) (s:cN):(match eY (jX p) s with |some r=>r|none=>(0, -1))=lM p s:=by
 unfold jX lM gB;rw[nI,nI,mN,mN,mN,lQ,lQ]
 cases h1:cC p.vars s with
 |some n=>
  have:=(fU _ _ _ h1).1;simp only[Option.map_some,Nat.zero_add,if_pos this]
 |none=>
  simp only[Option.map_none]
  cases h2:cC (p.arrs.map Ar.name) s with
  |some n=>
   have:=(fU _ _ _ h2).1;rw[aC]at this;simp only[Option.map_some,Nat.zero_add];rw[if_neg (by omega),if_pos (by omega),Nat.add_sub_cancel]
  |none=>
   simp only[Option.map_none]
   cases h3:cC (p.funs.map Fu.name) s with
   |some n=>
    simp only[Option.map_some,Nat.zero_add,aI,aC];rw[if_neg (by omega),if_neg (by omega)];congr 2;omega
   |none=>rfl
def Ah (p:Pg) (i:Nat) (a:Bool×Bool) (u:Us):Bool×Bool:=(a.1&&fD p i u,a.2&&(!fD p i u||wT p i u))
theorem W5 (p:Pg) (i:Nat): ∀(l:List Us) (a b:Bool),l.foldl (Ah p i) (a,b)=(a&&l.all (fD p i),b&&l.all (fun u=> !fD p i u||wT p i u))
 |[],a,b=>by simp
 |u::l,a,b=>by
  simp only[List.foldl_cons,Ah,W5 p i l,List.all_cons,Bool.and_assoc]
end Go.Al
namespace Go.Proofs.YtaecpjgmcffliaaGreatDoor
open Go.Al
theorem Uf (p:Pg) (i:Nat) (f:Fu) (hf:p.funs[i]?=some f) (s:cN):nY (lE (jX p)).1 (lE (wX f)).1 s=dX p i s:=by
 unfold nY dX;rw[wF,wF,hf];simp only[Option.bind_some];rw[show eY (wX f) s=(cC (eD f) s).map fun n=>(1,((0+n:Nat):Int))from mN 1 s (eD f) 0]
 cases cC (eD f) s with
 |some n=>simp
 |none=>simp only[Option.map_none];exact Tf p s
end Go.Proofs.YtaecpjgmcffliaaGreatDoor
namespace Go.Proofs.YtaecpjgmcffliaaGreatDoor
open Go.Al
def kK (p:Pg) (i:Nat) (bn b5 b7 b1 b6 bo bi:Nat) (mo mi:List Th) (a:Bool×Bool) (H:Hp):Prop:=
 H bn=some (.rows 2 [[.mp bo, .mp bi]])∧H b5=some (.rows 1 [[.bool a.1]])∧H b7=some (.rows 1 [[.int .i64 i]])∧H b1=some (.rows 3 [p.row])∧H b6=some (.rows 1 [[.bool a.2]])∧
   H bo=some (.amap (mo.map xO))∧H bi=some (.amap (mi.map xO))
section
variable {p : Pg} {i bn b5 b7 b1 b6 bo bi : Nat} {mo mi : List Th} {a : Bool × Bool} {H : Hp}
theorem kK.ext (h:kK p i bn b5 b7 b1 b6 bo bi mo mi a H) {H':Hp} (hk:keeps (fun _=>False) H H'):kK p i bn b5 b7 b1 b6 bo bi mo mi a H':=by
 obtain⟨h1,h2,h3,h4,h5,h6,h7⟩:=h;exact⟨hk _ _ (fun h=>h) h1,hk _ _ (fun h=>h) h2,hk _ _ (fun h=>h) h3,hk _ _ (fun h=>h) h4,hk _ _ (fun h=>h) h5,hk _ _ (fun h=>h) h6,hk _ _ (fun h=>h) h7⟩
theorem kK.set5 (h:kK p i bn b5 b7 b1 b6 bo bi mo mi a H) (h56:b5≠b6) (x:Bool):kK p i bn b5 b7 b1 b6 bo bi mo mi (x,a.2) (upd H b5 (some (.rows 1 [[.bool x]]))):=by
 obtain⟨h1,h2,h3,h4,h5,h6,h7⟩:=h;have n1:bn≠b5:=fun e=>by rw[e,h2]at h1;simp at h1
 have n3:b7≠b5:=fun e=>by rw[e,h2]at h3;simp at h3
 have n4:b1≠b5:=fun e=>by rw[e,h2]at h4;simp at h4
 have n5:b6≠b5:=fun e=>h56 e.symm;have n6:bo≠b5:=fun e=>by rw[e,h2]at h6;simp at h6
 have n7:bi≠b5:=fun e=>by rw[e,h2]at h7;simp at h7
 simp only[kK,upd,n1,n3,n4,n5,n6,n7,if_true,if_false];exact⟨h1,trivial,h3,h4,h5,h6,h7⟩
theorem kK.set6 (h:kK p i bn b5 b7 b1 b6 bo bi mo mi a H) (h56:b5≠b6) (x:Bool):kK p i bn b5 b7 b1 b6 bo bi mo mi (a.1,x) (upd H b6 (some (.rows 1 [[.bool x]]))):=by
 obtain⟨h1,h2,h3,h4,h5,h6,h7⟩:=h;have n1:bn≠b6:=fun e=>by rw[e,h5]at h1;simp at h1
 have n3:b7≠b6:=fun e=>by rw[e,h5]at h3;simp at h3
 have n4:b1≠b6:=fun e=>by rw[e,h5]at h4;simp at h4
 have n6:bo≠b6:=fun e=>by rw[e,h5]at h6;simp at h6
 have n7:bi≠b6:=fun e=>by rw[e,h5]at h7;simp at h7
 simp only[kK,upd,n1,n3,n4,h56,n6,n7,if_true,if_false];exact⟨h1,h2,h3,h4,trivial,h6,h7⟩
end
set_option maxHeartbeats 4000000 in
theorem Q3 (p:Pg) (hp:p.few) (i:Nat) (hi:i<p.funs.length) (bn b5 b7 b1 b6 bo bi:Nat) (mo mi:List Th) (h56:b5≠b6) (hF: ∀s,nY mo mi s=dX p i s)
  (a:Bool×Bool) (H:Hp) (u:Us) (hu:u.kind=1∨u.kind=3∨u.kind=4) (hD:kK p i bn b5 b7 b1 b6 bo bi mo mi a H):
  rK cG 88 [X2 u, .ptr 2 bn 0 0, .ptr 1 b5 0 0, .ptr 1 b7 0 0, .ptr 3 b1 0 0, .ptr 1 b6 0 0] H
   (fun ae H'=> ∃v,ae= .ret v∧(v= .tup []∧kK p i bn b5 b7 b1 b6 bo bi mo mi (Ah p i a u) H'∧keeps (fun b=>b=b5∨b=b6) H H')):=by
 have hfind:=fun H' h1 h2=>E7 mo mi bo bi u.name H' h1 h2;rw[hF]at hfind;have hok:fD p i u= !((decide (u.kind=1)&& !decide ((dX p i u.name).1=1)&& !decide ((dX p i u.name).1=2))||(decide (u.kind=3)&& !decide ((dX p i u.name).1=3))||(decide (u.kind=4)&&(!decide ((dX p i u.name).1=4)||decide ((i:Int)≤(dX p i u.name).2)))):=rfl;have hnu:wT p i u=(!decide (u.kind=4)||(match p.funs[(dX p i u.name).2.toNat]? with |some g=>decide ((g.params.length:Int)=u.num)|none=>false)):=rfl;have hcall:=xL p i u.name;have hst:Ah p i a u=(a.1&&fD p i u,a.2&&(!fD p i u||wT p i u)):=rfl;rw[hst];generalize fD p i u=ok at hok⊢;generalize wT p i u=nu at hnu⊢;generalize dX p i u.name=r at *;obtain⟨un,uk,uu⟩:=u;simp only at hu hok hnu hfind;refine bM 57 [] Tryz.func88 rfl rfl rfl rfl ?_;simp only[X2];refine bT (fun fr H'=> ∃bu,fr 1= .ptr 2 bn 0 0∧fr 2= .ptr 1 b5 0 0∧fr 3= .ptr 1 b7 0 0∧fr 4= .ptr 3 b1 0 0∧fr 5= .ptr 1 b6 0 0∧fr 6= .ptr 3 bu 0 0∧H' bu=some (.rows 3 [[.int .i64 (if uk=1 then 2 else uk), .str un, .int .i64 uu]])∧H bu=none∧keeps (fun _=>False) H H') (fun K z=>?_) ?_
 ·refine aA rfl ?_;simp only[RR,seval]
  refine aT fun bu hbu=>?_;simp only[RR,seval];exact z _ _ ⟨bu,rfl,rfl,rfl,rfl,rfl,rfl,aS _ _ _,hbu,(keeps.refl _ H).new hbu _⟩
 rintro fr H1 ⟨bu,f1,f2,f3,f4,f5,f6,hbu,hbn,hk⟩;have hD1:=hD.ext hk;refine bT (fun fr H'=> ∃bt,fr 2= .ptr 1 b5 0 0∧fr 3= .ptr 1 b7 0 0∧fr 4= .ptr 3 b1 0 0∧fr 5= .ptr 1 b6 0 0∧fr 6= .ptr 3 bu 0 0∧fr 7= .ptr 2 bt 0 0∧H' bt=some (.rows 2 [[.int .i64 r.1, .int .i64 r.2]])∧H' bu=some (.rows 3 [[.int .i64 (if uk=1 then 2 else uk), .str un, .int .i64 uu]])∧keeps (fun _=>False) H H') (fun K z=>?_) ?_
 ·obtain⟨d1,d2,d3,d4,d5,d6,d7⟩:=hD1
  refine aA rfl ?_;simp only[f1,f6,d1,hbu,RR,seval];refine dO (hfind H1 d6 d7) (cY.refl _) (fun _=>trivial) fun v H2 ⟨hv,hk2⟩=>?_;subst hv;simp only[Kt,RR,seval];refine aT fun bt hbt=>?_;simp only[RR,seval];have hub:=hk2 _ _ (fun h=>h) hbu;have hne:bu≠bt:=fun e=>by rw[e,hbt]at hub;cases hub
  refine z _ _ ⟨bt,f2,f3,f4,f5,f6,rfl,aS _ _ _,by simp only[upd,if_neg hne];exact hub, ?_⟩;intro b' o' hm hb';have h9:=hk2 b' o' hm (hk b' o' hm hb');have :b'≠bt:=fun e=>by rw[e,hbt]at h9;cases h9
  simp only[upd,if_neg this];exact h9
 rintro fr H2 ⟨bt,f2,f3,f4,f5,f6,f7,hbt,hbu,hk2⟩;have hD2:=hD.ext hk2;have hD3:=hD2;obtain⟨d1,d2,d3,d4,d5,d6,d7⟩:=hD3;have hK5: ∀x:Bool,keeps (fun b=>b=b5∨b=b6) H (upd H2 b5 (some (.rows 1 [[.bool x]]))):=fun x=>(hk2.mono fun _ h=>h.elim).set (.inl rfl) _;have hK6: ∀x:Bool,keeps (fun b=>b=b5∨b=b6) H (upd H2 b6 (some (.rows 1 [[.bool x]]))):=fun x=>(hk2.mono fun _ h=>h.elim).set (.inr rfl) _;have hS5:=fun x=>hD2.set5 h56 x;have hS6:=fun x=>hD2.set6 h56 x;generalize hX:(a.1&&ok)=X;generalize hY:(a.2&&(!ok||nu))=Y
 have fin: ∀(x y:Bool) (H':Hp),X=x→Y=y→kK p i bn b5 b7 b1 b6 bo bi mo mi (x,y) H'→keeps (fun b=>b=b5∨b=b6) H H'→
   bB (fun ae H'=> ∃v,ae= .ret v∧(v= .tup []∧kK p i bn b5 b7 b1 b6 bo bi mo mi (X,Y) H'∧keeps (fun b=>b=b5∨b=b6) H H')) (.tup []) H':=fun x y H' e1 e2 h1 h2=>by
  subst e1;subst e2;exact bB.whole ⟨rfl,h1,h2⟩
 have same:kK p i bn b5 b7 b1 b6 bo bi mo mi (a.1,a.2) H2:=hD2;refine aB fun K z=>?_;refine aA rfl ?_;simp only[RR,seval];simp only[f6,hbu,RR,seval];apply z;clear z;refine aN ?_;rcases hu with hk1|hk1|hk1
 ·subst hk1
  simp only[decide_true,Bool.true_and,decide_false,Bool.false_and,Bool.or_false,Int.reduceEq,Bool.not_false,Bool.true_or]at hok hnu;have hyt:Y=a.2:=by rw[←hY,hnu];simp
  refine aB fun K z=>?_;refine aA rfl ?_;simp only[RR,seval]
  try simp only[if_true,RR,seval]
  apply z;clear z;refine aH true rfl (fun _=>?_) (fun hc=>by cases hc)
  cases ha:a.1 with
  |false=>
   rw[ha]at d2;refine aA rfl ?_;simp only[f2,d2,aZ,aW,aL,bJ,RR,seval];exact fin _ _ _ (by rw[←hX];simp [ha]) hyt (hS5 false) (hK5 false)
  |true=>
   rw[ha]at d2;by_cases r1:r.1=1
   ·have e1:decide (r.1=1)=true:=bQ r1
    refine aA rfl ?_;simp only[f2,f7,d2,hbt,e1,aZ,aW,aL,bJ,RR,seval];exact fin _ _ _ (by rw[←hX,ha,hok,e1];rfl) hyt (hS5 true) (hK5 true)
   have e1:decide (r.1=1)=false:=aX r1;refine aA rfl ?_;simp only[f2,f7,d2,hbt,e1,aZ,aW,aL,bJ,RR,seval];exact fin _ _ _ (by rw[←hX,ha,hok,e1];simp) hyt (hS5 (decide (r.1=2))) (hK5 _)
 ·subst hk1
  simp only[decide_true,Bool.true_and,decide_false,Bool.false_and,Bool.or_false,Bool.false_or,Int.reduceEq,Bool.not_false,Bool.true_or]at hok hnu;have hyt:Y=a.2:=by rw[←hY,hnu];simp
  refine aB fun K z=>?_;refine aA rfl ?_;simp only[RR,seval];apply z;clear z;refine aH false rfl (fun hc=>by cases hc) (fun _=>?_);refine aB fun K z=>?_;refine aA rfl ?_;simp only[RR,seval];apply z;clear z;refine aH true rfl (fun _=>?_) (fun hc=>by cases hc)
  cases ha:a.1 with
  |false=>
   rw[ha]at d2;refine aA rfl ?_;simp only[f2,d2,aZ,aW,aL,bJ,RR,seval];exact fin _ _ _ (by rw[←hX];simp [ha]) hyt (hS5 false) (hK5 false)
  |true=>
   rw[ha]at d2;refine aA rfl ?_;simp only[f2,f7,d2,hbt,aZ,aW,aL,bJ,RR,seval];exact fin _ _ _ (by rw[←hX,ha,hok];simp) hyt (hS5 (decide (r.1=3))) (hK5 _)
 subst hk1;simp only[decide_true,Bool.true_and,decide_false,Bool.false_and,Bool.or_false,Bool.false_or,Int.reduceEq,Bool.not_true]at hok hnu;refine aB fun K z=>?_;refine aA rfl ?_;simp only[RR,seval];apply z;clear z;refine aH false rfl (fun hc=>by cases hc) (fun _=>?_);refine aB fun K z=>?_;refine aA rfl ?_;simp only[RR,seval];apply z;clear z;refine aH false rfl (fun hc=>by cases hc) (fun _=>?_);refine aB fun K z=>?_;refine aA rfl ?_;simp only[RR,seval];apply z;clear z;refine aH true rfl (fun _=>?_) (fun hc=>by cases hc);by_cases r4:r.1=4
 ·have e4:decide (r.1=4)=true:=bQ r4
  by_cases ri:(i:Int)≤r.2
  ·have ei:decide ((i:Int)≤r.2)=true:=bQ ri
   have hokf:ok=false:=by rw[hok,e4,ei];rfl
   refine aB fun K z=>?_;refine aA rfl ?_;simp only[RR,seval];simp only[f7,f3,hbt,d3,e4,ei,RR,seval];apply z;clear z;refine aH true rfl (fun _=>?_) (fun hc=>by cases hc);refine aA rfl ?_;simp only[f2,d2,aZ,aW,aL,bJ,RR,seval];exact fin _ _ _ (by rw[←hX,hokf,Bool.and_false]) (by rw[←hY,hokf];simp) (hS5 false) (hK5 _)
  have ei:decide ((i:Int)≤r.2)=false:=aX ri;have hokt:ok=true:=by rw[hok,e4,ei];rfl
  obtain⟨c1,c2⟩:=hcall r4;obtain⟨n,hn⟩:=Int.eq_ofNat_of_zero_le c1;have hnl:n<p.funs.length:=by omega
  have hgn:=jK (aG hnl);rw[hn,Int.toNat_natCast,aG hnl]at hnu;simp only at hnu;generalize p.funs[n]=g at hgn hnu;simp only[Pg.row]at d4;refine aB fun K z=>?_;refine aA rfl ?_;simp only[RR,seval];simp only[f7,f3,hbt,d3,e4,ei,RR,seval];apply z;clear z;refine aH false rfl (fun hc=>by cases hc) (fun _=>?_);refine aB fun K z=>?_;refine dE (fun _=>False) [(0,true),(1,true),(2,true),(3,true),(4,true),(5,true),(6,true),(7,true),(8,true),(9,true),(10,true)] cX (by kernel_rfl) rfl ?_;simp only[mR,f4,f6,f7,d4,hbt,hbu,hn,hgn,aC,RR,seval];apply z;clear z
  cases hnn:decide ((g.params.length:Int)=uu)with
  |true=>
   refine aH false (by simp [upd,ev]) (fun hc=>by cases hc) (fun _=>?_);refine aK ?_;simp only[aW,aZ,aL,bJ];exact fin _ _ _ (by rw[←hX,hokt,Bool.and_true]) (by rw[←hY,hnu,hnn];simp) same (hk2.mono fun _ h=>h.elim)
  |false=>
   refine aH true (by simp [upd,ev]) (fun _=>?_) (fun hc=>by cases hc);refine aA rfl ?_;simp only[f5,d5,aZ,aW,aL,bJ,RR,seval];exact fin _ _ _ (by rw[←hX,hokt,Bool.and_true]) (by rw[←hY,hokt,hnu,hnn];simp) (hS6 false) (hK6 _)
 have e4:decide (r.1=4)=false:=aX r4;have hokf:ok=false:=by rw[hok,e4];rfl
 refine aB fun K z=>?_;refine aA rfl ?_;simp only[RR,seval];simp only[f7,hbt,e4,RR,seval];apply z;clear z;refine aH true rfl (fun _=>?_) (fun hc=>by cases hc);refine aA rfl ?_;simp only[f2,d2,aZ,aW,aL,bJ,RR,seval];exact fin _ _ _ (by rw[←hX,hokf,Bool.and_false]) (by rw[←hY,hokf];simp) (hS5 false) (hK5 _)
end Go.Proofs.YtaecpjgmcffliaaGreatDoor
namespace Go.Proofs.YtaecpjgmcffliaaGreatDoor
open Go.Al
def BG (p:Pg) (hp:p.few) (i:Nat) (hi:i<p.funs.length) (bn b5 b7 b1 b6 bo bi:Nat) (mo mi:List Th) (h56:b5≠b6) (hF: ∀s,nY mo mi s=dX p i s):
    BP (Bool×Bool) 88 [.ptr 2 bn 0 0, .ptr 1 b5 0 0, .ptr 1 b7 0 0, .ptr 3 b1 0 0, .ptr 1 b6 0 0] where
 D:=kK p i bn b5 b7 b1 b6 bo bi mo mi
 step:=Ah p i
 M:=fun b=>b=b5∨b=b6
 spec:=fun s H u hu hD=>Q3 p hp i hi bn b5 b7 b1 b6 bo bi mo mi h56 hF s H u hu hD
 ext:=fun s H H' hD hk=>hD.ext hk
 old:=fun s H hD b hb=>by
  obtain⟨_,h2,_,_,h5,_⟩:=hD;rcases hb with rfl|rfl
  ·rw[h2];simp
  rw[h5];simp
set_option maxHeartbeats 4000000 in
theorem Vf (p:Pg) (hp:p.few) (h1:1≤p.funs.length):cM cG 58 [p.av] (.int .i64 (gY p)):=by
 have hglob:=Im p hp;have hff:p.funs.length≤10000:=hp.f;have hok:=hp.ok;refine bM 70 [.tmp 2] Tryz.func58 rfl rfl rfl rfl ?_;simp only[Pg.av]at hglob⊢;refine bT (fun fr H=> ∃b1,fr 1= .ptr 3 b1 0 0∧H b1=some (.rows 3 [p.row])) (fun K z=>?_) ?_
 ·refine aA rfl ?_;simp only[RR,seval]
  simp only[Pg.row];refine aT fun b1 hb1=>?_;simp only[RR,seval];exact z _ _ ⟨b1,rfl,aS _ _ _⟩
 rintro fr H ⟨b1,f1,hb1⟩;refine bT (fun fr H=> ∃bo,fr 1= .ptr 3 b1 0 0∧fr 3= .mp bo∧fr 4= .bool (lE (jX p)).2∧H b1=some (.rows 3 [p.row])∧H bo=some (.amap ((lE (jX p)).1.map xO))) (fun K z=>?_) ?_
 ·refine aA rfl ?_
  have hb1':=hb1;simp only[Pg.row]at hb1' hglob;simp only[f1,hb1',RR,seval];refine rF hglob (cY.refl _) fun v H' H2 ⟨bo,hv,hbo⟩ hk hn=>?_;subst hv;simp only[RR,seval];exact z _ _ ⟨bo,f1,rfl,rfl,hk _ _ (fun h=>h) hb1,(hn _ _ hbo).1⟩
 rintro fr H ⟨bo,f1,f3,f4,hb1,hbo⟩;rw[Ai,Io]at f4;refine bT (fun fr H=> ∃b5 b6,fr 1= .ptr 3 b1 0 0∧fr 3= .mp bo∧fr 5= .ptr 1 b5 0 0∧fr 6= .ptr 1 b6 0 0∧b5≠b6∧H b1=some (.rows 3 [p.row])∧H bo=some (.amap ((lE (jX p)).1.map xO))∧H b5=some (.rows 1 [[.bool (decide (gB p).Nodup)]])∧H b6=some (.rows 1 [[.bool true]])) (fun K z=>?_) ?_
 ·refine aA rfl ?_
  simp only[f4,RR,seval];refine aT fun b5 hb5=>?_;simp only[RR,seval];refine aT fun b6 hb6=>?_;have hne:b5≠b6:=fun e=>by rw[←e,aS]at hb6;cases hb6
  have hne':b6≠b5:=fun e=>hne e.symm;have h6:H b6=none:=by simpa only[upd,if_neg hne']using hb6
  have q1:b1≠b5:=fun e=>by rw[e,hb5]at hb1;cases hb1
  have q2:b1≠b6:=fun e=>by rw[e,h6]at hb1;cases hb1
  have q3:bo≠b5:=fun e=>by rw[e,hb5]at hbo;cases hbo
  have q4:bo≠b6:=fun e=>by rw[e,h6]at hbo;cases hbo
  simp only[upd,hne,hne',reduceIte,RR,seval];refine z _ _ ⟨b5,b6,f1,f3,rfl,rfl,hne, ?_, ?_, ?_, ?_⟩
  ·simp only[upd,if_neg q1,if_neg q2];exact hb1
  ·simp only[upd,if_neg q3,if_neg q4];exact hbo
  ·simp [upd,hne]
  simp [upd]
 rintro fr H ⟨b5,b6,f1,f3,f5,f6,h56,hb1,hbo,hb5,hb6⟩;refine bT (fun fr H=> ∃A B:Bool,fr 1= .ptr 3 b1 0 0∧fr 5= .ptr 1 b5 0 0∧fr 6= .ptr 1 b6 0 0∧H b1=some (.rows 3 [p.row])∧H b5=some (.rows 1 [[.bool A]])∧H b6=some (.rows 1 [[.bool B]])∧gX p=A∧(gX p=true→fK p 0 p.funs=B)) (fun K z=>?_) ?_
 ·have hb1':=hb1
  simp only[Pg.row]at hb1';refine aB fun K z=>?_;refine aA rfl ?_;simp only[RR,seval];simp only[f1,hb1',aC,RR,seval];apply z;clear z;refine aN ?_;refine cJ (fun mm fr H=> ∃k:Nat,mm=p.funs.length-k∧k≤p.funs.length∧fr 22= .int .i64 k∧ ∃A B:Bool,fr 20= .isl 5 (p.funs.map Fu.row)∧fr 21= .int .i64 p.funs.length∧fr 1= .ptr 3 b1 0 0∧fr 3= .mp bo∧fr 5= .ptr 1 b5 0 0∧fr 6= .ptr 1 b6 0 0∧H b1=some (.rows 3 [p.row])∧H bo=some (.amap ((lE (jX p)).1.map xO))∧H b5=some (.rows 1 [[.bool A]])∧H b6=some (.rows 1 [[.bool B]])∧gX p=(A&&eM p k (p.funs.drop k))∧(gX p=true→fK p 0 p.funs=(B&&fK p k (p.funs.drop k)))) (p.funs.length) ⟨0,rfl,Nat.zero_le _,rfl,decide (gB p).Nodup,true,rfl,rfl,f1,f3,f5,f6,hb1,hbo,hb5,hb6,rfl,fun _=>rfl⟩ ?_;rintro mm fr H ⟨k,rfl,hkk,hik,A,B,fS,fL,f1,f3,f5,f6,hb1,hbo,hb5,hb6,hA,hB⟩ K2 hK2;refine aB fun K z=>?_;refine aA rfl ?_;simp only[RR,seval];simp only[hik,fL,RR,seval];apply z;clear z;refine aJ ?_;refine aH _ rfl (fun hc=>?_) (fun hc=>?_)
  ·have hltk:k<p.funs.length:=by have:=aD hc;omega
   clear hc;refine aK ?_;simp only[aU];refine aJ ?_;refine aN ?_;have hg0:=aG hltk;have hg:=jK hg0;have hfs:=hp.fs _ (bE hltk);have hokf:=hok.funs _ (bE hltk);have hFind:=Uf p k _ hg0;have hng:=fun h=>(lR p p.funs 0 h k _ hg0).2;rw[bD hltk,eM]at hA;rw[bD hltk,fK]at hB;generalize p.funs[k]=f at hg hfs hokf hFind hA hB hng;have hloc:=Lx f (by omega) (by omega);refine bT (fun fr H=> ∃b7 b8,fr 20= .isl 5 (p.funs.map Fu.row)∧fr 21= .int .i64 p.funs.length∧fr 22= .int .i64 k∧fr 1= .ptr 3 b1 0 0∧fr 3= .mp bo∧fr 5= .ptr 1 b5 0 0∧fr 6= .ptr 1 b6 0 0∧fr 7= .ptr 1 b7 0 0∧fr 8= .ptr 5 b8 0 0∧H b1=some (.rows 3 [p.row])∧H bo=some (.amap ((lE (jX p)).1.map xO))∧H b5=some (.rows 1 [[.bool A]])∧H b6=some (.rows 1 [[.bool B]])∧H b7=some (.rows 1 [[.int .i64 k]])∧H b8=some (.rows 5 [f.row])) (fun K z=>?_) ?_
   ·refine aA rfl ?_
    simp only[fS,hik,hg,RR,seval];refine aT fun b7 hb7=>?_;simp only[RR,seval];refine aT fun b8 hb8=>?_;have hne:b7≠b8:=fun e=>by rw[←e,aS]at hb8;cases hb8
    have hne':b8≠b7:=fun e=>hne e.symm;have h8:H b8=none:=by simpa only[upd,if_neg hne']using hb8
    have old: ∀(x:Nat) (o:iG),H x=some o→x≠b7∧x≠b8:=fun x o hx=>⟨fun e=>(by rw[e,hb7]at hx;cases hx),fun e=>(by rw[e,h8]at hx;cases hx)⟩;simp only[upd,hne,hne',reduceIte,RR,seval];refine z _ _ ⟨b7,b8,fS,fL,hik,f1,f3,f5,f6,rfl,rfl, ?_, ?_, ?_, ?_, ?_, ?_⟩
    ·obtain⟨e1,e2⟩:=old _ _ hb1;simp only[upd,if_neg e1,if_neg e2];exact hb1
    ·obtain⟨e1,e2⟩:=old _ _ hbo;simp only[upd,if_neg e1,if_neg e2];exact hbo
    ·obtain⟨e1,e2⟩:=old _ _ hb5;simp only[upd,if_neg e1,if_neg e2];exact hb5
    ·obtain⟨e1,e2⟩:=old _ _ hb6;simp only[upd,if_neg e1,if_neg e2];exact hb6
    ·simp [upd,hne]
    simp [upd,Fu.row]
   rintro fr H ⟨b7,b8,fS,fL,hik,f1,f3,f5,f6,f7,f8,hb1,hbo,hb5,hb6,hb7,hb8⟩;refine bT (fun fr H=> ∃bi,fr 20= .isl 5 (p.funs.map Fu.row)∧fr 21= .int .i64 p.funs.length∧fr 22= .int .i64 k∧fr 1= .ptr 3 b1 0 0∧fr 3= .mp bo∧fr 5= .ptr 1 b5 0 0∧fr 6= .ptr 1 b6 0 0∧fr 7= .ptr 1 b7 0 0∧fr 8= .ptr 5 b8 0 0∧fr 9= .mp bi∧fr 10= .bool (decide (eD f).Nodup)∧H b1=some (.rows 3 [p.row])∧H bo=some (.amap ((lE (jX p)).1.map xO))∧H b5=some (.rows 1 [[.bool A]])∧H b6=some (.rows 1 [[.bool B]])∧H b7=some (.rows 1 [[.int .i64 k]])∧H b8=some (.rows 5 [f.row])∧H bi=some (.amap ((lE (wX f)).1.map xO))) (fun K z=>?_) ?_
   ·refine aA rfl ?_
    have hb8':=hb8;simp only[Fu.row]at hb8' hloc;simp only[f8,hb8',RR,seval];refine rF hloc (cY.refl _) fun v H' H2 ⟨bi,hv,hbi⟩ hk hn=>?_;subst hv;rw[Ai,Ly];simp only[RR,seval];exact z _ _ ⟨bi,fS,fL,hik,f1,f3,f5,f6,f7,f8,rfl,rfl,hk _ _ (fun h=>h) hb1,hk _ _ (fun h=>h) hbo,hk _ _ (fun h=>h) hb5,hk _ _ (fun h=>h) hb6,hk _ _ (fun h=>h) hb7,hk _ _ (fun h=>h) hb8,(hn _ _ hbi).1⟩
   rintro fr H ⟨bi,fS,fL,hik,f1,f3,f5,f6,f7,f8,f9,f10,hb1,hbo,hb5,hb6,hb7,hb8,hbi⟩;refine bT (fun fr H=>fr 20= .isl 5 (p.funs.map Fu.row)∧fr 21= .int .i64 p.funs.length∧fr 22= .int .i64 k∧fr 1= .ptr 3 b1 0 0∧fr 3= .mp bo∧fr 5= .ptr 1 b5 0 0∧fr 6= .ptr 1 b6 0 0∧fr 7= .ptr 1 b7 0 0∧fr 8= .ptr 5 b8 0 0∧fr 9= .mp bi∧H b1=some (.rows 3 [p.row])∧H bo=some (.amap ((lE (jX p)).1.map xO))∧H b5=some (.rows 1 [[.bool (A&&decide (eD f).Nodup)]])∧H b6=some (.rows 1 [[.bool B]])∧H b7=some (.rows 1 [[.int .i64 k]])∧H b8=some (.rows 5 [f.row])∧H bi=some (.amap ((lE (wX f)).1.map xO))) (fun K z=>?_) ?_
   ·have old: ∀(x:Nat) (o:iG),H x=some o→o≠ .rows 1 [[.bool A]]→x≠b5:=fun x o hx ho e=>by rw[e,hb5]at hx;cases hx;exact ho rfl
    have m1:=old _ _ hb1 (by simp);have mo:=old _ _ hbo (by simp);have m6:b6≠b5:=fun e=>h56 e.symm;have m7:=old _ _ hb7 (by simp);have m8:=old _ _ hb8 (by simp);have mi:=old _ _ hbi (by simp)
    have fin: ∀fr':Fr,(∀j,j=20∨j=21∨j=22∨j=1∨j=3∨j=5∨j=6∨j=7∨j=8∨j=9→fr' j=fr j)→K fr' (upd H b5 (some (.rows 1 [[.bool (A&&decide (eD f).Nodup)]]))):=fun fr' h=>by
     refine z _ _ ⟨(h 20 (by simp)).trans fS,(h 21 (by simp)).trans fL,(h 22 (by simp)).trans hik,(h 1 (by simp)).trans f1,(h 3 (by simp)).trans f3,(h 5 (by simp)).trans f5,(h 6 (by simp)).trans f6,(h 7 (by simp)).trans f7,(h 8 (by simp)).trans f8,(h 9 (by simp)).trans f9, ?_, ?_,aS _ _ _, ?_, ?_, ?_, ?_⟩
     ·simp only[upd,if_neg m1];exact hb1
     ·simp only[upd,if_neg mo];exact hbo
     ·simp only[upd,if_neg m6];exact hb6
     ·simp only[upd,if_neg m7];exact hb7
     ·simp only[upd,if_neg m8];exact hb8
     simp only[upd,if_neg mi];exact hbi
    cases hAc:A with
    |false=>
     rw[hAc]at hb5 fin;refine aA rfl ?_;simp only[f5,hb5,RR,seval];refine fin _ fun j hj=>?_;rcases hj with rfl|rfl|rfl|rfl|rfl|rfl|rfl|rfl|rfl|rfl<;>rfl
    |true=>
     rw[hAc]at hb5 fin;refine aA rfl ?_;simp only[f5,f10,hb5,RR,seval];refine fin _ fun j hj=>?_;rcases hj with rfl|rfl|rfl|rfl|rfl|rfl|rfl|rfl|rfl|rfl<;>rfl
   rintro fr H ⟨fS,fL,hik,f1,f3,f5,f6,f7,f8,f9,hb1,hbo,hb5,hb6,hb7,hb8,hbi⟩;refine aB fun K z=>?_;refine aA rfl ?_;simp only[RR,seval];simp only[f3,f9,RR,seval];refine aT fun bn hbn=>?_;simp only[RR,seval];apply z;clear z;have hkn:keeps (fun _=>False) H (upd (upd H bn (some (.rows 2 [[.nmp, .nmp]]))) bn (some (.rows 2 [[.mp bo, .mp bi]]))):=((keeps.refl _ H).new hbn _).new hbn _;have hn2:(upd (upd H bn (some (.rows 2 [[.nmp, .nmp]]))) bn (some (.rows 2 [[.mp bo, .mp bi]]))) bn=some (.rows 2 [[.mp bo, .mp bi]]):=aS _ _ _;generalize(upd (upd H bn (some (.rows 2 [[.nmp, .nmp]]))) bn (some (.rows 2 [[.mp bo, .mp bi]])))=H1 at hkn hn2⊢;have kp: ∀(x:Nat) (o:iG),H x=some o→H1 x=some o:=fun x o h=>hkn x o (fun h=>h) h;have hD:kK p k bn b5 b7 b1 b6 bo bi (lE (jX p)).1 (lE (wX f)).1 (A&&decide (eD f).Nodup,B) H1:=⟨hn2,kp _ _ hb5,kp _ _ hb7,kp _ _ hb1,kp _ _ hb6,kp _ _ hbo,kp _ _ hbi⟩;have hvis:=Ri (BG p hp k hltk bn b5 b7 b1 b6 bo bi _ _ h56 hFind) f hokf _ H1 hD;have hb8':=kp _ _ hb8;simp only[Fu.row]at hb8' hvis;refine aA rfl ?_;simp only[f1,f5,f6,f7,f8,hb8',RR,seval];refine dO hvis (cY.refl _) (fun _=>trivial) fun v H2 ⟨hv,hD2,hkp⟩=>?_;subst hv;simp only[aU,aW,RR,seval];rw[show(BG p hp k hltk bn b5 b7 b1 b6 bo bi _ _ h56 hFind).step=Ah p k from rfl,W5]at hD2;obtain⟨_,g5,_,g1,g6,go,_⟩:=hD2;refine aA rfl ?_;simp only[RR,seval];simp only[hik,aU,RR,seval];rw[aV _ (by omega)];refine hK2 (p.funs.length-(k+1)) _ _ (by omega) ⟨k+1,rfl,by omega,rfl,_,_,fS,fL,f1,f3,f5,f6,g1,go,g5,g6, ?_, ?_⟩
   ·rw[hA];simp only[Bool.and_assoc]
   intro hn;have hn0:=hn;rw[hB hn];simp only[gX,bA]at hn;have hall:=hng hn.2;rw[Nat.zero_add]at hall
   have :(dJ f.body).all (fun u=> !fD p k u||wT p k u)=(dJ f.body).all (wT p k):=by
    rw[List.all_eq_true]at hall;rw[Bool.eq_iff_iff,List.all_eq_true,List.all_eq_true];constructor
    ·intro h u hu
     have:=h u hu;rw[hall u hu]at this;simpa using this
    intro h u hu;rw[h u hu];simp
   simp only[this,Bool.and_assoc]
  refine bI ?_;simp only[aU,aW,reduceIte];have hknk:k=p.funs.length:=by have:=aE hc;omega
  clear hc;subst hknk;rw[List.drop_length]at hA hB;exact z _ _ ⟨A,B,f1,f5,f6,hb1,hb5,hb6,by rw[hA,eM,Bool.and_true],fun h=>by rw[hB h,fK,Bool.and_true]⟩
 rintro fr H ⟨A,B,f1,f5,f6,hb1,hb5,hb6,hA,hB⟩;have hC:gY p=if gX p then(if oQ p then 0 else 1)else 4:=rfl
 have hNm:oQ p=(fK p 0 p.funs&&wY p):=rfl;have hL:wY p=match p.funs[p.funs.length- 1]? with |some g=>decide (g.name=Aw)&&decide (g.params.length=0)&& !g.word|none=>false:=rfl
 refine aJ ?_
 cases hAc:A with
 |false=>
  rw[hAc]at hb5 hA
  repeat' (first|(refine aB fun K z=>?_;refine aA rfl ?_;simp only[f5,hb5,RR,seval];apply z;clear z)|(refine aJ ?_)|(refine aN ?_)|(refine aH true rfl (fun _=>?_) (fun hc=>by cases hc))|(refine aH false rfl (fun hc=>by cases hc) (fun _=>?_))|(refine aK ?_;simp only[aU,aW])|(refine bI ?_;simp only[aU,aW,reduceIte,Nat.reduceEqDiff])|(refine aA rfl ?_;simp only[f5,hb5,aU,aW,RR,seval])|(refine aO (fun h=>?_) (fun h=>?_)<;>simp only[h,f5,hb5,aU,aW,RR,seval])|(refine aR (fun h=>?_) (fun h=>?_)<;>simp only[h,f5,hb5,aU,aW,RR,seval])|(refine aH _ rfl (fun h=>?_) (fun h=>?_))|(refine aM ?_;simp only[aU,aZ,aL,bJ,RR,seval];refine bB.pure ?_))
  rw[hC,hA];rfl
 |true=>
  rw[hAc]at hb5 hA;refine aB fun K z=>?_;refine aA rfl ?_;simp only[RR,seval];simp only[f5,hb5,RR,seval];apply z;clear z;refine aH false rfl (fun hc=>by cases hc) (fun _=>?_);refine aK ?_;simp only[aU];have hlt:p.funs.length- 1<p.funs.length:=by omega
  have hg:=jK (aG hlt);rw[aG hlt]at hL;generalize p.funs[p.funs.length- 1]=g at hg hL;have w1:IntKind.wrap .i64 ((p.funs.length:Int)- 1)=((p.funs.length- 1:Nat):Int):=by rw[aV _ (by omega)];omega
  have d1:decide ((0:Int)<g.params.length)= !decide (g.params.length=0):=by rw[Bool.eq_iff_iff];simp only[bC,Bool.not_eq_true',decide_eq_false_iff_not];omega
  simp only[Pg.row]at hb1;refine aB fun K z=>?_;refine aA rfl ?_;simp only[RR,seval];simp only[f1,hb1,w1,hg,aC,RR,seval];refine aT fun bl hbl=>?_;simp only[RR,seval];apply z;clear z;have hH1:(upd (upd H bl (some (.rows 5 [[.str [], .nsl, .nsl, .bool false, .nsl]]))) bl (some (.rows 5 [[.str g.name, .isl 1 (g.params.map bG), .isl 1 (g.locs.map bG), .bool g.word, .isl 5 (g.body.map Sm.row)]]))) bl=some (.rows 5 [[.str g.name, .isl 1 (g.params.map bG), .isl 1 (g.locs.map bG), .bool g.word, .isl 5 (g.body.map Sm.row)]]):=aS _ _ _
  have hb6':(upd (upd H bl (some (.rows 5 [[.str [], .nsl, .nsl, .bool false, .nsl]]))) bl (some (.rows 5 [[.str g.name, .isl 1 (g.params.map bG), .isl 1 (g.locs.map bG), .bool g.word, .isl 5 (g.body.map Sm.row)]]))) b6=some (.rows 1 [[.bool B]]):=by
   have :b6≠bl:=fun e=>by rw[e,hbl]at hb6;cases hb6
   simp only[upd,if_neg this];exact hb6
  generalize(upd (upd H bl (some (.rows 5 [[.str [], .nsl, .nsl, .bool false, .nsl]]))) bl (some (.rows 5 [[.str g.name, .isl 1 (g.params.map bG), .isl 1 (g.locs.map bG), .bool g.word, .isl 5 (g.body.map Sm.row)]])))=H1 at hH1 hb6'⊢;simp only at hL
  have hres:gY p=if(B&&(decide (g.name=Aw)&&decide (g.params.length=0)&& !g.word))then 0 else 1:=by
   rw[hC,hA,hNm,hB hA,hL];rfl
  rw[hres]
  cases hBc:B with
  |false=>
   rw[hBc]at hb6'
   repeat' (first|(refine aB fun K z=>?_;refine aA rfl ?_;simp only[f6,hb6',RR,seval];apply z;clear z)|(refine aJ ?_)|(refine aN ?_)|(refine aH true rfl (fun _=>?_) (fun hc=>by cases hc))|(refine aH false rfl (fun hc=>by cases hc) (fun _=>?_))|(refine aK ?_;simp only[aU,aW])|(refine bI ?_;simp only[aU,aW,reduceIte,Nat.reduceEqDiff])|(refine aA rfl ?_;simp only[f6,hb6',aU,aW,RR,seval])|(refine aO (fun h=>?_) (fun h=>?_)<;>simp only[h,f6,hb6',aU,aW,RR,seval])|(refine aR (fun h=>?_) (fun h=>?_)<;>simp only[h,f6,hb6',aU,aW,RR,seval])|(refine aH _ rfl (fun h=>?_) (fun h=>?_))|(refine aM ?_;simp only[aU,aZ,aL,bJ,RR,seval];refine bB.pure ?_))
   rfl
  |true=>
   rw[hBc]at hb6'
   cases e1:decide (g.name=Aw)with
   |false=>
    have e1':decide (g.name=[109,97,105,110])=false:=e1
    repeat' (first|(refine aB fun K z=>?_;refine aA rfl ?_;simp only[f6,hb6',hH1,e1',RR,seval];apply z;clear z)|(refine aJ ?_)|(refine aN ?_)|(refine aH true rfl (fun _=>?_) (fun hc=>by cases hc))|(refine aH false rfl (fun hc=>by cases hc) (fun _=>?_))|(refine aK ?_;simp only[aU,aW])|(refine bI ?_;simp only[aU,aW,reduceIte,Nat.reduceEqDiff])|(refine aA rfl ?_;simp only[f6,hb6',hH1,e1',d1,aC,aU,aW,RR,seval])|(refine aO (fun h=>?_) (fun h=>?_)<;>simp only[h,f6,hb6',hH1,e1',d1,aC,aU,aW,RR,seval])|(refine aR (fun h=>?_) (fun h=>?_)<;>simp only[h,f6,hb6',hH1,e1',d1,aC,aU,aW,RR,seval])|(refine aH _ rfl (fun h=>?_) (fun h=>?_))|(refine aM ?_;simp only[aU,aZ,aL,bJ,RR,seval];refine bB.pure ?_))
    rfl
   |true=>
    have e1':decide (g.name=[109,97,105,110])=true:=e1
    cases e2:decide (g.params.length=0)with
    |false=>
     rw[e2]at d1
     repeat' (first|(refine aB fun K z=>?_;refine aA rfl ?_;simp only[f6,hb6',hH1,e1',d1,aC,RR,seval];apply z;clear z)|(refine aJ ?_)|(refine aN ?_)|(refine aH true rfl (fun _=>?_) (fun hc=>by cases hc))|(refine aH false rfl (fun hc=>by cases hc) (fun _=>?_))|(refine aK ?_;simp only[aU,aW])|(refine bI ?_;simp only[aU,aW,reduceIte,Nat.reduceEqDiff])|(refine aA rfl ?_;simp only[f6,hb6',hH1,e1',d1,aC,aU,aW,RR,seval])|(refine aO (fun h=>?_) (fun h=>?_)<;>simp only[h,f6,hb6',hH1,e1',d1,aC,aU,aW,RR,seval])|(refine aR (fun h=>?_) (fun h=>?_)<;>simp only[h,f6,hb6',hH1,e1',d1,aC,aU,aW,RR,seval])|(refine aH _ rfl (fun h=>?_) (fun h=>?_))|(refine aM ?_;simp only[aU,aZ,aL,bJ,RR,seval];refine bB.pure ?_))
     rfl
    |true=>
     rw[e2]at d1
     cases e3:g.word with
     |false=>
      rw[e3]at hH1
      repeat' (first|(refine aB fun K z=>?_;refine aA rfl ?_;simp only[f6,hb6',hH1,e1',d1,aC,RR,seval];apply z;clear z)|(refine aJ ?_)|(refine aN ?_)|(refine aH true rfl (fun _=>?_) (fun hc=>by cases hc))|(refine aH false rfl (fun hc=>by cases hc) (fun _=>?_))|(refine aK ?_;simp only[aU])|(refine bI ?_;simp only[aU,aW,reduceIte,Nat.reduceEqDiff])|(refine aA rfl ?_;simp only[f6,hb6',hH1,e1',d1,aC,aU,aW,RR,seval])|(refine aO (fun h=>?_) (fun h=>?_)<;>simp only[h,f6,hb6',hH1,e1',d1,aC,aU,aW,RR,seval])|(refine aR (fun h=>?_) (fun h=>?_)<;>simp only[h,f6,hb6',hH1,e1',d1,aC,aU,aW,RR,seval])|(refine aH _ rfl (fun h=>?_) (fun h=>?_))|(refine aM ?_;simp only[aZ,aL,bJ,RR,seval];refine bB.pure ?_))
      rfl
     |true=>
      rw[e3]at hH1
      repeat' (first|(refine aB fun K z=>?_;refine aA rfl ?_;simp only[f6,hb6',hH1,e1',d1,aC,RR,seval];apply z;clear z)|(refine aJ ?_)|(refine aN ?_)|(refine aH true rfl (fun _=>?_) (fun hc=>by cases hc))|(refine aH false rfl (fun hc=>by cases hc) (fun _=>?_))|(refine aK ?_;simp only[aU,aW])|(refine bI ?_;simp only[aU,aW,reduceIte,Nat.reduceEqDiff])|(refine aA rfl ?_;simp only[f6,hb6',hH1,e1',d1,aC,aU,aW,RR,seval])|(refine aO (fun h=>?_) (fun h=>?_)<;>simp only[h,f6,hb6',hH1,e1',d1,aC,aU,aW,RR,seval])|(refine aR (fun h=>?_) (fun h=>?_)<;>simp only[h,f6,hb6',hH1,e1',d1,aC,aU,aW,RR,seval])|(refine aH _ rfl (fun h=>?_) (fun h=>?_))|(refine aM ?_;simp only[aU,aZ,aL,bJ,RR,seval];refine bB.pure ?_))
      rfl
end Go.Proofs.YtaecpjgmcffliaaGreatDoor
