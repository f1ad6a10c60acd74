/- Chapter 16, the program's: what names are, as maps. Chapter 16, the program's: what names are, second part. Chapter 16, the program's: what names are in a function; find. Chapter 16, the program's: visit. Chapter 16, the program's: visit, and what Check does with each use. Chapter 16, in plain Lean: the program's maps say what the judge's lists say. Chapter 16, the program's: what Check does with a use. Chapter 16, the program's: Check. -/
import Derived.Test.YtnfbbjhdflhmjaaGreatDoorSc1
set_option linter.unusedSimpArgs false
set_option linter.unusedVariables false
set_option maxRecDepth 10000
namespace Go.Al
structure Th where
 name:cR
 kind:Int
 num:Int
def Hg (k n:Int):AV:= .agg [.int .i64 k, .int .i64 n]
def xJ (t:Th):AV×AV:=(.str t.name,Hg t.kind t.num)
def fJ:List Th→cR→Option (Int×Int)
 |[],_=>none
 |t::l,s=>if s=t.name then some (t.kind,t.num)else fJ l s
def yJ (m:List Th) (t:Th):List Th:=if(fJ m t.name).isSome then m else m++[t]
def Cs (m:List Th) (u:Bool) (t:Th):Bool:=if(fJ m t.name).isSome then false else u
theorem lN (s:cR): ∀(m:List Th) (i:Nat), ∃r,kC (.str s) (m.map xJ) i=some r∧r.map (·.2)=(fJ m s).map (fun p=>Hg p.1 p.2)
 |[],i=>⟨none,rfl,rfl⟩
 |t::m,i=>by
  simp only[List.map_cons,xJ,kC,Jv,fJ];by_cases h:s=t.name
  ·simp only[h,decide_true,if_true]
   exact⟨_,rfl,rfl⟩
  simp only[h,decide_false,if_false];exact lN s m (i+1)
theorem tH (s:cR): ∀(m:List Th) (t:Th),fJ (m++[t]) s=match fJ m s with |some p=>some p|none=>if s=t.name then some (t.kind,t.num)else none
 |[],t=>by simp only[List.nil_append,fJ]
 |u::m,t=>by
  simp only[List.cons_append,fJ];by_cases h:s=u.name
  ·simp only[h,if_true]
  simp only[h,if_false];exact tH s m t
end Go.Al
namespace Go.Proofs.YtnfbbjhdflhmjaaGreatDoor
open Go.Al
def oL (bm bu b:Nat) (m:List Th) (u:Bool) (H:Hp):Prop:=H bm=some (.rows 1 [[.mp b]])∧H bu=some (.rows 1 [[.bool u]])∧H b=some (.amap (m.map xJ))
theorem xA (t:Th) (bm bu b:Nat) (m:List Th) (u:Bool) (H:Hp) (h:oL bm bu b m u H):
  gK cN 119 [.str t.name,Hg t.kind t.num, .ptr 1 bm 0 0, .ptr 1 bu 0 0] H (fun ae H'=> ∃v,ae= .ret v∧(v= .tup []∧oL bm bu b (yJ m t) (Cs m u t) H'∧keeps (fun x=>x=bu∨x=b) H H')):=by
 obtain⟨h1,h2,h3⟩:=h;have n1:bm≠bu:=fun e=>by rw[e,h2]at h1;simp at h1
 have n2:bm≠b:=fun e=>by rw[e,h3]at h1;simp at h1
 have n3:bu≠b:=fun e=>by rw[e,h3]at h2;simp at h2
 refine bD 18 [] Tryz.func119 rfl rfl rfl rfl ?_;simp only[Hg];refine cA (fun fr H'=> ∃b5,fr 0= .str t.name∧fr 2= .ptr 1 bm 0 0∧fr 3= .ptr 1 bu 0 0∧fr 5= .ptr 2 b5 0 0∧H' b5=some (.rows 2 [[.int .i64 t.kind, .int .i64 t.num]])∧keeps (fun _=>False) H H') (fun K z=>?_) ?_
 ·refine aA rfl ?_;simp only[RR,seval]
  refine aO fun b5 hb5=>?_;simp only[RR,seval];exact z _ _ ⟨b5,rfl,rfl,rfl,rfl,bO _ _ _,(keeps.refl _ H).new hb5 _⟩
 rintro fr H1 ⟨b5,f0,f2,f3,f5,hb5,hk⟩;have k1:=hk _ _ (fun h=>h) h1;have k2:=hk _ _ (fun h=>h) h2;have k3:=hk _ _ (fun h=>h) h3;obtain⟨r,hr,hr2⟩:=lN t.name m 0
 have hnew: ∀x o,H1 x=none→keeps (fun _=>False) H (upd H1 x o):=fun x o hx b' o' _ hb'=>by
  have:=hk b' o' (fun h=>h) hb';have hne:b'≠x:=fun e=>by rw[e,hx]at this;cases this
  simp only[upd,if_neg hne];exact this
 cases hl:fJ m t.name with
 |some q=>
  rw[hl]at hr2
  obtain⟨p,rfl,hp⟩: ∃p,r=some p∧p.2=Hg q.1 q.2:=by
   cases r with
   |none=>simp at hr2
   |some p=>exact⟨p,rfl,by simpa using hr2⟩
  refine aH ?_;refine aB fun K z=>?_;refine aA rfl ?_;simp only[RR,seval];simp only[f0,f2,k1,k3,hr,hp,Hg,Option.getD_some,RR,seval];refine aO fun b6 hb6=>?_;simp only[RR,seval];apply z;clear z
  have hH:(upd (upd H1 b6 (some (.rows 2 [[.int .i64 0, .int .i64 0]]))) b6 (some (.rows 2 [[.int .i64 q.1, .int .i64 q.2]]))) bu=some (.rows 1 [[.bool u]]):=by
   have :bu≠b6:=fun e=>by rw[e,hb6]at k2;cases k2
   simp only[upd,if_neg this];exact k2
  have hK2:keeps (fun _=>False) H (upd (upd H1 b6 (some (.rows 2 [[.int .i64 0, .int .i64 0]]))) b6 (some (.rows 2 [[.int .i64 q.1, .int .i64 q.2]]))):=by
   intro b' o' _ hb';have h5:=hk b' o' (fun h=>h) hb';have :b'≠b6:=fun e=>by rw[e,hb6]at h5;cases h5
   simp only[upd,if_neg this];exact h5
  generalize(upd (upd H1 b6 (some (.rows 2 [[.int .i64 0, .int .i64 0]]))) b6 (some (.rows 2 [[.int .i64 q.1, .int .i64 q.2]])))=H2 at hH hK2⊢;refine aB fun K z=>?_;refine aA rfl ?_;simp only[RR,seval];apply z;clear z;refine aF true rfl (fun _=>?_) (fun hc=>by cases hc);refine aB fun K z=>?_;refine aA rfl ?_;simp only[RR,seval];simp only[f3,hH,RR,seval];apply z;clear z;refine aQ ?_;simp only[aS,aX,aN,bI,seval];refine aW.whole ⟨rfl,⟨?_,bO _ _ _|>.trans (by simp only[Cs,hl,Option.isSome_some,if_true]), ?_⟩,fun b' o' hm hb'=>?_⟩
  ·simp only[upd,if_neg n1];exact hK2 _ _ (fun h=>h) h1
  ·have :b≠bu:=fun e=>n3 e.symm
   simp only[upd,if_neg this,yJ,hl,Option.isSome_some,if_true];exact hK2 _ _ (fun h=>h) h3
  have :b'≠bu:=fun e=>hm (.inl e);simp only[upd,if_neg this];exact hK2 b' o' (fun h=>h) hb'
 |none=>
  rw[hl]at hr2;obtain rfl:r=none:=by cases r with |none=>rfl|some p=>simp at hr2
  refine aH ?_;refine aB fun K z=>?_;refine aA rfl ?_;simp only[RR,seval];simp only[f0,f2,k1,k3,hr,Option.getD_none,RR,seval];refine aO fun b6 hb6=>?_;simp only[RR,seval];apply z;clear z
  have hK2:keeps (fun _=>False) H1 (upd (upd H1 b6 (some (.rows 2 [[.int .i64 0, .int .i64 0]]))) b6 (some (.rows 2 [[.int .i64 0, .int .i64 0]]))):=by
   intro b' o' _ hb';have :b'≠b6:=fun e=>by rw[e,hb6]at hb';cases hb'
   simp only[upd,if_neg this];exact hb'
  generalize(upd (upd H1 b6 (some (.rows 2 [[.int .i64 0, .int .i64 0]]))) b6 (some (.rows 2 [[.int .i64 0, .int .i64 0]])))=H2 at hK2⊢;have j1:=hK2 _ _ (fun h=>h) k1;have j2:=hK2 _ _ (fun h=>h) k2;have j3:=hK2 _ _ (fun h=>h) k3;have j5:=hK2 _ _ (fun h=>h) hb5;refine aB fun K z=>?_;refine aA rfl ?_;simp only[RR,seval];apply z;clear z;refine aF false rfl (fun hc=>by cases hc) (fun _=>?_);refine aM ?_;simp only[aS];refine aA rfl ?_
  have hput:tY (m.map xJ) (.str t.name) (.agg [.int .i64 t.kind, .int .i64 t.num])=some ((yJ m t).map xJ):=by
   simp only[tY,hr,yJ,hl,Option.isSome_none,Bool.false_eq_true,if_false,List.map_append,List.map_cons,List.map_nil,xJ,Hg]
  simp only[f0,f2,f5,j1,j3,j5,hput,RR,seval];simp only[aX,aN,bI];refine aW.whole ⟨rfl,⟨?_, ?_,bO _ _ _⟩,fun b' o' hm hb'=>?_⟩
  ·simp only[upd,if_neg n2];exact j1
  ·simp only[upd,if_neg n3]
   rw[j2];simp only[Cs,hl,Option.isSome_none,Bool.false_eq_true,if_false]
  have :b'≠b:=fun e=>hm (.inr e);simp only[upd,if_neg this];exact hK2 b' o' (fun h=>h) (hk b' o' (fun h=>h) hb')
end Go.Proofs.YtnfbbjhdflhmjaaGreatDoor
namespace Go.Al
def jG (k:Int):Nat→List cR→List Th
 |_,[]=>[]
 |i,s::l=>⟨s,k,i⟩::jG k (i+1) l
theorem mR (k:Int): ∀(l:List cR) (i j:Nat) (h:j<l.length),jG k i (l.take (j+1))=jG k i (l.take j)++[⟨l[j],k,((i+j:Nat):Int)⟩]
 |s::l,i,0,_=>by simp [jG]
 |s::l,i,j+1,h=>by
  have:=mR k l (i+1) j (by simpa using h);rw[List.take_succ_cons,List.take_succ_cons,jG,this,jG];simp only[List.cons_append,List.getElem_cons_succ];rw[show i+1+j=i+(j+1)by omega]
def lT (l:List Th):List Th×Bool:=l.foldl (fun p t=>(yJ p.1 t,Cs p.1 p.2 t)) ([],true)
theorem nV (l:List Th) (t:Th):lT (l++[t])=(yJ (lT l).1 t,Cs (lT l).1 (lT l).2 t):=by simp [lT]
def kA (p:Pg):List Th:=jG 2 0 p.vars++jG 3 0 (p.arrs.map Ar.name)++jG 4 0 (p.funs.map Fu.name)
def wQ (f:Fu):List Th:=jG 1 0 (f.params++f.locs)
end Go.Al
namespace Go.Proofs.YtnfbbjhdflhmjaaGreatDoor
open Go.Al
theorem Ez (nm:cR) (n0:Int) (bm bu b:Nat) (m:List Th) (u:Bool) (H:Hp) (h:oL bm bu b m u H):
  gK cN 120 [.str nm, .int .i64 n0, .ptr 1 bm 0 0, .ptr 1 bu 0 0] H (fun ae H'=> ∃v,ae= .ret v∧(v= .tup []∧oL bm bu b (yJ m ⟨nm,1,n0⟩) (Cs m u ⟨nm,1,n0⟩) H'∧keeps (fun x=>x=bu∨x=b) H H')):=by
 obtain⟨h1,h2,h3⟩:=h;have n1:bm≠bu:=fun e=>by rw[e,h2]at h1;simp at h1
 have n2:bm≠b:=fun e=>by rw[e,h3]at h1;simp at h1
 have n3:bu≠b:=fun e=>by rw[e,h3]at h2;simp at h2
 refine bD 19 [] Tryz.func120 rfl rfl rfl rfl ?_;have hk:keeps (fun _=>False) H H:=keeps.refl _ H;have k1:=h1;have k2:=h2;have k3:=h3;obtain⟨r,hr,hr2⟩:=lN nm m 0
 cases hl:fJ m nm with
 |some q=>
  rw[hl]at hr2
  obtain⟨p,rfl,hp⟩: ∃p,r=some p∧p.2=Hg q.1 q.2:=by
   cases r with
   |none=>simp at hr2
   |some p=>exact⟨p,rfl,by simpa using hr2⟩
  refine aH ?_;refine aB fun K z=>?_;refine aA rfl ?_;simp only[RR,seval];simp only[k1,k3,hr,hp,Hg,Option.getD_some,RR,seval];refine aO fun b6 hb6=>?_;simp only[RR,seval];apply z;clear z
  have hH:(upd (upd H b6 (some (.rows 2 [[.int .i64 0, .int .i64 0]]))) b6 (some (.rows 2 [[.int .i64 q.1, .int .i64 q.2]]))) bu=some (.rows 1 [[.bool u]]):=by
   have :bu≠b6:=fun e=>by rw[e,hb6]at k2;cases k2
   simp only[upd,if_neg this];exact k2
  have hK2:keeps (fun _=>False) H (upd (upd H b6 (some (.rows 2 [[.int .i64 0, .int .i64 0]]))) b6 (some (.rows 2 [[.int .i64 q.1, .int .i64 q.2]]))):=by
   intro b' o' _ hb';have h5:=hk b' o' (fun h=>h) hb';have :b'≠b6:=fun e=>by rw[e,hb6]at h5;cases h5
   simp only[upd,if_neg this];exact h5
  generalize(upd (upd H b6 (some (.rows 2 [[.int .i64 0, .int .i64 0]]))) b6 (some (.rows 2 [[.int .i64 q.1, .int .i64 q.2]])))=H2 at hH hK2⊢;refine aB fun K z=>?_;refine aA rfl ?_;simp only[RR,seval];apply z;clear z;refine aF true rfl (fun _=>?_) (fun hc=>by cases hc);refine aB fun K z=>?_;refine aA rfl ?_;simp only[RR,seval];simp only[hH,RR,seval];apply z;clear z;refine aQ ?_;simp only[aS,aX,aN,bI,seval];refine aW.whole ⟨rfl,⟨?_,bO _ _ _|>.trans (by simp only[Cs,hl,Option.isSome_some,if_true]), ?_⟩,fun b' o' hm hb'=>?_⟩
  ·simp only[upd,if_neg n1];exact hK2 _ _ (fun h=>h) h1
  ·have :b≠bu:=fun e=>n3 e.symm
   simp only[upd,if_neg this,yJ,hl,Option.isSome_some,if_true];exact hK2 _ _ (fun h=>h) h3
  have :b'≠bu:=fun e=>hm (.inl e);simp only[upd,if_neg this];exact hK2 b' o' (fun h=>h) hb'
 |none=>
  rw[hl]at hr2;obtain rfl:r=none:=by cases r with |none=>rfl|some p=>simp at hr2
  refine aH ?_;refine aB fun K z=>?_;refine aA rfl ?_;simp only[RR,seval];simp only[k1,k3,hr,Option.getD_none,RR,seval];refine aO fun b6 hb6=>?_;simp only[RR,seval];apply z;clear z
  have hK2:keeps (fun _=>False) H (upd (upd H b6 (some (.rows 2 [[.int .i64 0, .int .i64 0]]))) b6 (some (.rows 2 [[.int .i64 0, .int .i64 0]]))):=by
   intro b' o' _ hb';have :b'≠b6:=fun e=>by rw[e,hb6]at hb';cases hb'
   simp only[upd,if_neg this];exact hb'
  generalize(upd (upd H b6 (some (.rows 2 [[.int .i64 0, .int .i64 0]]))) b6 (some (.rows 2 [[.int .i64 0, .int .i64 0]])))=H2 at hK2⊢;have j1:=hK2 _ _ (fun h=>h) k1;have j2:=hK2 _ _ (fun h=>h) k2;have j3:=hK2 _ _ (fun h=>h) k3;refine aB fun K z=>?_;refine aA rfl ?_;simp only[RR,seval];apply z;clear z;refine aF false rfl (fun hc=>by cases hc) (fun _=>?_);refine aM ?_;simp only[aS];refine aA rfl ?_
  have hput:tY (m.map xJ) (.str nm) (.agg [.int .i64 1, .int .i64 n0])=some ((yJ m ⟨nm,1,n0⟩).map xJ):=by
   simp only[tY,hr,yJ,hl,Option.isSome_none,Bool.false_eq_true,if_false,List.map_append,List.map_cons,List.map_nil,xJ,Hg]
  simp only[j1,j3,hput,RR,seval];simp only[aX,aN,bI];refine aW.whole ⟨rfl,⟨?_, ?_,bO _ _ _⟩,fun b' o' hm hb'=>?_⟩
  ·simp only[upd,if_neg n2];exact j1
  ·simp only[upd,if_neg n3]
   rw[j2];simp only[Cs,hl,Option.isSome_none,Bool.false_eq_true,if_false]
  have :b'≠b:=fun e=>hm (.inr e);simp only[upd,if_neg this];exact hK2 b' o' (fun h=>h) (hk b' o' (fun h=>h) hb')
theorem sQ {bm bu b:Nat} {m:List Th} {u:Bool} {H:Hp} (h:oL bm bu b m u H) {x sz:Nat} {r:List (List AV)} (hx:H x=some (.rows sz r)) (hs:sz≠1): ¬(x=bu∨x=b):=by
 obtain⟨h1,h2,h3⟩:=h;rintro(e|e)
 ·rw[e,h2]at hx
  simp only[Option.some.injEq,eS.rows.injEq]at hx;exact hs hx.1.symm
 rw[e,h3]at hx;cases hx
theorem Gx {bm bu b:Nat} {m:List Th} {u:Bool} {H:Hp} (h:oL bm bu b m u H) {x:Nat} (hx:H x=none) (o o':Option eS):oL bm bu b m u (upd (upd H x o) x o'):=by
 obtain⟨h1,h2,h3⟩:=h;refine⟨?_, ?_, ?_⟩
 ·have :bm≠x:=fun e=>by rw[e,hx]at h1;cases h1
  simp only[upd,if_neg this];exact h1
 ·have :bu≠x:=fun e=>by rw[e,hx]at h2;cases h2
  simp only[upd,if_neg this];exact h2
 have :b≠x:=fun e=>by rw[e,hx]at h3;cases h3
 simp only[upd,if_neg this];exact h3
set_option maxHeartbeats 2000000 in
set_option maxRecDepth 10000 in
theorem Fg (p:Pg) (hp:p.few):gK cN 83 [p.av] oV (fun ae H'=> ∃v,ae= .ret v∧ ∃b,v= .tup [.mp b, .bool (lT (kA p)).2]∧H' b=some (.amap ((lT (kA p)).1.map xJ))):=by
 have gv:=hp.v;have ga:=hp.a;have gf:=hp.f;have hG:kA p=jG 2 0 p.vars++jG 3 0 (p.arrs.map Ar.name)++jG 4 0 (p.funs.map Fu.name):=rfl;generalize kA p=G at hG⊢;obtain⟨vs,aa,fs⟩:=p;simp only at gv ga gf hG;refine bD 61 [.tmp 2, .tmp 3] Tryz.func83 rfl rfl rfl rfl ?_;simp only[Pg.av,Pg.row];refine cA (fun fr H=> ∃b1,fr 1= .ptr 3 b1 0 0∧H b1=some (.rows 3 [[.isl 1 (vs.map bK), .isl 2 (aa.map Ar.row), .isl 5 (fs.map Fu.row)]])) (fun K z=>?_) ?_
 ·refine aA rfl ?_;simp only[RR,seval]
  refine aO fun b1 hb1=>?_;simp only[RR,seval];exact z _ _ ⟨b1,rfl,bO _ _ _⟩
 rintro fr H ⟨b1,f1,hb⟩;refine cA (fun fr H=> ∃b bm bu,fr 1= .ptr 3 b1 0 0∧H b1=some (.rows 3 [[.isl 1 (vs.map bK), .isl 2 (aa.map Ar.row), .isl 5 (fs.map Fu.row)]])∧fr 4= .ptr 1 bm 0 0∧fr 5= .ptr 1 bu 0 0∧oL bm bu b [] true H) (fun K z=>?_) ?_
 ·refine aA rfl ?_;simp only[RR,seval]
  refine aO fun b hb0=>?_;simp only[RR,seval];refine aO fun bm hbm=>?_;simp only[RR,seval];refine aO fun bu hbu=>?_;simp only[RR,seval];have e1:bm≠b:=fun e=>by rw[e,bO]at hbm;cases hbm
  have e2:bu≠b:=fun e=>by
   rw[e]at hbu;have :b≠bm:=fun e=>e1 e.symm;simp only[upd,if_neg this,if_true]at hbu;cases hbu
  have e3:bu≠bm:=fun e=>by rw[e,bO]at hbu;cases hbu
  have e4:bm≠bu:=fun e=>e3 e.symm;have q0:b1≠b:=fun e=>by rw[e,hb0]at hb;cases hb
  have q1:b1≠bm:=fun e=>by
   rw[←e]at hbm;simp only[upd,if_neg q0]at hbm;rw[hb]at hbm;cases hbm
  have q2:b1≠bu:=fun e=>by
   rw[←e]at hbu;simp only[upd,if_neg q0,if_neg q1]at hbu;rw[hb]at hbu;cases hbu
  have e5:b≠bm:=fun e=>e1 e.symm;have e6:b≠bu:=fun e=>e2 e.symm;simp only[upd,e3,e4,reduceIte,RR,seval];refine z _ _ ⟨b,bm,bu,f1, ?_,rfl,rfl, ?_, ?_, ?_⟩
  ·simp only[upd,if_neg q0,if_neg q1,if_neg q2];exact hb
  ·simp [upd,e4]
  ·simp [upd]
  simp [upd,e5,e6]
 rintro fr H ⟨b,bm,bu,f1,hb,f4,f5,hI⟩;refine aB fun K z=>?_;refine aA rfl ?_;simp only[RR,seval];simp only[f4,f5,seval];apply z;clear z;refine cA (fun fr H=>fr 1= .ptr 3 b1 0 0∧fr 4= .ptr 1 bm 0 0∧fr 5= .ptr 1 bu 0 0∧fr 6= .fn (.func 119) [] [.ptr 1 bm 0 0, .ptr 1 bu 0 0]∧H b1=some (.rows 3 [[.isl 1 (vs.map bK), .isl 2 (aa.map Ar.row), .isl 5 (fs.map Fu.row)]])∧oL bm bu b (lT (jG 2 0 (vs))).1 (lT (jG 2 0 (vs))).2 H) (fun K z=>?_) ?_
 ·refine aB fun K z=>?_;refine aA rfl ?_;simp only[RR,seval]
  simp only[f1,hb,aD,RR,seval];apply z;clear z;refine aI ?_;refine dE (fun mm fr H=> ∃k:Nat,mm=vs.length-k∧k≤vs.length∧fr 18= .int .i64 k∧fr 16= .isl 1 (vs.map bK)∧fr 17= .int .i64 vs.length∧fr 1= .ptr 3 b1 0 0∧fr 4= .ptr 1 bm 0 0∧fr 5= .ptr 1 bu 0 0∧fr 6= .fn (.func 119) [] [.ptr 1 bm 0 0, .ptr 1 bu 0 0]∧H b1=some (.rows 3 [[.isl 1 (vs.map bK), .isl 2 (aa.map Ar.row), .isl 5 (fs.map Fu.row)]])∧oL bm bu b (lT (jG 2 0 (vs.take k))).1 (lT (jG 2 0 (vs.take k))).2 H) (vs.length) ⟨0,rfl,Nat.zero_le _,rfl,rfl,rfl,f1,f4,f5,rfl,hb,hI⟩ ?_;rintro mm fr H ⟨k,rfl,hkk,hik,fS,fL,f1,f4,f5,f6,hb,hI⟩ K2 hK2;refine aB fun K z=>?_;refine aA rfl ?_;simp only[RR,seval];simp only[hik,fL,RR,seval];apply z;clear z;refine aH ?_;refine aF _ rfl (fun hc=>?_) (fun hc=>?_)
  ·have hltk:k<vs.length:=by have:=aC hc;omega
   clear hc;refine aM ?_;simp only[aS];refine aH ?_;refine aI ?_;have hg:=tP (aG hltk);have htk:=mR 2 vs 0 k hltk;rw[Nat.zero_add]at htk;generalize vs[k]=s at hg htk;refine aB fun K z=>?_;refine aA rfl ?_;simp only[RR,seval];simp only[hik,fS,hg,RR,seval];apply z;clear z;refine aA rfl ?_;simp only[f6,RR,seval];refine dZ (xA ⟨s,2,k⟩ bm bu b _ _ _ hI) (fB.refl _) (fun _=>trivial) fun v H' ⟨hv,hI',hkp⟩=>?_;subst hv;simp only[aS,aT,RR,seval];refine aA rfl ?_;simp only[RR,seval];simp only[hik,aS,RR,seval];rw[aR _ (by omega)];refine hK2 (vs.length-(k+1)) _ _ (by omega) ⟨k+1,rfl,by omega,rfl,fS,fL,f1,f4,f5,f6,hkp b1 _ (sQ hI hb (by decide)) hb,by rw[htk,nV];exact hI'⟩
  refine bH ?_;simp only[aS,aT,reduceIte];have hknk:k=vs.length:=by have:=aE hc;omega
  clear hc;subst hknk;rw[List.take_length]at hI;exact z _ _ ⟨f1,f4,f5,f6,hb,hI⟩
 rintro fr H ⟨f1,f4,f5,f6,hb,hI⟩;refine cA (fun fr H=>fr 1= .ptr 3 b1 0 0∧fr 4= .ptr 1 bm 0 0∧fr 5= .ptr 1 bu 0 0∧fr 6= .fn (.func 119) [] [.ptr 1 bm 0 0, .ptr 1 bu 0 0]∧H b1=some (.rows 3 [[.isl 1 (vs.map bK), .isl 2 (aa.map Ar.row), .isl 5 (fs.map Fu.row)]])∧oL bm bu b (lT (jG 2 0 vs++jG 3 0 (aa.map Ar.name))).1 (lT (jG 2 0 vs++jG 3 0 (aa.map Ar.name))).2 H) (fun K z=>?_) ?_
 ·refine aB fun K z=>?_;refine aA rfl ?_;simp only[RR,seval]
  simp only[f1,hb,aD,RR,seval];apply z;clear z;refine aI ?_;refine dE (fun mm fr H=> ∃k:Nat,mm=aa.length-k∧k≤aa.length∧fr 32= .int .i64 k∧fr 30= .isl 2 (aa.map Ar.row)∧fr 31= .int .i64 aa.length∧fr 1= .ptr 3 b1 0 0∧fr 4= .ptr 1 bm 0 0∧fr 5= .ptr 1 bu 0 0∧fr 6= .fn (.func 119) [] [.ptr 1 bm 0 0, .ptr 1 bu 0 0]∧H b1=some (.rows 3 [[.isl 1 (vs.map bK), .isl 2 (aa.map Ar.row), .isl 5 (fs.map Fu.row)]])∧oL bm bu b (lT (jG 2 0 vs++jG 3 0 ((aa.take k).map Ar.name))).1 (lT (jG 2 0 vs++jG 3 0 ((aa.take k).map Ar.name))).2 H) (aa.length) ⟨0,rfl,Nat.zero_le _,rfl,rfl,rfl,f1,f4,f5,f6,hb,by simpa [jG]using hI⟩ ?_;rintro mm fr H ⟨k,rfl,hkk,hik,fS,fL,f1,f4,f5,f6,hb,hI⟩ K2 hK2;refine aB fun K z=>?_;refine aA rfl ?_;simp only[RR,seval];simp only[hik,fL,RR,seval];apply z;clear z;refine aH ?_;refine aF _ rfl (fun hc=>?_) (fun hc=>?_)
  ·have hltk:k<aa.length:=by have:=aC hc;omega
   clear hc;refine aM ?_;simp only[aS];refine aH ?_;refine aI ?_;have hg:=Bx (aG hltk);have htk:=mR 3 (aa.map Ar.name) 0 k (by rw[aD];exact hltk);rw[Nat.zero_add,←List.map_take,←List.map_take,List.getElem_map]at htk;generalize aa[k]=a at hg htk;refine aB fun K z=>?_;refine aA rfl ?_;simp only[RR,seval];simp only[hik,fS,hg,RR,seval];refine aO fun bx hbx=>?_;simp only[RR,seval];apply z;clear z;have hI2:=Gx hI hbx (some (.rows 2 [[.str [], .int .i64 0]])) (some (.rows 2 [[.str a.name, .int .i64 a.size]]));have hbx2:(upd (upd H bx (some (.rows 2 [[.str [], .int .i64 0]]))) bx (some (.rows 2 [[.str a.name, .int .i64 a.size]]))) bx=some (.rows 2 [[.str a.name, .int .i64 a.size]]):=bO _ _ _
   have hb2:(upd (upd H bx (some (.rows 2 [[.str [], .int .i64 0]]))) bx (some (.rows 2 [[.str a.name, .int .i64 a.size]]))) b1=some (.rows 3 [[.isl 1 (vs.map bK), .isl 2 (aa.map Ar.row), .isl 5 (fs.map Fu.row)]]):=by
    have :b1≠bx:=fun e=>by rw[e,hbx]at hb;cases hb
    simp only[upd,if_neg this];exact hb
   generalize(upd (upd H bx (some (.rows 2 [[.str [], .int .i64 0]]))) bx (some (.rows 2 [[.str a.name, .int .i64 a.size]])))=H2 at hI2 hbx2 hb2⊢;refine aA rfl ?_;simp only[f6,hbx2,RR,seval];refine dZ (xA ⟨a.name,3,k⟩ bm bu b _ _ _ hI2) (fB.refl _) (fun _=>trivial) fun v H' ⟨hv,hI',hkp⟩=>?_;subst hv;simp only[aS,aT,RR,seval];refine aA rfl ?_;simp only[RR,seval];simp only[hik,aS,RR,seval];rw[aR _ (by omega)];refine hK2 (aa.length-(k+1)) _ _ (by omega) ⟨k+1,rfl,by omega,rfl,fS,fL,f1,f4,f5,f6,hkp b1 _ (sQ hI2 hb2 (by decide)) hb2,by rw[htk,←List.append_assoc,nV];exact hI'⟩
  refine bH ?_;simp only[aS,aT,reduceIte];have hknk:k=aa.length:=by have:=aE hc;omega
  clear hc;subst hknk;rw[List.take_length]at hI;exact z _ _ ⟨f1,f4,f5,f6,hb,hI⟩
 rintro fr H ⟨f1,f4,f5,f6,hb,hI⟩;refine cA (fun fr H=>fr 1= .ptr 3 b1 0 0∧fr 4= .ptr 1 bm 0 0∧fr 5= .ptr 1 bu 0 0∧fr 6= .fn (.func 119) [] [.ptr 1 bm 0 0, .ptr 1 bu 0 0]∧H b1=some (.rows 3 [[.isl 1 (vs.map bK), .isl 2 (aa.map Ar.row), .isl 5 (fs.map Fu.row)]])∧oL bm bu b (lT (jG 2 0 vs++jG 3 0 (aa.map Ar.name)++jG 4 0 (fs.map Fu.name))).1 (lT (jG 2 0 vs++jG 3 0 (aa.map Ar.name)++jG 4 0 (fs.map Fu.name))).2 H) (fun K z=>?_) ?_
 ·refine aB fun K z=>?_;refine aA rfl ?_;simp only[RR,seval]
  simp only[f1,hb,aD,RR,seval];apply z;clear z;refine aI ?_;refine dE (fun mm fr H=> ∃k:Nat,mm=fs.length-k∧k≤fs.length∧fr 47= .int .i64 k∧fr 45= .isl 5 (fs.map Fu.row)∧fr 46= .int .i64 fs.length∧fr 1= .ptr 3 b1 0 0∧fr 4= .ptr 1 bm 0 0∧fr 5= .ptr 1 bu 0 0∧fr 6= .fn (.func 119) [] [.ptr 1 bm 0 0, .ptr 1 bu 0 0]∧H b1=some (.rows 3 [[.isl 1 (vs.map bK), .isl 2 (aa.map Ar.row), .isl 5 (fs.map Fu.row)]])∧oL bm bu b (lT (jG 2 0 vs++jG 3 0 (aa.map Ar.name)++jG 4 0 ((fs.take k).map Fu.name))).1 (lT (jG 2 0 vs++jG 3 0 (aa.map Ar.name)++jG 4 0 ((fs.take k).map Fu.name))).2 H) (fs.length) ⟨0,rfl,Nat.zero_le _,rfl,rfl,rfl,f1,f4,f5,f6,hb,by simpa [jG]using hI⟩ ?_;rintro mm fr H ⟨k,rfl,hkk,hik,fS,fL,f1,f4,f5,f6,hb,hI⟩ K2 hK2;refine aB fun K z=>?_;refine aA rfl ?_;simp only[RR,seval];simp only[hik,fL,RR,seval];apply z;clear z;refine aH ?_;refine aF _ rfl (fun hc=>?_) (fun hc=>?_)
  ·have hltk:k<fs.length:=by have:=aC hc;omega
   clear hc;refine aM ?_;simp only[aS];refine aH ?_;refine aI ?_;have hg:=pG (aG hltk);have htk:=mR 4 (fs.map Fu.name) 0 k (by rw[aD];exact hltk);rw[Nat.zero_add,←List.map_take,←List.map_take,List.getElem_map]at htk;generalize fs[k]=f at hg htk;refine aB fun K z=>?_;refine aA rfl ?_;simp only[RR,seval];simp only[hik,fS,hg,RR,seval];refine aO fun bx hbx=>?_;simp only[RR,seval];apply z;clear z;have hI2:=Gx hI hbx (some (.rows 5 [[.str [], .nsl, .nsl, .bool false, .nsl]])) (some (.rows 5 [[.str f.name, .isl 1 (f.params.map bK), .isl 1 (f.locs.map bK), .bool f.word, .isl 5 (f.body.map Sm.row)]]));have hbx2:(upd (upd H bx (some (.rows 5 [[.str [], .nsl, .nsl, .bool false, .nsl]]))) bx (some (.rows 5 [[.str f.name, .isl 1 (f.params.map bK), .isl 1 (f.locs.map bK), .bool f.word, .isl 5 (f.body.map Sm.row)]]))) bx=some (.rows 5 [[.str f.name, .isl 1 (f.params.map bK), .isl 1 (f.locs.map bK), .bool f.word, .isl 5 (f.body.map Sm.row)]]):=bO _ _ _
   have hb2:(upd (upd H bx (some (.rows 5 [[.str [], .nsl, .nsl, .bool false, .nsl]]))) bx (some (.rows 5 [[.str f.name, .isl 1 (f.params.map bK), .isl 1 (f.locs.map bK), .bool f.word, .isl 5 (f.body.map Sm.row)]]))) b1=some (.rows 3 [[.isl 1 (vs.map bK), .isl 2 (aa.map Ar.row), .isl 5 (fs.map Fu.row)]]):=by
    have :b1≠bx:=fun e=>by rw[e,hbx]at hb;cases hb
    simp only[upd,if_neg this];exact hb
   generalize(upd (upd H bx (some (.rows 5 [[.str [], .nsl, .nsl, .bool false, .nsl]]))) bx (some (.rows 5 [[.str f.name, .isl 1 (f.params.map bK), .isl 1 (f.locs.map bK), .bool f.word, .isl 5 (f.body.map Sm.row)]])))=H2 at hI2 hbx2 hb2⊢;refine aA rfl ?_;simp only[f6,hbx2,RR,seval];refine dZ (xA ⟨f.name,4,k⟩ bm bu b _ _ _ hI2) (fB.refl _) (fun _=>trivial) fun v H' ⟨hv,hI',hkp⟩=>?_;subst hv;simp only[aS,aT,RR,seval];refine aA rfl ?_;simp only[RR,seval];simp only[hik,aS,RR,seval];rw[aR _ (by omega)];refine hK2 (fs.length-(k+1)) _ _ (by omega) ⟨k+1,rfl,by omega,rfl,fS,fL,f1,f4,f5,f6,hkp b1 _ (sQ hI2 hb2 (by decide)) hb2,by rw[htk,←List.append_assoc,nV];exact hI'⟩
  refine bH ?_;simp only[aS,aT,reduceIte];have hknk:k=fs.length:=by have:=aE hc;omega
  clear hc;subst hknk;rw[List.take_length]at hI;exact z _ _ ⟨f1,f4,f5,f6,hb,hI⟩
 rintro fr H ⟨f1,f4,f5,f6,hb,hI⟩;rw[←hG]at hI;obtain⟨i1,i2,i3⟩:=hI;refine aB fun K z=>?_;refine gO (fun x=>x≠bm∧x≠bu) [(0,true),(1,true),(2,true),(3,true)] cX (by kernel_rfl) rfl ?_;simp only[tS,f4,f5,i1,i2,RR,seval];apply z;clear z;refine aQ ?_;simp only[aX,aN,bI,RR,seval];exact aW.whole ⟨b,rfl,i3⟩
end Go.Proofs.YtnfbbjhdflhmjaaGreatDoor
namespace Go.Al
theorem Bk (k:Int): ∀(l m:List cR) (i:Nat),jG k i (l++m)=jG k i l++jG k (i+l.length) m
 |[],m,i=>by simp [jG]
 |s::l,m,i=>by
  simp only[List.cons_append,jG,Bk k l m (i+1),bP];rw[show i+1+l.length=i+(l.length+1)by omega]
theorem Me (k:Int) (a b:List cR) (j:Nat) (h:j<b.length):jG k 0 (a++b.take (j+1))=jG k 0 (a++b.take j)++[⟨b[j],k,((a.length+j:Nat):Int)⟩]:=by
 rw[Bk,Bk,mR k b _ j h,List.append_assoc,Nat.zero_add]
end Go.Al
namespace Go.Proofs.YtnfbbjhdflhmjaaGreatDoor
open Go.Al
set_option maxRecDepth 10000 in
set_option maxHeartbeats 2000000 in
theorem Ih (f:Fu) (hp:f.params.length≤10000) (hl:f.locs.length≤1100000):gK cN 84 [.agg f.row] oV (fun ae H'=> ∃v,ae= .ret v∧ ∃b,v= .tup [.mp b, .bool (lT (wQ f)).2]∧H' b=some (.amap ((lT (wQ f)).1.map xJ))):=by
 have hG:wQ f=jG 1 0 (f.params++f.locs):=rfl;generalize wQ f=G at hG⊢;refine bD 45 [.tmp 2, .tmp 3] Tryz.func84 rfl rfl rfl rfl ?_;simp only[Fu.row];refine cA (fun fr H=> ∃b1,fr 1= .ptr 5 b1 0 0∧H b1=some (.rows 5 [[.str f.name, .isl 1 (f.params.map bK), .isl 1 (f.locs.map bK), .bool f.word, .isl 5 (f.body.map Sm.row)]])) (fun K z=>?_) ?_
 ·refine aA rfl ?_;simp only[RR,seval]
  refine aO fun b1 hb1=>?_;simp only[RR,seval];exact z _ _ ⟨b1,rfl,bO _ _ _⟩
 rintro fr H ⟨b1,f1,hb⟩;refine cA (fun fr H=> ∃b bm bu,fr 1= .ptr 5 b1 0 0∧H b1=some (.rows 5 [[.str f.name, .isl 1 (f.params.map bK), .isl 1 (f.locs.map bK), .bool f.word, .isl 5 (f.body.map Sm.row)]])∧fr 4= .ptr 1 bm 0 0∧fr 5= .ptr 1 bu 0 0∧oL bm bu b [] true H) (fun K z=>?_) ?_
 ·refine aA rfl ?_;simp only[RR,seval]
  refine aO fun b hb0=>?_;simp only[RR,seval];refine aO fun bm hbm=>?_;simp only[RR,seval];refine aO fun bu hbu=>?_;simp only[RR,seval];have e1:bm≠b:=fun e=>by rw[e,bO]at hbm;cases hbm
  have e2:bu≠b:=fun e=>by
   rw[e]at hbu;have :b≠bm:=fun e=>e1 e.symm;simp only[upd,if_neg this,if_true]at hbu;cases hbu
  have e3:bu≠bm:=fun e=>by rw[e,bO]at hbu;cases hbu
  have e4:bm≠bu:=fun e=>e3 e.symm;have q0:b1≠b:=fun e=>by rw[e,hb0]at hb;cases hb
  have q1:b1≠bm:=fun e=>by
   rw[←e]at hbm;simp only[upd,if_neg q0]at hbm;rw[hb]at hbm;cases hbm
  have q2:b1≠bu:=fun e=>by
   rw[←e]at hbu;simp only[upd,if_neg q0,if_neg q1]at hbu;rw[hb]at hbu;cases hbu
  have e5:b≠bm:=fun e=>e1 e.symm;have e6:b≠bu:=fun e=>e2 e.symm;simp only[upd,e3,e4,reduceIte,RR,seval];refine z _ _ ⟨b,bm,bu,f1, ?_,rfl,rfl, ?_, ?_, ?_⟩
  ·simp only[upd,if_neg q0,if_neg q1,if_neg q2];exact hb
  ·simp [upd,e4]
  ·simp [upd]
  simp [upd,e5,e6]
 rintro fr H ⟨b,bm,bu,f1,hb,f4,f5,hI⟩;refine aB fun K z=>?_;refine aA rfl ?_;simp only[RR,seval];simp only[f4,f5,seval];apply z;clear z;refine cA (fun fr H=>fr 1= .ptr 5 b1 0 0∧fr 4= .ptr 1 bm 0 0∧fr 5= .ptr 1 bu 0 0∧fr 6= .fn (.func 120) [] [.ptr 1 bm 0 0, .ptr 1 bu 0 0]∧H b1=some (.rows 5 [[.str f.name, .isl 1 (f.params.map bK), .isl 1 (f.locs.map bK), .bool f.word, .isl 5 (f.body.map Sm.row)]])∧oL bm bu b (lT (jG 1 0 (f.params))).1 (lT (jG 1 0 (f.params))).2 H) (fun K z=>?_) ?_
 ·refine aB fun K z=>?_;refine aA rfl ?_;simp only[RR,seval]
  simp only[f1,hb,aD,RR,seval];apply z;clear z;refine aI ?_;refine dE (fun mm fr H=> ∃k:Nat,mm=f.params.length-k∧k≤f.params.length∧fr 16= .int .i64 k∧fr 14= .isl 1 (f.params.map bK)∧fr 15= .int .i64 f.params.length∧fr 1= .ptr 5 b1 0 0∧fr 4= .ptr 1 bm 0 0∧fr 5= .ptr 1 bu 0 0∧fr 6= .fn (.func 120) [] [.ptr 1 bm 0 0, .ptr 1 bu 0 0]∧H b1=some (.rows 5 [[.str f.name, .isl 1 (f.params.map bK), .isl 1 (f.locs.map bK), .bool f.word, .isl 5 (f.body.map Sm.row)]])∧oL bm bu b (lT (jG 1 0 (f.params.take k))).1 (lT (jG 1 0 (f.params.take k))).2 H) (f.params.length) ⟨0,rfl,Nat.zero_le _,rfl,rfl,rfl,f1,f4,f5,rfl,hb,hI⟩ ?_;rintro mm fr H ⟨k,rfl,hkk,hik,fS,fL,f1,f4,f5,f6,hb,hI⟩ K2 hK2;refine aB fun K z=>?_;refine aA rfl ?_;simp only[RR,seval];simp only[hik,fL,RR,seval];apply z;clear z;refine aH ?_;refine aF _ rfl (fun hc=>?_) (fun hc=>?_)
  ·have hltk:k<f.params.length:=by have:=aC hc;omega
   clear hc;refine aM ?_;simp only[aS];refine aH ?_;refine aI ?_;have hg:=tP (aG hltk);have htk:=mR 1 f.params 0 k hltk;rw[Nat.zero_add]at htk;generalize f.params[k]=s at hg htk;refine aB fun K z=>?_;refine aA rfl ?_;simp only[RR,seval];simp only[hik,fS,hg,RR,seval];apply z;clear z;refine aA rfl ?_;simp only[f6,RR,seval];refine dZ (Ez s k bm bu b _ _ _ hI) (fB.refl _) (fun _=>trivial) fun v H' ⟨hv,hI',hkp⟩=>?_;subst hv;simp only[aS,aT,RR,seval];refine aA rfl ?_;simp only[RR,seval];simp only[hik,aS,RR,seval];rw[aR _ (by omega)];refine hK2 (f.params.length-(k+1)) _ _ (by omega) ⟨k+1,rfl,by omega,rfl,fS,fL,f1,f4,f5,f6,hkp b1 _ (sQ hI hb (by decide)) hb,by rw[htk,nV];exact hI'⟩
  refine bH ?_;simp only[aS,aT,reduceIte];have hknk:k=f.params.length:=by have:=aE hc;omega
  clear hc;subst hknk;rw[List.take_length]at hI;exact z _ _ ⟨f1,f4,f5,f6,hb,hI⟩
 rintro fr H ⟨f1,f4,f5,f6,hb,hI⟩;refine cA (fun fr H=>fr 1= .ptr 5 b1 0 0∧fr 4= .ptr 1 bm 0 0∧fr 5= .ptr 1 bu 0 0∧fr 6= .fn (.func 120) [] [.ptr 1 bm 0 0, .ptr 1 bu 0 0]∧H b1=some (.rows 5 [[.str f.name, .isl 1 (f.params.map bK), .isl 1 (f.locs.map bK), .bool f.word, .isl 5 (f.body.map Sm.row)]])∧oL bm bu b (lT (jG 1 0 (f.params++f.locs))).1 (lT (jG 1 0 (f.params++f.locs))).2 H) (fun K z=>?_) ?_
 ·refine aB fun K z=>?_;refine aA rfl ?_;simp only[RR,seval]
  simp only[f1,hb,aD,RR,seval];apply z;clear z;refine aI ?_;refine dE (fun mm fr H=> ∃k:Nat,mm=f.locs.length-k∧k≤f.locs.length∧fr 29= .int .i64 k∧fr 27= .isl 1 (f.locs.map bK)∧fr 28= .int .i64 f.locs.length∧fr 1= .ptr 5 b1 0 0∧fr 4= .ptr 1 bm 0 0∧fr 5= .ptr 1 bu 0 0∧fr 6= .fn (.func 120) [] [.ptr 1 bm 0 0, .ptr 1 bu 0 0]∧H b1=some (.rows 5 [[.str f.name, .isl 1 (f.params.map bK), .isl 1 (f.locs.map bK), .bool f.word, .isl 5 (f.body.map Sm.row)]])∧oL bm bu b (lT (jG 1 0 (f.params++f.locs.take k))).1 (lT (jG 1 0 (f.params++f.locs.take k))).2 H) (f.locs.length) ⟨0,rfl,Nat.zero_le _,rfl,rfl,rfl,f1,f4,f5,f6,hb,by rw[List.take_zero,List.append_nil];exact hI⟩ ?_;rintro mm fr H ⟨k,rfl,hkk,hik,fS,fL,f1,f4,f5,f6,hb,hI⟩ K2 hK2;refine aB fun K z=>?_;refine aA rfl ?_;simp only[RR,seval];simp only[hik,fL,RR,seval];apply z;clear z;refine aH ?_;refine aF _ rfl (fun hc=>?_) (fun hc=>?_)
  ·have hltk:k<f.locs.length:=by have:=aC hc;omega
   clear hc;refine aM ?_;simp only[aS];refine aH ?_;refine aI ?_;have hg:=tP (aG hltk);have htk:=Me 1 f.params f.locs k hltk;have w1:IntKind.wrap .i64 ((f.params.length:Int)+k)=((f.params.length+k:Nat):Int):=by rw[aR _ (by omega)];omega
   generalize f.locs[k]=s at hg htk;refine aB fun K z=>?_;refine aA rfl ?_;simp only[RR,seval];simp only[hik,fS,hg,RR,seval];apply z;clear z;refine aA rfl ?_;simp only[f6,f1,hb,w1,aD,RR,seval];refine dZ (Ez s ((f.params.length+k:Nat):Int) bm bu b _ _ _ hI) (fB.refl _) (fun _=>trivial) fun v H' ⟨hv,hI',hkp⟩=>?_;subst hv;simp only[aS,aT,RR,seval];refine aA rfl ?_;simp only[RR,seval];simp only[hik,aS,RR,seval];rw[aR _ (by omega)];refine hK2 (f.locs.length-(k+1)) _ _ (by omega) ⟨k+1,rfl,by omega,rfl,fS,fL,f1,f4,f5,f6,hkp b1 _ (sQ hI hb (by decide)) hb,by rw[htk,nV];exact hI'⟩
  refine bH ?_;simp only[aS,aT,reduceIte];have hknk:k=f.locs.length:=by have:=aE hc;omega
  clear hc;subst hknk;rw[List.take_length]at hI;exact z _ _ ⟨f1,f4,f5,f6,hb,hI⟩
 rintro fr H ⟨f1,f4,f5,f6,hb,hI⟩;rw[←hG]at hI;obtain⟨i1,i2,i3⟩:=hI;refine aB fun K z=>?_;refine gO (fun x=>x≠bm∧x≠bu) [(0,true),(1,true),(2,true),(3,true)] cX (by kernel_rfl) rfl ?_;simp only[tS,f4,f5,i1,i2,RR,seval];apply z;clear z;refine aQ ?_;simp only[aX,aN,bI,RR,seval];exact aW.whole ⟨b,rfl,i3⟩
def oP (mo mi:List Th) (s:cR):Int×Int:=match fJ mi s with |some r=>r|none=>match fJ mo s with |some r=>r|none=>(0, -1)
set_option maxRecDepth 10000 in
theorem Sq (mo mi:List Th) (bo bi:Nat) (s:cR) (H:Hp) (ho:H bo=some (.amap (mo.map xJ))) (hi:H bi=some (.amap (mi.map xJ))):
  gK cN 87 [.agg [.mp bo, .mp bi], .str s] H (fun ae H'=> ∃v,ae= .ret v∧(v=Hg (oP mo mi s).1 (oP mo mi s).2∧keeps (fun _=>False) H H')):=by
 obtain⟨ri,hri,hri2⟩:=lN s mi 0;obtain⟨ro,hro,hro2⟩:=lN s mo 0;refine bD 28 [.cell 4 160] Tryz.func87 rfl rfl rfl rfl ?_;refine cA (fun fr H'=> ∃b2 b4,fr 1= .str s∧fr 2= .ptr 2 b2 0 0∧fr 4= .ptr 2 b4 0 0∧H' b2=some (.rows 2 [[.mp bo, .mp bi]])∧H' b4=some (.rows 2 [[.int .i64 0, .int .i64 0]])∧H b4=none∧keeps (fun _=>False) H H'∧b2≠b4) (fun K z=>?_) ?_
 ·refine aA rfl ?_;simp only[RR,seval]
  refine aO fun b2 hb2=>?_;simp only[RR,seval];refine aO fun b4 hb4=>?_;simp only[RR,seval];have hne:b2≠b4:=fun e=>by rw[←e,bO]at hb4;cases hb4
  have hne':b4≠b2:=fun e=>hne e.symm;have h4:H b4=none:=by simpa only[upd,if_neg hne']using hb4
  refine z _ _ ⟨b2,b4,rfl,rfl,rfl,by simp [upd,hne],bO _ _ _,h4, ?_,hne⟩;exact((keeps.refl _ H).new hb2 _).new h4 _
 rintro fr H1 ⟨b2,b4,f1,f2,f4,h2,h4,hn4,hk,hne⟩;have hset: ∀(H2:Hp) o,keeps (fun _=>False) H H2→keeps (fun _=>False) H (upd H2 b4 o):=fun H2 o h=>h.new hn4 o;have ki:=hk _ _ (fun h=>h) hi;have ko:=hk _ _ (fun h=>h) ho
 cases hl:fJ mi s with
 |some q=>
  have hM:oP mo mi s=q:=by simp only[oP,hl]
  rw[hM];rw[hl]at hri2
  obtain⟨p,rfl,hp⟩: ∃p,ri=some p∧p.2=Hg q.1 q.2:=by
   cases ri with
   |none=>simp at hri2
   |some p=>exact⟨p,rfl,by simpa using hri2⟩
  refine aH ?_;refine aB fun K z=>?_;refine aA rfl ?_;simp only[RR,seval];simp only[f1,f2,h2,ki,hri,hp,Hg,Option.getD_some,RR,seval];refine aO fun b6 hb6=>?_;simp only[RR,seval];apply z;clear z;have n4:b4≠b6:=fun e=>by rw[e,hb6]at h4;cases h4
  have n4':b6≠b4:=fun e=>n4 e.symm;have h6:(upd (upd H1 b6 (some (.rows 2 [[.int .i64 0, .int .i64 0]]))) b6 (some (.rows 2 [[.int .i64 q.1, .int .i64 q.2]]))) b6=some (.rows 2 [[.int .i64 q.1, .int .i64 q.2]]):=bO _ _ _;have h4':(upd (upd H1 b6 (some (.rows 2 [[.int .i64 0, .int .i64 0]]))) b6 (some (.rows 2 [[.int .i64 q.1, .int .i64 q.2]]))) b4=some (.rows 2 [[.int .i64 0, .int .i64 0]]):=by simp only[upd,if_neg n4];exact h4
  have hK2:keeps (fun _=>False) H (upd (upd H1 b6 (some (.rows 2 [[.int .i64 0, .int .i64 0]]))) b6 (some (.rows 2 [[.int .i64 q.1, .int .i64 q.2]]))):=by
   intro b' o' _ hb';have h5:=hk b' o' (fun h=>h) hb';have :b'≠b6:=fun e=>by rw[e,hb6]at h5;cases h5
   simp only[upd,if_neg this];exact h5
  generalize(upd (upd H1 b6 (some (.rows 2 [[.int .i64 0, .int .i64 0]]))) b6 (some (.rows 2 [[.int .i64 q.1, .int .i64 q.2]])))=H2 at h6 h4' hK2⊢;refine aB fun K z=>?_;refine aA rfl ?_;simp only[RR,seval];apply z;clear z;refine aF true rfl (fun _=>?_) (fun hc=>by cases hc);refine aB fun K z=>?_;refine aA rfl ?_;simp only[RR,seval];simp only[f4,h6,h4',RR,seval];apply z;clear z;refine aQ ?_;have hu:upd H2 b4 (some (.rows 2 [[.int .i64 q.1, .int .i64 q.2]])) b4=some (.rows 2 [[.int .i64 q.1, .int .i64 q.2]]):=bO _ _ _;have hkk:=hset H2 (some (.rows 2 [[.int .i64 q.1, .int .i64 q.2]])) hK2;generalize upd H2 b4 (some (.rows 2 [[.int .i64 q.1, .int .i64 q.2]]))=H3 at hu hkk⊢;simp only[aS,aX,aN,bI,f4,hu,RR,seval];exact aW.whole ⟨rfl,hkk⟩
 |none=>
  rw[hl]at hri2;obtain rfl:ri=none:=by cases ri with |none=>rfl|some p=>simp at hri2
  refine aH ?_;refine aB fun K z=>?_;refine aA rfl ?_;simp only[RR,seval];simp only[f1,f2,h2,ki,hri,Option.getD_none,RR,seval];refine aO fun b6 hb6=>?_;simp only[RR,seval];apply z;clear z;have n4:b4≠b6:=fun e=>by rw[e,hb6]at h4;cases h4
  have n2:b2≠b6:=fun e=>by rw[e,hb6]at h2;cases h2
  have h4':(upd (upd H1 b6 (some (.rows 2 [[.int .i64 0, .int .i64 0]]))) b6 (some (.rows 2 [[.int .i64 0, .int .i64 0]]))) b4=some (.rows 2 [[.int .i64 0, .int .i64 0]]):=by simp only[upd,if_neg n4];exact h4
  have h2':(upd (upd H1 b6 (some (.rows 2 [[.int .i64 0, .int .i64 0]]))) b6 (some (.rows 2 [[.int .i64 0, .int .i64 0]]))) b2=some (.rows 2 [[.mp bo, .mp bi]]):=by simp only[upd,if_neg n2];exact h2
  have hK2:keeps (fun _=>False) H (upd (upd H1 b6 (some (.rows 2 [[.int .i64 0, .int .i64 0]]))) b6 (some (.rows 2 [[.int .i64 0, .int .i64 0]]))):=by
   intro b' o' _ hb';have h5:=hk b' o' (fun h=>h) hb';have :b'≠b6:=fun e=>by rw[e,hb6]at h5;cases h5
   simp only[upd,if_neg this];exact h5
  generalize(upd (upd H1 b6 (some (.rows 2 [[.int .i64 0, .int .i64 0]]))) b6 (some (.rows 2 [[.int .i64 0, .int .i64 0]])))=H2 at h4' h2' hK2⊢;refine aB fun K z=>?_;refine aA rfl ?_;simp only[RR,seval];apply z;clear z;refine aF false rfl (fun hc=>by cases hc) (fun _=>?_);refine aM ?_;simp only[aS];have ko2:=hK2 _ _ (fun h=>h) ho
  cases hlo:fJ mo s with
  |some q=>
   have hM:oP mo mi s=q:=by simp only[oP,hl,hlo]
   rw[hM];rw[hlo]at hro2
   obtain⟨p,rfl,hp⟩: ∃p,ro=some p∧p.2=Hg q.1 q.2:=by
    cases ro with
    |none=>simp at hro2
    |some p=>exact⟨p,rfl,by simpa using hro2⟩
   refine aH ?_;refine aB fun K z=>?_;refine aA rfl ?_;simp only[RR,seval];simp only[f1,f2,h2',ko2,hro,hp,Hg,Option.getD_some,RR,seval];refine aO fun b7 hb7=>?_;simp only[RR,seval];apply z;clear z;have m4:b4≠b7:=fun e=>by rw[e,hb7]at h4';cases h4'
   have h7:(upd (upd H2 b7 (some (.rows 2 [[.int .i64 0, .int .i64 0]]))) b7 (some (.rows 2 [[.int .i64 q.1, .int .i64 q.2]]))) b7=some (.rows 2 [[.int .i64 q.1, .int .i64 q.2]]):=bO _ _ _;have h4'':(upd (upd H2 b7 (some (.rows 2 [[.int .i64 0, .int .i64 0]]))) b7 (some (.rows 2 [[.int .i64 q.1, .int .i64 q.2]]))) b4=some (.rows 2 [[.int .i64 0, .int .i64 0]]):=by simp only[upd,if_neg m4];exact h4'
   have hK3:keeps (fun _=>False) H (upd (upd H2 b7 (some (.rows 2 [[.int .i64 0, .int .i64 0]]))) b7 (some (.rows 2 [[.int .i64 q.1, .int .i64 q.2]]))):=by
    intro b' o' _ hb';have h5:=hK2 b' o' (fun h=>h) hb';have :b'≠b7:=fun e=>by rw[e,hb7]at h5;cases h5
    simp only[upd,if_neg this];exact h5
   generalize(upd (upd H2 b7 (some (.rows 2 [[.int .i64 0, .int .i64 0]]))) b7 (some (.rows 2 [[.int .i64 q.1, .int .i64 q.2]])))=H3 at h7 h4'' hK3⊢;refine aB fun K z=>?_;refine aA rfl ?_;simp only[RR,seval];apply z;clear z;refine aF true rfl (fun _=>?_) (fun hc=>by cases hc);refine aB fun K z=>?_;refine aA rfl ?_;simp only[RR,seval];simp only[f4,h7,h4'',RR,seval];apply z;clear z;refine aQ ?_;have hu:upd H3 b4 (some (.rows 2 [[.int .i64 q.1, .int .i64 q.2]])) b4=some (.rows 2 [[.int .i64 q.1, .int .i64 q.2]]):=bO _ _ _;have hkk:=hset H3 (some (.rows 2 [[.int .i64 q.1, .int .i64 q.2]])) hK3;generalize upd H3 b4 (some (.rows 2 [[.int .i64 q.1, .int .i64 q.2]]))=H4 at hu hkk⊢;simp only[aS,aX,aN,bI,f4,hu,RR,seval];exact aW.whole ⟨rfl,hkk⟩
  |none=>
   have hM:oP mo mi s=(0, -1):=by simp only[oP,hl,hlo]
   rw[hM];rw[hlo]at hro2;obtain rfl:ro=none:=by cases ro with |none=>rfl|some p=>simp at hro2
   refine aH ?_;refine aB fun K z=>?_;refine aA rfl ?_;simp only[RR,seval];simp only[f1,f2,h2',ko2,hro,Option.getD_none,RR,seval];refine aO fun b7 hb7=>?_;simp only[RR,seval];apply z;clear z;have m4:b4≠b7:=fun e=>by rw[e,hb7]at h4';cases h4'
   have h4'':(upd (upd H2 b7 (some (.rows 2 [[.int .i64 0, .int .i64 0]]))) b7 (some (.rows 2 [[.int .i64 0, .int .i64 0]]))) b4=some (.rows 2 [[.int .i64 0, .int .i64 0]]):=by simp only[upd,if_neg m4];exact h4'
   have hK3:keeps (fun _=>False) H (upd (upd H2 b7 (some (.rows 2 [[.int .i64 0, .int .i64 0]]))) b7 (some (.rows 2 [[.int .i64 0, .int .i64 0]]))):=by
    intro b' o' _ hb';have h5:=hK2 b' o' (fun h=>h) hb';have :b'≠b7:=fun e=>by rw[e,hb7]at h5;cases h5
    simp only[upd,if_neg this];exact h5
   generalize(upd (upd H2 b7 (some (.rows 2 [[.int .i64 0, .int .i64 0]]))) b7 (some (.rows 2 [[.int .i64 0, .int .i64 0]])))=H3 at h4'' hK3⊢;refine aB fun K z=>?_;refine aA rfl ?_;simp only[RR,seval];apply z;clear z;refine aF false rfl (fun hc=>by cases hc) (fun _=>?_);refine aM ?_;simp only[aS];refine aB fun K z=>?_;refine aA rfl ?_;simp only[RR,seval];simp only[f4,h4'',RR,seval];apply z;clear z;refine aQ ?_;have hu:upd H3 b4 (some (.rows 2 [[.int .i64 0, .int .i64 (-1)]])) b4=some (.rows 2 [[.int .i64 0, .int .i64 (-1)]]):=bO _ _ _;have hkk:=hset H3 (some (.rows 2 [[.int .i64 0, .int .i64 (-1)]])) hK3;generalize upd H3 b4 (some (.rows 2 [[.int .i64 0, .int .i64 (-1)]]))=H4 at hu hkk⊢;simp only[aX,aN,bI,f4,hu,RR,seval];exact aW.whole ⟨rfl,hkk⟩
end Go.Proofs.YtnfbbjhdflhmjaaGreatDoor
namespace Go.Proofs.YtnfbbjhdflhmjaaGreatDoor
open Go.Al
def Yd (u:Us):AV:= .agg [.int .i64 (if u.kind=1 then 2 else u.kind), .str u.name, .int .i64 u.num]
structure H7 (σ:Type) (g:FuncId) (caps:List AV) where
 D:σ→Hp→Prop
 step:σ→Us→σ
 M:Nat→Prop
 spec: ∀s H u,(u.kind=1∨u.kind=3∨u.kind=4)→D s H→gK cN g (Yd u::caps) H (fun ae H'=> ∃v,ae= .ret v∧(v= .tup []∧D (step s u) H'∧keeps M H H'))
 ext: ∀s H H',D s H→keeps (fun _=>False) H H'→D s H'
 old: ∀s H,D s H→ ∀b,M b→H b≠none
set_option maxHeartbeats 4000000 in
theorem Hl {σ:Type} {g:FuncId} {caps:List AV} (V:H7 σ g caps) (b3 b5:Nat) (hm3: ¬V.M b3) (hm5: ¬V.M b5) (n:Nat): ∀l:List Ex,iJ l=n→Cw l→ ∀(s:σ) (H:Hp),H b3=some (.rows 1 [[.fn (.func g) [] caps]])→H b5=some (.rows 1 [[.fn (.func 121) [] [.ptr 1 b3 0 0, .ptr 1 b5 0 0]]])→V.D s H→
  gK cN 121 [.isl 5 (l.map Ex.row), .ptr 1 b3 0 0, .ptr 1 b5 0 0] H (fun ae H'=> ∃v,ae= .ret v∧(v= .tup []∧V.D ((dG l).foldl V.step s) H'∧keeps V.M H H')):=by
 induction n using Nat.strongRecOn with
 |_ n ih=>
  intro l hn hok s H0 i3 i5 hD;have hfit:l.length≤9223372036854775807:=hok.fit;refine bD 43 [] Tryz.func121 rfl rfl rfl rfl ?_;refine aB fun K z=>?_;refine aA rfl ?_;simp only[RR,seval];simp only[aD,seval];apply z;clear z;refine aI ?_;refine dE (fun mm fr H=> ∃k:Nat,mm=l.length-k∧k≤l.length∧fr 8= .int .i64 k∧fr 1= .ptr 1 b3 0 0∧fr 2= .ptr 1 b5 0 0∧fr 6= .isl 5 (l.map Ex.row)∧fr 7= .int .i64 l.length∧V.D ((dG (l.take k)).foldl V.step s) H∧keeps V.M H0 H) (l.length) ⟨0,rfl,Nat.zero_le _,rfl,rfl,rfl,rfl,rfl,by simpa [dG]using hD,keeps.refl _ _⟩ ?_;rintro mm fr H ⟨k,rfl,hkk,hik,f3,f5,fS,fL,hDk,hkp⟩ K2 hK2;refine aB fun K z=>?_;refine aA rfl ?_;simp only[RR,seval];simp only[hik,fL,RR,seval];apply z;clear z;refine aH ?_;refine aF _ rfl (fun hc=>?_) (fun hc=>?_)
  ·have hltk:k<l.length:=by have:=aC hc;omega
   clear hc;refine aM ?_;simp only[aS];refine aH ?_;refine aI ?_;have hg:=nK (aG hltk);have hmem:=bJ hltk;have hoke:=hok.all _ hmem;have hsz:=jR hmem;have htk:=Hq hltk;generalize l[k]=e at hg htk hoke hsz;have hse:=e.sz_eq;have j3:=hkp _ _ hm3 i3;have j5:=hkp _ _ hm5 i5;refine aB fun K z=>?_;refine aA rfl ?_;simp only[RR,seval];simp only[hik,fS,hg,RR,seval];refine aO fun bx hbx=>?_;simp only[RR,seval];apply z;clear z;have hxM: ¬V.M bx:=fun hm=>V.old _ _ hDk bx hm hbx;have hx:(upd (upd H bx (some (.rows 5 [[.int .i64 0, .int .i64 0, .int .u32 0, .str [], .nsl]]))) bx (some (.rows 5 [[.int .i64 e.kind, .int .i64 e.op, .int .u32 e.num, .str e.name, .isl 5 (e.kids.map Ex.row)]]))) bx=some (.rows 5 [[.int .i64 e.kind, .int .i64 e.op, .int .u32 e.num, .str e.name, .isl 5 (e.kids.map Ex.row)]]):=bO _ _ _;have hkx:keeps (fun _=>False) H (upd (upd H bx (some (.rows 5 [[.int .i64 0, .int .i64 0, .int .u32 0, .str [], .nsl]]))) bx (some (.rows 5 [[.int .i64 e.kind, .int .i64 e.op, .int .u32 e.num, .str e.name, .isl 5 (e.kids.map Ex.row)]]))):=((keeps.refl _ H).new hbx _).new hbx _;generalize(upd (upd H bx (some (.rows 5 [[.int .i64 0, .int .i64 0, .int .u32 0, .str [], .nsl]]))) bx (some (.rows 5 [[.int .i64 e.kind, .int .i64 e.op, .int .u32 e.num, .str e.name, .isl 5 (e.kids.map Ex.row)]])))=H1 at hx hkx⊢;have hD1:=V.ext _ _ _ hDk hkx;have hk1:keeps V.M H0 H1:=hkp.trans (hkx.mono fun _ h=>h.elim);have j3:=hkx _ _ (fun h=>h) j3;have j5:=hkx _ _ (fun h=>h) j5;refine cA (fun fr H=>fr 1= .ptr 1 b3 0 0∧fr 2= .ptr 1 b5 0 0∧fr 6= .isl 5 (l.map Ex.row)∧fr 7= .int .i64 l.length∧fr 8= .int .i64 k∧fr 5= .ptr 5 bx 0 0∧H bx=some (.rows 5 [[.int .i64 e.kind, .int .i64 e.op, .int .u32 e.num, .str e.name, .isl 5 (e.kids.map Ex.row)]])∧V.D ((dG (l.take k)++jL e).foldl V.step s) H∧keeps V.M H0 H) (fun K z=>?_) ?_
   ·refine aB fun K z=>?_;refine aA rfl ?_;simp only[RR,seval]
    simp only[hx,RR,seval];apply z;clear z;refine aI ?_;refine aB fun K z=>?_;refine aA rfl ?_;simp only[RR,seval];apply z;clear z;by_cases k1:e.kind=2
    ·refine aF true (congrArg AV.bool (bX k1)) (fun _=>?_) (fun hc=>by cases hc)
     refine aA rfl ?_;simp only[f3,j3,hx,RR,seval];refine dZ (V.spec ((dG (l.take k)).foldl V.step s) H1 ⟨e.name,1,0⟩ (by simp) hD1) (fB.refl _) (fun _=>trivial) fun v H' ⟨hv,hD',hkp'⟩=>?_;subst hv;simp only[aS,aT,RR,seval];refine z _ _ ⟨f3,f5,fS,fL,hik,rfl,hkp' _ _ hxM hx, ?_,hk1.trans hkp'⟩;rw[show jL e=[⟨e.name,1,0⟩]by simp [jL,k1],List.foldl_append];exact hD'
    refine aF false (congrArg AV.bool (bF k1)) (fun hc=>by cases hc) (fun _=>?_);refine aB fun K z=>?_;refine aA rfl ?_;simp only[RR,seval];apply z;clear z;by_cases k3:e.kind=3
    ·refine aF true (congrArg AV.bool (bX k3)) (fun _=>?_) (fun hc=>by cases hc)
     refine aA rfl ?_;simp only[f3,j3,hx,RR,seval];refine dZ (V.spec ((dG (l.take k)).foldl V.step s) H1 ⟨e.name,3,0⟩ (by simp) hD1) (fB.refl _) (fun _=>trivial) fun v H' ⟨hv,hD',hkp'⟩=>?_;subst hv;simp only[aS,aT,RR,seval];refine z _ _ ⟨f3,f5,fS,fL,hik,rfl,hkp' _ _ hxM hx, ?_,hk1.trans hkp'⟩;rw[show jL e=[⟨e.name,3,0⟩]by simp [jL,k3],List.foldl_append];exact hD'
    refine aF false (congrArg AV.bool (bF k3)) (fun hc=>by cases hc) (fun _=>?_);refine aB fun K z=>?_;refine aA rfl ?_;simp only[RR,seval];apply z;clear z;by_cases k4:e.kind=4
    ·refine aF true (congrArg AV.bool (bX k4)) (fun _=>?_) (fun hc=>by cases hc)
     refine aA rfl ?_;simp only[f3,j3,hx,aD,RR,seval];refine dZ (V.spec ((dG (l.take k)).foldl V.step s) H1 ⟨e.name,4,e.kids.length⟩ (by simp) hD1) (fB.refl _) (fun _=>trivial) fun v H' ⟨hv,hD',hkp'⟩=>?_;subst hv;simp only[aS,aT,RR,seval];refine z _ _ ⟨f3,f5,fS,fL,hik,rfl,hkp' _ _ hxM hx, ?_,hk1.trans hkp'⟩;rw[show jL e=[⟨e.name,4,e.kids.length⟩]by simp [jL,k4],List.foldl_append];exact hD'
    refine aF false (congrArg AV.bool (bF k4)) (fun hc=>by cases hc) (fun _=>?_);refine aM ?_;simp only[aS,aT];refine z _ _ ⟨f3,f5,fS,fL,hik,rfl,hx, ?_,hk1⟩;rw[show jL e=[]by simp [jL,k1,k3,k4],List.append_nil];exact hD1
   rintro fr H2 ⟨f3,f5,fS,fL,hik,fx,hx,hD2,hk2⟩;have j3:=hk2 _ _ hm3 i3;have j5:=hk2 _ _ hm5 i5;refine aA rfl ?_;simp only[f5,fx,hx,j5,RR,seval];refine dZ (ih _ (by omega) e.kids rfl hoke.kids _ H2 j3 j5 hD2) (fB.refl _) (fun _=>trivial) fun v H' ⟨hv,hD',hkp'⟩=>?_;subst hv;simp only[aS,aT,RR,seval];refine aA rfl ?_;simp only[RR,seval];simp only[hik,aS,RR,seval];rw[aR _ (by omega)];refine hK2 (l.length-(k+1)) _ _ (by omega) ⟨k+1,rfl,by omega,rfl,f3,f5,fS,fL,by rw[htk,←List.append_assoc,List.foldl_append];exact hD',hk2.trans hkp'⟩
  refine bH ?_;simp only[aS,aT,reduceIte];have hknk:k=l.length:=by have:=aE hc;omega
  clear hc;subst hknk;rw[List.take_length]at hDk;simp only[aX,aN,bI];exact aW.whole ⟨rfl,hDk,hkp⟩
set_option maxHeartbeats 4000000 in
theorem Hk {σ:Type} {g:FuncId} {caps:List AV} (V:H7 σ g caps) (b3 b5 b4:Nat) (hm3: ¬V.M b3) (hm5: ¬V.M b5) (hm4: ¬V.M b4) (n:Nat): ∀l:List Sm,gA l=n→Af l→ ∀(s:σ) (H:Hp),H b3=some (.rows 1 [[.fn (.func g) [] caps]])→H b5=some (.rows 1 [[.fn (.func 121) [] [.ptr 1 b3 0 0, .ptr 1 b5 0 0]]])→H b4=some (.rows 1 [[.fn (.func 122) [] [.ptr 1 b3 0 0, .ptr 1 b5 0 0, .ptr 1 b4 0 0]]])→V.D s H→
  gK cN 122 [.isl 5 (l.map Sm.row), .ptr 1 b3 0 0, .ptr 1 b5 0 0, .ptr 1 b4 0 0] H (fun ae H'=> ∃v,ae= .ret v∧(v= .tup []∧V.D ((cT l).foldl V.step s) H'∧keeps V.M H H')):=by
 induction n using Nat.strongRecOn with
 |_ n ih=>
  intro l hn hok s H0 i3 i5 i4 hD;have hfit:l.length≤9223372036854775807:=hok.fit;refine bD 52 [] Tryz.func122 rfl rfl rfl rfl ?_;refine aB fun K z=>?_;refine aA rfl ?_;simp only[RR,seval];simp only[aD,seval];apply z;clear z;refine aI ?_;refine dE (fun mm fr H=> ∃k:Nat,mm=l.length-k∧k≤l.length∧fr 9= .int .i64 k∧fr 1= .ptr 1 b3 0 0∧fr 2= .ptr 1 b5 0 0∧fr 3= .ptr 1 b4 0 0∧fr 7= .isl 5 (l.map Sm.row)∧fr 8= .int .i64 l.length∧V.D ((cT (l.take k)).foldl V.step s) H∧keeps V.M H0 H) (l.length) ⟨0,rfl,Nat.zero_le _,rfl,rfl,rfl,rfl,rfl,rfl,by simpa [cT]using hD,keeps.refl _ _⟩ ?_;rintro mm fr H ⟨k,rfl,hkk,hik,f3,f5,f4p,fS,fL,hDk,hkp⟩ K2 hK2;refine aB fun K z=>?_;refine aA rfl ?_;simp only[RR,seval];simp only[hik,fL,RR,seval];apply z;clear z;refine aH ?_;refine aF _ rfl (fun hc=>?_) (fun hc=>?_)
  ·have hltk:k<l.length:=by have:=aC hc;omega
   clear hc;refine aM ?_;simp only[aS];refine aH ?_;refine aI ?_;have hg:=Fi (aG hltk);have hmem:=bJ hltk;have hoke:=hok.all _ hmem;have hsz:=gY hmem;have htk:=Hn hltk;generalize l[k]=e at hg htk hoke hsz;have hse:=e.sz_eq;have j3:=hkp _ _ hm3 i3;have j5:=hkp _ _ hm5 i5;have j4:=hkp _ _ hm4 i4;refine aB fun K z=>?_;refine aA rfl ?_;simp only[RR,seval];simp only[hik,fS,hg,RR,seval];refine aO fun bx hbx=>?_;simp only[RR,seval];apply z;clear z;have hxM: ¬V.M bx:=fun hm=>V.old _ _ hDk bx hm hbx;have hx:(upd (upd H bx (some (.rows 5 [[.int .i64 0, .str [], .nsl, .nsl, .nsl]]))) bx (some (.rows 5 [[.int .i64 e.kind, .str e.name, .isl 5 (e.es.map Ex.row), .isl 5 (e.thn.map Sm.row), .isl 5 (e.els.map Sm.row)]]))) bx=some (.rows 5 [[.int .i64 e.kind, .str e.name, .isl 5 (e.es.map Ex.row), .isl 5 (e.thn.map Sm.row), .isl 5 (e.els.map Sm.row)]]):=bO _ _ _;have hkx:keeps (fun _=>False) H (upd (upd H bx (some (.rows 5 [[.int .i64 0, .str [], .nsl, .nsl, .nsl]]))) bx (some (.rows 5 [[.int .i64 e.kind, .str e.name, .isl 5 (e.es.map Ex.row), .isl 5 (e.thn.map Sm.row), .isl 5 (e.els.map Sm.row)]]))):=((keeps.refl _ H).new hbx _).new hbx _;generalize(upd (upd H bx (some (.rows 5 [[.int .i64 0, .str [], .nsl, .nsl, .nsl]]))) bx (some (.rows 5 [[.int .i64 e.kind, .str e.name, .isl 5 (e.es.map Ex.row), .isl 5 (e.thn.map Sm.row), .isl 5 (e.els.map Sm.row)]])))=H1 at hx hkx⊢;have hD1:=V.ext _ _ _ hDk hkx;have hk1:keeps V.M H0 H1:=hkp.trans (hkx.mono fun _ h=>h.elim);have j3:=hkx _ _ (fun h=>h) j3;have j5:=hkx _ _ (fun h=>h) j5;have j4:=hkx _ _ (fun h=>h) j4;refine cA (fun fr H=>fr 1= .ptr 1 b3 0 0∧fr 2= .ptr 1 b5 0 0∧fr 3= .ptr 1 b4 0 0∧fr 7= .isl 5 (l.map Sm.row)∧fr 8= .int .i64 l.length∧fr 9= .int .i64 k∧fr 6= .ptr 5 bx 0 0∧H bx=some (.rows 5 [[.int .i64 e.kind, .str e.name, .isl 5 (e.es.map Ex.row), .isl 5 (e.thn.map Sm.row), .isl 5 (e.els.map Sm.row)]])∧V.D ((cT (l.take k)++hJ e).foldl V.step s) H∧keeps V.M H0 H) (fun K z=>?_) ?_
   ·refine aB fun K z=>?_;refine aA rfl ?_;simp only[RR,seval]
    simp only[hx,RR,seval];apply z;clear z;refine aI ?_;refine aB fun K z=>?_;refine aA rfl ?_;simp only[RR,seval];apply z;clear z;by_cases k1:e.kind=1
    ·refine aF true (congrArg AV.bool (bX k1)) (fun _=>?_) (fun hc=>by cases hc)
     refine aA rfl ?_;simp only[f3,j3,hx,RR,seval];refine dZ (V.spec ((cT (l.take k)).foldl V.step s) H1 ⟨e.name,1,0⟩ (by simp) hD1) (fB.refl _) (fun _=>trivial) fun v H' ⟨hv,hD',hkp'⟩=>?_;subst hv;simp only[aS,aT,RR,seval];refine z _ _ ⟨f3,f5,f4p,fS,fL,hik,rfl,hkp' _ _ hxM hx, ?_,hk1.trans hkp'⟩;rw[show hJ e=[⟨e.name,1,0⟩]by simp [hJ,k1],List.foldl_append];exact hD'
    refine aF false (congrArg AV.bool (bF k1)) (fun hc=>by cases hc) (fun _=>?_);refine aB fun K z=>?_;refine aA rfl ?_;simp only[RR,seval];apply z;clear z;by_cases k3:e.kind=2
    ·refine aF true (congrArg AV.bool (bX k3)) (fun _=>?_) (fun hc=>by cases hc)
     refine aA rfl ?_;simp only[f3,j3,hx,RR,seval];refine dZ (V.spec ((cT (l.take k)).foldl V.step s) H1 ⟨e.name,3,0⟩ (by simp) hD1) (fB.refl _) (fun _=>trivial) fun v H' ⟨hv,hD',hkp'⟩=>?_;subst hv;simp only[aS,aT,RR,seval];refine z _ _ ⟨f3,f5,f4p,fS,fL,hik,rfl,hkp' _ _ hxM hx, ?_,hk1.trans hkp'⟩;rw[show hJ e=[⟨e.name,3,0⟩]by simp [hJ,k3],List.foldl_append];exact hD'
    refine aF false (congrArg AV.bool (bF k3)) (fun hc=>by cases hc) (fun _=>?_);refine aB fun K z=>?_;refine aA rfl ?_;simp only[RR,seval];apply z;clear z;by_cases k4:e.kind=6
    ·refine aF true (congrArg AV.bool (bX k4)) (fun _=>?_) (fun hc=>by cases hc)
     refine aA rfl ?_;simp only[f3,j3,hx,aD,RR,seval];refine dZ (V.spec ((cT (l.take k)).foldl V.step s) H1 ⟨e.name,4,e.es.length⟩ (by simp) hD1) (fB.refl _) (fun _=>trivial) fun v H' ⟨hv,hD',hkp'⟩=>?_;subst hv;simp only[aS,aT,RR,seval];refine z _ _ ⟨f3,f5,f4p,fS,fL,hik,rfl,hkp' _ _ hxM hx, ?_,hk1.trans hkp'⟩;rw[show hJ e=[⟨e.name,4,e.es.length⟩]by simp [hJ,k4],List.foldl_append];exact hD'
    refine aF false (congrArg AV.bool (bF k4)) (fun hc=>by cases hc) (fun _=>?_);refine aM ?_;simp only[aS,aT];refine z _ _ ⟨f3,f5,f4p,fS,fL,hik,rfl,hx, ?_,hk1⟩;rw[show hJ e=[]by simp [hJ,k1,k3,k4],List.append_nil];exact hD1
   rintro fr H2 ⟨f3,f5,f4p,fS,fL,hik,fx,hx,hD2,hk2⟩;have j3:=hk2 _ _ hm3 i3;have j5:=hk2 _ _ hm5 i5;have j4:=hk2 _ _ hm4 i4;refine aB fun K z=>?_;refine aA rfl ?_;simp only[RR,seval];simp only[f5,fx,hx,j5,RR,seval];refine dZ (Hl V b3 b5 hm3 hm5 _ e.es rfl hoke.es _ H2 j3 j5 hD2) (fB.refl _) (fun _=>trivial) fun v H3 ⟨hv,hD3,hkp3⟩=>?_;subst hv;simp only[RR,seval];apply z;clear z;have hx:=hkp3 _ _ hxM hx;have j3:=hkp3 _ _ hm3 j3;have j5:=hkp3 _ _ hm5 j5;have j4:=hkp3 _ _ hm4 j4;refine aB fun K z=>?_;refine aA rfl ?_;simp only[RR,seval];simp only[f4p,fx,hx,j4,RR,seval];refine dZ (ih _ (by omega) e.thn rfl hoke.thn _ H3 j3 j5 j4 hD3) (fB.refl _) (fun _=>trivial) fun v H4 ⟨hv,hD4,hkp4⟩=>?_;subst hv;simp only[RR,seval];apply z;clear z;have hx:=hkp4 _ _ hxM hx;have j3:=hkp4 _ _ hm3 j3;have j5:=hkp4 _ _ hm5 j5;have j4:=hkp4 _ _ hm4 j4;refine aA rfl ?_;simp only[f4p,fx,hx,j4,RR,seval];refine dZ (ih _ (by omega) e.els rfl hoke.els _ H4 j3 j5 j4 hD4) (fB.refl _) (fun _=>trivial) fun v H' ⟨hv,hD',hkp'⟩=>?_;subst hv;simp only[aS,aT,RR,seval];refine aA rfl ?_;simp only[RR,seval];simp only[hik,aS,RR,seval];rw[aR _ (by omega)];refine hK2 (l.length-(k+1)) _ _ (by omega) ⟨k+1,rfl,by omega,rfl,f3,f5,f4p,fS,fL,by rw[htk,←List.append_assoc,←List.append_assoc,←List.append_assoc,List.foldl_append,List.foldl_append,List.foldl_append];exact hD',((hk2.trans hkp3).trans hkp4).trans hkp'⟩
  refine bH ?_;simp only[aS,aT,reduceIte];have hknk:k=l.length:=by have:=aE hc;omega
  clear hc;subst hknk;rw[List.take_length]at hDk;simp only[aX,aN,bI];exact aW.whole ⟨rfl,hDk,hkp⟩
end Go.Proofs.YtnfbbjhdflhmjaaGreatDoor
namespace Go.Proofs.YtnfbbjhdflhmjaaGreatDoor
open Go.Al
theorem Mc {σ:Type} {g:FuncId} {caps:List AV} (V:H7 σ g caps) (f:Fu) (hf:f.ok) (s:σ) (H:Hp) (hD:V.D s H):
  gK cN 85 [.agg f.row, .fn (.func g) [] caps] H (fun ae H'=> ∃v,ae= .ret v∧(v= .tup []∧V.D ((cT f.body).foldl V.step s) H'∧keeps V.M H H')):=by
 refine bD 12 [] Tryz.func85 rfl rfl rfl rfl ?_;simp only[Fu.row];refine cA (fun fr H'=> ∃b2 b3,fr 2= .ptr 5 b2 0 0∧fr 3= .ptr 1 b3 0 0∧H' b2=some (.rows 5 [[.str f.name, .isl 1 (f.params.map bK), .isl 1 (f.locs.map bK), .bool f.word, .isl 5 (f.body.map Sm.row)]])∧H' b3=some (.rows 1 [[.fn (.func g) [] caps]])∧H b2=none∧H b3=none∧keeps (fun _=>False) H H'∧V.D s H') (fun K z=>?_) ?_
 ·refine aA rfl ?_;simp only[RR,seval]
  refine aO fun b2 hb2=>?_;simp only[RR,seval];refine aO fun b3 hb3=>?_;simp only[RR,seval];have hne:b2≠b3:=fun e=>by rw[←e,bO]at hb3;cases hb3
  have hne':b3≠b2:=fun e=>hne e.symm;have h3:H b3=none:=by simpa only[upd,if_neg hne']using hb3
  have hk:keeps (fun _=>False) H (upd (upd H b2 (some (.rows 5 [[.str f.name, .isl 1 (f.params.map bK), .isl 1 (f.locs.map bK), .bool f.word, .isl 5 (f.body.map Sm.row)]]))) b3 (some (.rows 1 [[.fn (.func g) [] caps]]))):=((keeps.refl _ H).new hb2 _).new h3 _;exact z _ _ ⟨b2,b3,rfl,rfl,by simp [upd,hne],bO _ _ _,hb2,h3,hk,V.ext _ _ _ hD hk⟩
 rintro fr H1 ⟨b2,b3,f2,f3,h2,h3,n2,n3,hk,hD1⟩;have hM: ∀b,V.M b→H b≠none:=V.old s H hD;refine cA (fun fr H'=> ∃b4,fr 2= .ptr 5 b2 0 0∧fr 3= .ptr 1 b3 0 0∧fr 4= .ptr 1 b4 0 0∧H' b4=some (.rows 1 [[.nfn]])∧H b4=none∧H1 b4=none∧keeps (fun _=>False) H1 H') (fun K z=>?_) ?_
 ·refine aA rfl ?_;simp only[RR,seval]
  refine aO fun b4 hb4=>?_;simp only[RR,seval]
  have h4:H b4=none:=by
   cases e:H b4 with
   |none=>rfl
   |some o=>have:=hk _ _ (fun h=>h) e;rw[hb4]at this;cases this
  exact z _ _ ⟨b4,f2,f3,rfl,bO _ _ _,h4,hb4,(keeps.refl _ H1).new hb4 _⟩
 rintro fr H2 ⟨b4,f2,f3,f4,h4,n4,n41,hk2⟩;refine cA (fun fr H'=> ∃b5,fr 2= .ptr 5 b2 0 0∧fr 3= .ptr 1 b3 0 0∧fr 4= .ptr 1 b4 0 0∧fr 5= .ptr 1 b5 0 0∧H' b5=some (.rows 1 [[.nfn]])∧H b5=none∧H1 b5=none∧H2 b5=none∧keeps (fun _=>False) H2 H') (fun K z=>?_) ?_
 ·refine aA rfl ?_;simp only[RR,seval]
  refine aO fun b5 hb5=>?_;simp only[RR,seval]
  have h5:H1 b5=none:=by
   cases e:H1 b5 with
   |none=>rfl
   |some o=>have:=hk2 _ _ (fun h=>h) e;rw[hb5]at this;cases this
  have h50:H b5=none:=by
   cases e:H b5 with
   |none=>rfl
   |some o=>have:=hk _ _ (fun h=>h) e;rw[h5]at this;cases this
  exact z _ _ ⟨b5,f2,f3,f4,rfl,bO _ _ _,h50,h5,hb5,(keeps.refl _ H2).new hb5 _⟩
 rintro fr H3 ⟨b5,f2,f3,f4,f5,h5,n5,n51,n52,hk3⟩;have m2:=hk3 _ _ (fun h=>h) (hk2 _ _ (fun h=>h) h2);have m3:=hk3 _ _ (fun h=>h) (hk2 _ _ (fun h=>h) h3);have m4:=hk3 _ _ (fun h=>h) h4;have d25:b2≠b5:=fun e=>by rw[e,n51]at h2;cases h2
 have d24:b2≠b4:=fun e=>by rw[e,n41]at h2;cases h2
 have d35:b3≠b5:=fun e=>by rw[e,n51]at h3;cases h3
 have d34:b3≠b4:=fun e=>by rw[e,n41]at h3;cases h3
 have d45:b4≠b5:=fun e=>by rw[e,n52]at h4;cases h4
 have d54:b5≠b4:=fun e=>d45 e.symm;refine aB fun K z=>?_;refine aA rfl ?_;simp only[RR,seval];simp only[f3,f5,h5,RR,seval];apply z;clear z;have m4':(upd H3 b5 (some (.rows 1 [[.fn (.func 121) [] [.ptr 1 b3 0 0, .ptr 1 b5 0 0]]]))) b4=some (.rows 1 [[.nfn]]):=by simp only[upd,if_neg d45];exact m4
 refine aB fun K z=>?_;refine aA rfl ?_;simp only[RR,seval];simp only[f3,f4,f5,d45,m4,RR,seval];apply z;clear z;have j2:(upd (upd H3 b5 (some (.rows 1 [[.fn (.func 121) [] [.ptr 1 b3 0 0, .ptr 1 b5 0 0]]]))) b4 (some (.rows 1 [[.fn (.func 122) [] [.ptr 1 b3 0 0, .ptr 1 b5 0 0, .ptr 1 b4 0 0]]]))) b2=some (.rows 5 [[.str f.name, .isl 1 (f.params.map bK), .isl 1 (f.locs.map bK), .bool f.word, .isl 5 (f.body.map Sm.row)]]):=by simp only[upd,if_neg d25,if_neg d24];exact m2
 have j3:(upd (upd H3 b5 (some (.rows 1 [[.fn (.func 121) [] [.ptr 1 b3 0 0, .ptr 1 b5 0 0]]]))) b4 (some (.rows 1 [[.fn (.func 122) [] [.ptr 1 b3 0 0, .ptr 1 b5 0 0, .ptr 1 b4 0 0]]]))) b3=some (.rows 1 [[.fn (.func g) [] caps]]):=by simp only[upd,if_neg d35,if_neg d34];exact m3
 have j4:(upd (upd H3 b5 (some (.rows 1 [[.fn (.func 121) [] [.ptr 1 b3 0 0, .ptr 1 b5 0 0]]]))) b4 (some (.rows 1 [[.fn (.func 122) [] [.ptr 1 b3 0 0, .ptr 1 b5 0 0, .ptr 1 b4 0 0]]]))) b4=some (.rows 1 [[.fn (.func 122) [] [.ptr 1 b3 0 0, .ptr 1 b5 0 0, .ptr 1 b4 0 0]]]):=bO _ _ _;have j5:(upd (upd H3 b5 (some (.rows 1 [[.fn (.func 121) [] [.ptr 1 b3 0 0, .ptr 1 b5 0 0]]]))) b4 (some (.rows 1 [[.fn (.func 122) [] [.ptr 1 b3 0 0, .ptr 1 b5 0 0, .ptr 1 b4 0 0]]]))) b5=some (.rows 1 [[.fn (.func 121) [] [.ptr 1 b3 0 0, .ptr 1 b5 0 0]]]):=by simp only[upd,if_neg d54,if_true]
 have hkk:keeps (fun _=>False) H (upd (upd H3 b5 (some (.rows 1 [[.fn (.func 121) [] [.ptr 1 b3 0 0, .ptr 1 b5 0 0]]]))) b4 (some (.rows 1 [[.fn (.func 122) [] [.ptr 1 b3 0 0, .ptr 1 b5 0 0, .ptr 1 b4 0 0]]]))):=(((hk.trans hk2).trans hk3).new n5 _).new n4 _;generalize(upd (upd H3 b5 (some (.rows 1 [[.fn (.func 121) [] [.ptr 1 b3 0 0, .ptr 1 b5 0 0]]]))) b4 (some (.rows 1 [[.fn (.func 122) [] [.ptr 1 b3 0 0, .ptr 1 b5 0 0, .ptr 1 b4 0 0]]])))=H4 at j2 j3 j4 j5 hkk⊢;have hD4:=V.ext _ _ _ hD hkk;refine aA rfl ?_;simp only[f2,f4,j2,j4,RR,seval];refine dZ (Hk V b3 b5 b4 (fun h=>hM _ h n3) (fun h=>hM _ h n5) (fun h=>hM _ h n4) _ f.body rfl hf.body s H4 j3 j5 j4 hD4) (fB.refl _) (fun _=>trivial) fun v H' ⟨hv,hD',hkp⟩=>?_;subst hv;simp only[aX,aN,bI,RR,seval];exact aW.whole ⟨rfl,hD',(hkk.mono fun _ h=>h.elim).trans hkp⟩
end Go.Proofs.YtnfbbjhdflhmjaaGreatDoor
namespace Go.Al
theorem oB (s:cR): ∀a b:List Th,fJ (a++b) s=match fJ a s with |some r=>some r|none=>fJ b s
 |[],b=>rfl
 |t::a,b=>by
  simp only[List.cons_append,fJ];by_cases h:s=t.name
  ·simp only[h,if_true]
  simp only[h,if_false];exact oB s a b
theorem fV (s:cR): ∀a b:List cR,cL (a++b) s=match cL a s with |some n=>some n|none=>(cL b s).map (· +a.length)
 |[],b=>by simp [cL]
 |x::a,b=>by
  simp only[List.cons_append,cL];by_cases h:x=s
  ·simp only[h,if_true]
  simp only[h,if_false];rw[fV s a b]
  cases cL a s with
  |some n=>rfl
  |none=>cases cL b s<;>simp [Nat.add_assoc]
theorem nE (k:Int) (s:cR): ∀(l:List cR) (i:Nat),fJ (jG k i l) s=(cL l s).map fun n=>(k,((i+n:Nat):Int))
 |[],i=>rfl
 |x::l,i=>by
  simp only[jG,fJ,cL];by_cases h:x=s
  ·subst h;simp
  have h': ¬s=x:=fun e=>h e.symm;simp only[if_neg h,if_neg h',nE k s l (i+1),Option.map_map];congr 1;funext n;simp only[Function.comp];rw[show i+1+n=i+(n+1)by omega]
theorem wM (s:cR): ∀l:List Th,(fJ l s).isSome=(l.map Th.name).contains s
 |[]=>rfl
 |t::l=>by
  simp only[fJ,List.map_cons,List.contains_cons];by_cases h:s=t.name
  ·subst h;simp
  have :(s==t.name)=false:=by simp [h]
  rw[if_neg h,this,Bool.false_or];exact wM s l
theorem vU (s:cR) (l:List Th):fJ (lT l).1 s=fJ l s:=by
 suffices h: ∀n (l:List Th),l.length=n→ ∀s,fJ (lT l).1 s=fJ l s from h _ l rfl s
 intro n
 induction n with
 |zero=>intro l hl s;have:=List.eq_nil_of_length_eq_zero hl;subst this;rfl
 |succ n ih=>
  intro l hl s;have hne:l≠[]:=fun e=>by subst e;simp at hl
  obtain⟨l',t,rfl⟩: ∃l' t,l=l'++[t]:=⟨l.dropLast,l.getLast hne,(List.dropLast_concat_getLast hne).symm⟩;have hl':l'.length=n:=by simpa using hl
  rw[nV,tH];simp only[yJ,ih l' hl']
  cases h1:fJ l' t.name with
  |some q=>
   simp only[Option.isSome_some,if_true,ih l' hl']
   cases h2:fJ l' s with
   |some r=>rfl
   |none=>
    have : ¬s=t.name:=fun e=>by rw[e,h1]at h2;cases h2
    simp only[if_neg this]
  |none=>
   simp only[Option.isSome_none,Bool.false_eq_true,if_false];rw[tH,ih l' hl']
theorem zR (l:List Th):(lT l).2=decide (l.map Th.name).Nodup:=by
 suffices h: ∀n (l:List Th),l.length=n→(lT l).2=decide (l.map Th.name).Nodup from h _ l rfl
 intro n
 induction n with
 |zero=>intro l hl;have:=List.eq_nil_of_length_eq_zero hl;subst this;rfl
 |succ n ih=>
  intro l hl;have hne:l≠[]:=fun e=>by subst e;simp at hl
  obtain⟨l',t,rfl⟩: ∃l' t,l=l'++[t]:=⟨l.dropLast,l.getLast hne,(List.dropLast_concat_getLast hne).symm⟩;have hl':l'.length=n:=by simpa using hl
  have hs:=wM t.name l';rw[nV];simp only[Cs,vU,ih l' hl',hs,List.map_append,List.map_cons,List.map_nil];rw[Bool.eq_iff_iff];simp only[aP,List.nodup_append,List.nodup_cons,List.not_mem_nil,not_false_eq_true,List.nodup_nil,and_true,true_and,List.mem_singleton,List.contains_iff_mem];constructor
  ·intro h
   split at h
   ·cases h
   rename_i hn;refine⟨aC h,fun a ha b hb e=>?_⟩;subst hb;subst e;exact hn ha
  rintro⟨h1,h2⟩;rw[if_neg (fun hm=>h2 _ hm _ rfl rfl)];exact bX h1
theorem sX (k:Int): ∀(l:List cR) (i:Nat),(jG k i l).map Th.name=l
 |[],_=>rfl
 |s::l,i=>by simp only[jG,List.map_cons,sX k l (i+1)]
theorem Fh (p:Pg):(kA p).map Th.name=fD p:=by simp only[kA,fD,List.map_append,sX]
theorem Ii (f:Fu):(wQ f).map Th.name=dT f:=by simp only[wQ,dT,sX]
theorem Mx (p:Pg) (s:cR):(match fJ (kA p) s with |some r=>r|none=>(0, -1))=jI p s:=by
 unfold kA jI fD;rw[oB,oB,nE,nE,nE,fV,fV]
 cases h1:cL p.vars s with
 |some n=>
  have:=(eG _ _ _ h1).1;simp only[Option.map_some,Nat.zero_add,if_pos this]
 |none=>
  simp only[Option.map_none]
  cases h2:cL (p.arrs.map Ar.name) s with
  |some n=>
   have:=(eG _ _ _ h2).1;rw[aD]at this;simp only[Option.map_some,Nat.zero_add];rw[if_neg (by omega),if_pos (by omega),Nat.add_sub_cancel]
  |none=>
   simp only[Option.map_none]
   cases h3:cL (p.funs.map Fu.name) s with
   |some n=>
    simp only[Option.map_some,Nat.zero_add,bU,aD];rw[if_neg (by omega),if_neg (by omega)];congr 2;omega
   |none=>rfl
def zQ (p:Pg) (i:Nat) (a:Bool×Bool) (u:Us):Bool×Bool:=(a.1&&dN p i u,a.2&&(!dN p i u||fH p i u))
theorem Xq (p:Pg) (i:Nat): ∀(l:List Us) (a b:Bool),l.foldl (zQ p i) (a,b)=(a&&l.all (dN p i),b&&l.all (fun u=> !dN p i u||fH p i u))
 |[],a,b=>by simp
 |u::l,a,b=>by
  simp only[List.foldl_cons,zQ,Xq p i l,List.all_cons,Bool.and_assoc]
end Go.Al
namespace Go.Proofs.YtnfbbjhdflhmjaaGreatDoor
open Go.Al
theorem Nm (p:Pg) (i:Nat) (f:Fu) (hf:p.funs[i]?=some f) (s:cR):oP (lT (kA p)).1 (lT (wQ f)).1 s=cK p i s:=by
 unfold oP cK;rw[vU,vU,hf];simp only[Option.bind_some];rw[show fJ (wQ f) s=(cL (dT f) s).map fun n=>(1,((0+n:Nat):Int))from nE 1 s (dT f) 0]
 cases cL (dT f) s with
 |some n=>simp
 |none=>simp only[Option.map_none];exact Mx p s
end Go.Proofs.YtnfbbjhdflhmjaaGreatDoor
namespace Go.Proofs.YtnfbbjhdflhmjaaGreatDoor
open Go.Al
def kO (p:Pg) (i:Nat) (bn b5 b7 b1 b6 bo bi:Nat) (mo mi:List Th) (a:Bool×Bool) (H:Hp):Prop:=
 H bn=some (.rows 2 [[.mp bo, .mp bi]])∧H b5=some (.rows 1 [[.bool a.1]])∧H b7=some (.rows 1 [[.int .i64 i]])∧H b1=some (.rows 3 [p.row])∧H b6=some (.rows 1 [[.bool a.2]])∧
   H bo=some (.amap (mo.map xJ))∧H bi=some (.amap (mi.map xJ))
section
variable {p : Pg} {i bn b5 b7 b1 b6 bo bi : Nat} {mo mi : List Th} {a : Bool × Bool} {H : Hp}
theorem kO.ext (h:kO p i bn b5 b7 b1 b6 bo bi mo mi a H) {H':Hp} (hk:keeps (fun _=>False) H H'):kO p i bn b5 b7 b1 b6 bo bi mo mi a H':=by
 obtain⟨h1,h2,h3,h4,h5,h6,h7⟩:=h;exact⟨hk _ _ (fun h=>h) h1,hk _ _ (fun h=>h) h2,hk _ _ (fun h=>h) h3,hk _ _ (fun h=>h) h4,hk _ _ (fun h=>h) h5,hk _ _ (fun h=>h) h6,hk _ _ (fun h=>h) h7⟩
theorem kO.set5 (h:kO p i bn b5 b7 b1 b6 bo bi mo mi a H) (h56:b5≠b6) (x:Bool):kO p i bn b5 b7 b1 b6 bo bi mo mi (x,a.2) (upd H b5 (some (.rows 1 [[.bool x]]))):=by
 obtain⟨h1,h2,h3,h4,h5,h6,h7⟩:=h;have n1:bn≠b5:=fun e=>by rw[e,h2]at h1;simp at h1
 have n3:b7≠b5:=fun e=>by rw[e,h2]at h3;simp at h3
 have n4:b1≠b5:=fun e=>by rw[e,h2]at h4;simp at h4
 have n5:b6≠b5:=fun e=>h56 e.symm;have n6:bo≠b5:=fun e=>by rw[e,h2]at h6;simp at h6
 have n7:bi≠b5:=fun e=>by rw[e,h2]at h7;simp at h7
 simp only[kO,upd,n1,n3,n4,n5,n6,n7,if_true,if_false];exact⟨h1,trivial,h3,h4,h5,h6,h7⟩
theorem kO.set6 (h:kO p i bn b5 b7 b1 b6 bo bi mo mi a H) (h56:b5≠b6) (x:Bool):kO p i bn b5 b7 b1 b6 bo bi mo mi (a.1,x) (upd H b6 (some (.rows 1 [[.bool x]]))):=by
 obtain⟨h1,h2,h3,h4,h5,h6,h7⟩:=h;have n1:bn≠b6:=fun e=>by rw[e,h5]at h1;simp at h1
 have n3:b7≠b6:=fun e=>by rw[e,h5]at h3;simp at h3
 have n4:b1≠b6:=fun e=>by rw[e,h5]at h4;simp at h4
 have n6:bo≠b6:=fun e=>by rw[e,h5]at h6;simp at h6
 have n7:bi≠b6:=fun e=>by rw[e,h5]at h7;simp at h7
 simp only[kO,upd,n1,n3,n4,h56,n6,n7,if_true,if_false];exact⟨h1,h2,h3,h4,trivial,h6,h7⟩
end
set_option maxHeartbeats 4000000 in
theorem Vr (p:Pg) (hp:p.few) (i:Nat) (hi:i<p.funs.length) (bn b5 b7 b1 b6 bo bi:Nat) (mo mi:List Th) (h56:b5≠b6) (hF: ∀s,oP mo mi s=cK p i s)
  (a:Bool×Bool) (H:Hp) (u:Us) (hu:u.kind=1∨u.kind=3∨u.kind=4) (hD:kO p i bn b5 b7 b1 b6 bo bi mo mi a H):
  gK cN 86 [Yd u, .ptr 2 bn 0 0, .ptr 1 b5 0 0, .ptr 1 b7 0 0, .ptr 3 b1 0 0, .ptr 1 b6 0 0] H
   (fun ae H'=> ∃v,ae= .ret v∧(v= .tup []∧kO p i bn b5 b7 b1 b6 bo bi mo mi (zQ p i a u) H'∧keeps (fun b=>b=b5∨b=b6) H H')):=by
 have hfind:=fun H' h1 h2=>Sq mo mi bo bi u.name H' h1 h2;rw[hF]at hfind;have hok:dN p i u= !((decide (u.kind=1)&& !decide ((cK p i u.name).1=1)&& !decide ((cK p i u.name).1=2))||(decide (u.kind=3)&& !decide ((cK p i u.name).1=3))||(decide (u.kind=4)&&(!decide ((cK p i u.name).1=4)||decide ((i:Int)≤(cK p i u.name).2)))):=rfl;have hnu:fH p i u=(!decide (u.kind=4)||(match p.funs[(cK p i u.name).2.toNat]? with |some g=>decide ((g.params.length:Int)=u.num)|none=>false)):=rfl;have hcall:=Iz p i u.name;have hst:zQ p i a u=(a.1&&dN p i u,a.2&&(!dN p i u||fH p i u)):=rfl;rw[hst];generalize dN p i u=ok at hok⊢;generalize fH p i u=nu at hnu⊢;generalize cK p i u.name=r at *;obtain⟨un,uk,uu⟩:=u;simp only at hu hok hnu hfind;refine bD 57 [] Tryz.func86 rfl rfl rfl rfl ?_;simp only[Yd];refine cA (fun fr H'=> ∃bu,fr 1= .ptr 2 bn 0 0∧fr 2= .ptr 1 b5 0 0∧fr 3= .ptr 1 b7 0 0∧fr 4= .ptr 3 b1 0 0∧fr 5= .ptr 1 b6 0 0∧fr 6= .ptr 3 bu 0 0∧H' bu=some (.rows 3 [[.int .i64 (if uk=1 then 2 else uk), .str un, .int .i64 uu]])∧H bu=none∧keeps (fun _=>False) H H') (fun K z=>?_) ?_
 ·refine aA rfl ?_;simp only[RR,seval]
  refine aO fun bu hbu=>?_;simp only[RR,seval];exact z _ _ ⟨bu,rfl,rfl,rfl,rfl,rfl,rfl,bO _ _ _,hbu,(keeps.refl _ H).new hbu _⟩
 rintro fr H1 ⟨bu,f1,f2,f3,f4,f5,f6,hbu,hbn,hk⟩;have hD1:=hD.ext hk;refine cA (fun fr H'=> ∃bt,fr 2= .ptr 1 b5 0 0∧fr 3= .ptr 1 b7 0 0∧fr 4= .ptr 3 b1 0 0∧fr 5= .ptr 1 b6 0 0∧fr 6= .ptr 3 bu 0 0∧fr 7= .ptr 2 bt 0 0∧H' bt=some (.rows 2 [[.int .i64 r.1, .int .i64 r.2]])∧H' bu=some (.rows 3 [[.int .i64 (if uk=1 then 2 else uk), .str un, .int .i64 uu]])∧keeps (fun _=>False) H H') (fun K z=>?_) ?_
 ·obtain⟨d1,d2,d3,d4,d5,d6,d7⟩:=hD1
  refine aA rfl ?_;simp only[f1,f6,d1,hbu,RR,seval];refine dZ (hfind H1 d6 d7) (fB.refl _) (fun _=>trivial) fun v H2 ⟨hv,hk2⟩=>?_;subst hv;simp only[Hg,RR,seval];refine aO fun bt hbt=>?_;simp only[RR,seval];have hub:=hk2 _ _ (fun h=>h) hbu;have hne:bu≠bt:=fun e=>by rw[e,hbt]at hub;cases hub
  refine z _ _ ⟨bt,f2,f3,f4,f5,f6,rfl,bO _ _ _,by simp only[upd,if_neg hne];exact hub, ?_⟩;intro b' o' hm hb';have h9:=hk2 b' o' hm (hk b' o' hm hb');have :b'≠bt:=fun e=>by rw[e,hbt]at h9;cases h9
  simp only[upd,if_neg this];exact h9
 rintro fr H2 ⟨bt,f2,f3,f4,f5,f6,f7,hbt,hbu,hk2⟩;have hD2:=hD.ext hk2;have hD3:=hD2;obtain⟨d1,d2,d3,d4,d5,d6,d7⟩:=hD3;have hK5: ∀x:Bool,keeps (fun b=>b=b5∨b=b6) H (upd H2 b5 (some (.rows 1 [[.bool x]]))):=fun x=>(hk2.mono fun _ h=>h.elim).set (.inl rfl) _;have hK6: ∀x:Bool,keeps (fun b=>b=b5∨b=b6) H (upd H2 b6 (some (.rows 1 [[.bool x]]))):=fun x=>(hk2.mono fun _ h=>h.elim).set (.inr rfl) _;have hS5:=fun x=>hD2.set5 h56 x;have hS6:=fun x=>hD2.set6 h56 x;generalize hX:(a.1&&ok)=X;generalize hY:(a.2&&(!ok||nu))=Y
 have fin: ∀(x y:Bool) (H':Hp),X=x→Y=y→kO p i bn b5 b7 b1 b6 bo bi mo mi (x,y) H'→keeps (fun b=>b=b5∨b=b6) H H'→
   aW (fun ae H'=> ∃v,ae= .ret v∧(v= .tup []∧kO p i bn b5 b7 b1 b6 bo bi mo mi (X,Y) H'∧keeps (fun b=>b=b5∨b=b6) H H')) (.tup []) H':=fun x y H' e1 e2 h1 h2=>by
  subst e1;subst e2;exact aW.whole ⟨rfl,h1,h2⟩
 have same:kO p i bn b5 b7 b1 b6 bo bi mo mi (a.1,a.2) H2:=hD2;refine aB fun K z=>?_;refine aA rfl ?_;simp only[RR,seval];simp only[f6,hbu,RR,seval];apply z;clear z;refine aI ?_;rcases hu with hk1|hk1|hk1
 ·subst hk1
  simp only[decide_true,Bool.true_and,decide_false,Bool.false_and,Bool.or_false,Int.reduceEq,Bool.not_false,Bool.true_or]at hok hnu;have hyt:Y=a.2:=by rw[←hY,hnu];simp
  refine aB fun K z=>?_;refine aA rfl ?_;simp only[RR,seval]
  try simp only[if_true,RR,seval]
  apply z;clear z;refine aF true rfl (fun _=>?_) (fun hc=>by cases hc)
  cases ha:a.1 with
  |false=>
   rw[ha]at d2;refine aA rfl ?_;simp only[f2,d2,aX,aT,aN,bI,RR,seval];exact fin _ _ _ (by rw[←hX];simp [ha]) hyt (hS5 false) (hK5 false)
  |true=>
   rw[ha]at d2;by_cases r1:r.1=1
   ·have e1:decide (r.1=1)=true:=bX r1
    refine aA rfl ?_;simp only[f2,f7,d2,hbt,e1,aX,aT,aN,bI,RR,seval];exact fin _ _ _ (by rw[←hX,ha,hok,e1];rfl) hyt (hS5 true) (hK5 true)
   have e1:decide (r.1=1)=false:=bF r1;refine aA rfl ?_;simp only[f2,f7,d2,hbt,e1,aX,aT,aN,bI,RR,seval];exact fin _ _ _ (by rw[←hX,ha,hok,e1];simp) hyt (hS5 (decide (r.1=2))) (hK5 _)
 ·subst hk1
  simp only[decide_true,Bool.true_and,decide_false,Bool.false_and,Bool.or_false,Bool.false_or,Int.reduceEq,Bool.not_false,Bool.true_or]at hok hnu;have hyt:Y=a.2:=by rw[←hY,hnu];simp
  refine aB fun K z=>?_;refine aA rfl ?_;simp only[RR,seval];apply z;clear z;refine aF false rfl (fun hc=>by cases hc) (fun _=>?_);refine aB fun K z=>?_;refine aA rfl ?_;simp only[RR,seval];apply z;clear z;refine aF true rfl (fun _=>?_) (fun hc=>by cases hc)
  cases ha:a.1 with
  |false=>
   rw[ha]at d2;refine aA rfl ?_;simp only[f2,d2,aX,aT,aN,bI,RR,seval];exact fin _ _ _ (by rw[←hX];simp [ha]) hyt (hS5 false) (hK5 false)
  |true=>
   rw[ha]at d2;refine aA rfl ?_;simp only[f2,f7,d2,hbt,aX,aT,aN,bI,RR,seval];exact fin _ _ _ (by rw[←hX,ha,hok];simp) hyt (hS5 (decide (r.1=3))) (hK5 _)
 subst hk1;simp only[decide_true,Bool.true_and,decide_false,Bool.false_and,Bool.or_false,Bool.false_or,Int.reduceEq,Bool.not_true]at hok hnu;refine aB fun K z=>?_;refine aA rfl ?_;simp only[RR,seval];apply z;clear z;refine aF false rfl (fun hc=>by cases hc) (fun _=>?_);refine aB fun K z=>?_;refine aA rfl ?_;simp only[RR,seval];apply z;clear z;refine aF false rfl (fun hc=>by cases hc) (fun _=>?_);refine aB fun K z=>?_;refine aA rfl ?_;simp only[RR,seval];apply z;clear z;refine aF true rfl (fun _=>?_) (fun hc=>by cases hc);by_cases r4:r.1=4
 ·have e4:decide (r.1=4)=true:=bX r4
  by_cases ri:(i:Int)≤r.2
  ·have ei:decide ((i:Int)≤r.2)=true:=bX ri
   have hokf:ok=false:=by rw[hok,e4,ei];rfl
   refine aB fun K z=>?_;refine aA rfl ?_;simp only[RR,seval];simp only[f7,f3,hbt,d3,e4,ei,RR,seval];apply z;clear z;refine aF true rfl (fun _=>?_) (fun hc=>by cases hc);refine aA rfl ?_;simp only[f2,d2,aX,aT,aN,bI,RR,seval];exact fin _ _ _ (by rw[←hX,hokf,Bool.and_false]) (by rw[←hY,hokf];simp) (hS5 false) (hK5 _)
  have ei:decide ((i:Int)≤r.2)=false:=bF ri;have hokt:ok=true:=by rw[hok,e4,ei];rfl
  obtain⟨c1,c2⟩:=hcall r4;obtain⟨n,hn⟩:=Int.eq_ofNat_of_zero_le c1;have hnl:n<p.funs.length:=by omega
  have hgn:=pG (aG hnl);rw[hn,Int.toNat_natCast,aG hnl]at hnu;simp only at hnu;generalize p.funs[n]=g at hgn hnu;simp only[Pg.row]at d4;refine aB fun K z=>?_;refine aA rfl ?_;simp only[RR,seval];simp only[f7,f3,hbt,d3,e4,ei,RR,seval];apply z;clear z;refine aF false rfl (fun hc=>by cases hc) (fun _=>?_);refine aB fun K z=>?_;refine gO (fun _=>False) [(0,true),(1,true),(2,true),(3,true),(4,true),(5,true),(6,true),(7,true),(8,true),(9,true),(10,true)] cX (by kernel_rfl) rfl ?_;simp only[tS,f4,f6,f7,d4,hbt,hbu,hn,hgn,aD,RR,seval];apply z;clear z
  cases hnn:decide ((g.params.length:Int)=uu)with
  |true=>
   refine aF false (by simp [upd,ev]) (fun hc=>by cases hc) (fun _=>?_);refine aM ?_;simp only[aT,aX,aN,bI];exact fin _ _ _ (by rw[←hX,hokt,Bool.and_true]) (by rw[←hY,hnu,hnn];simp) same (hk2.mono fun _ h=>h.elim)
  |false=>
   refine aF true (by simp [upd,ev]) (fun _=>?_) (fun hc=>by cases hc);refine aA rfl ?_;simp only[f5,d5,aX,aT,aN,bI,RR,seval];exact fin _ _ _ (by rw[←hX,hokt,Bool.and_true]) (by rw[←hY,hokt,hnu,hnn];simp) (hS6 false) (hK6 _)
 have e4:decide (r.1=4)=false:=bF r4;have hokf:ok=false:=by rw[hok,e4];rfl
 refine aB fun K z=>?_;refine aA rfl ?_;simp only[RR,seval];simp only[f7,hbt,e4,RR,seval];apply z;clear z;refine aF true rfl (fun _=>?_) (fun hc=>by cases hc);refine aA rfl ?_;simp only[f2,d2,aX,aT,aN,bI,RR,seval];exact fin _ _ _ (by rw[←hX,hokf,Bool.and_false]) (by rw[←hY,hokf];simp) (hS5 false) (hK5 _)
end Go.Proofs.YtnfbbjhdflhmjaaGreatDoor
namespace Go.Proofs.YtnfbbjhdflhmjaaGreatDoor
open Go.Al
def E3 (p:Pg) (hp:p.few) (i:Nat) (hi:i<p.funs.length) (bn b5 b7 b1 b6 bo bi:Nat) (mo mi:List Th) (h56:b5≠b6) (hF: ∀s,oP mo mi s=cK p i s):
    H7 (Bool×Bool) 86 [.ptr 2 bn 0 0, .ptr 1 b5 0 0, .ptr 1 b7 0 0, .ptr 3 b1 0 0, .ptr 1 b6 0 0] where
 D:=kO p i bn b5 b7 b1 b6 bo bi mo mi
 step:=zQ p i
 M:=fun b=>b=b5∨b=b6
 spec:=fun s H u hu hD=>Vr p hp i hi bn b5 b7 b1 b6 bo bi mo mi h56 hF s H u hu hD
 ext:=fun s H H' hD hk=>hD.ext hk
 old:=fun s H hD b hb=>by
  obtain⟨_,h2,_,_,h5,_⟩:=hD;rcases hb with rfl|rfl
  ·rw[h2];simp
  rw[h5];simp
set_option maxHeartbeats 4000000 in
theorem On (p:Pg) (hp:p.few) (h1:1≤p.funs.length):dD cN 51 [p.av] (.int .i64 (jO p)):=by
 have hglob:=Fg p hp;have hff:p.funs.length≤10000:=hp.f;have hok:=hp.ok;refine bD 70 [.tmp 2] Tryz.func51 rfl rfl rfl rfl ?_;simp only[Pg.av]at hglob⊢;refine cA (fun fr H=> ∃b1,fr 1= .ptr 3 b1 0 0∧H b1=some (.rows 3 [p.row])) (fun K z=>?_) ?_
 ·refine aA rfl ?_;simp only[RR,seval]
  simp only[Pg.row];refine aO fun b1 hb1=>?_;simp only[RR,seval];exact z _ _ ⟨b1,rfl,bO _ _ _⟩
 rintro fr H ⟨b1,f1,hb1⟩;refine cA (fun fr H=> ∃bo,fr 1= .ptr 3 b1 0 0∧fr 3= .mp bo∧fr 4= .bool (lT (kA p)).2∧H b1=some (.rows 3 [p.row])∧H bo=some (.amap ((lT (kA p)).1.map xJ))) (fun K z=>?_) ?_
 ·refine aA rfl ?_
  have hb1':=hb1;simp only[Pg.row]at hb1' hglob;simp only[f1,hb1',RR,seval];refine oF hglob (fB.refl _) fun v H' H2 ⟨bo,hv,hbo⟩ hk hn=>?_;subst hv;simp only[RR,seval];exact z _ _ ⟨bo,f1,rfl,rfl,hk _ _ (fun h=>h) hb1,(hn _ _ hbo).1⟩
 rintro fr H ⟨bo,f1,f3,f4,hb1,hbo⟩;rw[zR,Fh]at f4;refine cA (fun fr H=> ∃b5 b6,fr 1= .ptr 3 b1 0 0∧fr 3= .mp bo∧fr 5= .ptr 1 b5 0 0∧fr 6= .ptr 1 b6 0 0∧b5≠b6∧H b1=some (.rows 3 [p.row])∧H bo=some (.amap ((lT (kA p)).1.map xJ))∧H b5=some (.rows 1 [[.bool (decide (fD p).Nodup)]])∧H b6=some (.rows 1 [[.bool true]])) (fun K z=>?_) ?_
 ·refine aA rfl ?_
  simp only[f4,RR,seval];refine aO fun b5 hb5=>?_;simp only[RR,seval];refine aO fun b6 hb6=>?_;have hne:b5≠b6:=fun e=>by rw[←e,bO]at hb6;cases hb6
  have hne':b6≠b5:=fun e=>hne e.symm;have h6:H b6=none:=by simpa only[upd,if_neg hne']using hb6
  have q1:b1≠b5:=fun e=>by rw[e,hb5]at hb1;cases hb1
  have q2:b1≠b6:=fun e=>by rw[e,h6]at hb1;cases hb1
  have q3:bo≠b5:=fun e=>by rw[e,hb5]at hbo;cases hbo
  have q4:bo≠b6:=fun e=>by rw[e,h6]at hbo;cases hbo
  simp only[upd,hne,hne',reduceIte,RR,seval];refine z _ _ ⟨b5,b6,f1,f3,rfl,rfl,hne, ?_, ?_, ?_, ?_⟩
  ·simp only[upd,if_neg q1,if_neg q2];exact hb1
  ·simp only[upd,if_neg q3,if_neg q4];exact hbo
  ·simp [upd,hne]
  simp [upd]
 rintro fr H ⟨b5,b6,f1,f3,f5,f6,h56,hb1,hbo,hb5,hb6⟩;refine cA (fun fr H=> ∃A B:Bool,fr 1= .ptr 3 b1 0 0∧fr 5= .ptr 1 b5 0 0∧fr 6= .ptr 1 b6 0 0∧H b1=some (.rows 3 [p.row])∧H b5=some (.rows 1 [[.bool A]])∧H b6=some (.rows 1 [[.bool B]])∧fW p=A∧(fW p=true→gD p 0 p.funs=B)) (fun K z=>?_) ?_
 ·have hb1':=hb1
  simp only[Pg.row]at hb1';refine aB fun K z=>?_;refine aA rfl ?_;simp only[RR,seval];simp only[f1,hb1',aD,RR,seval];apply z;clear z;refine aI ?_;refine dE (fun mm fr H=> ∃k:Nat,mm=p.funs.length-k∧k≤p.funs.length∧fr 22= .int .i64 k∧ ∃A B:Bool,fr 20= .isl 5 (p.funs.map Fu.row)∧fr 21= .int .i64 p.funs.length∧fr 1= .ptr 3 b1 0 0∧fr 3= .mp bo∧fr 5= .ptr 1 b5 0 0∧fr 6= .ptr 1 b6 0 0∧H b1=some (.rows 3 [p.row])∧H bo=some (.amap ((lT (kA p)).1.map xJ))∧H b5=some (.rows 1 [[.bool A]])∧H b6=some (.rows 1 [[.bool B]])∧fW p=(A&&iY p k (p.funs.drop k))∧(fW p=true→gD p 0 p.funs=(B&&gD p k (p.funs.drop k)))) (p.funs.length) ⟨0,rfl,Nat.zero_le _,rfl,decide (fD p).Nodup,true,rfl,rfl,f1,f3,f5,f6,hb1,hbo,hb5,hb6,rfl,fun _=>rfl⟩ ?_;rintro mm fr H ⟨k,rfl,hkk,hik,A,B,fS,fL,f1,f3,f5,f6,hb1,hbo,hb5,hb6,hA,hB⟩ K2 hK2;refine aB fun K z=>?_;refine aA rfl ?_;simp only[RR,seval];simp only[hik,fL,RR,seval];apply z;clear z;refine aH ?_;refine aF _ rfl (fun hc=>?_) (fun hc=>?_)
  ·have hltk:k<p.funs.length:=by have:=aC hc;omega
   clear hc;refine aM ?_;simp only[aS];refine aH ?_;refine aI ?_;have hg0:=aG hltk;have hg:=pG hg0;have hfs:=hp.fs _ (bJ hltk);have hokf:=hok.funs _ (bJ hltk);have hFind:=Nm p k _ hg0;have hng:=fun h=>(eP p p.funs 0 h k _ hg0).2;rw[bC hltk,iY]at hA;rw[bC hltk,gD]at hB;generalize p.funs[k]=f at hg hfs hokf hFind hA hB hng;have hloc:=Ih f (by omega) (by omega);refine cA (fun fr H=> ∃b7 b8,fr 20= .isl 5 (p.funs.map Fu.row)∧fr 21= .int .i64 p.funs.length∧fr 22= .int .i64 k∧fr 1= .ptr 3 b1 0 0∧fr 3= .mp bo∧fr 5= .ptr 1 b5 0 0∧fr 6= .ptr 1 b6 0 0∧fr 7= .ptr 1 b7 0 0∧fr 8= .ptr 5 b8 0 0∧H b1=some (.rows 3 [p.row])∧H bo=some (.amap ((lT (kA p)).1.map xJ))∧H b5=some (.rows 1 [[.bool A]])∧H b6=some (.rows 1 [[.bool B]])∧H b7=some (.rows 1 [[.int .i64 k]])∧H b8=some (.rows 5 [f.row])) (fun K z=>?_) ?_
   ·refine aA rfl ?_
    simp only[fS,hik,hg,RR,seval];refine aO fun b7 hb7=>?_;simp only[RR,seval];refine aO fun b8 hb8=>?_;have hne:b7≠b8:=fun e=>by rw[←e,bO]at hb8;cases hb8
    have hne':b8≠b7:=fun e=>hne e.symm;have h8:H b8=none:=by simpa only[upd,if_neg hne']using hb8
    have old: ∀(x:Nat) (o:eS),H x=some o→x≠b7∧x≠b8:=fun x o hx=>⟨fun e=>(by rw[e,hb7]at hx;cases hx),fun e=>(by rw[e,h8]at hx;cases hx)⟩;simp only[upd,hne,hne',reduceIte,RR,seval];refine z _ _ ⟨b7,b8,fS,fL,hik,f1,f3,f5,f6,rfl,rfl, ?_, ?_, ?_, ?_, ?_, ?_⟩
    ·obtain⟨e1,e2⟩:=old _ _ hb1;simp only[upd,if_neg e1,if_neg e2];exact hb1
    ·obtain⟨e1,e2⟩:=old _ _ hbo;simp only[upd,if_neg e1,if_neg e2];exact hbo
    ·obtain⟨e1,e2⟩:=old _ _ hb5;simp only[upd,if_neg e1,if_neg e2];exact hb5
    ·obtain⟨e1,e2⟩:=old _ _ hb6;simp only[upd,if_neg e1,if_neg e2];exact hb6
    ·simp [upd,hne]
    simp [upd,Fu.row]
   rintro fr H ⟨b7,b8,fS,fL,hik,f1,f3,f5,f6,f7,f8,hb1,hbo,hb5,hb6,hb7,hb8⟩;refine cA (fun fr H=> ∃bi,fr 20= .isl 5 (p.funs.map Fu.row)∧fr 21= .int .i64 p.funs.length∧fr 22= .int .i64 k∧fr 1= .ptr 3 b1 0 0∧fr 3= .mp bo∧fr 5= .ptr 1 b5 0 0∧fr 6= .ptr 1 b6 0 0∧fr 7= .ptr 1 b7 0 0∧fr 8= .ptr 5 b8 0 0∧fr 9= .mp bi∧fr 10= .bool (decide (dT f).Nodup)∧H b1=some (.rows 3 [p.row])∧H bo=some (.amap ((lT (kA p)).1.map xJ))∧H b5=some (.rows 1 [[.bool A]])∧H b6=some (.rows 1 [[.bool B]])∧H b7=some (.rows 1 [[.int .i64 k]])∧H b8=some (.rows 5 [f.row])∧H bi=some (.amap ((lT (wQ f)).1.map xJ))) (fun K z=>?_) ?_
   ·refine aA rfl ?_
    have hb8':=hb8;simp only[Fu.row]at hb8' hloc;simp only[f8,hb8',RR,seval];refine oF hloc (fB.refl _) fun v H' H2 ⟨bi,hv,hbi⟩ hk hn=>?_;subst hv;rw[zR,Ii];simp only[RR,seval];exact z _ _ ⟨bi,fS,fL,hik,f1,f3,f5,f6,f7,f8,rfl,rfl,hk _ _ (fun h=>h) hb1,hk _ _ (fun h=>h) hbo,hk _ _ (fun h=>h) hb5,hk _ _ (fun h=>h) hb6,hk _ _ (fun h=>h) hb7,hk _ _ (fun h=>h) hb8,(hn _ _ hbi).1⟩
   rintro fr H ⟨bi,fS,fL,hik,f1,f3,f5,f6,f7,f8,f9,f10,hb1,hbo,hb5,hb6,hb7,hb8,hbi⟩;refine cA (fun fr H=>fr 20= .isl 5 (p.funs.map Fu.row)∧fr 21= .int .i64 p.funs.length∧fr 22= .int .i64 k∧fr 1= .ptr 3 b1 0 0∧fr 3= .mp bo∧fr 5= .ptr 1 b5 0 0∧fr 6= .ptr 1 b6 0 0∧fr 7= .ptr 1 b7 0 0∧fr 8= .ptr 5 b8 0 0∧fr 9= .mp bi∧H b1=some (.rows 3 [p.row])∧H bo=some (.amap ((lT (kA p)).1.map xJ))∧H b5=some (.rows 1 [[.bool (A&&decide (dT f).Nodup)]])∧H b6=some (.rows 1 [[.bool B]])∧H b7=some (.rows 1 [[.int .i64 k]])∧H b8=some (.rows 5 [f.row])∧H bi=some (.amap ((lT (wQ f)).1.map xJ))) (fun K z=>?_) ?_
   ·have old: ∀(x:Nat) (o:eS),H x=some o→o≠ .rows 1 [[.bool A]]→x≠b5:=fun x o hx ho e=>by rw[e,hb5]at hx;cases hx;exact ho rfl
    have m1:=old _ _ hb1 (by simp);have mo:=old _ _ hbo (by simp);have m6:b6≠b5:=fun e=>h56 e.symm;have m7:=old _ _ hb7 (by simp);have m8:=old _ _ hb8 (by simp);have mi:=old _ _ hbi (by simp)
    have fin: ∀fr':Fr,(∀j,j=20∨j=21∨j=22∨j=1∨j=3∨j=5∨j=6∨j=7∨j=8∨j=9→fr' j=fr j)→K fr' (upd H b5 (some (.rows 1 [[.bool (A&&decide (dT f).Nodup)]]))):=fun fr' h=>by
     refine z _ _ ⟨(h 20 (by simp)).trans fS,(h 21 (by simp)).trans fL,(h 22 (by simp)).trans hik,(h 1 (by simp)).trans f1,(h 3 (by simp)).trans f3,(h 5 (by simp)).trans f5,(h 6 (by simp)).trans f6,(h 7 (by simp)).trans f7,(h 8 (by simp)).trans f8,(h 9 (by simp)).trans f9, ?_, ?_,bO _ _ _, ?_, ?_, ?_, ?_⟩
     ·simp only[upd,if_neg m1];exact hb1
     ·simp only[upd,if_neg mo];exact hbo
     ·simp only[upd,if_neg m6];exact hb6
     ·simp only[upd,if_neg m7];exact hb7
     ·simp only[upd,if_neg m8];exact hb8
     simp only[upd,if_neg mi];exact hbi
    cases hAc:A with
    |false=>
     rw[hAc]at hb5 fin;refine aA rfl ?_;simp only[f5,hb5,RR,seval];refine fin _ fun j hj=>?_;rcases hj with rfl|rfl|rfl|rfl|rfl|rfl|rfl|rfl|rfl|rfl<;>rfl
    |true=>
     rw[hAc]at hb5 fin;refine aA rfl ?_;simp only[f5,f10,hb5,RR,seval];refine fin _ fun j hj=>?_;rcases hj with rfl|rfl|rfl|rfl|rfl|rfl|rfl|rfl|rfl|rfl<;>rfl
   rintro fr H ⟨fS,fL,hik,f1,f3,f5,f6,f7,f8,f9,hb1,hbo,hb5,hb6,hb7,hb8,hbi⟩;refine aB fun K z=>?_;refine aA rfl ?_;simp only[RR,seval];simp only[f3,f9,RR,seval];refine aO fun bn hbn=>?_;simp only[RR,seval];apply z;clear z;have hkn:keeps (fun _=>False) H (upd (upd H bn (some (.rows 2 [[.nmp, .nmp]]))) bn (some (.rows 2 [[.mp bo, .mp bi]]))):=((keeps.refl _ H).new hbn _).new hbn _;have hn2:(upd (upd H bn (some (.rows 2 [[.nmp, .nmp]]))) bn (some (.rows 2 [[.mp bo, .mp bi]]))) bn=some (.rows 2 [[.mp bo, .mp bi]]):=bO _ _ _;generalize(upd (upd H bn (some (.rows 2 [[.nmp, .nmp]]))) bn (some (.rows 2 [[.mp bo, .mp bi]])))=H1 at hkn hn2⊢;have kp: ∀(x:Nat) (o:eS),H x=some o→H1 x=some o:=fun x o h=>hkn x o (fun h=>h) h;have hD:kO p k bn b5 b7 b1 b6 bo bi (lT (kA p)).1 (lT (wQ f)).1 (A&&decide (dT f).Nodup,B) H1:=⟨hn2,kp _ _ hb5,kp _ _ hb7,kp _ _ hb1,kp _ _ hb6,kp _ _ hbo,kp _ _ hbi⟩;have hvis:=Mc (E3 p hp k hltk bn b5 b7 b1 b6 bo bi _ _ h56 hFind) f hokf _ H1 hD;have hb8':=kp _ _ hb8;simp only[Fu.row]at hb8' hvis;refine aA rfl ?_;simp only[f1,f5,f6,f7,f8,hb8',RR,seval];refine dZ hvis (fB.refl _) (fun _=>trivial) fun v H2 ⟨hv,hD2,hkp⟩=>?_;subst hv;simp only[aS,aT,RR,seval];rw[show(E3 p hp k hltk bn b5 b7 b1 b6 bo bi _ _ h56 hFind).step=zQ p k from rfl,Xq]at hD2;obtain⟨_,g5,_,g1,g6,go,_⟩:=hD2;refine aA rfl ?_;simp only[RR,seval];simp only[hik,aS,RR,seval];rw[aR _ (by omega)];refine hK2 (p.funs.length-(k+1)) _ _ (by omega) ⟨k+1,rfl,by omega,rfl,_,_,fS,fL,f1,f3,f5,f6,g1,go,g5,g6, ?_, ?_⟩
   ·rw[hA];simp only[Bool.and_assoc]
   intro hn;have hn0:=hn;rw[hB hn];simp only[fW,aK]at hn;have hall:=hng hn.2;rw[Nat.zero_add]at hall
   have :(cT f.body).all (fun u=> !dN p k u||fH p k u)=(cT f.body).all (fH p k):=by
    rw[List.all_eq_true]at hall;rw[Bool.eq_iff_iff,List.all_eq_true,List.all_eq_true];constructor
    ·intro h u hu
     have:=h u hu;rw[hall u hu]at this;simpa using this
    intro h u hu;rw[h u hu];simp
   simp only[this,Bool.and_assoc]
  refine bH ?_;simp only[aS,aT,reduceIte];have hknk:k=p.funs.length:=by have:=aE hc;omega
  clear hc;subst hknk;rw[List.drop_length]at hA hB;exact z _ _ ⟨A,B,f1,f5,f6,hb1,hb5,hb6,by rw[hA,iY,Bool.and_true],fun h=>by rw[hB h,gD,Bool.and_true]⟩
 rintro fr H ⟨A,B,f1,f5,f6,hb1,hb5,hb6,hA,hB⟩;have hC:jO p=if fW p then(if nA p then 0 else 1)else 4:=rfl
 have hNm:nA p=(gD p 0 p.funs&&Ey p):=rfl;have hL:Ey p=match p.funs[p.funs.length- 1]? with |some g=>decide (g.name=La)&&decide (g.params.length=0)&& !g.word|none=>false:=rfl
 refine aH ?_
 cases hAc:A with
 |false=>
  rw[hAc]at hb5 hA
  repeat' (first|(refine aB fun K z=>?_;refine aA rfl ?_;simp only[f5,hb5,RR,seval];apply z;clear z)|(refine aH ?_)|(refine aI ?_)|(refine aF true rfl (fun _=>?_) (fun hc=>by cases hc))|(refine aF false rfl (fun hc=>by cases hc) (fun _=>?_))|(refine aM ?_;simp only[aS,aT])|(refine bH ?_;simp only[aS,aT,reduceIte,Nat.reduceEqDiff])|(refine aA rfl ?_;simp only[f5,hb5,aS,aT,RR,seval])|(refine bA (fun h=>?_) (fun h=>?_)<;>simp only[h,f5,hb5,aS,aT,RR,seval])|(refine bG (fun h=>?_) (fun h=>?_)<;>simp only[h,f5,hb5,aS,aT,RR,seval])|(refine aF _ rfl (fun h=>?_) (fun h=>?_))|(refine aQ ?_;simp only[aS,aX,aN,bI,RR,seval];refine aW.pure ?_))
  rw[hC,hA];rfl
 |true=>
  rw[hAc]at hb5 hA;refine aB fun K z=>?_;refine aA rfl ?_;simp only[RR,seval];simp only[f5,hb5,RR,seval];apply z;clear z;refine aF false rfl (fun hc=>by cases hc) (fun _=>?_);refine aM ?_;simp only[aS];have hlt:p.funs.length- 1<p.funs.length:=by omega
  have hg:=pG (aG hlt);rw[aG hlt]at hL;generalize p.funs[p.funs.length- 1]=g at hg hL;have w1:IntKind.wrap .i64 ((p.funs.length:Int)- 1)=((p.funs.length- 1:Nat):Int):=by rw[aR _ (by omega)];omega
  have d1:decide ((0:Int)<g.params.length)= !decide (g.params.length=0):=by rw[Bool.eq_iff_iff];simp only[aP,Bool.not_eq_true',decide_eq_false_iff_not];omega
  simp only[Pg.row]at hb1;refine aB fun K z=>?_;refine aA rfl ?_;simp only[RR,seval];simp only[f1,hb1,w1,hg,aD,RR,seval];refine aO fun bl hbl=>?_;simp only[RR,seval];apply z;clear z;have hH1:(upd (upd H bl (some (.rows 5 [[.str [], .nsl, .nsl, .bool false, .nsl]]))) bl (some (.rows 5 [[.str g.name, .isl 1 (g.params.map bK), .isl 1 (g.locs.map bK), .bool g.word, .isl 5 (g.body.map Sm.row)]]))) bl=some (.rows 5 [[.str g.name, .isl 1 (g.params.map bK), .isl 1 (g.locs.map bK), .bool g.word, .isl 5 (g.body.map Sm.row)]]):=bO _ _ _
  have hb6':(upd (upd H bl (some (.rows 5 [[.str [], .nsl, .nsl, .bool false, .nsl]]))) bl (some (.rows 5 [[.str g.name, .isl 1 (g.params.map bK), .isl 1 (g.locs.map bK), .bool g.word, .isl 5 (g.body.map Sm.row)]]))) b6=some (.rows 1 [[.bool B]]):=by
   have :b6≠bl:=fun e=>by rw[e,hbl]at hb6;cases hb6
   simp only[upd,if_neg this];exact hb6
  generalize(upd (upd H bl (some (.rows 5 [[.str [], .nsl, .nsl, .bool false, .nsl]]))) bl (some (.rows 5 [[.str g.name, .isl 1 (g.params.map bK), .isl 1 (g.locs.map bK), .bool g.word, .isl 5 (g.body.map Sm.row)]])))=H1 at hH1 hb6'⊢;simp only at hL
  have hres:jO p=if(B&&(decide (g.name=La)&&decide (g.params.length=0)&& !g.word))then 0 else 1:=by
   rw[hC,hA,hNm,hB hA,hL];rfl
  rw[hres]
  cases hBc:B with
  |false=>
   rw[hBc]at hb6'
   repeat' (first|(refine aB fun K z=>?_;refine aA rfl ?_;simp only[f6,hb6',RR,seval];apply z;clear z)|(refine aH ?_)|(refine aI ?_)|(refine aF true rfl (fun _=>?_) (fun hc=>by cases hc))|(refine aF false rfl (fun hc=>by cases hc) (fun _=>?_))|(refine aM ?_;simp only[aS,aT])|(refine bH ?_;simp only[aS,aT,reduceIte,Nat.reduceEqDiff])|(refine aA rfl ?_;simp only[f6,hb6',aS,aT,RR,seval])|(refine bA (fun h=>?_) (fun h=>?_)<;>simp only[h,f6,hb6',aS,aT,RR,seval])|(refine bG (fun h=>?_) (fun h=>?_)<;>simp only[h,f6,hb6',aS,aT,RR,seval])|(refine aF _ rfl (fun h=>?_) (fun h=>?_))|(refine aQ ?_;simp only[aS,aX,aN,bI,RR,seval];refine aW.pure ?_))
   rfl
  |true=>
   rw[hBc]at hb6'
   cases e1:decide (g.name=La)with
   |false=>
    have e1':decide (g.name=[109,97,105,110])=false:=e1
    repeat' (first|(refine aB fun K z=>?_;refine aA rfl ?_;simp only[f6,hb6',hH1,e1',RR,seval];apply z;clear z)|(refine aH ?_)|(refine aI ?_)|(refine aF true rfl (fun _=>?_) (fun hc=>by cases hc))|(refine aF false rfl (fun hc=>by cases hc) (fun _=>?_))|(refine aM ?_;simp only[aS,aT])|(refine bH ?_;simp only[aS,aT,reduceIte,Nat.reduceEqDiff])|(refine aA rfl ?_;simp only[f6,hb6',hH1,e1',d1,aD,aS,aT,RR,seval])|(refine bA (fun h=>?_) (fun h=>?_)<;>simp only[h,f6,hb6',hH1,e1',d1,aD,aS,aT,RR,seval])|(refine bG (fun h=>?_) (fun h=>?_)<;>simp only[h,f6,hb6',hH1,e1',d1,aD,aS,aT,RR,seval])|(refine aF _ rfl (fun h=>?_) (fun h=>?_))|(refine aQ ?_;simp only[aS,aX,aN,bI,RR,seval];refine aW.pure ?_))
    rfl
   |true=>
    have e1':decide (g.name=[109,97,105,110])=true:=e1
    cases e2:decide (g.params.length=0)with
    |false=>
     rw[e2]at d1
     repeat' (first|(refine aB fun K z=>?_;refine aA rfl ?_;simp only[f6,hb6',hH1,e1',d1,aD,RR,seval];apply z;clear z)|(refine aH ?_)|(refine aI ?_)|(refine aF true rfl (fun _=>?_) (fun hc=>by cases hc))|(refine aF false rfl (fun hc=>by cases hc) (fun _=>?_))|(refine aM ?_;simp only[aS,aT])|(refine bH ?_;simp only[aS,aT,reduceIte,Nat.reduceEqDiff])|(refine aA rfl ?_;simp only[f6,hb6',hH1,e1',d1,aD,aS,aT,RR,seval])|(refine bA (fun h=>?_) (fun h=>?_)<;>simp only[h,f6,hb6',hH1,e1',d1,aD,aS,aT,RR,seval])|(refine bG (fun h=>?_) (fun h=>?_)<;>simp only[h,f6,hb6',hH1,e1',d1,aD,aS,aT,RR,seval])|(refine aF _ rfl (fun h=>?_) (fun h=>?_))|(refine aQ ?_;simp only[aS,aX,aN,bI,RR,seval];refine aW.pure ?_))
     rfl
    |true=>
     rw[e2]at d1
     cases e3:g.word with
     |false=>
      rw[e3]at hH1
      repeat' (first|(refine aB fun K z=>?_;refine aA rfl ?_;simp only[f6,hb6',hH1,e1',d1,aD,RR,seval];apply z;clear z)|(refine aH ?_)|(refine aI ?_)|(refine aF true rfl (fun _=>?_) (fun hc=>by cases hc))|(refine aF false rfl (fun hc=>by cases hc) (fun _=>?_))|(refine aM ?_;simp only[aS])|(refine bH ?_;simp only[aS,aT,reduceIte,Nat.reduceEqDiff])|(refine aA rfl ?_;simp only[f6,hb6',hH1,e1',d1,aD,aS,aT,RR,seval])|(refine bA (fun h=>?_) (fun h=>?_)<;>simp only[h,f6,hb6',hH1,e1',d1,aD,aS,aT,RR,seval])|(refine bG (fun h=>?_) (fun h=>?_)<;>simp only[h,f6,hb6',hH1,e1',d1,aD,aS,aT,RR,seval])|(refine aF _ rfl (fun h=>?_) (fun h=>?_))|(refine aQ ?_;simp only[aX,aN,bI,RR,seval];refine aW.pure ?_))
      rfl
     |true=>
      rw[e3]at hH1
      repeat' (first|(refine aB fun K z=>?_;refine aA rfl ?_;simp only[f6,hb6',hH1,e1',d1,aD,RR,seval];apply z;clear z)|(refine aH ?_)|(refine aI ?_)|(refine aF true rfl (fun _=>?_) (fun hc=>by cases hc))|(refine aF false rfl (fun hc=>by cases hc) (fun _=>?_))|(refine aM ?_;simp only[aS,aT])|(refine bH ?_;simp only[aS,aT,reduceIte,Nat.reduceEqDiff])|(refine aA rfl ?_;simp only[f6,hb6',hH1,e1',d1,aD,aS,aT,RR,seval])|(refine bA (fun h=>?_) (fun h=>?_)<;>simp only[h,f6,hb6',hH1,e1',d1,aD,aS,aT,RR,seval])|(refine bG (fun h=>?_) (fun h=>?_)<;>simp only[h,f6,hb6',hH1,e1',d1,aD,aS,aT,RR,seval])|(refine aF _ rfl (fun h=>?_) (fun h=>?_))|(refine aQ ?_;simp only[aS,aX,aN,bI,RR,seval];refine aW.pure ?_))
      rfl
end Go.Proofs.YtnfbbjhdflhmjaaGreatDoor
