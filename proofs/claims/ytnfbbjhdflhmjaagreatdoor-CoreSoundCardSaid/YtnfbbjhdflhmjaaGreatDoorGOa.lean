/- Chapter 19: a program's core, in plain Lean. -/
import Derived.Test.YtnfbbjhdflhmjaaGreatDoorCx
import Derived.Test.YtnfbbjhdflhmjaaGreatDoorT1
import Derived.Test.YtnfbbjhdflhmjaaGreatDoorAl4
set_option linter.unusedSimpArgs false
set_option linter.unusedVariables false
set_option maxRecDepth 10000
namespace Go.Al
structure Tq where
 name:dD
 slot:Int
 size:Int
def nH (t:Tq):AV×AV:=(.str t.name, .agg [.int .i64 t.slot, .int .i64 t.size])
def jR:List Tq→dD→Option (Int×Int)
 |[],_=>none
 |t::l,s=>if s=t.name then some (t.slot,t.size)else jR l s
theorem tO (s:dD): ∀(m:List Tq) (i:Nat),(jR m s=none∧lY (.str s) (m.map nH) i=some none)∨(∃j t,jR m s=some t∧lY (.str s) (m.map nH) i=some (some (j, .agg [.int .i64 t.1, .int .i64 t.2])))
 |[],i=> .inl ⟨rfl,rfl⟩
 |t::m,i=>by
  simp only[List.map_cons,nH,lY,Qf,jR];by_cases h:s=t.name
  ·right
   exact⟨i,(t.slot,t.size),by rw[if_pos h],by rw[bG h]⟩
  rw[aU h,if_neg h];exact tO s m (i+1)
theorem xT (s:dD): ∀m:List Tq,s∉m.map Tq.name→jR m s=none
 |[],_=>rfl
 |t::m,h=>by
  simp only[List.map_cons,List.mem_cons,not_or]at h;simp only[jR,if_neg h.1];exact xT s m h.2
theorem Jv (s:dD): ∀m:List Tq,s∈m.map Tq.name→jR m s≠none
 |[],h=>by simp at h
 |t::m,h=>by
  simp only[List.map_cons,List.mem_cons]at h;simp only[jR];by_cases e:s=t.name
  ·rw[if_pos e];exact cL _
  rw[if_neg e];exact Jv s m (h.resolve_left e)
theorem uH (s:dD): ∀(a b:List Tq),jR (a++b) s=(jR a s).or (jR b s)
 |[],b=>by simp [jR]
 |t::a,b=>by
  simp only[List.cons_append,jR];by_cases e:s=t.name
  ·rw[if_pos e,if_pos e];rfl
  rw[if_neg e,if_neg e];exact uH s a b
theorem xL (m:List Tq) (s:dD) (a z:Int) (h:s∉m.map Tq.name):zQ (m.map nH) (.str s) (.agg [.int .i64 a, .int .i64 z])=some ((m++[(⟨s,a,z⟩:Tq)]).map nH):=by
 rcases tO s m 0 with⟨_,h2⟩|⟨j,t,h1,_⟩
 ·simp only[zQ,h2,List.map_append,List.map_cons,List.map_nil,nH]
 rw[xT s m h]at h1;cases h1
def lU:Int→List dD→List Tq
 |_,[]=>[]
 |w,s::l=>⟨s,w,0⟩::lU (w+1) l
def Ek:Int→List Ar→List Tq
 |_,[]=>[]
 |w,a::l=>⟨a.name,w,a.size⟩::Ek (w+a.size) l
def fM:List Ar→Int
 |[]=>0
 |a::l=>a.size+fM l
theorem pB: ∀(l:List dD) (w:Int) (j:Nat) (s:dD),l[j]?=some s→lU w (l.take (j+1))=lU w (l.take j)++[⟨s,w+j,0⟩]
 |[],w,j,s,h=>by simp at h
 |x::l,w,0,s,h=>by
  simp only[List.getElem?_cons_zero,Option.some.injEq]at h;subst h;simp [lU]
 |x::l,w,j+1,s,h=>by
  simp only[List.getElem?_cons_succ]at h;have:=pB l (w+1) j s h;rw[List.take_succ_cons,List.take_succ_cons,lU,this,lU];simp only[List.cons_append];rw[show w+1+(j:Int)=w+((j+1:Nat):Int)by omega]
theorem mR: ∀(l:List Ar) (w:Int) (j:Nat) (s:Ar),l[j]?=some s→Ek w (l.take (j+1))=Ek w (l.take j)++[⟨s.name,w+fM (l.take j),s.size⟩]∧fM (l.take (j+1))=fM (l.take j)+s.size
 |[],w,j,s,h=>by simp at h
 |x::l,w,0,s,h=>by
  simp only[List.getElem?_cons_zero,Option.some.injEq]at h;subst h;simp [Ek,fM]
 |x::l,w,j+1,s,h=>by
  simp only[List.getElem?_cons_succ]at h;have:=mR l (w+x.size) j s h;simp only[List.take_succ_cons,Ek,this.1,fM,this.2,List.cons_append];refine⟨?_,by omega⟩;rw[show w+x.size+fM (l.take j)=w+(x.size+fM (l.take j))by omega]
theorem Me: ∀(l m:List dD) (w:Int),lU w (l++m)=lU w l++lU (w+l.length) m
 |[],m,w=>by simp [lU]
 |s::l,m,w=>by
  simp only[List.cons_append,lU,Me l m (w+1),bU];rw[show w+1+(l.length:Int)=w+((l.length+1:Nat):Int)by omega]
theorem jC: ∀(l:List dD) (w:Int),(lU w l).map Tq.name=l
 |[],_=>rfl
 |s::l,w=>by simp only[lU,List.map_cons,jC l (w+1)]
theorem tV: ∀(l:List Ar) (w:Int),(Ek w l).map Tq.name=l.map Ar.name
 |[],_=>rfl
 |s::l,w=>by simp only[Ek,List.map_cons,tV l (w+s.size)]
theorem mZ {A B:List dD} (h:(A++B).Nodup) {k:Nat} {s:dD} (hs:B[k]?=some s):s∉A++B.take k:=by
 obtain⟨hk,e⟩:=bW.1 hs
 have h2:A++B=(A++B.take k)++s::B.drop (k+1):=by
  rw[List.append_assoc];congr 1;rw[←e,←bD hk,List.take_append_drop]
 rw[h2]at h;have:=(List.nodup_append.1 h).2.2;exact fun hm=>this s hm s List.mem_cons_self rfl
def Do (p:Pg):List Tq:=lU 0 p.vars++Ek p.vars.length p.arrs++lU 0 (p.funs.map Fu.name)
def Yg (w:Int) (f:Fu):List Tq:=lU w (f.params++f.locs)
def Jo (G I:List Tq) (s:dD):Int×Int:=match jR I s with |some r=>r|none=>(jR G s).getD (0,0)
def Vu (m:List Tq):AV:= .imp ((m.map nH).map (·.1)) ((m.map nH).map (·.2))
def Qo (G I:List Tq):AV:= .agg [Vu G,Vu I]
mutual
def rT (rs:dD→Int×Int):Ex→CE
 | .mk k o n s l=> .mk k o n (rs s).1 (rs s).2 (Pq rs l)
def Pq (rs:dD→Int×Int):List Ex→List CE
 |[]=>[]
 |e::l=>rT rs e::Pq rs l
end
theorem nK (rs:dD→Int×Int): ∀l:List Ex,Pq rs l=l.map (rT rs)
 |[]=>by simp only[Pq,List.map_nil]
 |e::l=>by simp only[Pq,List.map_cons,nK rs l]
theorem Ni (rs:dD→Int×Int) (e:Ex):(rT rs e).row=[.int .i64 e.kind, .int .i64 e.op, .int .u32 e.num, .int .i64 (rs e.name).1, .int .i64 (rs e.name).2, .isl 6 ((e.kids.map (rT rs)).map CE.row)]:=by
 cases e;simp only[rT,CE.row_eq,nK,Ex.kind,Ex.op,Ex.num,Ex.name,Ex.kids,CE.kind,CE.op,CE.num,CE.slot,CE.size,CE.kids]
mutual
def pU (rs:dD→Int×Int):Sm→CS
 | .mk k s l t u=> .mk k (rs s).1 (rs s).2 (l.map (rT rs)) (Lg rs t) (Lg rs u)
def Lg (rs:dD→Int×Int):List Sm→List CS
 |[]=>[]
 |e::l=>pU rs e::Lg rs l
end
theorem nI (rs:dD→Int×Int): ∀l:List Sm,Lg rs l=l.map (pU rs)
 |[]=>by simp only[Lg,List.map_nil]
 |e::l=>by simp only[Lg,List.map_cons,nI rs l]
theorem Nh (rs:dD→Int×Int) (e:Sm):(pU rs e).row=[.int .i64 e.kind, .int .i64 (rs e.name).1, .int .i64 (rs e.name).2, .isl 6 ((e.es.map (rT rs)).map CE.row), .isl 6 ((e.thn.map (pU rs)).map CS.row), .isl 6 ((e.els.map (pU rs)).map CS.row)]:=by
 cases e;simp only[pU,CS.row_eq,nI,Sm.kind,Sm.name,Sm.es,Sm.thn,Sm.els,CS.kind,CS.slot,CS.size,CS.es,CS.thn,CS.els]
def I9 (G:List Tq) (w:Int) (f:Fu):CF:=⟨f.params.length,((f.params.length+f.locs.length:Nat):Int),w,f.word,f.body.map (pU (Jo G (Yg w f)))⟩
def mD (G:List Tq):Int→List Fu→List CF
 |_,[]=>[]
 |w,f::l=>I9 G w f::mD G (w+((f.params.length+f.locs.length:Nat):Int)) l
def dZ:List Fu→Int
 |[]=>0
 |f::l=>((f.params.length+f.locs.length:Nat):Int)+dZ l
theorem Ce (G:List Tq): ∀(l:List Fu) (w:Int) (j:Nat) (f:Fu),l[j]?=some f→mD G w (l.take (j+1))=mD G w (l.take j)++[I9 G (w+dZ (l.take j)) f]∧dZ (l.take (j+1))=dZ (l.take j)+((f.params.length+f.locs.length:Nat):Int)
 |[],w,j,s,h=>by simp at h
 |x::l,w,0,s,h=>by
  simp only[List.getElem?_cons_zero,Option.some.injEq]at h;subst h;simp [mD,dZ]
 |x::l,w,j+1,s,h=>by
  simp only[List.getElem?_cons_succ]at h;have:=Ce G l (w+((x.params.length+x.locs.length:Nat):Int)) j s h;simp only[List.take_succ_cons,mD,this.1,dZ,this.2,List.cons_append];refine⟨?_,by omega⟩;rw[show w+((x.params.length+x.locs.length:Nat):Int)+dZ (l.take j)=w+(((x.params.length+x.locs.length:Nat):Int)+dZ (l.take j))by omega]
theorem Hn (G:List Tq): ∀(l:List Fu) (w:Int),(mD G w l).length=l.length
 |[],_=>rfl
 |f::l,w=>by simp only[mD,bU,Hn G l]
def dV (p:Pg):Int:=p.vars.length+fM p.arrs
def dH (p:Pg):Int:=dV p+dZ p.funs
def Hl (p:Pg):Co:=⟨dH p,mD (Do p) (dV p) p.funs⟩
theorem iB: ∀{l:List Ar},(∀a∈l,0≤a.size)→0≤fM l
 |[],_=>Int.le_refl _
 |a::l,h=>by
  have h1:=h a (List.mem_cons_self);have h2:=iB (l:=l) fun x hx=>h x (List.mem_cons_of_mem _ hx);simp only[fM];omega
theorem gH: ∀l:List Fu,0≤dZ l
 |[]=>Int.le_refl _
 |f::l=>by have:=gH l;simp only[dZ];omega
end Go.Al
namespace Go.Proofs.YtnfbbjhdflhmjaaGreatDoor
open Go.Al
def oO (p:Pg):Co×Int:=if dT p=0 then(if dH p≤32768 then(Hl p,0)else(⟨0,[]⟩,2))else(⟨0,[]⟩,dT p)
end Go.Proofs.YtnfbbjhdflhmjaaGreatDoor
