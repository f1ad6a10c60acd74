/- Chapter 16, the judge's: names and uses. Chapter 16, the judge's: what a name is; are names right? Chapter 16, the judge's: are names right, are numbers? Chapter 16, the judge's: are numbers right? Check; comparing lists of lists. Chapter 16, the judge's: lists of lists compared; the calls of each function. Chapter 16, the judge's: the calls of each function. -/
import Derived.Test.YtnfbbjhdflhmjaaGreatDoorSy2
import Derived.Test.YtnfbbjhdflhmjaaGreatDoorAl4
import Derived.Test.YtnfbbjhdflhmjaaGreatDoorSy1
import Derived.Test.YtnfbbjhdflhmjaaGreatDoorCx
set_option linter.unusedSimpArgs false
set_option linter.unusedVariables false
set_option maxRecDepth 10000
namespace Go.Al
def cL:List cR→cR→Option Nat
 |[],_=>none
 |x::l,s=>if x=s then some 0 else(cL l s).map (· +1)
def mZ:Option Nat→Int|some n=>n|none=> -1
theorem eG: ∀(l:List cR) (s:cR) (k:Nat),cL l s=some k→k<l.length∧l[k]?=some s
 |[],s,k,h=>by cases h
 |x::l,s,k,h=>by
  simp only[cL]at h;split at h
  ·rename_i e;cases h;exact⟨by simp,by simp [e]⟩
  rw[aV]at h;obtain⟨j,hj,rfl⟩:=h;have:=eG l s j hj;exact⟨by simp only[bP];omega,by simpa using this.2⟩
def dT (f:Fu):List cR:=f.params++f.locs
def fD (p:Pg):List cR:=p.vars++p.arrs.map Ar.name++p.funs.map Fu.name
def jI (p:Pg) (s:cR):Int×Int:=match cL (fD p) s with
 |none=>(0, -1)
 |some k=>if k<p.vars.length then(2,k)else if k-p.vars.length<p.arrs.length then(3,((k-p.vars.length:Nat):Int))else(4,((k-p.vars.length-p.arrs.length:Nat):Int))
def cK (p:Pg) (f:Nat) (s:cR):Int×Int:=match(p.funs[f]?).bind fun g=>cL (dT g) s with
 |some k=>(1,k)
 |none=>jI p s
structure Us where
 name:cR
 kind:Int
 num:Int
def Us.row (u:Us):List AV:=[.str u.name, .int .i64 u.kind, .int .i64 u.num]
def jL (e:Ex):List Us:=if e.kind=2 then [⟨e.name,1,0⟩]else if e.kind=3 then [⟨e.name,3,0⟩]else if e.kind=4 then [⟨e.name,4,e.kids.length⟩]else []
def dG:List Ex→List Us
 |[]=>[]
 | .mk k o n s kids::l=>jL (.mk k o n s kids)++dG kids++dG l
theorem eB (e:Ex) (l:List Ex):dG (e::l)=jL e++dG e.kids++dG l:=by cases e;rw[dG];rfl
def hJ (e:Sm):List Us:=if e.kind=1 then [⟨e.name,1,0⟩]else if e.kind=2 then [⟨e.name,3,0⟩]else if e.kind=6 then [⟨e.name,4,e.es.length⟩]else []
def cT:List Sm→List Us
 |[]=>[]
 | .mk k s es t u::l=>hJ (.mk k s es t u)++dG es++cT t++cT u++cT l
theorem dB (e:Sm) (l:List Sm):cT (e::l)=hJ e++dG e.es++cT e.thn++cT e.els++cT l:=by cases e;rw[cT];rfl
theorem Hq {l:List Ex} {k:Nat} (h:k<l.length):dG (l.take (k+1))=dG (l.take k)++(jL l[k]++dG l[k].kids):=by
 have key: ∀a b:List Ex,dG (a++b)=dG a++dG b:=by
  intro a b
  induction a with
  |nil=>simp [dG]
  |cons e a ih=>rw[List.cons_append,eB,eB,ih];simp only[List.append_assoc]
 rw[bQ h,key,eB];simp [dG]
theorem Hn {l:List Sm} {k:Nat} (h:k<l.length):cT (l.take (k+1))=cT (l.take k)++(hJ l[k]++dG l[k].es++cT l[k].thn++cT l[k].els):=by
 have key: ∀a b:List Sm,cT (a++b)=cT a++cT b:=by
  intro a b
  induction a with
  |nil=>simp [cT]
  |cons e a ih=>rw[List.cons_append,dB,dB,ih];simp only[List.append_assoc]
 rw[bQ h,key,dB];simp [cT]
theorem Yo (l:List cR):(l.map bK).all (fun r=>r.all one)=true:=by
 rw[List.all_eq_true];intro r hr;obtain⟨t,_,rfl⟩:=List.mem_map.1 hr;rfl
end Go.Al
namespace Go.Proofs.YtnfbbjhdflhmjaaGreatDoor
open Go.Al
theorem Ae (l:List cR) (s:cR) (hl:cY l):dD cN 113 [.isl 1 (l.map bK), .str s] (.int .i64 (mZ (cL l s))):=by
 have hl:l.length≤9223372036854775807:=hl;refine bD 19 [.tmp 4] Tryz.func113 rfl rfl rfl rfl ?_;refine aB fun K q=>?_;refine aA rfl ?_;simp only[RR,seval];apply q;clear q;refine cA (fun fr H=>cL l s=none) (fun K q=>?_) ?_
 ·refine aB fun K q=>?_;refine aA rfl ?_;simp only[RR,seval]
  apply q;clear q;refine aI ?_;refine dE (fun mm fr H=> ∃k:Nat,mm=l.length-k∧k≤l.length∧fr 5= .int .i64 k∧fr 0= .isl 1 (l.map bK)∧fr 1= .str s∧cL l s=(cL (l.drop k) s).map (· +k)) (l.length) ⟨0,rfl,Nat.zero_le _,rfl,rfl,rfl,by simp⟩ ?_;rintro mm fr H ⟨k,rfl,hkk,hik,h0,f1,hp⟩ K2 hK2;refine aH ?_;refine aB fun K q=>?_;refine aA rfl ?_;simp only[RR,seval];simp only[hik,h0,aD,RR,seval];apply q;clear q;refine aF _ rfl (fun hc=>?_) (fun hc=>?_)
  ·have hltk:k<l.length:=by have:=aC hc;omega
   clear hc;refine aM ?_;simp only[aS];refine aH ?_;refine aI ?_;have hg:=tP (aG hltk);rw[bC hltk]at hp;simp only[cL]at hp;generalize l[k]=x at hg hp;refine aB fun K q=>?_;refine aA rfl ?_;simp only[RR,seval];simp only[h0,f1,hik,hg,RR,seval];apply q;clear q;refine aF _ rfl (fun hc=>?_) (fun hc=>?_)
   ·have e:x=s:=aC hc
    rw[if_pos e]at hp
    repeat' (first|(refine aB fun K q=>?_;refine aA rfl ?_;simp only[hik,RR,seval];apply q;clear q)|(refine aH ?_)|(refine aI ?_)|(refine aF true rfl (fun _=>?_) (fun hc=>by cases hc))|(refine aF false rfl (fun hc=>by cases hc) (fun _=>?_))|(refine aM ?_;simp only[aS,aT])|(refine bH ?_;simp only[aS,aT,reduceIte,Nat.reduceEqDiff])|(refine aA rfl ?_;simp only[hik,aS,aT,RR,seval])|(refine bA (fun h=>?_) (fun h=>?_)<;>simp only[h,hik,aS,aT,RR,seval])|(refine bG (fun h=>?_) (fun h=>?_)<;>simp only[h,hik,aS,aT,RR,seval])|(refine aF _ rfl (fun h=>?_) (fun h=>?_))|(refine aQ ?_;simp only[aS,aT,aX,aN,bI,RR,seval];refine aW.pure ?_))
    rw[hp];simp [mZ]
   have e: ¬x=s:=aE hc;rw[if_neg e]at hp;refine aM ?_;simp only[aS,aT];refine aA rfl ?_;simp only[RR,seval];simp only[hik,aS,RR,seval];rw[aR _ (by omega)];refine hK2 (l.length-(k+1)) _ _ (by omega) ⟨k+1,rfl,by omega,rfl,h0,f1,by rw[hp,Option.map_map];congr 1;funext y;simp only[Function.comp];omega⟩
  refine bH ?_;simp only[aS,aT,reduceIte];have hknk:k=l.length:=by have:=aE hc;omega
  clear hc;subst hknk;rw[List.drop_length]at hp;exact q _ _ (by rw[hp];rfl)
 rintro fr H h0;refine aB fun K q=>?_;refine aA rfl ?_;simp only[RR,seval];apply q;clear q;refine aQ ?_;simp only[aX,aN,bI,RR,seval];refine aW.pure ?_;rw[h0];rfl
theorem Ol (f:Fu) (h:f.params.length≤1000000) (h2:f.locs.length≤1200000):dD cN 73 [.agg f.row] (.isl 1 ((dT f).map bK)):=by
 refine bD 10 [.tmp 2] Tryz.func73 rfl rfl rfl rfl ?_;simp only[Fu.row];refine cA (fun fr H=> ∃b,fr 1= .ptr 5 b 0 0∧H b=some (.rows 5 [[.str f.name, .isl 1 (f.params.map bK), .isl 1 (f.locs.map bK), .bool f.word, .isl 5 (f.body.map Sm.row)]])) (fun K q=>?_) ?_
 ·refine aA rfl ?_;simp only[RR,seval]
  refine aO fun b hb=>?_;simp only[RR,seval];exact q _ _ ⟨b,rfl,bO _ _ _⟩
 rintro fr H ⟨b,f1,hb⟩;refine cA (fun fr H=>dS 1 (fr 2) ((dT f).map bK) H) (fun K q=>?_) ?_
 ·refine gO (fun x=>x≠b) [(1,false),(2,false),(4,false),(5,false),(0,true),(3,true),(6,true),(7,true)] cX (by kernel_rfl) rfl ?_
  simp only[tS,dY,f1,hb,rJ,sW,RR,seval];refine Gq fun b0 hb0=>?_;have hne:b≠b0:=fun e=>by rw[e,hb0]at hb;cases hb
  have hb':(upd H b0 (some (.rows 1 []))) b=some (.rows 5 [[.str f.name, .isl 1 (f.params.map bK), .isl 1 (f.locs.map bK), .bool f.word, .isl 5 (f.body.map Sm.row)]]):=by simp only[upd,if_neg hne,hb]
  have hown:nT 1 (.osl 1 b0 0) [] (upd H b0 (some (.rows 1 []))):=⟨b0,rfl,bO _ _ _⟩;generalize upd H b0 (some (.rows 1 []))=H1 at hb' hown⊢;simp only[Yo,RR,seval];refine nR hown (by simp only[List.length_nil,aD];omega) (fun x hx=>hown.far hb' (by decide) x hx) fun v2 H2 hv2 hk2=>?_;have hb2:=hk2 b _ hb' (hown.nb' hb' (by decide));simp only[Yo,RR,seval];refine nR hv2 (by simp only[List.nil_append,aD];omega) (fun x hx=>hv2.far hb2 (by decide) x hx) fun v3 H3 hv3 _=>?_;simp only[RR,seval];refine q _ _ ?_;simp only[upd,reduceIte,dT,List.map_append];exact hv3.own
 rintro fr H hown;refine aQ ?_;simp only[aX,aN,bI,RR,seval];exact hown.gives1 rfl
end Go.Proofs.YtnfbbjhdflhmjaaGreatDoor
namespace Go.Al
structure Pg.few (p:Pg):Prop where
 ok:p.ok
 v:p.vars.length≤10000
 a:p.arrs.length≤10000
 f:p.funs.length≤10000
 fs: ∀f∈p.funs,f.params.length≤10000∧f.locs.length≤1100000∧gA f.body≤1000000
def dN (p:Pg) (i:Nat) (u:Us):Bool:=
 !((decide (u.kind=1)&& !decide ((cK p i u.name).1=1)&& !decide ((cK p i u.name).1=2))||(decide (u.kind=3)&& !decide ((cK p i u.name).1=3))||
   (decide (u.kind=4)&&(!decide ((cK p i u.name).1=4)||decide ((i:Int)≤(cK p i u.name).2))))
def iY (p:Pg):Nat→List Fu→Bool
 |_,[]=>true
 |i,f::l=>decide (dT f).Nodup&&(cT f.body).all (dN p i)&&iY p (i+1) l
def fW (p:Pg):Bool:=decide (fD p).Nodup&&iY p 0 p.funs
theorem nJ (p:Pg):(fD p).length=p.vars.length+p.arrs.length+p.funs.length:=by simp [fD];omega
theorem Sr (p:Pg) (s:cR) (h:(fD p).length≤1000000): -1≤(jI p s).2∧(jI p s).2≤1000000∧0≤(jI p s).1∧(jI p s).1≤4:=by
 unfold jI;split
 ·simp
 rename_i k hk;have:=(eG _ _ _ hk).1;split
 ·simp only;omega
 split<;>simp only <;>omega
theorem Ss (p:Pg) (i:Nat) (s:cR) (h:(fD p).length≤1000000) (h2: ∀f∈p.funs,(dT f).length≤1200000): -1≤(cK p i s).2∧(cK p i s).2≤1200000∧0≤(cK p i s).1∧(cK p i s).1≤4:=by
 unfold cK;split
 ·rename_i k hk
  rw[bW]at hk;obtain⟨f,hf,hk⟩:=hk;have:=(eG _ _ _ hk).1;have:=h2 f (aL hf);simp only;omega
 have:=Sr p s h;exact⟨this.1,by omega,this.2.2⟩
theorem Pg.few.gl {p:Pg} (h:p.few):(fD p).length≤30000:=by
 rw[nJ];have:=h.v;have:=h.a;have:=h.f;omega
theorem Pg.few.nl {p:Pg} (h:p.few): ∀f∈p.funs,(dT f).length≤1200000:=fun f hf=>by
 have:=h.fs f hf;simp only[dT,bU];omega
end Go.Al
namespace Go.Proofs.YtnfbbjhdflhmjaaGreatDoor
open Go.Al
theorem Hc (p:Pg) (hp:p.few):Ha cN 72 [p.av] 1 ((fD p).map bK):=by
 have gv:=hp.v;have ga:=hp.a;have gf:=hp.f;have hG:fD p=p.vars++p.arrs.map Ar.name++p.funs.map Fu.name:=rfl;generalize fD p=G at hG⊢;obtain⟨vs,aa,fs⟩:=p;simp only at gv ga gf hG;refine bD 43 [.tmp 2] Tryz.func72 rfl rfl rfl rfl ?_;simp only[Pg.av,Pg.row];refine cA (fun fr H=> ∃b,fr 1= .ptr 3 b 0 0∧H b=some (.rows 3 [[.isl 1 (vs.map bK), .isl 2 (aa.map Ar.row), .isl 5 (fs.map Fu.row)]])) (fun K q=>?_) ?_
 ·refine aA rfl ?_;simp only[RR,seval]
  refine aO fun b hb=>?_;simp only[RR,seval];exact q _ _ ⟨b,rfl,bO _ _ _⟩
 rintro fr H ⟨b,f1,hb⟩;refine cA (fun fr H=>nT 1 (fr 3) (vs.map bK) H∧fr 1= .ptr 3 b 0 0∧H b=some (.rows 3 [[.isl 1 (vs.map bK), .isl 2 (aa.map Ar.row), .isl 5 (fs.map Fu.row)]])) (fun K q=>?_) ?_
 ·refine aA rfl ?_
  simp only[RR,seval];refine Gq fun b0 hb0=>?_;have hne:b≠b0:=fun e=>by rw[e,hb0]at hb;cases hb
  have hb':(upd H b0 (some (.rows 1 []))) b=some (.rows 3 [[.isl 1 (vs.map bK), .isl 2 (aa.map Ar.row), .isl 5 (fs.map Fu.row)]]):=by simp only[upd,if_neg hne,hb]
  have hown:nT 1 (.osl 1 b0 0) [] (upd H b0 (some (.rows 1 []))):=⟨b0,rfl,bO _ _ _⟩;generalize upd H b0 (some (.rows 1 []))=H1 at hb' hown⊢;simp only[f1,hb',Yo,RR,seval];refine nR hown (by simp only[List.length_nil,aD];omega) (fun _ _=>trivial) fun v2 H2 hv2 hk2=>?_;simp only[RR,seval];exact q _ _ ⟨hv2,f1,hk2 b _ hb' (hown.nb' hb' (by decide))⟩
 rintro fr H ⟨hown,f1,hb⟩;refine cA (fun fr H=>nT 1 (fr 3) ((vs++aa.map Ar.name).map bK) H∧fr 1= .ptr 3 b 0 0∧H b=some (.rows 3 [[.isl 1 (vs.map bK), .isl 2 (aa.map Ar.row), .isl 5 (fs.map Fu.row)]])) (fun K q=>?_) ?_
 ·refine aB fun K q=>?_;refine aA rfl ?_;simp only[RR,seval]
  apply q;clear q;refine aI ?_;refine dE (fun mm fr H=> ∃k:Nat,mm=aa.length-k∧k≤aa.length∧fr 4= .int .i64 k∧nT 1 (fr 3) ((vs++(aa.take k).map Ar.name).map bK) H∧fr 1= .ptr 3 b 0 0∧H b=some (.rows 3 [[.isl 1 (vs.map bK), .isl 2 (aa.map Ar.row), .isl 5 (fs.map Fu.row)]])) (aa.length) ⟨0,rfl,Nat.zero_le _,rfl,by simpa [upd]using hown,f1,hb⟩ ?_;rintro mm fr H ⟨k,rfl,hkk,hik,hown,f1,hb⟩ K2 hK2;refine aH ?_;refine aB fun K q=>?_;refine aA rfl ?_;simp only[RR,seval];simp only[hik,f1,hb,aD,RR,seval];apply q;clear q;refine aF _ rfl (fun hc=>?_) (fun hc=>?_)
  ·have hltk:k<aa.length:=by have:=aC hc;omega
   clear hc;refine aM ?_;simp only[aS];refine aH ?_;refine aI ?_;have hg:=Bx (aG hltk);have htk:aa.take (k+1)=aa.take k++[aa[k]]:=bQ hltk;generalize aa[k]=a at hg htk;have htk2:(vs++(aa.take (k+1)).map Ar.name).map bK=(vs++(aa.take k).map Ar.name).map bK++[[.str a.name]]:=by rw[htk];simp [bK]
   refine aA rfl ?_;simp only[f1,hb,hik,hg,RR,seval];refine dH ?_;simp only[RR,seval];refine nR hown (by simp only[aD,bU,bP,List.length_nil,cF];omega) (fun _ _=>trivial) fun v2 H2 hv2 hk2=>?_;simp only[aS,aT,RR,seval];have hb2:=hk2 b _ hb (hown.nb' hb (by decide));refine aA rfl ?_;simp only[RR,seval];simp only[hik,aS,RR,seval];rw[aR _ (by omega)];refine hK2 (aa.length-(k+1)) _ _ (by omega) ⟨k+1,rfl,by omega,rfl,by rw[htk2];exact hv2,f1,hb2⟩
  refine bH ?_;simp only[aS,aT,reduceIte];have hknk:k=aa.length:=by have:=aE hc;omega
  clear hc;subst hknk;rw[List.take_length]at hown;exact q _ _ ⟨hown,f1,hb⟩
 rintro fr H ⟨hown,f1,hb⟩;refine cA (fun fr H=>nT 1 (fr 3) (G.map bK) H) (fun K q=>?_) ?_
 ·refine aB fun K q=>?_;refine aA rfl ?_;simp only[RR,seval]
  apply q;clear q;refine aI ?_;refine dE (fun mm fr H=> ∃k:Nat,mm=fs.length-k∧k≤fs.length∧fr 5= .int .i64 k∧nT 1 (fr 3) ((vs++aa.map Ar.name++(fs.take k).map Fu.name).map bK) H∧fr 1= .ptr 3 b 0 0∧H b=some (.rows 3 [[.isl 1 (vs.map bK), .isl 2 (aa.map Ar.row), .isl 5 (fs.map Fu.row)]])) (fs.length) ⟨0,rfl,Nat.zero_le _,rfl,by simpa [upd]using hown,f1,hb⟩ ?_;rintro mm fr H ⟨k,rfl,hkk,hik,hown,f1,hb⟩ K2 hK2;refine aH ?_;refine aB fun K q=>?_;refine aA rfl ?_;simp only[RR,seval];simp only[hik,f1,hb,aD,RR,seval];apply q;clear q;refine aF _ rfl (fun hc=>?_) (fun hc=>?_)
  ·have hltk:k<fs.length:=by have:=aC hc;omega
   clear hc;refine aM ?_;simp only[aS];refine aH ?_;refine aI ?_;have hg:=pG (aG hltk);have htk:fs.take (k+1)=fs.take k++[fs[k]]:=bQ hltk;generalize fs[k]=a at hg htk;have htk2:(vs++aa.map Ar.name++(fs.take (k+1)).map Fu.name).map bK=(vs++aa.map Ar.name++(fs.take k).map Fu.name).map bK++[[.str a.name]]:=by rw[htk];simp [bK]
   refine aA rfl ?_;simp only[f1,hb,hik,hg,RR,seval];refine dH ?_;simp only[RR,seval];refine nR hown (by simp only[aD,bU,bP,List.length_nil,cF];omega) (fun _ _=>trivial) fun v2 H2 hv2 hk2=>?_;simp only[aS,aT,RR,seval];have hb2:=hk2 b _ hb (hown.nb' hb (by decide));refine aA rfl ?_;simp only[RR,seval];simp only[hik,aS,RR,seval];rw[aR _ (by omega)];refine hK2 (fs.length-(k+1)) _ _ (by omega) ⟨k+1,rfl,by omega,rfl,by rw[htk2];exact hv2,f1,hb2⟩
  refine bH ?_;simp only[aS,aT,reduceIte];have hknk:k=fs.length:=by have:=aE hc;omega
  clear hc;subst hknk;rw[List.take_length,←hG]at hown;exact q _ _ hown
 rintro fr H hown;refine aB fun K q=>?_;refine aA rfl ?_;simp only[RR,seval];apply q;clear q;refine aQ ?_;simp only[aX,aN,bI,RR,seval];exact Ha.gives hown.own
theorem Hd (p:Pg) (hp:p.few):dD cN 72 [p.av] (.isl 1 ((fD p).map bK)):=(Hc p hp).pure
theorem Tx (p:Pg) (hp:p.few) (i:Nat) (hi:i<p.funs.length) (s:cR):dD cN 75 [p.av, .int .i64 i, .str s] (.tup [.int .i64 (cK p i s).1, .int .i64 (cK p i s).2]):=by
 have gv:=hp.v;have ga:=hp.a;have gf:=hp.f;have hgl:=nJ p;have hglob:=Hd p hp;have hplace:=Ae (fD p) s (by simp only[cY];omega);have hgi:=aG hi;have hfs:=hp.fs _ (bJ hi)
 have hF:cK p i s=match cL (dT p.funs[i]) s with |some k=>(1,(k:Int))|none=>jI p s:=by
  simp only[cK,hgi,Option.bind_some]
  all_goals (cases cL (dT p.funs[i]) s<;>rfl)
 have hGd:jI p s=match cL (fD p) s with
  |none=>(0, -1)
  |some k=>if k<p.vars.length then(2,(k:Int))else if k-p.vars.length<p.arrs.length then(3,((k-p.vars.length:Nat):Int))else(4,((k-p.vars.length-p.arrs.length:Nat):Int)):=rfl
 have hnm:=Ol p.funs[i] (by omega) (by omega);have hpl:=Ae (dT p.funs[i]) s (by simp only[cY,dT,bU];omega);generalize p.funs[i]=g at hgi hF hnm hpl;have hlen:=fun k hk=>(eG (fD p) s k hk).1;generalize cK p i s=res at hF⊢;generalize fD p=G at *;obtain⟨vs,aa,fs⟩:=p;simp only[Pg.av,Pg.row]at hglob⊢;simp only at gv ga gf hgi hgl hGd hi;have hrow:=pG hgi;refine bD 58 [.tmp 6, .tmp 7] Tryz.func75 rfl rfl rfl rfl ?_;refine cA (fun fr H=> ∃b,fr 1= .int .i64 i∧fr 2= .str s∧fr 3= .ptr 3 b 0 0∧H b=some (.rows 3 [[.isl 1 (vs.map bK), .isl 2 (aa.map Ar.row), .isl 5 (fs.map Fu.row)]])) (fun K q=>?_) ?_
 ·refine aA rfl ?_;simp only[RR,seval]
  refine aO fun b hb=>?_;simp only[RR,seval];exact q _ _ ⟨b,rfl,rfl,rfl,bO _ _ _⟩
 rintro fr H ⟨b,f1,f2,f3,hb⟩;have e1:decide ((i:Int)<fs.length)=true:=bX (by omega);refine cA (fun fr H=>res=jI ⟨vs,aa,fs⟩ s∧fr 2= .str s∧fr 3= .ptr 3 b 0 0∧H b=some (.rows 3 [[.isl 1 (vs.map bK), .isl 2 (aa.map Ar.row), .isl 5 (fs.map Fu.row)]])) (fun K q=>?_) ?_
 ·refine aB fun K q=>?_;refine aA rfl ?_;simp only[RR,seval]
  simp only[f1,f3,hb,aD,e1,RR,seval];apply q;clear q;refine aF true rfl (fun _=>?_) (fun hc=>by cases hc);refine aB fun K q=>?_;refine aA rfl ?_;simp only[RR,seval];simp only[f1,f3,hb,hrow,RR,seval];refine aU hnm ?_;simp only[RR,seval];simp only[f2,seval];refine aU hpl ?_;simp only[RR,seval];apply q;clear q
  cases hpn:cL (dT g) s with
  |some k=>
   rw[hpn]at hF;refine aB fun K q=>?_;refine aA rfl ?_;simp only[RR,seval];simp only[mZ,RR,seval];apply q;clear q;refine aF true rfl (fun _=>?_) (fun hc=>by cases hc)
   repeat' (first|(refine aB fun K q=>?_;refine aA rfl ?_;simp only[RR,seval];apply q;clear q)|(refine aH ?_)|(refine aI ?_)|(refine aF true rfl (fun _=>?_) (fun hc=>by cases hc))|(refine aF false rfl (fun hc=>by cases hc) (fun _=>?_))|(refine aM ?_;simp only[aS,aT])|(refine bH ?_;simp only[aS,aT,reduceIte,Nat.reduceEqDiff])|(refine aA rfl ?_;simp only[hpn,mZ,aS,aT,RR,seval])|(refine bA (fun h=>?_) (fun h=>?_)<;>simp only[h,hpn,mZ,aS,aT,RR,seval])|(refine bG (fun h=>?_) (fun h=>?_)<;>simp only[h,hpn,mZ,aS,aT,RR,seval])|(refine aF _ rfl (fun h=>?_) (fun h=>?_))|(refine aQ ?_;simp only[aS,aX,aN,bI,RR,seval];refine aW.pure ?_))
   rw[hF]
  |none=>
   rw[hpn]at hF;refine aB fun K q=>?_;refine aA rfl ?_;simp only[RR,seval];simp only[mZ,RR,seval];apply q;clear q;refine aF false rfl (fun hc=>by cases hc) (fun _=>?_);refine aM ?_;simp only[aS];exact q _ _ ⟨hF,f2,f3,hb⟩
 rintro fr H ⟨hres,f2,f3,hb⟩;rw[hGd]at hres;refine aB fun K q=>?_;refine aA rfl ?_;simp only[RR,seval];simp only[f3,hb,RR,seval];refine aU hglob ?_;simp only[RR,seval];simp only[f2,seval];refine aU hplace ?_;simp only[RR,seval];apply q;clear q
 cases hpn:cL G s with
 |none=>
  rw[hpn]at hres
  repeat' (first|(refine aB fun K q=>?_;refine aA rfl ?_;simp only[mZ,RR,seval];apply q;clear q)|(refine aH ?_)|(refine aI ?_)|(refine aF true rfl (fun _=>?_) (fun hc=>by cases hc))|(refine aF false rfl (fun hc=>by cases hc) (fun _=>?_))|(refine aM ?_;simp only[aS,aT])|(refine bH ?_;simp only[aS,aT,reduceIte,Nat.reduceEqDiff])|(refine aA rfl ?_;simp only[hpn,mZ,aS,aT,RR,seval])|(refine bA (fun h=>?_) (fun h=>?_)<;>simp only[h,hpn,mZ,aS,aT,RR,seval])|(refine bG (fun h=>?_) (fun h=>?_)<;>simp only[h,hpn,mZ,aS,aT,RR,seval])|(refine aF _ rfl (fun h=>?_) (fun h=>?_))|(refine aQ ?_;simp only[aS,aX,aN,bI,RR,seval];refine aW.pure ?_))
  rw[hres]
 |some k=>
  rw[hpn]at hres;simp only at hres;have hk:=hlen k hpn;have w1:IntKind.wrap .i64 ((k:Int)-vs.length)=(k:Int)-vs.length:=aR _ (by omega);have w2:IntKind.wrap .i64 ((k:Int)-vs.length-aa.length)=(k:Int)-vs.length-aa.length:=aR _ (by omega);have d0:decide ((k:Int)<0)=false:=bF (by omega);by_cases c1:k<vs.length
  ·have d1:decide ((k:Int)<vs.length)=true:=bX (by omega)
   repeat' (first|(refine aB fun K q=>?_;refine aA rfl ?_;simp only[mZ,f3,hb,d0,d1,aD,RR,seval];apply q;clear q)|(refine aH ?_)|(refine aI ?_)|(refine aF true rfl (fun _=>?_) (fun hc=>by cases hc))|(refine aF false rfl (fun hc=>by cases hc) (fun _=>?_))|(refine aM ?_;simp only[aS])|(refine bH ?_;simp only[aS,aT,reduceIte,Nat.reduceEqDiff])|(refine aA rfl ?_;simp only[hpn,mZ,f3,hb,d0,d1,aD,aS,aT,RR,seval])|(refine bA (fun h=>?_) (fun h=>?_)<;>simp only[h,hpn,mZ,f3,hb,d0,d1,aD,aS,aT,RR,seval])|(refine bG (fun h=>?_) (fun h=>?_)<;>simp only[h,hpn,mZ,f3,hb,d0,d1,aD,aS,aT,RR,seval])|(refine aF _ rfl (fun h=>?_) (fun h=>?_))|(refine aQ ?_;simp only[aS,aX,aN,bI,RR,seval];refine aW.pure ?_))
   rw[hres,if_pos c1]
  have d1:decide ((k:Int)<vs.length)=false:=bF (by omega);by_cases c2:k-vs.length<aa.length
  ·have d2:decide ((k:Int)-vs.length<aa.length)=true:=bX (by omega)
   repeat' (first|(refine aB fun K q=>?_;refine aA rfl ?_;simp only[mZ,f3,hb,d0,d1,d2,w1,aD,RR,seval];apply q;clear q)|(refine aH ?_)|(refine aI ?_)|(refine aF true rfl (fun _=>?_) (fun hc=>by cases hc))|(refine aF false rfl (fun hc=>by cases hc) (fun _=>?_))|(refine aM ?_;simp only[aS])|(refine bH ?_;simp only[aS,aT,reduceIte,Nat.reduceEqDiff])|(refine aA rfl ?_;simp only[hpn,mZ,f3,hb,d0,d1,d2,w1,aD,aS,aT,RR,seval])|(refine bA (fun h=>?_) (fun h=>?_)<;>simp only[h,hpn,mZ,f3,hb,d0,d1,d2,w1,aD,aS,aT,RR,seval])|(refine bG (fun h=>?_) (fun h=>?_)<;>simp only[h,hpn,mZ,f3,hb,d0,d1,d2,w1,aD,aS,aT,RR,seval])|(refine aF _ rfl (fun h=>?_) (fun h=>?_))|(refine aQ ?_;simp only[aS,aX,aN,bI,RR,seval];refine aW.pure ?_))
   rw[hres,if_neg c1,if_pos c2];simp only;rw[show((k-vs.length:Nat):Int)=(k:Int)-vs.length by omega]
  have d2:decide ((k:Int)-vs.length<aa.length)=false:=bF (by omega);refine aH ?_;refine aB fun K q=>?_;refine aA rfl ?_;simp only[RR,seval];simp only[mZ,seval];apply q;clear q;refine aF false rfl (fun hc=>by cases hc) (fun _=>?_);refine aM ?_;simp only[aS];refine aH ?_;refine aB fun K q=>?_;refine aA rfl ?_;simp only[RR,seval];simp only[f3,hb,aD,d1,RR,seval];apply q;clear q;refine aF false rfl (fun hc=>by cases hc) (fun _=>?_);refine aM ?_;simp only[aS];refine aB fun K q=>?_;refine aA rfl ?_;simp only[RR,seval];simp only[f3,hb,aD,w1,RR,seval];apply q;clear q;refine aH ?_;refine aB fun K q=>?_;refine aA rfl ?_;simp only[RR,seval];simp only[f3,hb,aD,d2,RR,seval];apply q;clear q;refine aF false rfl (fun hc=>by cases hc) (fun _=>?_);refine aM ?_;simp only[aS];refine aB fun K q=>?_;refine gO (fun x=>x≠b) [(0,true),(1,true),(2,true),(3,true),(4,true),(5,true),(6,true)] cX (by kernel_rfl) rfl ?_;simp only[tS,f3,hb,aD,w2,RR,seval];apply q;clear q;refine aQ ?_;simp only[aX,aN,bI,RR,seval];refine aW.pure ?_;rw[hres,if_neg c1,if_neg c2];simp only;rw[show((k-vs.length-aa.length:Nat):Int)=(k:Int)-vs.length-aa.length by omega]
end Go.Proofs.YtnfbbjhdflhmjaaGreatDoor
namespace Go.Al
def fH (p:Pg) (i:Nat) (u:Us):Bool:= !decide (u.kind=4)||(match p.funs[(cK p i u.name).2.toNat]? with |some g=>decide ((g.params.length:Int)=u.num)|none=>false)
def gD (p:Pg):Nat→List Fu→Bool
 |_,[]=>true
 |i,f::l=>(cT f.body).all (fH p i)&&gD p (i+1) l
def La:cR:=[109,97,105,110]
def Ey (p:Pg):Bool:=match p.funs[p.funs.length- 1]? with |some g=>decide (g.name=La)&&decide (g.params.length=0)&& !g.word|none=>false
def nA (p:Pg):Bool:=gD p 0 p.funs&&Ey p
def jO (p:Pg):Int:=if fW p then(if nA p then 0 else 1)else 4
theorem eP (p:Pg): ∀(l:List Fu) (i:Nat),iY p i l=true→ ∀(j:Nat) f,l[j]?=some f→(dT f).Nodup∧(cT f.body).all (dN p (i+j))=true
 |[],i,_,j,f,hf=>by simp at hf
 |g::l,i,h,j,f,hf=>by
  simp only[iY,aK,aP]at h
  cases j with
  |zero=>simp at hf;subst hf;exact h.1
  |succ j=>
   have:=eP p l (i+1) h.2 j f (by simpa using hf);rwa [show i+1+j=i+(j+1)by omega]at this
theorem Iz (p:Pg) (i:Nat) (s:cR) (h:(cK p i s).1=4):0≤(cK p i s).2∧(cK p i s).2<p.funs.length:=by
 unfold cK at *;split at h
 ·exact absurd h (by simp)
 rename_i hn;unfold jI at *;split at h
 ·exact absurd h (by decide)
 rename_i k hk;split at h
 ·exact absurd h (by simp)
 rename_i c1;split at h
 ·exact absurd h (by simp)
 rename_i c2;have:=(eG _ _ _ hk).1;rw[nJ]at this;rw[if_neg c1,if_neg c2];simp only;omega
end Go.Al
namespace Go.Proofs.YtnfbbjhdflhmjaaGreatDoor
open Go.Al
end Go.Proofs.YtnfbbjhdflhmjaaGreatDoor
namespace Go.Al
end Go.Al
namespace Go.Proofs.YtnfbbjhdflhmjaaGreatDoor
open Go.Al
end Go.Proofs.YtnfbbjhdflhmjaaGreatDoor
namespace Go.Al
end Go.Al
namespace Go.Proofs.YtnfbbjhdflhmjaaGreatDoor
open Go.Al
end Go.Proofs.YtnfbbjhdflhmjaaGreatDoor
namespace Go.Proofs.YtnfbbjhdflhmjaaGreatDoor
open Go.Al
end Go.Proofs.YtnfbbjhdflhmjaaGreatDoor
namespace Go.Al
def Vl (p:Pg) (s:cR):Option Fu:=p.funs.find? fun f=>decide (f.name=s)
def Ik (p:Pg) (s:cR):Bool:=(Vl p s).isSome
def kL (p:Pg) (s:cR):Bool:=match Vl p s with |some f=>f.word|none=>false
mutual
def Uc (W:cR→Bool):Ex→Int
 | .mk k o _ s l=>if k=1∨k=2∨k=5 then 1 else if k=3 then(if fX W l 1=true then 1 else 0)else if k=4 then(if(W s&&fX W l 1)=true then 1 else 0)
   else if k=6 then(if fX W l 1=true then(if o=14∨o=15 then 2 else 1)else 0)else if k=7∨k=8∨k=9 then(if fX W l 2=true then 2 else 0)else 0
def fX (W:cR→Bool):List Ex→Int→Bool
 |[],_=>true
 |e::l,t=>decide (Uc W e=t)&&fX W l t
end
theorem Ht (W:cR→Bool) (e:Ex):Uc W e=if e.kind=1∨e.kind=2∨e.kind=5 then 1 else if e.kind=3 then(if fX W e.kids 1=true then 1 else 0)else if e.kind=4 then(if(W e.name&&fX W e.kids 1)=true then 1 else 0)
   else if e.kind=6 then(if fX W e.kids 1=true then(if e.op=14∨e.op=15 then 2 else 1)else 0)else if e.kind=7∨e.kind=8∨e.kind=9 then(if fX W e.kids 2=true then 2 else 0)else 0:=by
 cases e;simp only[Uc,Ex.kind,Ex.op,Ex.name,Ex.kids];rfl
theorem uB (W:cR→Bool) (e:Ex) (l:List Ex) (t:Int):fX W (e::l) t=(decide (Uc W e=t)&&fX W l t):=by simp only[fX]
theorem Gu (W:cR→Bool) (t:Int):fX W [] t=true:=by simp only[fX]
mutual
def Ud (K:cR→Bool):Ex→Bool
 | .mk k _ _ s l=>(!decide (k=4)||K s)&&Lf K l
def Lf (K:cR→Bool):List Ex→Bool
 |[]=>true
 |e::l=>Ud K e&&Lf K l
end
theorem Yx (K:cR→Bool) (e:Ex):Ud K e=((!decide (e.kind=4)||K e.name)&&Lf K e.kids):=by
 cases e;simp only[Ud,Ex.kind,Ex.name,Ex.kids];rfl
theorem wT (K:cR→Bool) (e:Ex) (l:List Ex):Lf K (e::l)=(Ud K e&&Lf K l):=by simp only[Lf]
theorem Bw (K:cR→Bool):Lf K []=true:=by simp only[Lf]
mutual
def G3 (K:cR→Bool):Sm→Bool
 | .mk k s l t u=>(!decide (k=6)||K s)&&Lf K l&&Ai K t&&Ai K u
def Ai (K:cR→Bool):List Sm→Bool
 |[]=>true
 |e::l=>G3 K e&&Ai K l
end
theorem Yw (K:cR→Bool) (e:Sm):G3 K e=((!decide (e.kind=6)||K e.name)&&Lf K e.es&&Ai K e.thn&&Ai K e.els):=by
 cases e;simp only[G3,Sm.kind,Sm.name,Sm.es,Sm.thn,Sm.els];rfl
theorem Sa (K:cR→Bool) (e:Sm) (l:List Sm):Ai K (e::l)=(G3 K e&&Ai K l):=by simp only[Ai]
theorem Vb (K:cR→Bool):Ai K []=true:=by simp only[Ai]
def lZ (k:Int):Int:=if k=4∨k=5 then 2 else 1
mutual
def Sp (W:cR→Bool) (w:Bool):Sm→Bool
 | .mk k s l t u=>fX W l (lZ k)&& !(decide (k=6)&&W s)&& !(decide (k=7)&&decide (0<l.length)&& !w)&&lE W w t&&lE W w u
def lE (W:cR→Bool) (w:Bool):List Sm→Bool
 |[]=>true
 |e::l=>Sp W w e&&lE W w l
end
theorem Bz (W:cR→Bool) (w:Bool) (e:Sm):Sp W w e=(fX W e.es (lZ e.kind)&& !(decide (e.kind=6)&&W e.name)&& !(decide (e.kind=7)&&decide (0<e.es.length)&& !w)&&lE W w e.thn&&lE W w e.els):=by
 cases e;simp only[Sp,Sm.kind,Sm.name,Sm.es,Sm.thn,Sm.els];rfl
theorem tR (W:cR→Bool) (w:Bool) (e:Sm) (l:List Sm):lE W w (e::l)=(Sp W w e&&lE W w l):=by simp only[lE]
theorem So (W:cR→Bool) (w:Bool):lE W w []=true:=by simp only[lE]
def rI (p:Pg):Int:=if(p.funs.all fun f=>Ai (Ik p) f.body)=true then(if(p.funs.all fun f=>lE (kL p) f.word f.body)=true then 0 else 5)else 4
theorem xD: ∀(l:List Fu) (s:cR),l.find? (fun f=>decide (f.name=s))=(cL (l.map Fu.name) s).bind fun k=>l[k]?
 |[],s=>by simp [cL]
 |f::l,s=>by
  have ih:=xD l s;simp only[List.map_cons,cL];by_cases h:f.name=s
  ·simp [h]
  simp only[List.find?_cons,bF h,if_neg h,ih];cases cL (l.map Fu.name) s<;>simp
theorem Ix (p:Pg) (s:cR):Vl p s=(cL (p.funs.map Fu.name) s).bind fun k=>p.funs[k]?:=xD _ _
end Go.Al
namespace Go.Proofs.YtnfbbjhdflhmjaaGreatDoor
open Go.Al
def eM (p:Pg):Int:=if eH p=true then(if jO p=0 then rI p else jO p)else 7
end Go.Proofs.YtnfbbjhdflhmjaaGreatDoor
namespace Go.Proofs.YtnfbbjhdflhmjaaGreatDoor
open Go.Al
end Go.Proofs.YtnfbbjhdflhmjaaGreatDoor
namespace Go.Proofs.YtnfbbjhdflhmjaaGreatDoor
open Go.Al
end Go.Proofs.YtnfbbjhdflhmjaaGreatDoor
namespace Go.Proofs.YtnfbbjhdflhmjaaGreatDoor
open Go.Al
end Go.Proofs.YtnfbbjhdflhmjaaGreatDoor
namespace Go.Proofs.YtnfbbjhdflhmjaaGreatDoor
open Go.Al
end Go.Proofs.YtnfbbjhdflhmjaaGreatDoor
namespace Go.Al
structure Tq where
 name:cR
 slot:Int
 size:Int
def nM (t:Tq):AV×AV:=(.str t.name, .agg [.int .i64 t.slot, .int .i64 t.size])
def jZ:List Tq→cR→Option (Int×Int)
 |[],_=>none
 |t::l,s=>if s=t.name then some (t.slot,t.size)else jZ l s
theorem sO (s:cR): ∀(m:List Tq) (i:Nat),(jZ m s=none∧kC (.str s) (m.map nM) i=some none)∨(∃j t,jZ m s=some t∧kC (.str s) (m.map nM) i=some (some (j, .agg [.int .i64 t.1, .int .i64 t.2])))
 |[],i=> .inl ⟨rfl,rfl⟩
 |t::m,i=>by
  simp only[List.map_cons,nM,kC,Jv,jZ];by_cases h:s=t.name
  ·right
   exact⟨i,(t.slot,t.size),by rw[if_pos h],by rw[bX h]⟩
  rw[bF h,if_neg h];exact sO s m (i+1)
theorem wN (s:cR): ∀m:List Tq,s∉m.map Tq.name→jZ m s=none
 |[],_=>rfl
 |t::m,h=>by
  simp only[List.map_cons,List.mem_cons,not_or]at h;simp only[jZ,if_neg h.1];exact wN s m h.2
theorem tI (s:cR): ∀(a b:List Tq),jZ (a++b) s=(jZ a s).or (jZ b s)
 |[],b=>by simp [jZ]
 |t::a,b=>by
  simp only[List.cons_append,jZ];by_cases e:s=t.name
  ·rw[if_pos e,if_pos e];rfl
  rw[if_neg e,if_neg e];exact tI s a b
theorem wH (m:List Tq) (s:cR) (a z:Int) (h:s∉m.map Tq.name):tY (m.map nM) (.str s) (.agg [.int .i64 a, .int .i64 z])=some ((m++[(⟨s,a,z⟩:Tq)]).map nM):=by
 rcases sO s m 0 with⟨_,h2⟩|⟨j,t,h1,_⟩
 ·simp only[tY,h2,List.map_append,List.map_cons,List.map_nil,nM]
 rw[wN s m h]at h1;cases h1
def mB:Int→List cR→List Tq
 |_,[]=>[]
 |w,s::l=>⟨s,w,0⟩::mB (w+1) l
def Cv:Int→List Ar→List Tq
 |_,[]=>[]
 |w,a::l=>⟨a.name,w,a.size⟩::Cv (w+a.size) l
def fG:List Ar→Int
 |[]=>0
 |a::l=>a.size+fG l
theorem oZ: ∀(l:List cR) (w:Int) (j:Nat) (s:cR),l[j]?=some s→mB w (l.take (j+1))=mB w (l.take j)++[⟨s,w+j,0⟩]
 |[],w,j,s,h=>by simp at h
 |x::l,w,0,s,h=>by
  simp only[List.getElem?_cons_zero,Option.some.injEq]at h;subst h;simp [mB]
 |x::l,w,j+1,s,h=>by
  simp only[List.getElem?_cons_succ]at h;have:=oZ l (w+1) j s h;rw[List.take_succ_cons,List.take_succ_cons,mB,this,mB];simp only[List.cons_append];rw[show w+1+(j:Int)=w+((j+1:Nat):Int)by omega]
theorem pA: ∀(l:List Ar) (w:Int) (j:Nat) (s:Ar),l[j]?=some s→Cv w (l.take (j+1))=Cv w (l.take j)++[⟨s.name,w+fG (l.take j),s.size⟩]∧fG (l.take (j+1))=fG (l.take j)+s.size
 |[],w,j,s,h=>by simp at h
 |x::l,w,0,s,h=>by
  simp only[List.getElem?_cons_zero,Option.some.injEq]at h;subst h;simp [Cv,fG]
 |x::l,w,j+1,s,h=>by
  simp only[List.getElem?_cons_succ]at h;have:=pA l (w+x.size) j s h;simp only[List.take_succ_cons,Cv,this.1,fG,this.2,List.cons_append];refine⟨?_,by omega⟩;rw[show w+x.size+fG (l.take j)=w+(x.size+fG (l.take j))by omega]
theorem Kh: ∀(l m:List cR) (w:Int),mB w (l++m)=mB w l++mB (w+l.length) m
 |[],m,w=>by simp [mB]
 |s::l,m,w=>by
  simp only[List.cons_append,mB,Kh l m (w+1),bP];rw[show w+1+(l.length:Int)=w+((l.length+1:Nat):Int)by omega]
theorem iX: ∀(l:List cR) (w:Int),(mB w l).map Tq.name=l
 |[],_=>rfl
 |s::l,w=>by simp only[mB,List.map_cons,iX l (w+1)]
theorem sY: ∀(l:List Ar) (w:Int),(Cv w l).map Tq.name=l.map Ar.name
 |[],_=>rfl
 |s::l,w=>by simp only[Cv,List.map_cons,sY l (w+s.size)]
theorem nC {A B:List cR} (h:(A++B).Nodup) {k:Nat} {s:cR} (hs:B[k]?=some s):s∉A++B.take k:=by
 obtain⟨hk,e⟩:=aZ.1 hs
 have h2:A++B=(A++B.take k)++s::B.drop (k+1):=by
  rw[List.append_assoc];congr 1;rw[←e,←bC hk,List.take_append_drop]
 rw[h2]at h;have:=(List.nodup_append.1 h).2.2;exact fun hm=>this s hm s List.mem_cons_self rfl
def Bs (p:Pg):List Tq:=mB 0 p.vars++Cv p.vars.length p.arrs++mB 0 (p.funs.map Fu.name)
def Xo (w:Int) (f:Fu):List Tq:=mB w (f.params++f.locs)
def Ia (G I:List Tq) (s:cR):Int×Int:=match jZ I s with |some r=>r|none=>(jZ G s).getD (0,0)
def Ve (m:List Tq):AV:= .imp ((m.map nM).map (·.1)) ((m.map nM).map (·.2))
def Oq (G I:List Tq):AV:= .agg [Ve G,Ve I]
mutual
def sT (rs:cR→Int×Int):Ex→CE
 | .mk k o n s l=> .mk k o n (rs s).1 (rs s).2 (Ns rs l)
def Ns (rs:cR→Int×Int):List Ex→List CE
 |[]=>[]
 |e::l=>sT rs e::Ns rs l
end
theorem lH (rs:cR→Int×Int): ∀l:List Ex,Ns rs l=l.map (sT rs)
 |[]=>by simp only[Ns,List.map_nil]
 |e::l=>by simp only[Ns,List.map_cons,lH rs l]
theorem Vq (rs:cR→Int×Int) (e:Ex):(sT rs e).row=[.int .i64 e.kind, .int .i64 e.op, .int .u32 e.num, .int .i64 (rs e.name).1, .int .i64 (rs e.name).2, .isl 6 ((e.kids.map (sT rs)).map CE.row)]:=by
 cases e;simp only[sT,CE.row_eq,lH,Ex.kind,Ex.op,Ex.num,Ex.name,Ex.kids,CE.kind,CE.op,CE.num,CE.slot,CE.size,CE.kids]
mutual
def rM (rs:cR→Int×Int):Sm→CS
 | .mk k s l t u=> .mk k (rs s).1 (rs s).2 (l.map (sT rs)) (Jl rs t) (Jl rs u)
def Jl (rs:cR→Int×Int):List Sm→List CS
 |[]=>[]
 |e::l=>rM rs e::Jl rs l
end
theorem lF (rs:cR→Int×Int): ∀l:List Sm,Jl rs l=l.map (rM rs)
 |[]=>by simp only[Jl,List.map_nil]
 |e::l=>by simp only[Jl,List.map_cons,lF rs l]
theorem Vo (rs:cR→Int×Int) (e:Sm):(rM rs e).row=[.int .i64 e.kind, .int .i64 (rs e.name).1, .int .i64 (rs e.name).2, .isl 6 ((e.es.map (sT rs)).map CE.row), .isl 6 ((e.thn.map (rM rs)).map CS.row), .isl 6 ((e.els.map (rM rs)).map CS.row)]:=by
 cases e;simp only[rM,CS.row_eq,lF,Sm.kind,Sm.name,Sm.es,Sm.thn,Sm.els,CS.kind,CS.slot,CS.size,CS.es,CS.thn,CS.els]
def H5 (G:List Tq) (w:Int) (f:Fu):CF:=⟨f.params.length,((f.params.length+f.locs.length:Nat):Int),w,f.word,f.body.map (rM (Ia G (Xo w f)))⟩
def pK (G:List Tq):Int→List Fu→List CF
 |_,[]=>[]
 |w,f::l=>H5 G w f::pK G (w+((f.params.length+f.locs.length:Nat):Int)) l
def eC:List Fu→Int
 |[]=>0
 |f::l=>((f.params.length+f.locs.length:Nat):Int)+eC l
theorem As (G:List Tq): ∀(l:List Fu) (w:Int) (j:Nat) (f:Fu),l[j]?=some f→pK G w (l.take (j+1))=pK G w (l.take j)++[H5 G (w+eC (l.take j)) f]∧eC (l.take (j+1))=eC (l.take j)+((f.params.length+f.locs.length:Nat):Int)
 |[],w,j,s,h=>by simp at h
 |x::l,w,0,s,h=>by
  simp only[List.getElem?_cons_zero,Option.some.injEq]at h;subst h;simp [pK,eC]
 |x::l,w,j+1,s,h=>by
  simp only[List.getElem?_cons_succ]at h;have:=As G l (w+((x.params.length+x.locs.length:Nat):Int)) j s h;simp only[List.take_succ_cons,pK,this.1,eC,this.2,List.cons_append];refine⟨?_,by omega⟩;rw[show w+((x.params.length+x.locs.length:Nat):Int)+eC (l.take j)=w+(((x.params.length+x.locs.length:Nat):Int)+eC (l.take j))by omega]
theorem Fy (G:List Tq): ∀(l:List Fu) (w:Int),(pK G w l).length=l.length
 |[],_=>rfl
 |f::l,w=>by simp only[pK,bP,Fy G l]
def eA (p:Pg):Int:=p.vars.length+fG p.arrs
def dX (p:Pg):Int:=eA p+eC p.funs
def Fv (p:Pg):Co:=⟨dX p,pK (Bs p) (eA p) p.funs⟩
theorem iB: ∀{l:List Ar},(∀a∈l,0≤a.size)→0≤fG l
 |[],_=>Int.le_refl _
 |a::l,h=>by
  have h1:=h a (List.mem_cons_self);have h2:=iB (l:=l) fun x hx=>h x (List.mem_cons_of_mem _ hx);simp only[fG];omega
theorem iA: ∀l:List Fu,0≤eC l
 |[]=>Int.le_refl _
 |f::l=>by have:=iA l;simp only[eC];omega
end Go.Al
namespace Go.Proofs.YtnfbbjhdflhmjaaGreatDoor
open Go.Al
def uJ (p:Pg):Co×Int:=if eM p=0 then(if dX p≤32768 then(Fv p,0)else(⟨0,[]⟩,2))else(⟨0,[]⟩,eM p)
end Go.Proofs.YtnfbbjhdflhmjaaGreatDoor
