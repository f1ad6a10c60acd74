/- Qk -/
import Derived.Test.YtaecpjgmcffliaaGreatDoorQb
import Derived.Test.YtaecpjgmcffliaaGreatDoorSc1
import Derived.Test.YtaecpjgmcffliaaGreatDoorGra
import Derived.Test.YtaecpjgmcffliaaGreatDoorJc
import Derived.Test.YtaecpjgmcffliaaGreatDoorSy2
import Derived.Test.YtaecpjgmcffliaaGreatDoorAl3
set_option linter.unusedSimpArgs false
set_option linter.unusedVariables false
set_option maxRecDepth 10000
set_option maxHeartbeats 8000000
namespace Go.Al
theorem nS.put {cx:Cx} {br bv:Nat} {abs:List Nat} {st:RS} {vo v':AV} {H H':Hp} (h:nS cx br bv abs st vo H) {c:UInt8} (hl:st.out.length<65536) (ho:eB 1 v' (st.out.map rE++[rE c]) H')
  (hk: ∀b o,H b=some o→vo≠ .osl 1 b (st.out.map rE).length→H' b=some o) (hg: ∀b,off vo b→H b≠none→off v' b):
  nS cx br bv abs {st with out:=st.out++[c]} v' (upd H' br (some (.rows 8 [[.isl 2 (cx.funs.map Cf.row), .osl 1 bv st.vars.length, .isl 1 (fU abs st.arrs), .str cx.inp, .int .i64 st.read,v', .int .i64 st.ticks, .int .i64 cx.fuel]])))∧
  kJ br bv abs vo v' H (upd H' br (some (.rows 8 [[.isl 2 (cx.funs.map Cf.row), .osl 1 bv st.vars.length, .isl 1 (fU abs st.arrs), .str cx.inp, .int .i64 st.read,v', .int .i64 st.ticks, .int .i64 cx.fuel]]))):=by
 have n2:bv≠br:=h.nbr h.v;have hob:off vo br:=h.o.offsz h.r (by decide);have hob':off v' br:=hg br hob (by rw[h.r];exact bY _);refine⟨⟨bE _ _ _, ?_,h.al,fun i b' l h1 h2=>?_,h.nd,h.va, ?_,hg bv h.ov (by rw[h.v];exact bY _),fun b hb=>hg b (h.oa b hb) (h.abs_some hb),h.uv,h.ua, ?_,h.rd,h.tk⟩,fun b o hb h1 h2 h3 h4=>⟨?_,hg b h4 (by rw[hb];exact bY _)⟩⟩
 ·rw[cI _ _ n2];exact hk _ _ h.v (h.ov _ _)
 ·have hb:=h.a i b' l h1 h2
  rw[cI _ _ (h.nbr hb)];exact hk _ _ hb (h.oa b' (aZ h1) _ _)
 ·rw[cO]
  exact ho.off hob' _
 ·simp only[aH,bV];omega
 rw[cI _ _ h1];exact hk _ _ hb (h4 _ _)
theorem sY {l:List Int} {i:Nat} {x:Int} (h:l[i]?=some x):(l.map gL)[i]?=some [.int .u32 x]:=by rw[dT,h];rfl
theorem Bo.other {bv:Nat} {abs:List Nat} {vo:AV} {H:Hp} {b bo:Nat} {rows:List (List AV)} (h:Bo bv abs vo b rows H) (hne:b≠bo) (o:Option iG):Bo bv abs vo b rows (upd H bo o):=⟨by rw[cI _ _ hne];exact h.h,h.nv,h.na,h.nf⟩
structure Pl where
 name:dC
 loc:Bool
 num:Int
def vD:List Pl→dC→Option (Bool×Int)
 |[],_=>none
 |t::l,s=>if s=t.name then some (t.loc,t.num)else vD l s
def TG (b:Bool):Nat→List dC→List Pl
 |_,[]=>[]
 |i,s::l=>⟨s,b,i⟩::TG b (i+1) l
def kQ (p:Pg):List Pl:=TG false 0 p.vars++TG false 0 (p.arrs.map Ar.name)++TG false 0 (p.funs.map Fu.name)
def Vl (f:Fu):List Pl:=TG true 0 (f.params++f.locs)
def Xg (G I:List Pl) (s:dC):Bool×Int:=match vD I s with |some r=>r|none=>(vD G s).getD (false,0)
def Bv (G:List Pl) (f:Fu):Cf:=⟨f.params.length+f.locs.length,Xg G (Vl f),f.body⟩
theorem Av: ∀l:List UInt8,pO (l.map rE)=some l
 |[]=>rfl
 |c::l=>by
  have h:UInt8.ofNat ((c.toNat:Int).toNat)=c:=by simp
  simp only[cN,rE,pO,Ju,h,cA];rw[Av l];rfl
theorem nS.seal {cx:Cx} {r v:Nat} {abs:List Nat} {st:RS} {vo:AV} {H:Hp} {E:kC} {N:Nat} {Q:fN} {c:Code} {fr:Fr} (f:nS cx r v abs st vo H)
  (h: ∀g d,(∀j,tK (fr j)=true→g j=fr j)→d r=some (.rows 8 [[.isl 2 (cx.funs.map Cf.row), .osl 1 v st.vars.length, .isl 1 (fU abs st.arrs), .str cx.inp, .int .i64 st.read, .isl 1 (st.out.map rE), .int .i64 st.ticks, .int .i64 cx.fuel]])→
   (∀b s l,b≠r→off vo b→(∀r∈l, ∀x∈r,tK x=true)→H b=some (.rows s l)→d b=some (.rows s l))→mD E N c Q g d):mD E N c Q fr H:=by
 have u:H r=some (.rows 8 [[AV.isl 2 (cx.funs.map Cf.row), .osl 1 v st.vars.length, .isl 1 (fU abs st.arrs), .str cx.inp, .int .i64 st.read]++vo::[.int .i64 st.ticks, .int .i64 cx.fuel]]):=f.r;refine iF f.o u (fun x a=>?_) (fun x a=>?_) (f.o.offsz f.r (by decide)) fun g d y z A=>h g d (fun j B=>y j (bS B)) z fun b s l i k p t=>A b s l i k (fun r C x a=>bS (p r C x a)) t
 ·simp only[bP,bO,dF]at a
  rcases a with rfl|rfl|rfl|rfl|rfl
  ·exact bS rfl
  ·intro s b n e
   cases e;exact f.ov
  ·exact bS rfl
  ·exact bS rfl
  exact bS rfl
 simp only[bP,bO,dF]at a;rcases a with rfl|rfl<;>exact bS rfl
structure Vi (b7 bv:Nat) (bs:List Nat) (A:List (List Int)) (va:AV) (H:Hp):Prop where
 l:bs.length=A.length
 o:eB 1 va (fU bs A) H
 a: ∀(i:Nat) b l,bs[i]?=some b→A[i]?=some l→H b=some (.rows 1 (l.map gL))
 nd:bs.Nodup
 nv:bv∉bs
 n7:b7∉bs
 ov:off va bv
 o7:off va b7
 ob: ∀b∈bs,off va b
theorem Vi.some {e f:Nat} {c:List Nat} {A:List (List Int)} {k:AV} {H:Hp} (h:Vi e f c A k H) {b:Nat} (g:b∈c): ∃l,H b=some (.rows 1 l):=by
 obtain⟨i,d⟩:=iZ g;have j:i<A.length:=by have:=(bF.1 d).1;rw[←h.l];exact this
 exact⟨_,h.a i b _ d (aF j)⟩
theorem T9 {sz:Nat} {v:AV} {rows:List (List AV)} {H H':Hp} (h:eB sz v rows H) (d: ∀b o,H b=Option.some o→H' b=Option.some o):eB sz v rows H':=by
 rcases h with g|⟨b,a,c⟩
 ·exact .inl g
 exact .inr ⟨b,a,d _ _ c⟩
theorem Vi.keep {c e:Nat} {d:List Nat} {A:List (List Int)} {g:AV} {H H':Hp} (h:Vi c e d A g H) (f: ∀b o,H b=Option.some o→H' b=Option.some o):Vi c e d A g H':=
 {h with o:=T9 h.o f,a:=fun i b l j k=>f _ _ (h.a i b l j k)}
theorem Bg: ∀(a:List Nat) (A:List (List Int)) (b:Nat) (l:List Int),a.length=A.length→fU (a++[b]) (A++[l])=fU a A++[[.osl 1 b l.length]]
 |[],[],_,_,_=>rfl
 |x::a,y::A,b,l,h=>by simp only[dM,fU,Bg a A b l (by simpa using h)]
 |[],_::_,_,_,h=>by simp at h
 |_::_,[],_,_,h=>by simp at h
theorem Vi.snoc {f j:Nat} {d:List Nat} {A:List (List Int)} {t v':AV} {H H':Hp} (h:Vi f j d A t H) {b:Nat} {l:List Int} (z:H b=none) (u:H f≠none) (B:H j≠none) (I:eB 1 v' (fU d A++[[.osl 1 b l.length]]) H')
  (G: ∀x o,upd H b (Option.some (.rows 1 (l.map gL))) x=Option.some o→t≠ .osl 1 x (fU d A).length→H' x=Option.some o) (k: ∀x,off t x→upd H b (Option.some (.rows 1 (l.map gL))) x≠none→off v' x) {g O:Nat} {T:List (List AV)} (D:H' g=Option.some (.rows O T)) (P:iG) (J:O≠1:=by decide):
  Vi f j (d++[b]) (A++[l]) v' (upd H' g (Option.some P)):=by
 have nb: ∀x,H x≠none→x≠b:=fun x hx e=>hx (by rw[e];exact z);have N:off t b:=h.o.new z;have n: ∀x,x≠b→upd H b (Option.some (.rows 1 (l.map gL))) x=H x:=fun x hx=>cI _ _ hx;have v: ∀x∈d,H x≠none:=fun x hx=>by obtain⟨l,c⟩:=h.some hx;rw[c];exact bY _
 have E:H' b=Option.some (.rows 1 (l.map gL)):=G b _ (bE _ _ _) (N _ _);have C: ∀x p,H' x=Option.some (.rows 1 p)→x≠g:=fun x p hx e=>by rw[e,D]at hx;cases hx;exact J rfl
 have Q:off v' g:=I.offsz D J;refine⟨by simp [h.l],by rw[Bg _ _ _ _ h.l];exact I.off Q _,fun i x p hx c=>?_, ?_, ?_, ?_,k j h.ov (by rw[n _ (nb _ B)];exact B),k f h.o7 (by rw[n _ (nb _ u)];exact u),fun x hx=>?_⟩
 ·by_cases F:i<d.length
  ·rw[iE F]at hx
   rw[iE (by rw[←h.l];exact F)]at c;have L:=h.a i x p hx c;have K:=G x _ (by rw[n _ (nb _ (by rw[L];exact bY _))];exact L) (h.ob x (aZ hx) _ _);rw[cI _ _ (C _ _ K)];exact K
  rw[jA (by omega)]at hx;rw[jA (by rw[←h.l];omega),←h.l]at c;obtain⟨R,U⟩:=bF.1 hx;have S:i-d.length=0:=by simpa using R
  rw[S]at hx c;simp only[fA,Option.some.injEq]at hx c;subst hx;subst c;rw[cI _ _ (C _ _ E)];exact E
 ·rw[List.nodup_append]
  refine⟨h.nd,by simp,fun x hx y M e=>?_⟩;rw[bD]at M;subst M;subst e;exact v _ hx z
 ·simp only[eV,bD,not_or]
  exact⟨h.nv,nb _ B⟩
 ·simp only[eV,bD,not_or]
  exact⟨h.n7,nb _ u⟩
 rcases eV.1 hx with hx|hx
 ·exact k x (h.ob x hx) (by rw[n _ (nb _ (v x hx))];exact v x hx)
 rw[bD]at hx;subst hx;exact k x N (by rw[bE];exact bY _)
theorem nS.sub {cx:Cx} {r v:Nat} {abs:List Nat} {st:RS} {vo:AV} {H H':Hp} (h:nS cx r v abs st vo H) (c: ∀b o,H b=Option.some o→H' b=Option.some o):nS cx r v abs st vo H':=
 {h with r:=c _ _ h.r,v:=c _ _ h.v,a:=fun i b l d e=>c _ _ (h.a i b l d e),o:=T9 h.o c}
theorem tG (s:dC): ∀A B:List Pl,vD (A++B) s=match vD A s with |some r=>some r|none=>vD B s
 |[],B=>rfl
 |t::A,B=>by
  simp only[dM,vD];split
  ·rfl
  exact tG s A B
theorem oP (b:Bool) (s:dC): ∀(l:List dC) (i:Nat),vD (TG b i l) s=(dA l s).map fun k=>(b,((i+k:Nat):Int))
 |[],_=>rfl
 |x::l,i=>by
  simp only[TG,vD,dA];by_cases h:s=x
  ·subst h;simp
  rw[aL h,aL (fun e=>h e.symm),oP b s l (i+1)]
  cases dA l s with
  |none=>rfl
  |some k=>simp only[dY];congr 3;omega
theorem zC (s:dC): ∀A B:List dC,dA (A++B) s=match dA A s with |some k=>some k|none=>(dA B s).map (· +A.length)
 |[],B=>by
  simp only[cQ,dA,aV];cases dA B s<;>rfl
 |x::A,B=>by
  simp only[dM,dA];split
  ·rfl
  rw[zC s A B]
  cases dA A s with
  |some k=>rfl
  |none=>
   cases dA B s with
   |none=>rfl
   |some k=>simp only[dY,aQ];congr 1
theorem NH {p:Pg} {i:Nat} {f:Fu} (l:p.funs[i]?=some f) (s:dC):Xg (kQ p) (Vl f) s=(decide ((eT p i s).1=1),if(eT p i s).1=0 then 0 else(eT p i s).2)∧
  ((eT p i s).1=1→0≤(eT p i s).2∧(eT p i s).2<((f.params.length+f.locs.length:Nat):Int))∧((eT p i s).1=2→0≤(eT p i s).2∧(eT p i s).2<(p.vars.length:Int))∧((eT p i s).1=3→0≤(eT p i s).2∧(eT p i s).2<(p.arrs.length:Int))∧((eT p i s).1=4→0≤(eT p i s).2∧(eT p i s).2<(p.funs.length:Int)):=by
 have j:vD (Vl f) s=(dA (gM f) s).map fun k=>(true,((0+k:Nat):Int)):=oP true s _ 0
 have g:vD (kQ p) s=match dA p.vars s with
  |some k=>some (false,(k:Int))
  |none=>match dA (p.arrs.map Ar.name) s with
   |some k=>some (false,(k:Int))
   |none=>(dA (p.funs.map Fu.name) s).map (fun k:Nat=>((false,(k:Int)):Bool×Int)):=by
  rw[kQ,tG,tG,oP,oP,oP];cases dA p.vars s<;>cases dA (p.arrs.map Ar.name) s<;>cases dA (p.funs.map Fu.name) s<;>simp
 unfold eT Xg;rw[j,g,l];simp only[cA];rcases MG (dA (gM f) s)with c|⟨k,c⟩
 rotate_left
 ·have:=(iT _ _ _ c).1
  have n:(gM f).length=f.params.length+f.locs.length:=aH;simp only[c,dY,mZ,bT];refine⟨by simp,fun _=>⟨by omega,by omega⟩,fun h=>absurd h (by simp),fun h=>absurd h (by simp),fun h=>absurd h (by simp)⟩
 simp only[c,iI];unfold tL kO;rw[zC,zC];rcases MG (dA p.vars s)with a|⟨k,a⟩
 rotate_left
 ·have:=(iT _ _ _ a).1
  simp only[a,bH this];refine⟨by simp,fun h=>absurd h (by simp),fun _=>⟨by omega,by omega⟩,fun h=>absurd h (by simp),fun h=>absurd h (by simp)⟩
 rcases MG (dA (p.arrs.map Ar.name) s)with b|⟨k,b⟩
 rotate_left
 ·have e:=(iT _ _ _ b).1
  rw[aE]at e;simp only[a,b,dY,aL (show ¬(k+p.vars.length<p.vars.length)from by omega),Nat.add_sub_cancel,bH e];refine⟨by simp,fun h=>absurd h (by simp),fun h=>absurd h (by simp),fun _=>⟨by omega,by omega⟩,fun h=>absurd h (by simp)⟩
 rcases MG (dA (p.funs.map Fu.name) s)with d|⟨k,d⟩
 rotate_left
 ·have e:=(iT _ _ _ d).1
  rw[aE]at e;simp only[a,b,d,dY,iI,aH,aE];rw[aL (show ¬(k+(p.vars.length+p.arrs.length)<p.vars.length)from by omega),aL (show ¬(k+(p.vars.length+p.arrs.length)-p.vars.length<p.arrs.length)from by omega),show k+(p.vars.length+p.arrs.length)-p.vars.length-p.arrs.length=k from by omega];refine⟨by simp,fun h=>absurd h (by simp),fun h=>absurd h (by simp),fun h=>absurd h (by simp),fun _=>⟨by omega,by omega⟩⟩
 simp only[a,b,d,iI];refine⟨by simp,fun h=>absurd h (by simp),fun h=>absurd h (by simp),fun h=>absurd h (by simp),fun h=>absurd h (by simp)⟩
theorem Go.trace {W:List Int} {inp:dC} {k:Nat} {s s':Mc} (h:Go W inp k s s'): ∃g:Nat→Mc,g 0=s∧g k=s'∧ ∀i,i<k→mX W inp (g i)=some (0,g (i+1)):=by
 induction h with
 |nil s=>exact⟨fun _=>s,rfl,rfl,fun i d=>by omega⟩
 | @step k s s1 s2 h _ ih=>
   obtain⟨g,a,b,c⟩:=ih;refine⟨fun i=>match i with |0=>s|i+1=>g i,rfl,b,fun i d=>?_⟩
   cases i with
   |zero=>show mX W inp s=some (0,g 0);rw[a];exact h
   |succ i=>exact c i (by omega)
def D2:Mc:=⟨0,0,0,List.replicate 4224 0,0,[],0⟩
def sQ (T:List Int):List Int:=(iK T 0 QH).2
def rF (o:Int):dC:=if o=1∨o=2∨o=19∨o=25 then [97,99]else if o=3 then [97,98]else if o=16∨o=17 then [97,98,99]else if o=22∨o=23∨o=24 then [97]else if o=26 then []else [97,98,114]
def RO (o:Int):Prop:=o=1∨o=2∨o=3∨o=4∨o=5∨o=6∨o=7∨o=8∨o=9∨o=10∨o=11∨o=12∨o=13∨o=14∨o=15∨o=16∨o=17∨o=19∨o=22∨o=23∨o=24∨o=25∨o=26
def vR (s:dC) (c:UInt8):Bool:=s.any fun x=>decide (x=c)
def vW (t:Bool) (n m:Int):Bool:=if t then decide (0≤n)&&decide (n≤m)else decide (n=0)
def BE (o a b c:Int):Bool:=vW (vR (rF o) 97) a 15&&vW (vR (rF o) 98) b 15&&vW (vR (rF o) 99||vR (rF o) 114) c (if vR (rF o) 114 then 15 else 65535)
def yF (w:Int):List AV:=[.int .i64 (w/16777216), .int .i64 (w/1048576 % 16), .int .i64 (w/65536 % 16), .int .i64 (w % 65536)]
def sM (w:Int):Prop:=RO (w/16777216)∧BE (w/16777216) (w/1048576 % 16) (w/65536 % 16) (w % 65536)=true
def gI:Nat→Nat→List Nat
 |0,_=>[]
 |k+1,a=>a % 2::gI k (a/2)
def Td:List Nat→Nat
 |[]=>0
 |b::l=>b+2 *Td l
def qC (n:Nat):List AV:=[.int .i64 (n:Int)]
theorem rA: ∀(k a:Nat),(gI k a).length=k
 |0,_=>rfl
 |k+1,a=>by simp only[gI,aQ,rA k]
theorem pP: ∀(k a i:Nat),i<k→(gI k a)[i]?=some (a/2^i % 2)
 |0,_,_,h=>by omega
 |k+1,a,0,_=>by simp [gI]
 |k+1,a,i+1,h=>by
  simp only[gI,kV,pP k (a/2) i (by omega)];rw[XL,mQ,Nat.mul_comm 2]
def pE (op:Int) (x y:Nat):Nat:=if(x+y=2∧op≠11)∨(x+y=1∧op≠9)then 1 else 0
theorem JG: ∀l:List Nat,(∀x∈l,x≤1)→Td l<2^l.length
 |[],_=>by simp [Td]
 |x::l,h=>by
  have b:=JG l fun y a=>h y (eZ _ a);have c:=h x fK;simp only[Td,aQ,mQ];omega
theorem Zj (op:Int): ∀(k a b:Nat),List.zipWith (pE op) (gI k a) (gI k b)=gI k (Td (List.zipWith (pE op) (gI k a) (gI k b)))
 |0,_,_=>rfl
 |k+1,a,b=>by
  simp only[gI,XM,Td];have h:pE op (a % 2) (b % 2)≤1:=by unfold pE;split<;>omega
  rw[show(pE op (a % 2) (b % 2)+2 *Td (List.zipWith (pE op) (gI k (a/2)) (gI k (b/2)))) % 2=pE op (a % 2) (b % 2)by omega,show(pE op (a % 2) (b % 2)+2 *Td (List.zipWith (pE op) (gI k (a/2)) (gI k (b/2))))/2=Td (List.zipWith (pE op) (gI k (a/2)) (gI k (b/2)))by omega,←Zj op k]
theorem U3: ∀(k a b:Nat),a<2^k→b<2^k→Td (List.zipWith (pE 9) (gI k a) (gI k b))=a&&&b
 |0,a,b,ha,hb=>by
  have :a=0:=by simp at ha;exact ha
  subst this;simp [gI,Td]
 |k+1,a,b,ha,hb=>by
  simp only[gI,XM,Td];rw[U3 k (a/2) (b/2) (by rw[mQ]at ha;omega) (by rw[mQ]at hb;omega)];have c:(a&&&b)/2=a/2&&&b/2:=Nat.and_div_two;have d:(a&&&b) % 2=a % 2&&&b % 2:=Nat.and_mod_two_pow (n:=1);rw[←Nat.div_add_mod (a&&&b) 2,c,d]
  have e:pE 9 (a % 2) (b % 2)=a % 2&&&b % 2:=by
   rcases oV a with x|x<;>rcases oV b with y|y<;>rw[x,y]<;>decide
  rw[e];omega
theorem JF: ∀(k a b:Nat),a<2^k→b<2^k→Td (List.zipWith (pE 10) (gI k a) (gI k b))=a|||b
 |0,a,b,ha,hb=>by
  have :a=0:=by simp at ha;exact ha
  have :b=0:=by simp at hb;exact hb
  subst a;subst b;simp [gI,Td]
 |k+1,a,b,ha,hb=>by
  simp only[gI,XM,Td];rw[JF k (a/2) (b/2) (by rw[mQ]at ha;omega) (by rw[mQ]at hb;omega)];have c:(a|||b)/2=a/2|||b/2:=Nat.or_div_two
  have d:(a|||b) % 2=a % 2|||b % 2:=Nat.or_mod_two_pow (n:=1)
  rw[←Nat.div_add_mod (a|||b) 2,c,d]
  have e:pE 10 (a % 2) (b % 2)=a % 2|||b % 2:=by
   rcases oV a with x|x<;>rcases oV b with y|y<;>rw[x,y]<;>decide
  rw[e];omega
theorem U2: ∀(k a b:Nat),a<2^k→b<2^k→Td (List.zipWith (pE 11) (gI k a) (gI k b))=a^^^b
 |0,a,b,ha,hb=>by
  have :a=0:=by simp at ha;exact ha
  have :b=0:=by simp at hb;exact hb
  subst a;subst b;simp [gI,Td]
 |k+1,a,b,ha,hb=>by
  simp only[gI,XM,Td];rw[U2 k (a/2) (b/2) (by rw[mQ]at ha;omega) (by rw[mQ]at hb;omega)];have c:(a^^^b)/2=a/2^^^b/2:=Nat.xor_div_two;have d:(a^^^b) % 2=a % 2^^^b % 2:=Nat.xor_mod_two_pow (n:=1);rw[←Nat.div_add_mod (a^^^b) 2,c,d]
  have e:pE 11 (a % 2) (b % 2)=a % 2^^^b % 2:=by
   rcases oV a with x|x<;>rcases oV b with y|y<;>rw[x,y]<;>decide
  rw[e];omega
def yR (op:Int) (a b:Nat):Nat:=Td (List.zipWith (pE op) (gI 32 a) (gI 32 b))
theorem PM (op:Int) (x y:Nat):pE op x y≤1:=by unfold pE;split<;>omega
theorem LK (op:Int) (a b:Nat):yR op a b<4294967296:=by
 have:=JG (List.zipWith (pE op) (gI 32 a) (gI 32 b)) fun x d=>by
  obtain⟨i,c⟩:=iZ d;rw[List.getElem?_zipWith]at c;split at c
  ·cases c;exact PM _ _ _
  cases c
 simpa [List.length_zipWith,rA,yR]using this
theorem xO (n:Nat) (h:n<4294967296):(BitVec.ofInt 32 (n:Int)).toNat=n:=by
 rw[BitVec.toNat_ofInt];omega
theorem Zg (op:Int) (f:op=9∨op=10∨op=11) (a b:Nat) (c:a<4294967296) (d:b<4294967296):eR op a b=(((yR op a b:Nat):Int),(0:Int)):=by
 have e: ∀n:Nat,n<4294967296→IntKind.wrap .u32 (n:Int)=(n:Int):=fun n h=>by simp [IntKind.wrap,IntKind.signed,IntKind.bits];omega
 rcases f with rfl|rfl|rfl
 ·show(IntKind.wrap .u32 (BitVec.ofInt 32 a&&&BitVec.ofInt 32 b).toNat,(0:Int))=_
  rw[BitVec.toNat_and,xO a c,xO b d,yR,U3 32 a b c d,e _ (Nat.lt_of_le_of_lt Nat.and_le_left c)]
 ·show(IntKind.wrap .u32 (BitVec.ofInt 32 a|||BitVec.ofInt 32 b).toNat,(0:Int))=_
  rw[BitVec.toNat_or,xO a c,xO b d,yR,JF 32 a b c d,e _ (Nat.or_lt_two_pow (n:=32) c d)]
 show(IntKind.wrap .u32 (BitVec.ofInt 32 a^^^BitVec.ofInt 32 b).toNat,(0:Int))=_;rw[BitVec.toNat_xor,xO a c,xO b d,yR,U2 32 a b c d,e _ (Nat.xor_lt_two_pow (n:=32) c d)]
theorem pY (a b:Nat):((a:Int)).tmod (b:Int)=((a % b:Nat):Int):=by rw[Int.ofNat_tmod]
theorem zT (a b:Nat):((a:Int)).tdiv (b:Int)=((a/b:Nat):Int):=by rw[Int.ofNat_tdiv]
theorem E1 (n:Nat) (h:n<4294967296):IntKind.wrap .u32 (n:Int)=(n:Int):=by simp [IntKind.wrap,IntKind.signed,IntKind.bits];omega
theorem Q5 (n:Nat) (h:n<18446744073709551616):IntKind.wrap .u64 (n:Int)=(n:Int):=by simp [IntKind.wrap,IntKind.signed,IntKind.bits];omega
theorem Xi {l:List Nat} {i x:Nat} (h:l[i]?=some x):(l.map qC)[i]?=some [.int .i64 (x:Int)]:=by rw[dT,h];rfl
theorem DO (op:Int) (a b k:Nat) (c:k<32):(List.zipWith (pE op) (gI 32 a) (gI 32 b))[k]?=some (pE op (a/2^k % 2) (b/2^k % 2)):=by
 rw[List.getElem?_zipWith,pP _ _ _ c,pP _ _ _ c]
end Go.Al
namespace Go.Proofs.YtaecpjgmcffliaaGreatDoor
open Go.Al Go.Proofs.Tryz
section
variable {V : UInt8 → Prop} {A : Prop} {rs : dC → Bool × Int} {W : List Int} {cx : Cx} {inp : dC}
theorem RX {q d n:Nat} {x:Int} {s:Mc} (f:yG W (4 *q) (zH ((d+1:Nat):Int) (gF 19 2 0 (4 *(n:Int)+4)) (d:Int))) (k:s.mem[d+2]?=some x) (e:s.pc=((4 *q:Nat):Int)) (hd:d≤90) (l:n≤3000) (c:s.mem.length=4224):
  (x=0→ ∃a,Go W inp 3 s a∧a.pc=((4 *(n+1):Nat):Int)∧a.mem=s.mem∧a.rd=s.rd∧a.out=s.out)∧(x≠0→ ∃a,Go W inp 4 s a∧a.pc=((4 *(q+1):Nat):Int)∧a.mem=s.mem∧a.rd=s.rd∧a.out=s.out):=by
 have j:(s.hd q (d+1)).r 2=x:=Mc.m_some k
 have b:tX inp 19 2 0 (4 *(n:Int)+4) (s.hd q (d+1))=some (0,if x=0 then(s.hd q (d+1)).to (4 *(n:Int)+4)else(s.hd q (d+1)).nx):=by
  simp only[tX,j];rfl
 refine⟨fun h=>?_,fun h=>?_⟩
 ·obtain⟨k1,i⟩:=Aj (inp:=inp) f (by omega) e (by omega) c
  rw[b,bH h]at i;exact⟨_,k1.app (.one i),by show(4 *(n:Int)+4)=_;omega,rfl,rfl,rfl⟩
 rw[aL h]at b;have g:=Jf f (by omega) e (by omega) (by omega) c b (by show((4 *q+2:Nat):Int)+1=_;omega) c;refine⟨_,g,rfl, ?_,rfl,rfl⟩;show s.mem.set (d+1) (s.m (d+1))=s.mem;exact zX (Mc.m_get (by omega))
theorem OP {q d p:Nat} {s:Mc} (i:yG W (4 *q) (zH ((d+1:Nat):Int) (gF 22 2 0 0) (d:Int))) (j:s.mem[d+2]?=some ((4 *p:Nat):Int)) (g:s.pc=((4 *q:Nat):Int)) (hd:d≤90) (f:s.mem.length=4224):
  ∃a,Go W inp 3 s a∧a.pc=((4 *p:Nat):Int)∧a.mem=s.mem∧a.rd=s.rd∧a.out=s.out:=by
 have c:(s.hd q (d+1)).r 2=((4 *p:Nat):Int):=Mc.m_some j;obtain⟨k1,b⟩:=Aj (inp:=inp) i (by decide) g (by omega) f;have e:tX inp 22 2 0 0 (s.hd q (d+1))=some (0,(s.hd q (d+1)).to ((4 *p:Nat):Int)):=by simp only[tX,c];rfl
 rw[e]at b;exact⟨_,k1.app (.one b),rfl,rfl,rfl,rfl⟩
theorem TZ {q d:Nat} {x:Int} {s:Mc} (f:yG W (4 *q) (zH ((d+1:Nat):Int) (gF 24 2 0 0) (d:Int))) (k:s.mem[d+2]?=some x) (e:s.pc=((4 *q:Nat):Int)) (hd:d≤90) (c:s.mem.length=4224):
  (s.out.length<65536→ ∃a,Go W inp 4 s a∧a.pc=((4 *(q+1):Nat):Int)∧a.mem=s.mem∧a.rd=s.rd∧a.out=s.out++[UInt8.ofNat (IntKind.wrap .u8 x).toNat])∧(¬s.out.length<65536→ ∃a,Fin W inp 2 s 4 a∧a.out=s.out):=by
 have j:(s.hd q (d+1)).r 2=x:=Mc.m_some k
 have b:tX inp 24 2 0 0 (s.hd q (d+1))=if 65536≤s.out.length then some (4,(s.hd q (d+1)).stp)else some (0,{(s.hd q (d+1)).nx with out:=s.out++[UInt8.ofNat (IntKind.wrap .u8 x).toNat]}):=by
  simp only[tX,j];rfl
 refine⟨fun h=>?_,fun h=>?_⟩
 ·rw[aL (by omega)]at b
  have g:=Jf f (by decide) e (by omega) (by omega) c b (by show((4 *q+2:Nat):Int)+1=_;omega) c;refine⟨_,g,rfl, ?_,rfl,rfl⟩;show s.mem.set (d+1) (s.m (d+1))=s.mem;exact zX (Mc.m_get (by omega))
 obtain⟨k1,i⟩:=Aj (inp:=inp) f (by decide) e (by omega) c;rw[b,bH (by omega)]at i;exact⟨_,⟨_,k1,i⟩,rfl⟩
theorem TX {q d c:Nat} {x:Int} {s:Mc} (l:yG W (4 *q) (zH ((d+1:Nat):Int) (gF 17 2 0 (c:Int)) (d:Int))) (n:s.mem[d+2]?=some x) (k:s.pc=((4 *q:Nat):Int)) (hd:d≤90) (o:97≤c∧c≤122) (b:s.mem.length=4224):
  ∃a,Go W inp 4 s a∧a.pc=((4 *(q+1):Nat):Int)∧a.mem=s.mem.set c x∧a.rd=s.rd∧a.out=s.out:=by
 have f:(s.hd q (d+1)).r 2=x:=Mc.m_some n;have e:gS ((s.hd q (d+1)).r 0+(c:Int))=(c:Int):=by show gS (0+(c:Int))=_;rw[Int.zero_add,eP (by omega)]
 have j:(s.hd q (d+1)).mem.length=4224:=b
 have i:tX inp 17 2 0 (c:Int) (s.hd q (d+1))=some (0,{(s.hd q (d+1)).nx with mem:=s.mem.set c x}):=by
  simp only[tX,f,e,cC,j,show c<4224 by omega,cT];rfl
 have g:=Jf l (by omega) k (by omega) (by omega) b i (by show((4 *q+2:Nat):Int)+1=_;omega) (by show(s.mem.set c x).length=_;rw[dP];exact b);refine⟨_,g,rfl, ?_,rfl,rfl⟩;show(s.mem.set c x).set (d+1) (s.m (d+1))=s.mem.set c x;refine zX ?_;rw[gX (by omega),aL (by omega)];exact Mc.m_get (by omega)
theorem OR {q d:Nat} {x v:Int} {s:Mc} (f:yG W (4 *q) [gF 16 2 0 (((d+2:Nat):Int)+1),gF 16 1 0 ((d+2:Nat):Int),gF 25 1 0 4096,gF 17 2 1 128]) (D:s.mem[d+2]?=some x) (E:0≤x) (C:s.mem[d+3]?=some v) (B:s.pc=((4 *q:Nat):Int)) (hd:d≤90) (i:s.mem.length=4224):
  (x<4096→ ∃a,Go W inp 4 s a∧a.pc=((4 *(q+1):Nat):Int)∧a.mem=s.mem.set (128+x.toNat) v∧a.rd=s.rd∧a.out=s.out)∧(¬x<4096→ ∃a,Fin W inp 2 s 3 a∧a.out=s.out):=by
 have o:W[4 *q]?=some (gF 16 2 0 ((d+2+1:Nat):Int)):=f 0 (by simp);have t:W[4 *q+1]?=some (gF 16 1 0 ((d+2:Nat):Int)):=f 1 (by simp);have u:W[4 *q+2]?=some (gF 25 1 0 4096):=f 2 (by simp);have y:W[4 *q+3]?=some (gF 17 2 1 128):=f 3 (by simp);have b:=Ua (inp:=inp) (d:=d+2) B o t (by omega) i;have b:Go W inp 2 s (s.hd q (d+2)):=b;have g:(s.hd q (d+2)).r 1=x:=Mc.m_some D;have j:(s.hd q (d+2)).r 2=v:=Mc.m_some C
 have c:mX W inp (s.hd q (d+2))=if x<4096 then some (0,(s.hd q (d+2)).nx)else some (3,(s.hd q (d+2)).stp):=by
  rw[mJ (p:=4 *q+2) rfl u (by decide)];simp only[tX,g];rfl
 refine⟨fun h=>?_,fun h=>?_⟩
 ·rw[bH h]at c
  have n:mX W inp (s.hd q (d+2)).nx=some (0,{(s.hd q (d+2)).nx.nx with mem:=s.mem.set (128+x.toNat) v}):=by
   rw[mJ (p:=4 *q+3) (by show((4 *q+2:Nat):Int)+1=_;omega) y (by decide)];have k:(s.hd q (d+2)).nx.r 1=x:=g;have l:(s.hd q (d+2)).nx.r 2=v:=j;have e:(gS (x+128)).toNat=128+x.toNat:=by rw[eP (by omega)];omega
   have z:(s.hd q (d+2)).nx.mem.length=4224:=i;simp only[tX,k,l,e,z,show 128+x.toNat<4224 by omega,cT];rfl
  exact⟨_,b.app (.step c (.one n)),by show((4 *q+2:Nat):Int)+1+1=_;omega,rfl,rfl,rfl⟩
 rw[aL h]at c;exact⟨_,⟨_,b,c⟩,rfl⟩
theorem MN {N:Nat}: ∀{l:List Sm} {q d:Nat},(∀m∈l, ∀q,q+(pX m).length≤N→(iK (yN q m) q (zl d 0)).1=zl (d:Int) 0∧(yN q m).length=(pX m).length)→q+(jX l).length≤N→(iK (qD q l) q (zl d 0)).1=zl (d:Int) 0
 |[],_,_,_,_=>rfl
 |m::l,q,d,h,hq=>by
  rw[jX,aH]at hq;obtain⟨a,b⟩:=h m (fK) q (by omega);rw[qD,iJ,a,b];exact MN (fun x c=>h x (eZ _ c)) (by omega)
theorem ML {N:Nat} (k:N≤3000) {f:Int} {m:Sm} (h:SS V A f m): ∀(q d:Nat),(d:Int)+1≤f→q+(pX m).length≤N→(iK (yN q m) q (zl d 0)).1=zl (d:Int) 0:=by
 induction h with
 |set f c e hl hc hV he=>
  intro q d hd b;have l:97≤c.toNat∧c.toNat≤122:=by simp only[Ym,bC,bJ]at hc;exact hc
  rw[AP,iJ,lO he q d (by omega),iJ,eL 58,(Vn (by omega)).2,eL,(SE (by omega) (by omega)).2,show(((d+1:Nat):Int)- 1)=(d:Int)by omega]
 |store f a e hl hA ha he=>
  intro q d hd b;rw[AO,iJ,lO ha q d (by omega),iJ,lO he _ (d+1) (by omega),eL,(D6 (by omega)).2,show(((d+1+1:Nat):Int)- 2)=(d:Int)by omega]
 |put f e hl he=>
  intro q d hd b;rw[AN,iJ,lO he q d (by omega),eL,(pH (A:=941621248) (X:=gF 24 2 0 0) (g:=1) (by decide) (by decide) (by decide) (by decide) (by decide) (by decide) (by omega) (by omega)).2,show(((d+1:Nat):Int)+1 - 2)=(d:Int)by omega]
 |cond f e t hl he ht ih=>
  intro q d hd b;rw[E7]at b;simp only[aH,aQ,aV]at b;have j:=MN (N:=N) (q:=q+(fR e).length+1) (d:=d) (fun m i q b=>⟨ih m i q d (by omega) b,jN (ht m i) q⟩) (by omega);rw[AM,iJ,lO he q d (by omega),iJ,eL,(Nh (by omega) (by omega)).2,show(((d+1:Nat):Int)- 1)=(d:Int)by omega,iJ,gH];rw[show q+(fR e).length+[857735172+4 *((q+(fR e).length+1+(jX t).length:Nat):Int)].length=q+(fR e).length+1 from rfl,j,eL];rw[(pH (A:=1125253120) (X:=gF 3 1 2 0) (g:=2) (by decide) (by decide) (by decide) (by decide) (by decide) (by decide) (by omega) (by omega)).2,show((d:Int)+2 - 2)=(d:Int)by omega]
 |loop f e t hl he ht ih=>
  intro q d hd b;rw[E6]at b;simp only[aH,aQ,aV]at b;have j:=MN (N:=N) (q:=q+1+(fR e).length+1) (d:=d+1) (fun m i q b=>⟨ih m i q (d+1) (by omega) b,jN (ht m i) q⟩) (by omega);rw[AK,iJ,eL,(Vm (by omega) (by omega)).2];rw[show zl ((d:Int)+1) 0=zl ((d+1:Nat):Int) 0 from rfl,show q+[(87:Int)].length=q+1 from rfl,iJ,lO he (q+1) (d+1) (by omega),gH,iJ,eL,(Nh (by omega) (by omega)).2,show(((d+1+1:Nat):Int)- 1)=((d+1:Nat):Int)by omega,iJ];rw[show q+1+(fR e).length+[857735172+4 *((q+1+(fR e).length+1+(jX t).length:Nat):Int)].length=q+1+(fR e).length+1 from rfl,j,eL];rw[(pH (A:=908066816) (X:=gF 22 2 0 0) (g:=1) (by decide) (by decide) (by decide) (by decide) (by decide) (by decide) (by omega) (by omega)).2,show(((d+1:Nat):Int)+1 - 2)=(d:Int)by omega]
end
def SR (V:UInt8→Prop) (A:Prop) (rs:dC→Bool×Int) (W:List Int) (cx:Cx) (q2 B d M tk:Nat) (s:Mc):Rz (Option Int×List Int)→Prop
 | .val p st'=>p=(none,[])∧ ∃k s',k+M *tk≤B+M *st'.ticks∧Go W cx.inp k s s'∧s'.pc=((4 *q2:Nat):Int)∧MR V A rs st' s'∧ ∀j,j<d+2→s'.mem[j]?=s.mem[j]?
 | .fin x st'=>x≠0∧(x=5∨ ∃k s',k+1+M *tk≤B+M *st'.ticks∧Fin W cx.inp k s x s'∧s'.out=st'.out)
structure Hf (V:UInt8→Prop) (A:Prop) (rs:dC→Bool×Int) (W:List Int) (cx:Cx) (N M n:Nat):Prop where
 S: ∀{lv:Int} {m:Sm},SS V A lv m→ ∀(q d:Nat) (st:RS) (s:Mc) (r:Rz (Option Int×List Int)),(d:Int)+1≤lv→q+(pX m).length≤N→yG W (4 *q) (iK (yN q m) q (zl d 0)).2→s.pc=((4 *q:Nat):Int)→MR V A rs st s→pN cx n rs [] m st=some r→SR V A rs W cx (q+(pX m).length) (4 *(pX m).length) d M st.ticks s r
 L: ∀{lv:Int} {l:List Sm},(∀m∈l,SS V A lv m)→ ∀(q d:Nat) (st:RS) (s:Mc) (r:Rz (Option Int×List Int)),(d:Int)+1≤lv→q+(jX l).length≤N→yG W (4 *q) (iK (qD q l) q (zl d 0)).2→s.pc=((4 *q:Nat):Int)→MR V A rs st s→nW cx n rs [] l st=some r→SR V A rs W cx (q+(jX l).length) (4 *(jX l).length) d M st.ticks s r
 Wh: ∀{lv:Int} {e:Ex} {t:List Sm},SX V A (lv+1) e→(∀m∈t,SS V A (lv+1) m)→lv≤24→ ∀(q d:Nat) (st:RS) (s:Mc) (r:Rz (Option Int×List Int)),(d:Int)+1≤lv→q+(pX (.mk 5 [] [e] t [])).length≤N→yG W (4 *q) (iK (yN q (.mk 5 [] [e] t [])) q (zl d 0)).2→s.pc=((4 *q:Nat):Int)→MR V A rs st s→zL cx n rs [] e t st=some r→SR V A rs W cx (q+(pX (.mk 5 [] [e] t [])).length) 0 d M st.ticks s r
section
variable {V : UInt8 → Prop} {A : Prop} {rs : dC → Bool × Int} {W : List Int} {cx : Cx}
theorem MR.same {st st':RS} {s s':Mc} (h:MR V A rs st s) (b:s'.mem=s.mem) (k:s'.rd=s.rd) (j:s'.out=s.out) (d:st'.vars=st.vars) (e:st'.arrs=st.arrs) (f:st'.read=st.read) (g:st'.out=st.out):MR V A rs st' s':=
 ⟨by rw[b];exact h.len,by rw[k,f];exact h.rd,by rw[j,g];exact h.out,fun c i=>by rw[d,b];exact h.vars c i,fun a=>by rw[e,b];exact h.arr a⟩
theorem VV (hN:Nm V A rs) {N M n:Nat} (K:N≤3000) (E:Hf V A rs W cx N M n) {F:Int} {l:List Sm} (h: ∀m∈l,SS V A F m) (q d:Nat) (st:RS) (s:Mc) (r:Rz (Option Int×List Int)) (hd:(d:Int)+1≤F) (R:q+(jX l).length≤N) (D:yG W (4 *q) (iK (qD q l) q (zl d 0)).2) (C:s.pc=((4 *q:Nat):Int)) (z:MR V A rs st s) (a:nW cx (n+1) rs [] l st=some r):SR V A rs W cx (q+(jX l).length) (4 *(jX l).length) d M st.ticks s r:=by
 cases l with
 |nil=>
  simp only[nW,Option.some.injEq]at a;subst a;exact⟨rfl,0,s,by omega, .nil s,by rw[C];rfl,z,fun _ _=>rfl⟩
 |cons m l=>
  have i:=h m (fK);have Q:=jN i q;rw[jX,aH]at R;simp only[nW]at a;rw[qD]at D;obtain⟨w1,G⟩:=jO D;rw[Q,ML K i q d hd (by omega)]at G;rw[jX,aH]
  cases b:pN cx n rs [] m st with
  |none=>rw[b]at a;cases a
  |some ra=>
  rw[b]at a;have e:=E.S i q d st s ra hd (by omega) w1 C z b
  cases ra with
  |fin x st1=>
   simp only[bindR,Option.some.injEq]at a;subst a;obtain⟨v,e⟩:=e;refine⟨v, ?_⟩;rcases e with f|⟨k,u,O,g,o⟩
   ·exact .inl f
   exact .inr ⟨k,u,by omega,g,o⟩
  |val p st1=>
   obtain⟨rfl,k,Z,O,y,H,I,J⟩:=e;simp only[bindR]at a;have c:=E.L (fun x b=>h x (eZ _ b)) (q+(pX m).length) d st1 Z r hd (by omega) G H I a
   cases r with
   |fin x st2=>
    obtain⟨v,c⟩:=c;refine⟨v, ?_⟩;rcases c with f|⟨t,u,P,g,o⟩
    ·exact .inl f
    exact .inr ⟨k+t,u,by omega,Fin.after y g,o⟩
   |val p st2=>
    obtain⟨rfl,t,s2,P,T,U,X,Y⟩:=c;exact⟨rfl,k+t,s2,by omega,y.app T,by rw[U,gE],X,fun j B=>by rw[Y j B,J j B]⟩
theorem VU (K:Nm V A rs) {N M n:Nat} (a4:N≤3000) (ih:Hf V A rs W cx N M n) {lv:Int} {m:Sm} (h:SS V A lv m) (q d:Nat) (st:RS) (s:Mc) (r:Rz (Option Int×List Int)) (hd:(d:Int)+1≤lv) (hq:q+(pX m).length≤N) (R:yG W (4 *q) (iK (yN q m) q (zl d 0)).2) (hp:s.pc=((4 *q:Nat):Int)) (hM:MR V A rs st s) (f:pN cx (n+1) rs [] m st=some r):SR V A rs W cx (q+(pX m).length) (4 *(pX m).length) d M st.ticks s r:=by
 cases h with
 |set _ c e hl hc hV he=>
  have a6:=K.lt c hV;rw[AP]at R;obtain⟨w1,u⟩:=jO R;rw[lO he q d (by omega),gH]at u;obtain⟨u,P⟩:=jO u;rw[eL,(Vn (by omega)).1]at u;rw[eL 58,(Vn (by omega)).2,eL,(SE (by omega) (by omega)).1,show(((d+1:Nat):Int)- 1)=(d:Int)by omega]at P;simp only[pN,cT,fA]at f;rw[SY,aH]
  cases z:kT cx n rs [] e st with
  |none=>rw[z]at f;cases f
  |some ra=>
  rw[z]at f;have J:=Oq K he q d n st s ra (by omega) w1 hp hM z
  cases ra with
  |fin x st1=>
   simp only[bindR,Option.some.injEq]at f;subst f;obtain⟨o,H,x5,k,G,hk,E,F⟩:=J;exact⟨H, .inr ⟨k,G,by rw[o];omega,E,F⟩⟩
  |val x st1=>
   obtain⟨o,U,k,s1,hk,I,g2,l,g4,T⟩:=J;obtain⟨l1,l2⟩:=K.gl c hV;obtain⟨v0,v1,_,_⟩:=l.vars c hV;have a3:=(bF.1 v1).1;simp only[bindR,Sj,l1,l2,cT,cH,dK,a3,dY,Option.some.injEq]at f;subst f;obtain⟨O,Y,j2,B,j4,j5⟩:=Tz (inp:=cx.inp) u g2 (by omega) l.len;obtain⟨Z,k1,C,k3,k4,S⟩:=TX (inp:=cx.inp) (x:=x) P (by rw[B];exact g4) j2 (by omega) a6 (by rw[B];exact l.len);rw[B]at k3;refine⟨rfl,k+4+4,Z, ?_,(I.app Y).app k1, ?_, ?_,fun j D=>?_⟩
   ·show k+4+4+M *st.ticks≤_+M *st1.ticks
    rw[o];simp only[aQ,aV];omega
   ·rw[C];simp only[aQ,aV];simp only[gE]
   ·refine⟨by rw[k3,dP];exact l.len,by rw[k4,j4];exact l.rd,by rw[S,j5];exact l.out,fun Q a0=>?_,fun hA=>?_⟩
    ·obtain⟨l3,l4⟩:=K.gl Q a0
     have a2:=l.len;by_cases e:Q=c
     ·subst e
      exact⟨x,by show(st1.vars.set _ x)[_]?=_;rw[gX a3,bH rfl],U,by rw[k3,gX (by omega),bH rfl]⟩
     have a7: ¬((rs [c]).2).toNat=((rs [Q]).2).toNat:=fun e2=>e (K.inj Q c a0 hV (by omega));have a8: ¬c.toNat=Q.toNat:=fun e2=>e (by rw[←UInt8.toNat_inj];exact e2.symm);obtain⟨v,p1,p2,p3⟩:=l.vars Q a0;exact⟨v,by show(st1.vars.set _ x)[_]?=_;rw[gX a3,aL a7];exact p1,p2,by rw[k3,gX (by omega),aL a8];exact p3⟩
    obtain⟨L,L1,L2,L3⟩:=l.arr hA;have a2:=l.len;refine⟨L,L1,L2,fun j D=>?_⟩;obtain⟨v,p1,p2,p3⟩:=L3 j D;exact⟨v,p1,p2,by rw[k3,gX (by omega),aL (by omega)];exact p3⟩
   have a2:=l.len;rw[k3,gX (by omega),aL (by omega)];exact T j D
 |store _ a e hl hA ha he=>
  rw[AO]at R;obtain⟨w1,u⟩:=jO R;rw[lO ha q d (by omega),gH]at u;obtain⟨u,P⟩:=jO u;rw[lO he _ (d+1) (by omega),gH,eL,(D6 (by omega)).1]at P;simp only[pN,Int.reduceEq,cT,dK,fA,kV,K.ar hA]at f;rw[SV,aH,aH,bV]
  cases z:kT cx n rs [] a st with
  |none=>rw[z]at f;cases f
  |some ra=>
  rw[z]at f;have J:=Oq K ha q d n st s ra (by omega) w1 hp hM z
  cases ra with
  |fin x st1=>
   simp only[bindR,Option.some.injEq]at f;subst f;obtain⟨o,H,x5,k,G,hk,E,F⟩:=J;exact⟨H, .inr ⟨k,G,by rw[o];omega,E,F⟩⟩
  |val x st1=>
  obtain⟨o,U,k,s1,hk,I,g2,l,g4,T⟩:=J;simp only[bindR]at f
  cases hy:kT cx n rs [] e st1 with
  |none=>rw[hy]at f;cases f
  |some rb=>
  rw[hy]at f;have hF:=Oq K he (q+(fR a).length) (d+1) n st1 s1 rb (by omega) u g2 l hy
  cases rb with
  |fin y st2=>
   simp only[Option.some.injEq]at f;subst f;obtain⟨t2,H,x5,C,G,b4,E,F⟩:=hF;exact⟨H, .inr ⟨k+C,G,by rw[t2,o];omega,Fin.after I E,F⟩⟩
  |val y st2=>
   obtain⟨t2,hv,j,O,D,Y,j2,B,j4,j5⟩:=hF;obtain⟨L,L1,L2,L3⟩:=B.arr hA;simp only[X1,Int.toNat_zero,L1,L2,Int.le_refl,cT]at f;have b0:O.mem[d+2]?=some x:=by rw[j5 _ (by omega)];exact g4
   obtain⟨b1,b2⟩:=OR (inp:=cx.inp) (d:=d) P b0 U.1 j4 j2 (by omega) B.len;by_cases c:x<4096
   ·rw[bH (by have:=U.1;omega)]at f
    simp only[Option.some.injEq]at f;subst f;obtain⟨Z,k1,C,k3,k4,S⟩:=b1 c;have a2:=B.len;have b5:=U.1;refine⟨rfl,k+j+4,Z, ?_,(I.app Y).app k1,by rw[C];simp only[gE], ?_,fun i hi=>?_⟩
    ·show k+j+4+M *st.ticks≤_+M *st2.ticks
     rw[t2,o];omega
    ·refine⟨by rw[k3,dP];exact B.len,by rw[k4];exact B.rd,by rw[S];exact B.out,fun Q a0=>?_,fun hA=>?_⟩
     ·obtain⟨v,p1,p2,p3⟩:=B.vars Q a0
      have:=K.lt Q a0;exact⟨v,p1,p2,by rw[k3,gX (by omega),aL (by omega)];exact p3⟩
     have a9:(Ru 0 x.toNat y st2).arrs[0]?=some (L.set x.toNat y):=by
      show(st2.arrs.modify (0:Int).toNat _)[0]?=_;rw[Int.toNat_zero,Ve,L1];rfl
     refine⟨_,a9,by rw[dP];exact L2,fun i hi=>?_⟩;by_cases e:x.toNat=i
     ·subst e
      exact⟨y,by rw[gX (by omega),bH rfl],hv,by rw[k3,gX (by omega),bH rfl]⟩
     obtain⟨v,p1,p2,p3⟩:=L3 i hi;exact⟨v,by rw[gX (by omega),aL e];exact p1,p2,by rw[k3,gX (by omega),aL (by omega)];exact p3⟩
    rw[k3,gX (by omega),aL (by omega),j5 i (by omega),T i hi]
   rw[aL (by have:=U.1;omega)]at f;simp only[Option.some.injEq]at f;subst f;obtain⟨Z,k1,C⟩:=b2 c;exact⟨by decide, .inr ⟨k+j+2,Z,by rw[t2,o];omega,Fin.after (I.app Y) k1,by rw[C,B.out]⟩⟩
 |put _ e hl he=>
  rw[AN]at R;obtain⟨w1,u⟩:=jO R;rw[lO he q d (by omega),gH,eL,(pH (A:=941621248) (X:=gF 24 2 0 0) (g:=1) (by decide) (by decide) (by decide) (by decide) (by decide) (by decide) (by omega) (by omega)).1,show(((d+1:Nat):Int)+1 - 2)=(d:Int)by omega]at u;simp only[pN,Int.reduceEq,cT,dK,fA]at f;rw[SU,aH,bV]
  cases z:kT cx n rs [] e st with
  |none=>rw[z]at f;cases f
  |some ra=>
  rw[z]at f;have J:=Oq K he q d n st s ra (by omega) w1 hp hM z
  cases ra with
  |fin x st1=>
   simp only[bindR,Option.some.injEq]at f;subst f;obtain⟨o,H,x5,k,G,hk,E,F⟩:=J;exact⟨H, .inr ⟨k,G,by rw[o];omega,E,F⟩⟩
  |val x st1=>
   obtain⟨o,U,k,s1,hk,I,g2,l,g4,T⟩:=J;obtain⟨b1,b2⟩:=TZ (inp:=cx.inp) (x:=x) u g4 g2 (by omega) l.len;simp only[bindR,Ik]at f;have a1:=l.out;by_cases c:65536≤st1.out.length
   ·rw[bH c]at f
    simp only[Option.some.injEq]at f;subst f;obtain⟨O,k1,C⟩:=b2 (by rw[a1];omega);exact⟨by decide, .inr ⟨k+2,O,by rw[o];omega,Fin.after I k1,by rw[C,a1]⟩⟩
   rw[aL c]at f;simp only[Option.some.injEq]at f;subst f;obtain⟨O,k1,C,k3,k4,S⟩:=b1 (by rw[a1];omega);refine⟨rfl,k+4,O, ?_,I.app k1,by rw[C,gE], ?_,fun j D=>by rw[k3];exact T j D⟩
   ·show k+4+M *st.ticks≤_+M *st1.ticks
    rw[o];omega
   exact⟨by rw[k3];exact l.len,by rw[k4];exact l.rd,by rw[S,a1],fun c hc=>by rw[k3];exact l.vars c hc,fun a=>by rw[k3];exact l.arr a⟩
 |cond _ e t hl he ht=>
  rw[E7]at hq;simp only[aH,aQ,aV]at hq;have a5:=qQ (b:=q+(fR e).length+1) fun x z=>jN (ht x z);have b3:=MN (N:=N) (q:=q+(fR e).length+1) (d:=d) (fun m hm q hq=>⟨ML a4 (ht m hm) q d (by omega) hq,jN (ht m hm) q⟩) (by omega);rw[AM]at R;obtain⟨w1,u⟩:=jO R;rw[lO he q d (by omega),gH]at u;obtain⟨u,P⟩:=jO u;rw[eL,(Nh (by omega) (by omega)).1,show(((d+1:Nat):Int)- 1)=(d:Int)by omega]at u;rw[eL,(Nh (by omega) (by omega)).2,show(((d+1:Nat):Int)- 1)=(d:Int)by omega,bV]at P;obtain⟨P,w4⟩:=jO P;rw[b3,a5,eL,(pH (A:=1125253120) (X:=gF 3 1 2 0) (g:=2) (by decide) (by decide) (by decide) (by decide) (by decide) (by decide) (by omega) (by omega)).1,show((d:Int)+2 - 2)=(d:Int)by omega]at w4;simp only[pN,Int.reduceEq,cT,dK,fA]at f;rw[E7];simp only[aH,aQ,aV]
  cases z:kT cx n rs [] e st with
  |none=>rw[z]at f;cases f
  |some ra=>
  rw[z]at f;have J:=Oq K he q d n st s ra (by omega) w1 hp hM z
  cases ra with
  |fin x st1=>
   simp only[bindR,Option.some.injEq]at f;subst f;obtain⟨o,H,x5,k,G,hk,E,F⟩:=J;exact⟨H, .inr ⟨k,G,by rw[o];omega,E,F⟩⟩
  |val x st1=>
   obtain⟨o,U,k,s1,hk,I,g2,l,g4,T⟩:=J;simp only[bindR]at f;obtain⟨b1,b2⟩:=RX (inp:=cx.inp) (n:=q+(fR e).length+1+(jX t).length) u g4 g2 (by omega) (by omega) l.len;by_cases c:x=0
   ·rw[bH c]at f
    cases n with
    |zero=>simp [nW]at f
    |succ n=>
    simp only[nW,Option.some.injEq]at f;subst f;obtain⟨O,k1,C,k3,k4,S⟩:=b1 c;refine⟨rfl,k+3,O, ?_,I.app k1, ?_,l.same k3 k4 S rfl rfl rfl rfl,fun j D=>by rw[k3];exact T j D⟩
    ·rw[o];omega
    rw[C];congr 2;omega
   rw[aL c]at f;obtain⟨O,k1,C,k3,k4,S⟩:=b2 c;have hL:=ih.L ht (q+(fR e).length+1) d st1 O r (by omega) (by omega) P C (l.same k3 k4 S rfl rfl rfl rfl) f
   cases r with
   |fin y st2=>
    obtain⟨H,hL⟩:=hL;refine⟨H, ?_⟩;rcases hL with h5|⟨j,G,D,E,F⟩
    ·exact .inl h5
    exact .inr ⟨k+4+j,G,by rw[o]at D;omega,Fin.after (I.app k1) E,F⟩
   |val p st2=>
    obtain⟨rfl,j,Z,D,Y,j2,B,j4⟩:=hL;obtain⟨s4,i1,i2,i3,i4,i5⟩:=Tz (inp:=cx.inp) w4 j2 (by omega) B.len;refine⟨rfl,k+4+j+4,s4, ?_,((I.app k1).app Y).app i1, ?_,B.same i3 i4 i5 rfl rfl rfl rfl,fun i hi=>by rw[i3,j4 i hi,k3];exact T i hi⟩
    ·rw[o]at D;omega
    rw[i2];congr 2;omega
 |loop _ e t hl he ht=>
  simp only[pN,Int.reduceEq,cT,dK,fA]at f;have hW:=ih.Wh he ht hl q d st s r hd hq R hp hM f
  cases r with
  |fin y st2=>
   obtain⟨H,hL⟩:=hW;refine⟨H, ?_⟩;rcases hL with h5|⟨j,G,D,E,F⟩
   ·exact .inl h5
   exact .inr ⟨j,G,by omega,E,F⟩
  |val p st2=>
   obtain⟨rfl,j,Z,D,Y,j2,B,j4⟩:=hW;exact⟨rfl,j,Z,by omega,Y,j2,B,j4⟩
theorem VT (hN:Nm V A rs) {N M n:Nat} (a7:N≤3000) (b6:M=4 *N) (ih:Hf V A rs W cx N M n) {K:Int} {e:Ex} {t:List Sm} (Y:SX V A (K+1) e) (D: ∀m∈t,SS V A (K+1) m) (hl:K≤24) (q d:Nat) (st:RS) (s:Mc) (r:Rz (Option Int×List Int)) (hd:(d:Int)+1≤K) (C:q+(pX (.mk 5 [] [e] t [])).length≤N) (Z:yG W (4 *q) (iK (yN q (.mk 5 [] [e] t [])) q (zl d 0)).2) (hp:s.pc=((4 *q:Nat):Int)) (U:MR V A rs st s) (a:zL cx (n+1) rs [] e t st=some r):SR V A rs W cx (q+(pX (.mk 5 [] [e] t [])).length) 0 d M st.ticks s r:=by
 have a9:=C;have b3:=Z;rw[E6]at C⊢;simp only[aH,aQ,aV]at C⊢;have a8:=qQ (b:=q+1+(fR e).length+1) fun x E=>jN (D x E);have b4:=MN (N:=N) (q:=q+1+(fR e).length+1) (d:=d+1) (fun m hm q C=>⟨ML a7 (D m hm) q (d+1) (by omega) C,jN (D m hm) q⟩) (by omega);rw[AK]at Z;obtain⟨w1,O⟩:=jO Z;rw[eL,(Vm (by omega) (by omega)).1,show((d:Int)+1)=((d+1:Nat):Int)from rfl]at w1;rw[eL,(Vm (by omega) (by omega)).2,show zl ((d:Int)+1) 0=zl ((d+1:Nat):Int) 0 from rfl,bV]at O;obtain⟨O,G⟩:=jO O;rw[lO Y (q+1) (d+1) (by omega),gH]at G;obtain⟨G,P⟩:=jO G;rw[eL,(Nh (by omega) (by omega)).1,show(((d+1+1:Nat):Int)- 1)=((d+1:Nat):Int)by omega]at G;rw[eL,(Nh (by omega) (by omega)).2,show(((d+1+1:Nat):Int)- 1)=((d+1:Nat):Int)by omega,bV]at P;obtain⟨P,w5⟩:=jO P;rw[b4,a8,eL,(pH (A:=908066816) (X:=gF 22 2 0 0) (g:=1) (by decide) (by decide) (by decide) (by decide) (by decide) (by decide) (by omega) (by omega)).1,show(((d+1:Nat):Int)+1 - 2)=(d:Int)by omega]at w5;simp only[zL,nE]at a;by_cases f:cx.fuel≤st.ticks
 ·rw[bH f]at a
  simp only[bindR,Option.some.injEq]at a;subst a;exact⟨by decide, .inl rfl⟩
 rw[aL f]at a;simp only[bindR]at a
 -- the place of W is put on the stack
 obtain⟨s1,I,a2,a3,a4,a5⟩:=xQ (inp:=cx.inp) (e:=d+1) (v:=((4 *q:Nat):Int)) (rd:=s.rd) w1 (by omega) hp (by omega) (by omega) U.len (by
  have :(4 *(q:Int))=((4 *q:Nat):Int):=by omega
  rw[this];rfl)
 obtain⟨p1,p2,p3,p4⟩:=Pi (v:=((4 *q:Nat):Int)) U.len (d:=d) (by omega);rw[←a3]at p1 p2 p3 p4;have a6:MR V A rs {st with ticks:=st.ticks+1} s1:=(U.keep hN p1 p2 a4 a5).same rfl rfl rfl rfl rfl rfl rfl
 cases E:kT cx n rs [] e {st with ticks:=st.ticks+1}with
 |none=>rw[E]at a;cases a
 |some ra=>
 rw[E]at a;have hE:=Oq hN Y (q+1) (d+1) n {st with ticks:=st.ticks+1} s1 ra (by omega) O a2 a6 E;have b7:M *(st.ticks+1)=M *st.ticks+M:=Nat.mul_succ _ _
 cases ra with
 |fin x st1=>
  simp only[Option.some.injEq]at a;subst a;obtain⟨l,H,x5,k,F,hk,f,B⟩:=hE;exact⟨H, .inr ⟨4+k,F,by rw[l];show 4+k+1+M *st.ticks≤0+M *(st.ticks+1);omega,Fin.after I f,B⟩⟩
 |val x st1=>
  obtain⟨l,hu,k,s2,hk,Q,g2,R,g4,S⟩:=hE;have l:st1.ticks=st.ticks+1:=l;simp only at a;have b0:s2.mem[d+2]?=some ((4 *q:Nat):Int):=by rw[S _ (by omega)];exact p3
  obtain⟨b1,b2⟩:=RX (inp:=cx.inp) (d:=d+1) (n:=q+1+(fR e).length+1+(jX t).length) G g4 g2 (by omega) (by omega) R.len;by_cases c:x=0
  ·rw[bH c]at a
   simp only[Option.some.injEq]at a;subst a;obtain⟨s3,k1,k2,k3,k4,k5⟩:=b1 c;refine⟨rfl,4+k+3,s3, ?_,(I.app Q).app k1, ?_,R.same k3 k4 k5 rfl rfl rfl rfl,fun j z=>by rw[k3,S j (by omega)];exact p4 j z⟩
   ·rw[l];omega
   rw[k2];congr 2;omega
  rw[aL c]at a;obtain⟨s3,k1,k2,k3,k4,k5⟩:=b2 c
  cases hy:nW cx n rs [] t st1 with
  |none=>rw[hy]at a;cases a
  |some rb=>
  rw[hy]at a;have o:=ih.L D (q+1+(fR e).length+1) (d+1) st1 s3 rb (by omega) (by omega) P k2 (R.same k3 k4 k5 rfl rfl rfl rfl) hy
  cases rb with
  |fin y st2=>
   simp only[Option.some.injEq]at a;subst a;obtain⟨H,o⟩:=o;refine⟨H, ?_⟩;rcases o with T|⟨j,F,z,f,B⟩
   ·exact .inl T
   exact .inr ⟨4+k+4+j,F,by rw[l]at z;omega,Fin.after ((I.app Q).app k1) f,B⟩
  |val p st2=>
   obtain⟨rfl,j,s4,z,j1,j2,j3,j4⟩:=o;simp only at a;obtain⟨s5,i1,i2,i3,i4,i5⟩:=OP (inp:=cx.inp) (p:=q) w5 (by rw[j4 _ (by omega),k3];exact b0) j2 (by omega) j3.len;have J:=ih.Wh Y D hl q d st2 s5 r hd a9 b3 i2 (j3.same i3 i4 i5 rfl rfl rfl rfl) a;have b5: ∀i,i<d+2→s5.mem[i]?=s.mem[i]?:=fun i u=>by rw[i3,j4 i (by omega),k3,S i (by omega)];exact p4 i u
   rw[E6]at J;simp only[aH,aQ,aV]at J;rw[l]at z;have a0:=(((I.app Q).app k1).app j1).app i1
   cases r with
   |fin y st3=>
    obtain⟨H,o⟩:=J;refine⟨H, ?_⟩;rcases o with T|⟨i,F,u,f,B⟩
    ·exact .inl T
    exact .inr ⟨_,F,(by show 4+k+4+j+3+i+1+M *st.ticks≤0+M *st3.ticks;omega),Fin.after a0 f,B⟩
   |val p st3=>
    obtain⟨rfl,i,s6,u,m1,m2,m3,m4⟩:=J;exact⟨rfl,_,s6,(by show 4+k+4+j+3+i+M *st.ticks≤0+M *st3.ticks;omega),a0.app m1,m2,m3,fun i u=>by rw[m4 i u,b5 i u]⟩
theorem ZJ (a:Nm V A rs) {N M:Nat} (b:N≤3000) (c:M=4 *N) (n:Nat):Hf V A rs W cx N M n:=by
 induction n with
 |zero=>exact⟨fun _ _ _ _ _ _ _ _ _ _ _ h=>by simp [pN]at h,fun _ _ _ _ _ _ _ _ _ _ _ h=>by simp [nW]at h,fun _ _ _ _ _ _ _ _ _ _ _ _ _ h=>by simp [zL]at h⟩
 |succ n ih=>exact⟨VU a b ih,VV a b ih,VT a b c ih⟩
end
section
variable {cx : Cx} {r v : Nat} {abs : List Nat} {st : RS} {vo : AV} {H : Hp}
end
section
variable {cx : Cx} {r v : Nat} {abs : List Nat} {st : RS} {vo : AV} {H : Hp}
end
section
variable {cx : Cx} {r v : Nat} {abs : List Nat} {n : Nat}
end
section
variable {cx : Cx} {r v : Nat} {abs : List Nat} {n : Nat}
def Oz (cx:Cx) (n:Nat) (f:Cf) (len:Nat) (vs:List Int) (st:RS):Option (Rz Int):=
 bindR (some (nE cx st)) fun _ st=>bindR (nW cx n f.res (vs++List.replicate (f.words-len) 0) f.body st) fun r st=>some (.val (r.1.getD 0) st)
end
section
variable {cx : Cx} {r v : Nat} {abs : List Nat} {n : Nat}
end
section
variable {cx : Cx} {r v : Nat} {abs : List Nat} {n : Nat}
end
def WA (e:Int) (out:dC) (t:Nat):AV:= .agg [.int .i64 e, .str out, .int .i64 t]
def zz (a:Ar):List Int:=List.replicate a.size.toNat 0
def Um (p:Pg) (inp:dC) (fu:Int):Cx:=⟨p.funs.map (Bv (kQ p)),inp,(if fu<0 then 0 else fu).toNat⟩
structure ME (p:Pg):Prop where
 ok:p.ok
 n:(kO p).Nodup
 nl: ∀f∈p.funs,(gM f).Nodup
 v:p.vars.length≤10000
 a:p.arrs.length≤10000
 f:p.funs.length≤10000
 f1:1≤p.funs.length
 fs: ∀f∈p.funs,f.params.length≤10000∧f.locs.length≤1100000∧oZ f.body≤1000000
 sz: ∀a∈p.arrs,0≤a.size∧a.size≤4096
theorem Ci {p:Pg} (h:gZ p=0):gD p=true∧(kO p).Nodup∧kH p=true∧qK p=true:=by
 unfold gZ at h;by_cases b:gD p=true
 ·rw[bH b]at h
  by_cases a:lA p=0
  ·refine⟨b, ?_⟩
   unfold lA at a;split at a
   ·rename_i c
    split at a
    ·rename_i e
     have d:=c;simp only[kH,bC,bJ]at d;exact⟨d.1,c,e⟩
    cases a
   cases a
  rw[aL a]at h;exact absurd h a
 rw[aL b]at h;cases h
theorem Xy (p:Pg): ∀(l:List Fu) (i:Nat),jS p i l=true→ ∀(j:Nat) f,l[j]?=some f→(eK f.body).all (yD p (i+j))=true
 |[],_,_,_,_,hf=>by simp at hf
 |g::l,i,h,j,f,hf=>by
  simp only[jS,bC]at h
  cases j with
  |zero=>simp at hf;subst hf;exact h.1
  |succ j=>
   have:=Xy p l (i+1) h.2 j f (by simpa using hf);rwa [show i+1+j=i+(j+1)by omega]at this
theorem HY {p:Pg} (b:p.few) (h:gZ p=0):ME p:=by
 obtain⟨c,j,d,l⟩:=Ci h;simp only[gD,bC,bJ,dB]at c;simp only[kH,bC]at d;refine⟨b.ok,j,fun f g=>?_,b.v,b.a,b.f,c.1.1.1.2,b.fs,fun a e=>?_⟩
 ·obtain⟨i,k⟩:=iZ g
  exact(nY p p.funs 0 d.2 i f k).1
 have:=c.1.2 a e;simp only[mK,bC,bJ]at this;omega
theorem Pm: ∀{l:List dC} {s:dC},s∈l→ ∃k,dA l s=some k
 |x::l,s,h=>by
  rw[dA];by_cases e:x=s
  ·rw[bH e];exact⟨0,rfl⟩
  rw[aL e];obtain⟨k,b⟩:=Pm ((bP.1 h).resolve_left fun a=>e a.symm);rw[b];exact⟨k+1,rfl⟩
theorem Im: ∀{l:List dC} {s:dC},s∉l→dA l s=none
 |[],_,_=>rfl
 |x::l,s,h=>by
  rw[dA,aL (fun e=>h (by rw[e];exact fK)),Im fun e=>h (eZ _ e)];rfl
theorem Xb {p:Pg} {f:Fu} (h:xZ p f) (s:dC):Xg (kQ p) (Vl f) s=(match dA p.vars s with
  |some k=>some (false,(k:Int))
  |none=>match dA (p.arrs.map Ar.name) s with
   |some k=>some (false,(k:Int))
   |none=>(dA (p.funs.map Fu.name) s).map (fun k:Nat=>((false,(k:Int)):Bool×Int))).getD (false,0):=by
 have a:Vl f=[]:=by unfold Vl;rw[h.params,h.locs];rfl
 unfold Xg;rw[a,vD];simp only;rw[kQ,tG,tG,oP,oP,oP];cases dA p.vars s<;>cases dA (p.arrs.map Ar.name) s<;>cases dA (p.funs.map Fu.name) s<;>simp
theorem xM {p:Pg} {f:Fu} (h:xZ p f) {c:UInt8} (e:[c]∈p.vars): ∃k,Xg (kQ p) (Vl f) [c]=(false,((k:Nat):Int))∧p.vars[k]?=some [c]∧k<p.vars.length:=by
 obtain⟨k,a⟩:=Pm e;obtain⟨b,d⟩:=iT _ _ _ a;exact⟨k,by rw[Xb h,a];rfl,d,b⟩
theorem IB {p:Pg} {f:Fu} (h:xZ p f):Nm (fun c=>[c]∈p.vars) (p.arrs.length=1) (Xg (kQ p) (Vl f)):=by
 have z: ∀c,[c]∈p.vars→97≤c.toNat∧c.toNat≤122:=fun c b=>by
  have:=h.vars _ b;simp only[vQ,bC,bJ]at this;omega
 refine⟨z,fun c A b t e=>?_,fun c b=>?_,fun o=>?_⟩
 ·obtain⟨k,d,n,_⟩:=xM h b
  obtain⟨j,l,g,_⟩:=xM h t;rw[d,l]at e;have e:((k:Nat):Int)=((j:Nat):Int):=e;obtain rfl:k=j:=by omega
  rw[n]at g;simpa using g
 ·obtain⟨k,d,_⟩:=xM h b
  rw[d];exact⟨rfl,by simp⟩
 have y:dA p.vars [116]=none:=Im fun u=>by
  have:=h.vars _ u;simp [vQ]at this
 obtain⟨a,i⟩:=RP o;have v:=(h.arrs a (by rw[i];exact bD.2 rfl)).1;have x:dA (p.arrs.map Ar.name) [116]=some 0:=by rw[i];simp [dA,v]
 rw[Xb h,y,x];rfl
theorem ON {p:Pg} {f:Fu} (h:xZ p f) (D: ∀m∈f.body,SS (fun c=>[c]∈p.vars) (p.arrs.length=1) 1 m) (hl:(jX f.body).length+1≤2500) (inp:dC) (u:Int) {n:Nat} {e:Int} {Q:dC} {t:Nat} (C:Z2 (Um p inp u) n p.vars.length (p.arrs.map fun a=>a.size.toNat)=some (e,Q,t)) (he:e≠5):
  ∃k E,k+1≤4 *((jX f.body).length+1) *(t+1)∧Fin (sQ (qD 0 f.body++[36])) inp k D2 e E∧E.out=Q∧e≠0:=by
 have J:=IB h
 have a2:(Um p inp u).main=some (Bv (kQ p) f):=by
  show(p.funs.map (Bv (kQ p)))[(p.funs.map (Bv (kQ p))).length- 1]?=_;rw[h.funs];rfl
 unfold Z2 at C;rw[a2]at C;have hw:(Bv (kQ p) f).words=0:=by show f.params.length+f.locs.length=0;rw[h.params,h.locs];rfl
 simp only[cA,bR,hw,List.replicate_zero]at C;obtain⟨r,F,y⟩:=C;have F:nW (Um p inp u) n (Xg (kQ p) (Vl f)) [] f.body (RS.init p.vars.length (p.arrs.map fun a=>a.size.toNat))=some r:=F;have a0:=qQ (b:=0) fun x hx=>jN (D x hx);obtain⟨w1,S⟩:=jO (W:=sQ (qD 0 f.body++[36])) (q:=0) (A:=qD 0 f.body) (B:=[36]) (z:=QH) (fun i _=>by rw[Nat.mul_zero,bT];rfl);have G:=MN (N:=2500) (l:=f.body) (q:=0) (d:=0) (fun m P q hq=>⟨ML (by decide) (D m P) q 0 (by decide) hq,jN (D m P) q⟩) (by omega);have G:(iK (qD 0 f.body) 0 QH).1=zl ((0:Nat):Int) 0:=G;rw[G,a0,bT,eL,(pH (A:=1509949440) (X:=gF 26 0 0 0) (g:=2) (by decide) (by decide) (by decide) (by decide) (by decide) (by decide) (by decide) (by decide)).1]at S
 have hM:MR (fun c=>[c]∈p.vars) (p.arrs.length=1) (Xg (kQ p) (Vl f)) (RS.init p.vars.length (p.arrs.map fun a=>a.size.toNat)) D2:=by
  refine⟨by show(List.replicate 4224 (0:Int)).length=4224;rw[fJ],rfl,rfl,fun c O=>?_,fun Z=>?_⟩
  ·obtain⟨k,U,_,V⟩:=xM h O
   have:=J.lt c O;refine⟨0, ?_,by simp [dX], ?_⟩
   ·rw[U]
    show(List.replicate p.vars.length (0:Int))[((k:Nat):Int).toNat]?=_;rw[cC,qW,bH V]
   show(List.replicate 4224 (0:Int))[c.toNat]?=_;rw[qW,bH (by omega)]
  obtain⟨a,K⟩:=RP Z;have hn:=(h.arrs a (by rw[K];exact bD.2 rfl)).2;refine⟨List.replicate 4096 0, ?_,fJ,fun j hj=>⟨0,by rw[qW,bH hj],by simp [dX], ?_⟩⟩
  ·show((p.arrs.map fun a=>a.size.toNat).map fun n=>List.replicate n (0:Int))[0]?=_
   rw[K];show some (List.replicate a.size.toNat (0:Int))=_;rw[hn,show(4096:Int).toNat=4096 from rfl]
  show(List.replicate 4224 (0:Int))[128+j]?=_;rw[qW,bH (by omega)]
 have o:=(ZJ (W:=sQ (qD 0 f.body++[36])) (cx:=Um p inp u) J (N:=(jX f.body).length+1) (by omega) (M:=4 *((jX f.body).length+1)) rfl n).L D 0 0 (RS.init p.vars.length (p.arrs.map fun a=>a.size.toNat)) D2 r (by decide) (by omega) w1 rfl hM F;have a3:(RS.init p.vars.length (p.arrs.map fun a=>a.size.toNat)).ticks=0:=rfl;rw[a3]at o;have a4:4 *((jX f.body).length+1) *(t+1)=4 *((jX f.body).length+1) *t+4 *((jX f.body).length+1):=Nat.mul_succ _ _
 cases r with
 |val v st=>
  simp only[Zc,Prod.mk.injEq]at y;obtain⟨rfl,rfl,rfl⟩:=y;obtain⟨_,k,R,hk,T,H,I,_⟩:=o;rw[bT]at H;obtain⟨k1,k2⟩:=Aj (inp:=inp) (d:=0) (e:=0) S (by decide) H (by decide) I.len;have a1:tX inp 26 0 0 0 (R.hd (jX f.body).length 0)=some (1,(R.hd (jX f.body).length 0).stp):=rfl;exact⟨k+2,_,by omega,⟨_,Go.app T k1,k2.trans a1⟩,I.out,by decide⟩
 |fin x st=>
  simp only[Zc,Prod.mk.injEq]at y;obtain⟨rfl,rfl,rfl⟩:=y;obtain⟨x0,o⟩:=o;rcases o with Y|⟨k,E,hk,hf,ho⟩
  ·exact absurd Y he
  exact⟨k,E,by omega,hf,ho,x0⟩
def ZK:dC→Bool×Int:=Xg (kQ fZ) (Vl qJ)
theorem VZ:oU ZK:=⟨rfl,rfl,rfl,rfl,rfl,rfl,rfl,rfl,rfl,rfl,rfl⟩
theorem IG {V:UInt8→Prop} {A:Prop} {l:List Sm} (g: ∀m∈l,SS V A 1 m) (f:(jX l++[36]).length≤2500) (c:Int) (y:7 *((jX l++[36]).length:Int)+50<c):
  ∃n t,Z2 (Um fZ (jX l++[36]) c) n fZ.vars.length (fZ.arrs.map fun a=>a.size.toNat)=some (1,vI (Yn (qD 0 l++[36])),t)∧t≤7 *(jX l++[36]).length+50:=by
 have p:=OC g
 have v: ∀x∈qD 0 l++[36],0≤x∧x<4294967296:=fun x d=>by
  rw[eV,bD]at d;rcases d with d|rfl
  ·exact U5 (N:=2500) (by decide) (b:=0) (fun m u b k=>WT (by decide) (g m u) b k) (by rw[aH]at f;omega) x d
  decide
 have o:(Um fZ (jX l++[36]) c).fuel=c.toNat:=by
  show(if c<0 then 0 else c).toNat=_;rw[aL (by omega)]
 obtain⟨n,st,e,i,j⟩:=NB (cx:=Um fZ (jX l++[36]) c) (t:=jX l++[36]) VZ rfl f (by rw[o];omega) p v;refine⟨n,st.ticks, ?_,j⟩;have e:nW (Um fZ (jX l++[36]) c) n (Bv (kQ fZ) qJ).res (List.replicate (Bv (kQ fZ) qJ).words 0) (Bv (kQ fZ) qJ).body (RS.init fZ.vars.length (fZ.arrs.map fun a=>a.size.toNat))=_:=e;show(some (Bv (kQ fZ) qJ)).bind _=_;rw[cA,e,dY];simp only[Zc,i]
mutual
def YK:Ex→Int→Bool
 | .mk k o n s l,lv=>wM (.mk k o n s l) lv&&lR k o l.length&&VC l (lv+1)
def VC:List Ex→Int→Bool
 |[],_=>true
 |e::l,lv=>YK e lv&&VC l lv
end
mutual
theorem TD: ∀(e:Ex) (a:Int),YK e a=lH e a
 | .mk k o n s l,a=>by simp only[YK,lH,Ex.kind,Ex.op,Ex.kids,G8 l]
theorem G8: ∀(l:List Ex) (a:Int),VC l a=iM l a
 |[],_=>by simp only[VC,lW]
 |e::l,a=>by simp only[VC,lQ,TD e,G8 l]
end
mutual
def YL:Sm→Int→Bool
 | .mk k s l t u,lv=>wN (.mk k s l t u) lv&&zJ k l.length&&VC l (lv+1)&&VB t (lv+1)&&VB u (lv+1)
def VB:List Sm→Int→Bool
 |[],_=>true
 |e::l,lv=>YL e lv&&VB l lv
end
mutual
def uX:Ex→List Us
 | .mk k o n s l=>nX (.mk k o n s l)++uE l
def uE:List Ex→List Us
 |[]=>[]
 |e::l=>uX e++uE l
end
mutual
theorem VK: ∀e:Ex,uX e=nX e++fY e.kids
 | .mk k o n s l=>by simp only[uX,Ex.kids,DY l]
theorem DY: ∀l:List Ex,uE l=fY l
 |[]=>by simp only[uE,fY]
 |e::l=>by simp only[uE,nD,VK e,DY l]
end
mutual
def uM:Sm→List Us
 | .mk k s l t u=>lM (.mk k s l t u)++uE l++uS t++uS u
def uS:List Sm→List Us
 |[]=>[]
 |e::l=>uM e++uS l
end
mutual
theorem VN: ∀e:Sm,uM e=lM e++fY e.es++eK e.thn++eK e.els
 | .mk k s l t u=>by simp only[uM,Sm.es,Sm.thn,Sm.els,DY l,Vv t,Vv u]
theorem Vv: ∀l:List Sm,uS l=eK l
 |[]=>by simp only[uS,eK]
 |e::l=>by simp only[uS,nC,VN e,Vv l]
end
mutual
def kX:Ex→Bool
 | .mk k o n s l=>decide (-9223372036854775808≤k∧k<9223372036854775808)&&decide (-9223372036854775808≤o∧o<9223372036854775808)&&decide (0≤n∧n<4294967296)&&decide (s.length≤9223372036854775807)&&decide (l.length≤9223372036854775807)&&kE l
def kE:List Ex→Bool
 |[]=>true
 |e::l=>kX e&&kE l
end
mutual
theorem WV: ∀e:Ex,kX e=true→e.ok
 | .mk k o n s l,h=>by
   simp only[kX,bC,bJ]at h;exact .mk _ _ _ _ _ h.1.1.1.1.1 h.1.1.1.1.2 h.1.1.1.2 h.1.1.2 h.1.2 (JV l h.2)
theorem JV: ∀l:List Ex,kE l=true→ ∀e∈l,e.ok
 |[],_=>fun e he=>by cases he
 |x::l,h=>fun e he=>by
  simp only[kE,bC]at h;rcases bP.1 he with a|he
  ·rw[a];exact WV x h.1
  exact JV l h.2 e he
end
mutual
def kM:Sm→Bool
 | .mk k s l t u=>decide (-9223372036854775808≤k∧k<9223372036854775808)&&decide (s.length≤9223372036854775807)&&decide (l.length≤9223372036854775807)&&kE l&&decide (t.length≤9223372036854775807)&&kS t&&decide (u.length≤9223372036854775807)&&kS u
def kS:List Sm→Bool
 |[]=>true
 |e::l=>kM e&&kS l
end
mutual
theorem WW: ∀e:Sm,kM e=true→e.ok
 | .mk k s l t u,h=>by
   simp only[kM,bC,bJ]at h;exact .mk _ _ _ _ _ h.1.1.1.1.1.1.1 h.1.1.1.1.1.1.2 ⟨h.1.1.1.1.1.2,JV l h.1.1.1.1.2⟩ h.1.1.1.2 (V0 t h.1.1.2) h.1.2 (V0 u h.2)
theorem V0: ∀l:List Sm,kS l=true→ ∀e∈l,e.ok
 |[],_=>fun e he=>by cases he
 |x::l,h=>fun e he=>by
  simp only[kS,bC]at h;rcases bP.1 he with a|he
  ·rw[a];exact WW x h.1
  exact V0 l h.2 e he
end
mutual
theorem TE: ∀(e:Sm) (a:Int),YL e a=lI e a
 | .mk k s l t u,a=>by simp only[YL,lI,Sm.kind,Sm.es,Sm.thn,Sm.els,G8 l,Sr t,Sr u]
theorem Sr: ∀(l:List Sm) (a:Int),VB l a=gQ l a
 |[],_=>by simp only[VB,oK]
 |e::l,a=>by simp only[VB,lP,TE e,Sr l]
end
theorem NC:YM Rx=some fZ:=by kernel_rfl
theorem Hw:gD fZ=true:=by
 have h:gQ yL 1=true:=by rw[←Sr];kernel_rfl
 simp only[gD,jC,fZ,qJ,dG,fO,h]
 decide+kernel
theorem IF:G2 Rx=(fZ,0,0):=R7 NC Hw
theorem S5:fZ.ok:=by
 have a:yM yL:=⟨show yL.length≤9223372036854775807 from aB (by kernel_rfl),V0 yL (by kernel_rfl)⟩;have b:qJ.ok:=⟨by simp [fC,qJ],⟨by simp [fC,qJ],by simp [qJ]⟩,⟨by simp [fC,qJ],by simp [qJ]⟩,a⟩;refine⟨⟨by simp [fC,fZ],by simp [fC,fZ]⟩,by simp [fC,fZ],by simp [fZ,jH,fC],by simp [fC,fZ],fun f h=>?_⟩;simp only[fZ,bD]at h;subst h;exact b
theorem Hy:fZ.few:=by
 refine⟨S5,by simp [fZ],by simp [fZ],by simp [fZ],fun f h=>?_⟩;simp only[fZ,bD]at h;subst h;exact⟨by simp [qJ],by simp [qJ],show oZ yL≤1000000 from aB (by kernel_rfl)⟩
theorem uB:gZ fZ=0:=by
 unfold gZ;rw[bH Hw]
 have a:kH fZ=true:=by
  show(decide (kO fZ).Nodup&&(decide (gM qJ).Nodup&&(eK yL).all (nO fZ 0)&&true))=true;rw[←Vv]
  decide+kernel
 have b:qK fZ=true:=by
  show(((eK yL).all (yD fZ 0)&&true)&&vE fZ)=true;rw[←Vv]
  decide+kernel
 unfold lA;rw[bH a,bH b,bH rfl]
 decide+kernel
theorem G7:jB (fun l=>l.all vP) fZ=true:=by
 unfold jB;rw[uB]
 decide+kernel
theorem MW:decide ((Rx.length:Int)≤12000)=true:=by kernel_rfl
theorem NU:eN dV 16 [] (.tup [fZ.av, .bool true]):=by
 have b:=Pe Rx (show Rx.length≤1000000 from aB (by kernel_rfl));rw[IF]at b;have j:=Lm;have c:=L6 fZ S5 (fun _=>Hy);rw[←G5,G7]at c;have k:=MW;have l:fZ.av= .agg [.isl 1 (fZ.vars.map bQ), .isl 2 (fZ.arrs.map Ar.row), .isl 5 (fZ.funs.map Fu.row)]:=rfl;have n:G9 (fZ,0,0)= .tup [fZ.av, .int .i64 0, .int .i64 0]:=rfl;rw[n]at b;generalize Rx=y at *;rw[l]at b c⊢;generalize fZ.vars.map bQ=t at *;generalize fZ.arrs.map Ar.row=u at *;generalize fZ.funs.map Fu.row=v at *;refine bX 25 [.cell 0 26, .tmp 1] func16 ?_;refine aA fun K a=>?_;simp only[RR,seval];refine aM fun d p=>?_;simp only[RR,seval];refine a _ _ (aA fun K a=>?_);simp only[RR,seval];refine aO (j) ?_;simp only[RR,seval];refine a _ _ (aA fun K a=>?_);simp only[RR,seval];refine aO (b) ?_;simp only[RR,seval];refine aM fun f g=>?_;have i:f≠d:=fun e=>by rw[e]at g;simp only[RR,seval,reduceCtorEq]at g
 have o:=i.symm;simp only[RR,seval];refine a _ _ (aC fun K a=>?_);refine bB (fun x=>x≠d∧x≠f) [(0,0),(1,3),(2,3),(3,3),(4,3),(5,3),(6,3),(7,3),(8,3),(9,1),(10,1),(11,3)] [(12,1),(13,3)] eF (by kernel_rfl) rfl rfl ?_;simp only[dR,fX,i,k,RR,seval];refine aO (c) ?_;simp only[o,RR,seval];apply a;refine aN ?_;simp only[aW,aJ,bN,RR,seval];refine aY.pure ?_;rfl
theorem CX (o:Int) (h:RO o):eN dV 228 [.int .i64 o] (.str (rF o)):=by
 rcases h with rfl|rfl|rfl|rfl|rfl|rfl|rfl|rfl|rfl|rfl|rfl|rfl|rfl|rfl|rfl|rfl|rfl|rfl|rfl|rfl|rfl|rfl|rfl
 all_goals
  refine bX 31 [.tmp 2] func228 ?_;have b:True:=trivial
  repeat' (first|(refine aC fun K a=>?_;refine aG ?_;simp only[RR,seval];apply a;clear a K)|(refine aI ?_)|(refine aP ?_)|(refine cR ?_)|(refine bL ?_)|(refine aK ?_;simp only[bK,cM])|(refine aG ?_;simp only[bK,RR,seval])|(refine aN ?_;simp only[bK,cM,aW,aJ,bN,RR,seval];refine aY.pure ?_))
  all_goals rfl
theorem Ai (s:dC) (Q:s.length≤100) (c:UInt8):eN dV 229 [.str s, .int .u8 (c.toNat:Int)] (.bool (vR s c)):=by
 have B: ∀{k:Nat} {x:UInt8},s[k]?=some x→x=c→AV.bool true=AV.bool (vR s c):=fun {k x} y z=>by
  have :vR s c=true:=List.any_eq_true.2 ⟨x,aZ y,by simp [z]⟩;rw[this]
 have O:=c.toNat_lt;refine bX 17 [.tmp 4] func229 ?_;refine aA fun K a=>?_;simp only[RR,seval];refine a _ _ (aI (aA fun K a=>?_));simp only[RR,seval];refine a _ _ (bM fun G I f L=>?_);have d:=f 0;have i:=f 1;have u:=f 4;have b:=f 5;simp only[RR,seval]at d i u b;refine aP (eO [0,1] (s.length) (fun k v M=>v 5= .int .i64 (k:Nat)∧(s.take k).any (fun x=>decide (x=c))=false) ⟨b,rfl⟩ ?_);rintro k p J P ⟨o,l⟩ g H A;have d:=(g 0 rfl).trans d;have i:=(g 1 rfl).trans i;have b:=o;clear o;have t:=aX.refl [0,1] p;clear g;refine aI (aA fun K a=>?_);simp only[d,b,RR,seval];refine a _ _ (aU ?_ ?_)<;>intro j
 ·have n:k<s.length:=by have:=aB j;omega
  clear j;have D:=aF n;have F:s.take (k+1)=s.take k++[s[k]]:=cL n;have C:=B D;generalize s[k]=x at *;have S:=x.toNat_lt;have R:decide ((x.toNat:Int)=(c.toNat:Int))=decide (x=c):=decide_eq_decide.2 ⟨fun e=>UInt8.toNat_inj.1 (by omega),fun e=>by rw[e]⟩;refine aK ?_;simp only[RR];refine aI (aP (aA fun K a=>?_));simp only[*,RR,seval];refine a _ _ (aU ?_ ?_)<;>intro N
  ·refine aA fun K a=>?_
   simp only[RR,seval];apply a;refine aN ?_;simp only[aW,aJ,bN,RR,seval];refine aY.pure ?_;exact C (by simp_all)
  refine aK ?_;try simp only[RR]
  refine aG ?_;simp only[b,RR,seval];rw[aS _ (by omega)];refine A _ _ n ⟨by rfl,by rw[F,List.any_append,l];simp_all⟩ (by repeat (first|exact t|refine aX.upd rfl ?_))
 have E:k=s.length:=by have:=aD j;omega
 rw[E,dD]at l;refine cF ?_;simp only[RR,seval];refine aA fun K a=>?_;simp only[RR,seval];apply a;refine aN ?_;simp only[aW,aJ,bN,RR,seval];refine aY.pure ?_
 (unfold vR;rw[l])
theorem pK (t:Bool) (n m:Int):eN dV 230 [.bool t, .int .i64 n, .int .i64 m] (.bool (vW t n m)):=by
 cases t
 ·skip
  refine bX 18 [.tmp 6] func230 ?_;refine aA fun K a=>?_;simp only[RR,seval];refine a _ _ (aI (aA fun K a=>?_));simp only[RR,seval];refine a _ _ (cR (aA fun K a=>?_));simp only[RR,seval];apply a;refine aN ?_;simp only[aW,aJ,bN,RR,seval];refine aY.pure ?_;simp [vW]
 skip;by_cases h:0≤n
 ·have b:vW true n m=decide (n≤m):=by simp [vW,h]
  rw[b];refine bX 18 [.tmp 6] func230 ?_;refine aA fun K a=>?_;simp only[RR,seval];refine a _ _ (aI (aA fun K a=>?_));simp only[RR,seval];refine a _ _ (bL ?_);refine aK ?_;simp only[RR];refine aA fun K a=>?_;simp only[h,RR,seval]
  repeat' ((refine bZ (fun h=>?_) (fun h=>?_))<;>simp only[h,h,RR,seval])
  all_goals
   apply a;refine aN ?_;simp only[aW,aJ,bN,RR,seval];refine aY.pure ?_;rfl
 have b:vW true n m=false:=by simp [vW,h]
 rw[b];refine bX 18 [.tmp 6] func230 ?_;refine aA fun K a=>?_;simp only[RR,seval];refine a _ _ (aI (aA fun K a=>?_));simp only[RR,seval];refine a _ _ (bL ?_);refine aK ?_;simp only[RR];refine aA fun K a=>?_;simp only[h,RR,seval]
 repeat' ((refine bZ (fun h=>?_) (fun h=>?_))<;>simp only[h,h,RR,seval])
 all_goals
  apply a;refine aN ?_;simp only[aW,aJ,bN,RR,seval];refine aY.pure ?_;rfl
theorem Q0 (o a b c:Int) (v:RO o) (h:BE o a b c=true):eN dV 198 [.agg [.int .i64 o, .int .i64 a, .int .i64 b, .int .i64 c]] (.bool true):=by
 have y:=CX o v;have j:(rF o).length≤100:=by rcases v with rfl|rfl|rfl|rfl|rfl|rfl|rfl|rfl|rfl|rfl|rfl|rfl|rfl|rfl|rfl|rfl|rfl|rfl|rfl|rfl|rfl|rfl|rfl<;>decide
 have z:decide (rF o=[63])=false:=by rcases v with rfl|rfl|rfl|rfl|rfl|rfl|rfl|rfl|rfl|rfl|rfl|rfl|rfl|rfl|rfl|rfl|rfl|rfl|rfl|rfl|rfl|rfl|rfl<;>decide
 have n:=Ai (rF o) j 97;have t:=Ai (rF o) j 98;have u:=Ai (rF o) j 99;have i:=Ai (rF o) j 114;simp only[BE,bC]at h;obtain⟨⟨F,G⟩,e⟩:=h;generalize vR (rF o) 97=C at *;generalize vR (rF o) 98=D at *;generalize vR (rF o) 99=B at *;generalize vR (rF o) 114=E at *;have k:=pK C a 15;have l:=pK D b 15;rw[F]at k;rw[G]at l;generalize rF o=p at *;clear j v;cases E
 ·cases B
  ·have f:=pK false c 65535
   have e:vW false c 65535=true:=e;rw[e]at f;refine bX 38 [.tmp 2] func198 ?_;refine aA fun K d=>?_;simp only[RR,seval];refine aM fun g A=>?_;simp only[RR,seval];refine d _ _ (aA fun K d=>?_);simp only[RR,seval];refine aO (y) ?_;simp only[RR,seval];refine d _ _ (aA fun K d=>?_);simp only[RR,seval];refine d _ _ (aI (aA fun K d=>?_));simp only[RR,seval];refine aO (i) ?_;simp only[RR,seval];refine d _ _ (bL ?_);refine aK ?_;simp only[RR];refine aC fun K d=>?_;refine bB (fun x=>x≠g) [(0,3),(1,3),(2,3),(3,3),(5,3),(6,0),(4,1),(7,1),(8,3),(9,3),(10,3),(12,3),(13,0),(11,1),(14,1),(15,3),(16,3),(17,3),(23,3),(24,0),(25,3),(18,1),(19,3),(20,3),(21,1),(22,3),(26,1),(27,3),(28,3)] [] eF (by kernel_rfl) rfl rfl ?_;simp only[dR,fX,z,RR,seval]
   all_goals (refine aO (n) ?_;simp only[RR,seval])
   all_goals (refine aO (k) ?_;simp only[RR,seval])
   all_goals (refine aO (t) ?_;simp only[RR,seval])
   all_goals (refine aO (l) ?_;simp only[RR,seval])
   all_goals (refine aO (u) ?_;simp only[RR,seval])
   all_goals (refine aO (i) ?_;simp only[RR,seval])
   all_goals (refine aO (f) ?_;simp only[RR,seval])
   all_goals
    apply d;refine aN ?_;simp only[aW,aJ,bN,RR,seval];refine aY.pure ?_;rfl
  have f:=pK true c 65535;have e:vW true c 65535=true:=e;rw[e]at f;refine bX 38 [.tmp 2] func198 ?_;refine aA fun K d=>?_;simp only[RR,seval];refine aM fun g A=>?_;simp only[RR,seval];refine d _ _ (aA fun K d=>?_);simp only[RR,seval];refine aO (y) ?_;simp only[RR,seval];refine d _ _ (aA fun K d=>?_);simp only[RR,seval];refine d _ _ (aI (aA fun K d=>?_));simp only[RR,seval];refine aO (i) ?_;simp only[RR,seval];refine d _ _ (bL ?_);refine aK ?_;simp only[RR];refine aC fun K d=>?_;refine bB (fun x=>x≠g) [(0,3),(1,3),(2,3),(3,3),(5,3),(6,0),(4,1),(7,1),(8,3),(9,3),(10,3),(12,3),(13,0),(11,1),(14,1),(15,3),(16,3),(17,3),(23,3),(24,0),(25,3),(18,1),(19,3),(20,3),(21,1),(22,3),(26,1),(27,3),(28,3)] [] eF (by kernel_rfl) rfl rfl ?_;simp only[dR,fX,z,RR,seval]
  all_goals (refine aO (n) ?_;simp only[RR,seval])
  all_goals (refine aO (k) ?_;simp only[RR,seval])
  all_goals (refine aO (t) ?_;simp only[RR,seval])
  all_goals (refine aO (l) ?_;simp only[RR,seval])
  all_goals (refine aO (u) ?_;simp only[RR,seval])
  all_goals (refine aO (f) ?_;simp only[RR,seval])
  all_goals
   apply d;refine aN ?_;simp only[aW,aJ,bN,RR,seval];refine aY.pure ?_;rfl
 cases B
 ·have f:=pK true c 15
  have e:vW true c 15=true:=e;rw[e]at f;refine bX 38 [.tmp 2] func198 ?_;refine aA fun K d=>?_;simp only[RR,seval];refine aM fun g A=>?_;simp only[RR,seval];refine d _ _ (aA fun K d=>?_);simp only[RR,seval];refine aO (y) ?_;simp only[RR,seval];refine d _ _ (aA fun K d=>?_);simp only[RR,seval];refine d _ _ (aI (aA fun K d=>?_));simp only[RR,seval];refine aO (i) ?_;simp only[RR,seval];refine d _ _ (cR (aG ?_));simp only[RR,seval];refine aC fun K d=>?_;refine bB (fun x=>x≠g) [(0,3),(1,3),(2,3),(3,3),(5,3),(6,0),(4,1),(7,1),(8,3),(9,3),(10,3),(12,3),(13,0),(11,1),(14,1),(15,3),(16,3),(17,3),(23,3),(24,0),(25,3),(18,1),(19,3),(20,3),(21,1),(22,3),(26,1),(27,3),(28,3)] [] eF (by kernel_rfl) rfl rfl ?_;simp only[dR,fX,z,RR,seval]
  all_goals (refine aO (n) ?_;simp only[RR,seval])
  all_goals (refine aO (k) ?_;simp only[RR,seval])
  all_goals (refine aO (t) ?_;simp only[RR,seval])
  all_goals (refine aO (l) ?_;simp only[RR,seval])
  all_goals (refine aO (u) ?_;simp only[RR,seval])
  all_goals (refine aO (i) ?_;simp only[RR,seval])
  all_goals (refine aO (f) ?_;simp only[RR,seval])
  all_goals
   apply d;refine aN ?_;simp only[aW,aJ,bN,RR,seval];refine aY.pure ?_;rfl
 have f:=pK true c 15;have e:vW true c 15=true:=e;rw[e]at f;refine bX 38 [.tmp 2] func198 ?_;refine aA fun K d=>?_;simp only[RR,seval];refine aM fun g A=>?_;simp only[RR,seval];refine d _ _ (aA fun K d=>?_);simp only[RR,seval];refine aO (y) ?_;simp only[RR,seval];refine d _ _ (aA fun K d=>?_);simp only[RR,seval];refine d _ _ (aI (aA fun K d=>?_));simp only[RR,seval];refine aO (i) ?_;simp only[RR,seval];refine d _ _ (cR (aG ?_));simp only[RR,seval];refine aC fun K d=>?_;refine bB (fun x=>x≠g) [(0,3),(1,3),(2,3),(3,3),(5,3),(6,0),(4,1),(7,1),(8,3),(9,3),(10,3),(12,3),(13,0),(11,1),(14,1),(15,3),(16,3),(17,3),(23,3),(24,0),(25,3),(18,1),(19,3),(20,3),(21,1),(22,3),(26,1),(27,3),(28,3)] [] eF (by kernel_rfl) rfl rfl ?_;simp only[dR,fX,z,RR,seval]
 all_goals (refine aO (n) ?_;simp only[RR,seval])
 all_goals (refine aO (k) ?_;simp only[RR,seval])
 all_goals (refine aO (t) ?_;simp only[RR,seval])
 all_goals (refine aO (l) ?_;simp only[RR,seval])
 all_goals (refine aO (u) ?_;simp only[RR,seval])
 all_goals (refine aO (f) ?_;simp only[RR,seval])
 all_goals
  apply d;refine aN ?_;simp only[aW,aJ,bN,RR,seval];refine aY.pure ?_;rfl
theorem Q1 (w:Int) (d:dX w) (h:sM w):eN dV 156 [.int .u32 w] (.tup [.agg (yF w), .int .i64 0]):=by
 have i:=Q0 _ _ _ _ h.1 h.2;have b:=d.1;have G:=d.2;have l:w.tdiv 16777216=w/16777216:=Int.tdiv_eq_ediv_of_nonneg b;have n:w.tdiv 1048576=w/1048576:=Int.tdiv_eq_ediv_of_nonneg b;have o:w.tdiv 65536=w/65536:=Int.tdiv_eq_ediv_of_nonneg b;have p:w.tmod 65536=w % 65536:=vS b;have t:(w/1048576).tmod 16=w/1048576 % 16:=vS (by omega);have u:(w/65536).tmod 16=w/65536 % 16:=vS (by omega);have v:IntKind.wrap .u32 (w/16777216)=w/16777216:=eH _ (by omega);have x:IntKind.wrap .u32 (w/1048576)=w/1048576:=eH _ (by omega);have y:IntKind.wrap .u32 (w/65536)=w/65536:=eH _ (by omega);have z:IntKind.wrap .u32 (w % 65536)=w % 65536:=eH _ (by omega);have A:IntKind.wrap .u32 (w/1048576 % 16)=w/1048576 % 16:=eH _ (by omega);have B:IntKind.wrap .u32 (w/65536 % 16)=w/65536 % 16:=eH _ (by omega);have C:IntKind.wrap .i64 (w/16777216)=w/16777216:=aS _ (by omega);have D:IntKind.wrap .i64 (w % 65536)=w % 65536:=aS _ (by omega);have E:IntKind.wrap .i64 (w/1048576 % 16)=w/1048576 % 16:=aS _ (by omega);have F:IntKind.wrap .i64 (w/65536 % 16)=w/65536 % 16:=aS _ (by omega);unfold yF;refine bX 25 [.cell 2 231, .tmp 3] func156 ?_;refine aA fun K a=>?_;simp only[RR,seval];refine aM fun f H=>?_;simp only[RR,seval];refine a _ _ (aA fun K a=>?_);simp only[*,RR,seval];refine aM fun g c=>?_;have k:g≠f:=fun e=>by rw[e]at c;simp only[RR,seval,reduceCtorEq]at c
 have j:=k.symm;simp only[RR,seval];refine a _ _ (aI (aA fun K a=>?_));simp only[RR,seval];refine aO (i) ?_;simp only[RR,seval];refine a _ _ (bL ?_);refine aK ?_;simp only[RR];refine aA fun K a=>?_;simp only[j,RR,seval];apply a;refine aN ?_;simp only[aW,aJ,bN,RR,seval];refine aY.pure ?_;rfl
end Go.Proofs.YtaecpjgmcffliaaGreatDoor
namespace Go.Al
def NI (x:Int):List AV:=[.int .i64 x]
def JL (W:List Int) (inp:dC) (bm bc:Nat) (vo:AV) (pc r1 r2 rd st en:Int):List AV:=[.int .i64 pc, .int .u32 0, .int .u32 r1, .int .u32 r2, .int .u32 0, .int .u32 0, .int .u32 0, .int .u32 0, .int .u32 0, .int .u32 0, .int .u32 0, .int .u32 0, .int .u32 0, .int .u32 0, .int .u32 0, .int .u32 0, .int .u32 0, .osl 1 bm 4224, .int .i64 rd, .str [], .int .i64 st, .int .i64 en,vo, .isl 4 (W.map yF), .isl 1 (W.map fun _=>[.bool true]), .isl 1 (W.map gL), .str inp, .osl 1 bc W.length]
structure jU (W:List Int) (inp:dC) (r bm bc:Nat) (vo:AV) (s:Mc) (en:Int) (H:Hp):Prop where
 r:H r=some (.rows 28 [[.int .i64 s.pc, .int .u32 0, .int .u32 s.r1, .int .u32 s.r2, .int .u32 0, .int .u32 0, .int .u32 0, .int .u32 0, .int .u32 0, .int .u32 0, .int .u32 0, .int .u32 0, .int .u32 0, .int .u32 0, .int .u32 0, .int .u32 0, .int .u32 0, .osl 1 bm 4224, .int .i64 s.rd, .str [], .int .i64 s.st, .int .i64 en,vo, .isl 4 (W.map yF), .isl 1 (W.map fun _=>[.bool true]), .isl 1 (W.map gL), .str inp, .osl 1 bc W.length]])
 m:H bm=some (.rows 1 (s.mem.map gL))
 ml:s.mem.length=4224
 c: ∃cn:List Int,cn.length=W.length∧H bc=some (.rows 1 (cn.map NI))
 o:eB 1 vo (s.out.map rE) H
 om:off vo bm
 oc:off vo bc
 mc:bm≠bc
 ol:s.out.length≤65536
 u1:dX s.r1
 u2:dX s.r2
 um: ∀x∈s.mem,dX x
 rd:s.rd≤inp.length
def gP (r bm bc:Nat) (vo vo':AV) (H H':Hp):Prop:= ∀b o,H b=some o→b≠r→b≠bm→b≠bc→off vo b→H' b=some o∧off vo' b
section
variable {W : List Int} {inp : dC} {r bm bc : Nat} {vo vo' vo2 : AV} {s s' : Mc} {en en' : Int} {H H' H2 : Hp}
theorem gP.refl (r bm bc:Nat) (vo:AV) (H:Hp):gP r bm bc vo vo H H:=fun _ _ h _ _ _ a=>⟨h,a⟩
theorem gP.trans (h:gP r bm bc vo vo' H H') (g:gP r bm bc vo' vo2 H' H2):gP r bm bc vo vo2 H H2:=fun b o j a c d i=>by
 obtain⟨e,f⟩:=h b o j a c d i;exact g b o e a c d f
theorem jU.nmr (h:jU W inp r bm bc vo s en H):bm≠r:=fun e=>by have a:=h.m;have b:=h.r;rw[e,b]at a;cases a
theorem jU.ncr (h:jU W inp r bm bc vo s en H):bc≠r:=fun e=>by obtain⟨d,_,a⟩:=h.c;have b:=h.r;rw[e,b]at a;cases a
theorem jU.or (h:jU W inp r bm bc vo s en H):off vo r:=h.o.offsz h.r (by decide)
theorem jU.turn (h:jU W inp r bm bc vo s en H) (n:H' r=some (.rows 28 [[.int .i64 s'.pc, .int .u32 0, .int .u32 s'.r1, .int .u32 s'.r2, .int .u32 0, .int .u32 0, .int .u32 0, .int .u32 0, .int .u32 0, .int .u32 0, .int .u32 0, .int .u32 0, .int .u32 0, .int .u32 0, .int .u32 0, .int .u32 0, .int .u32 0, .osl 1 bm 4224, .int .i64 s'.rd, .str [], .int .i64 s'.st, .int .i64 en',vo, .isl 4 (W.map yF), .isl 1 (W.map fun _=>[.bool true]), .isl 1 (W.map gL), .str inp, .osl 1 bc W.length]])) (g: ∀b,b≠r→H' b=H b) (f:s'.mem=s.mem) (i:s'.out=s.out) (t:dX s'.r1) (u:dX s'.r2) (p:s'.rd≤inp.length):jU W inp r bm bc vo s' en' H':=by
 obtain⟨l,j,k⟩:=h.c;refine⟨n,by rw[f,g _ h.nmr];exact h.m,by rw[f];exact h.ml,⟨l,j,by rw[g _ h.ncr];exact k⟩, ?_,h.om,h.oc,h.mc,by rw[i];exact h.ol,t,u,by rw[f];exact h.um,p⟩;rw[i];rcases h.o with⟨a,d⟩|⟨b,a,d⟩
 ·exact .inl ⟨a,d⟩
 exact .inr ⟨b,a,by rw[g b (fun e=>h.or _ _ (by rw[a,e]))];exact d⟩
theorem gP.turn (e: ∀b,b≠r→H' b=H b):gP r bm bc vo vo H H':=fun b o d a _ _ c=>⟨by rw[e b a];exact d,c⟩
theorem jU.same (h:jU W inp r bm bc vo s en H) (a: ∀b,H' b=H b):jU W inp r bm bc vo s en H':=by
 have :H'=H:=funext a;rw[this];exact h
theorem jU.new (h:jU W inp r bm bc vo s en H) {b:Nat} (a:H b=none) (o:Option iG):jU W inp r bm bc vo s en (upd H b o):=by
 have i:r≠b:=fun e=>by have:=h.r;rw[e,a]at this;cases this
 have j:bm≠b:=fun e=>by have:=h.m;rw[e,a]at this;cases this
 obtain⟨g,f,d⟩:=h.c;have k:bc≠b:=fun e=>by rw[e,a]at d;cases d
 exact {h with r:=by rw[cI _ _ i];exact h.r,m:=by rw[cI _ _ j];exact h.m,c:=⟨g,f,by rw[cI _ _ k];exact d⟩,o:=h.o.upd a o}
theorem gP.new {b:Nat} {o:Option iG} (j:H b=none) (h:gP r bm bc vo vo' (Go.Al.upd H b o) H'):gP r bm bc vo vo' H H':=fun c k a d f g i=>by
 have :c≠b:=fun e=>by rw[e,j]at a;cases a
 exact h c k (by rw[cI _ _ this];exact a) d f g i
theorem jU.far (h:jU W inp r bm bc vo s en H) (d: ∀b,H b≠none→H' b=H b):jU W inp r bm bc vo s en H':=by
 obtain⟨i,g,f⟩:=h.c;refine⟨by rw[d _ (by rw[h.r];exact bY _)];exact h.r,by rw[d _ (by rw[h.m];exact bY _)];exact h.m,h.ml,⟨i,g,by rw[d _ (by rw[f];exact bY _)];exact f⟩, ?_,h.om,h.oc,h.mc,h.ol,h.u1,h.u2,h.um,h.rd⟩;rcases h.o with⟨e,a⟩|⟨b,e,a⟩
 ·exact .inl ⟨e,a⟩
 exact .inr ⟨b,e,by rw[d _ (by rw[a];exact bY _)];exact a⟩
theorem gP.upd2 {a c:Nat} {d f:Option iG} (g:a=r∨a=bm∨a=bc) (i:c=r∨c=bm∨c=bc) (k: ∀b,Go.Al.upd (Go.Al.upd H a d) c f b≠none→H' b=Go.Al.upd (Go.Al.upd H a d) c f b):gP r bm bc vo vo H H':=fun b o j t u v p=>by
 have l:b≠a:=fun e=>by subst e;rcases g with h|h|h<;>contradiction
 have n:b≠c:=fun e=>by subst e;rcases i with h|h|h<;>contradiction
 have e:Go.Al.upd (Go.Al.upd H a d) c f b=some o:=by rw[cI _ _ n,cI _ _ l];exact j
 exact⟨by rw[k b (by rw[e];exact bY _),e],p⟩
theorem N1 {l:List Int} {i:Nat} {x:Int} (h:l[i]?=some x):(l.map gL)[i]?=some [.int .u32 x]:=by rw[dT,h];rfl
end
end Go.Al
namespace Go.Proofs.YtaecpjgmcffliaaGreatDoor
open Go.Al Go.Proofs.Tryz
theorem BN {H:Hp} {bm:Nat} {l:List Int} {b c x:Int} (v:H bm=some (.rows 1 (l.map gL))) (n:l.length=4224) (y:0≤c∧c≤65535) (h:l[(gS (b+c)).toNat]?=some x):oN dV 158 [.osl 1 bm 4224, .int .u32 b, .int .i64 c] H (fun d H'=>d= .ret (.tup [.int .u32 x, .bool true])∧H'=H):=by
 have e:IntKind.wrap .u32 c=c:=eH _ (by omega);have A:(gS (b+c)).toNat<4224:=by rw[←n];exact(bF.1 h).1
 have o:=Ll (b+c);have z:=N1 h;generalize k:gS (b+c)=at' at *;have f:IntKind.wrap .u32 (b+c)=at':=k;have g:IntKind.wrap .u64 at'=at':=DD _ (by omega);have i:IntKind.wrap .u64 4224=4224:=rfl;have j:decide (4224≤at')=false:=bA (by omega);have p:decide (at'<4224)=true:=cD (by omega);have t:at'<4224:=by omega
 have u:0≤at':=o.1;refine bX 23 [.tmp 6, .tmp 7] func158 ?_;refine aA fun K a=>?_;simp only[RR,seval];refine a _ _ (aA fun K a=>?_);simp only[e,f,RR,seval];refine a _ _ (aI (aA fun K a=>?_));simp only[g,i,j,RR,seval];refine a _ _ (bL ?_);refine aK ?_;simp only[RR];refine aA fun K a=>?_;simp only[*,RR,seval];apply a;refine aN ?_;simp only[aW,aJ,bN,RR,seval];exact aY.run ⟨rfl,rfl⟩
section
variable {W : List Int} {inp : dC} {r bm bc : Nat} {vo : AV} {s : Mc} {en : Int} {H : Hp}
theorem AD (a:jU W inp r bm bc vo s en H) (x:Int) (i:dX x) (j:0≤s.pc∧s.pc≤1000000):oN dV 157 [.ptr 28 r 0 0, .int .i64 1, .int .u32 x] H (fun d H'=>d= .ret (.tup [])∧jU W inp r bm bc vo {s with pc:=s.pc+1,r1:=x} en H'∧gP r bm bc vo vo H H'):=by
 have g:=a.r;have e:IntKind.wrap .i64 (s.pc+1)=s.pc+1:=aS _ (by omega);refine bX 22 [] func157 ?_;refine aA fun K f=>?_;simp only[g,RR,seval];refine f _ _ (aG ?_);simp only[e,RR,seval];simp only[aW,aJ,bN,seval];exact aY.run ⟨rfl,a.turn (by simp only[bE]) (fun b c=>by simp only[cI _ _ c]) rfl rfl i a.u2 a.rd,gP.turn (fun b c=>by simp only[cI _ _ c])⟩
theorem AC (a:jU W inp r bm bc vo s en H) (x:Int) (i:dX x) (j:0≤s.pc∧s.pc≤1000000):oN dV 157 [.ptr 28 r 0 0, .int .i64 2, .int .u32 x] H (fun d H'=>d= .ret (.tup [])∧jU W inp r bm bc vo {s with pc:=s.pc+1,r2:=x} en H'∧gP r bm bc vo vo H H'):=by
 have g:=a.r;have e:IntKind.wrap .i64 (s.pc+1)=s.pc+1:=aS _ (by omega);refine bX 22 [] func157 ?_;refine aA fun K f=>?_;simp only[g,RR,seval];refine f _ _ (aG ?_);simp only[e,RR,seval];simp only[aW,aJ,bN,seval];exact aY.run ⟨rfl,a.turn (by simp only[bE]) (fun b c=>by simp only[cI _ _ c]) rfl rfl a.u1 i a.rd,gP.turn (fun b c=>by simp only[cI _ _ c])⟩
theorem AG (a:jU W inp r bm bc vo s en H) (y:Bool) (p:Int) (i:0≤s.pc∧s.pc≤1000000):oN dV 159 [.ptr 28 r 0 0, .bool y, .int .i64 p] H (fun f H'=>f= .ret (.tup [])∧jU W inp r bm bc vo {s with pc:=if y then p else s.pc+1} en H'∧gP r bm bc vo vo H H'):=by
 have e:=a.r;have g:IntKind.wrap .i64 (s.pc+1)=s.pc+1:=aS _ (by omega);cases y
 ·skip
  refine bX 21 [] func159 ?_;refine aA fun K d=>?_;simp only[RR,seval];refine d _ _ (bL (aG ?_));simp only[e,g,RR,seval];simp only[aW,aJ,bN,seval];exact aY.run ⟨rfl,a.turn (by simp only[bE]) (fun b c=>by simp only[cI _ _ c]) rfl rfl a.u1 a.u2 a.rd,gP.turn (fun b c=>by simp only[cI _ _ c])⟩
 skip;refine bX 21 [] func159 ?_;refine aA fun K d=>?_;simp only[RR,seval];refine d _ _ (cR (aG ?_));simp only[e,RR,seval];simp only[aW,aJ,bN,seval];exact aY.run ⟨rfl,a.turn (by simp only[bE]) (fun b c=>by simp only[cI _ _ c]) rfl rfl a.u1 a.u2 a.rd,gP.turn (fun b c=>by simp only[cI _ _ c])⟩
end
theorem KR (b:Bool):eN dV 201 [.bool b] (.int .u32 (if b=true then 1 else 0)):=by
 cases b
 ·skip
  refine bX 4 [.tmp 2] func201 ?_;refine aA fun K a=>?_;simp only[RR,seval];refine a _ _ (aI (aA fun K a=>?_));simp only[RR,seval];refine a _ _ (bL ?_);refine aK ?_;simp only[RR];refine aA fun K a=>?_;simp only[RR,seval];apply a;refine aN ?_;simp only[aW,aJ,bN,RR,seval];refine aY.pure ?_;rfl
 skip;refine bX 4 [.tmp 2] func201 ?_;refine aA fun K a=>?_;simp only[RR,seval];refine a _ _ (aI (aA fun K a=>?_));simp only[RR,seval];refine a _ _ (cR (aA fun K a=>?_));simp only[RR,seval];apply a;refine aN ?_;simp only[aW,aJ,bN,RR,seval];refine aY.pure ?_;rfl
theorem C0 (a:Nat) (S:a<4294967296):B0 dV 231 [.int .u32 (a:Int)] 1 ((gI 32 a).map qC):=by
 have E:=rA 32 a;refine bX 18 [.tmp 2] func231 ?_;refine aA fun K b=>?_;simp only[RR,seval];refine b _ _ (aA fun K b=>?_);simp only[RR,seval];refine b _ _ (aI (aA fun K b=>?_));simp only[RR,seval];refine b _ _ (bM fun I L f R=>?_);have e:=f 0;have i:=f 2;have c:=f 3;have d:=f 4;simp only[RR,seval]at e i c d;refine aP (eO [2] (32) (fun k j M=>j 4= .int .i64 (k:Nat)∧j 0= .int .u32 ((a/2^k:Nat):Int)∧eB 1 (j 3) (((gI 32 a).take k).map qC) M) ⟨d,(by rw[e,Nat.pow_zero,Nat.div_one]), .inl ⟨c,rfl⟩⟩ ?_);rintro k n N U ⟨p,e,g⟩ o J C;have i:=(o 2 rfl).trans i;have d:=p;clear p;have u:=aX.refl [2] n;clear o;obtain⟨X,c⟩: ∃v,n 3=v:=⟨_,rfl⟩;rw[c]at g;refine aI (aA fun K b=>?_);simp only[d,RR,seval];refine b _ _ (aU ?_ ?_)<;>intro l
 ·have t:k<32:=by have:=aB l;omega
  clear l
  have H:(gI 32 a).take (k+1)=(gI 32 a).take k++[a/2^k % 2]:=by
   have z:=pP 32 a k t;obtain⟨A,B⟩:=bF.1 z;rw[cL A,B]
  have W:((gI 32 a).take k).length≤32:=by rw[dU];omega
  have V:a/2^k≤a:=YA _ _;have F:a/2^(k+1)=a/2^k/2:=by rw[mQ,XL]
  generalize a/2^k=x at *;have P:((x:Int)).tmod 2=((x % 2:Nat):Int):=pY x 2;have y:IntKind.wrap .u32 (((x:Int)).tdiv 2)=((x/2:Nat):Int):=by rw[show((x:Int)).tdiv 2=((x/2:Nat):Int)from zT x 2,E1 _ (by omega)]
  have Q:IntKind.wrap .i64 ((x % 2:Nat):Int)=((x % 2:Nat):Int):=aS _ (by omega);refine aK ?_;simp only[RR];refine aI (aP (aA fun K b=>?_));simp only[*,RR,seval];refine eG ?_;simp only[RR,seval];refine jF g (by simp only[aE,aQ,aV];omega) (fun _=>trivial) fun Y O G T=>?_;simp only[RR,seval];refine b _ _ (aG ?_);simp only[e,y,RR,seval];refine aG ?_;simp only[d,RR,seval];rw[aS _ (by omega)];refine C _ _ t ⟨by rfl,(by rw[F];rfl),(by rw[H,cO,List.map_singleton];exact G)⟩ (by repeat (first|exact u|refine aX.upd rfl ?_))
 have D:k=32:=by have:=aD l;omega
 rw[D,sD (pT E)]at g;refine cF ?_;simp only[RR,seval];refine aA fun K b=>?_;simp only[c,RR,seval];apply b;refine aN ?_;simp only[aW,aJ,bN,RR,seval];exact B0.gives g
theorem OK (n:Nat) (o:n<4294967296):eN dV 232 [.isl 1 ((gI 32 n).map qC)] (.int .u32 (n:Int)):=by
 have C:=rA 32 n;refine bX 23 [.tmp 2] func232 ?_;refine aA fun K a=>?_;simp only[RR,seval];refine a _ _ (aA fun K a=>?_);simp only[RR,seval];refine a _ _ (aI (aA fun K a=>?_));simp only[aE,C,RR,seval];refine a _ _ (bM fun F H d O=>?_);have f:=d 0;have g:=d 2;have b:=d 3;have c:=d 4;simp only[RR,seval]at f g b c;refine aP ?_;refine iV [0,2] (32) (fun k l M=>k≤32∧l 4= .int .i64 ((k:Int)- 1)∧l 3= .int .u64 ((n/2^k:Nat):Int)) ⟨bI _,c,(by rw[b,Nat.div_eq_of_lt (by omega)];rfl)⟩ ?_;rintro k p I ⟨Q,c,b⟩ e G A;have f:=(e 0 rfl).trans f;have g:=(e 2 rfl).trans g;have t:=aX.refl [0,2] p;clear e;refine aI (aA fun K a=>?_);simp only[c,RR,seval];refine a _ _ (aU ?_ ?_)<;>intro i
 ·have j:=i;clear i
  obtain⟨m,rfl⟩: ∃m,k=m+1:=⟨k- 1,by have:=aB j;omega⟩;have P:=Xi (pP 32 n m (by omega));have R:n/2^m≤n:=YA _ _;have D:n/2^(m+1)=n/2^m/2:=by rw[mQ,XL]
  rw[D]at b;generalize E:n/2^m=x at *;have u:((m+1:Nat):Int)- 1=(m:Int):=by omega
  rw[u]at c;have J:IntKind.wrap .u64 (2 *((x/2:Nat):Int))=((2 *(x/2):Nat):Int):=by rw[show 2 *((x/2:Nat):Int)=((2 *(x/2):Nat):Int)by omega,Q5 _ (by omega)]
  have L:IntKind.wrap .u64 ((x % 2:Nat):Int)=((x % 2:Nat):Int):=Q5 _ (by omega);have N:IntKind.wrap .u64 (((2 *(x/2):Nat):Int)+((x % 2:Nat):Int))=(x:Int):=by rw[show((2 *(x/2):Nat):Int)+((x % 2:Nat):Int)=(x:Int)by omega,Q5 _ (by omega)]
  have v:IntKind.wrap .i64 ((m:Int)- 1)=(m:Int)- 1:=aS _ (by omega);have S:(m:Int)<32:=by omega
  refine aK ?_;simp only[RR];refine aI (aP (aG ?_));simp only[*,RR,seval];refine aG ?_;simp only[c,v,RR,seval];refine A (m) _ _ (by omega) ⟨(by omega),rfl,(by rw[E];rfl)⟩ (by repeat (first|exact t|refine aX.upd rfl ?_))
 have j:=i;have B:k=0:=by have:=aD j;omega
 subst B;rw[Nat.pow_zero,Nat.div_one]at b;have y:((n:Int)).tmod 4294967296=(n:Int):=by rw[show((n:Int)).tmod 4294967296=((n % 4294967296:Nat):Int)from pY n 4294967296,Nat.mod_eq_of_lt o]
 have z:=E1 n o;refine cF ?_;simp only[RR,seval];refine aA fun K a=>?_;simp only[b,y,z,RR,seval];apply a;refine aN ?_;simp only[aW,aJ,bN,RR,seval];refine aY.pure ?_;rfl
theorem BC (op:Int) (a b:Nat) (ha:a<4294967296) (hb:b<4294967296):eN dV 199 [.int .i64 op, .int .u32 (a:Int), .int .u32 (b:Int)] (.int .u32 ((yR op a b:Nat):Int)):=by
 have hO:=OK _ (LK op a b);have a2:gI 32 (yR op a b)=List.zipWith (pE op) (gI 32 a) (gI 32 b):=(Zj op 32 a b).symm;rw[a2]at hO;have O:=C0 b hb;have hA:=C0 a ha;have H:=rA 32 a;have a6:=rA 32 b;have a7:(List.zipWith (pE op) (gI 32 a) (gI 32 b)).length=32:=by rw[List.length_zipWith,H,a6];rfl
 generalize hZ:List.zipWith (pE op) (gI 32 a) (gI 32 b)=Z at *;generalize yR op a b=w at *;have a1:=fun k E=>DO op a b k E;rw[hZ]at a1;clear hZ a2;have O:=O.pure;have b1:=fun k (E:k<32)=>pP 32 a k E;have b2:=fun k (E:k<32)=>Xi (pP 32 b k E);generalize gI 32 a=A at *;generalize gI 32 b=B at *;refine bX 50 [.tmp 6] func199 ?_;refine aA fun K c=>?_;simp only[RR,seval];apply c;clear c K;refine aA fun K c=>?_;simp only[RR,seval];refine LP (hA) fun c2 M1 b8 c3 c5=>?_;simp only[RR,seval];refine aO (O) ?_;simp only[RR,seval];apply c;clear c K;refine aI ?_
 obtain⟨i,b9,f⟩: ∃i,c2= .osl 1 i 32∧M1 i=some (.rows 1 (A.map qC)):=by
  rcases b8 with⟨_,N⟩|⟨i,Y,N⟩
  ·have:=congrArg List.length N
   rw[aE,H]at this;cases this
  rw[aE,H]at Y;exact⟨i,Y,N⟩
 subst b9;refine aA fun K c=>?_;simp only[RR,seval];apply c;clear c K;refine bM fun F2 M2 d p=>?_;have C:=d 0;have j:=d 6;have e:=d 7;have D:=d 8;have g:=d 9;have o:=p i;simp only[f,RR,seval]at C j e D g o;have f:=o;clear o;clear d p;refine aP ?_;refine eO [0,6,7,8] (32) (fun k fr M=>fr 9= .int .i64 (k:Nat)∧M i=some (.rows 1 ((Z.take k++A.drop k).map qC))) ⟨g,(by rw[kB,dL,cQ];exact f)⟩ ?_;rintro k F3 M3 c4 ⟨X,f⟩ z K0 a0;have C:=(z 0 rfl).trans C;have j:=(z 6 rfl).trans j;have e:=(z 7 rfl).trans e;have D:=(z 8 rfl).trans D;have g:=X;clear X;have V:=aX.refl [0,6,7,8] F3;clear z;refine aI ?_;refine aA fun K c=>?_;simp only[g,RR,seval];apply c;clear c K;refine aU ?_ ?_<;>intro G
 ·have F:k<32:=by have:=aB G;omega
  clear G;have a5:=b1 k F;have S:=b2 k F;have U:=a1 k F;have c0:a/2^k % 2<2:=sB _ (by decide);have c1:b/2^k % 2<2:=sB _ (by decide);generalize a/2^k % 2=x at a5 U c0;generalize b/2^k % 2=y at S U c1;obtain⟨q1,q2⟩:=bF.1 a5;have b0:A.drop k=x::A.drop (k+1):=by rw[bG q1,q2]
  have b6:Z.take (k+1)=Z.take k++[pE op x y]:=by
   obtain⟨q3,q4⟩:=bF.1 U;rw[cL q3,q4]
  have T: ∀(u v:List AV),((Z.take k).map qC++u::(A.drop (k+1)).map qC).set k v=(Z.take k).map qC++v::(A.drop (k+1)).map qC:=fun u v=>by
   have:=List.set_append_right (s:=(Z.take k).map qC) (t:=u::(A.drop (k+1)).map qC) k v (by rw[aE,dU];omega);rw[this,show k-((Z.take k).map qC).length=0 by rw[aE,dU];omega];rfl
  have R: ∀(u:List AV),((Z.take k).map qC++u::(A.drop (k+1)).map qC)[k]?=some u:=fun u=>by
   rw[jA (by rw[aE,dU];omega),show k-((Z.take k).map qC).length=0 by rw[aE,dU];omega];rfl
  have hR:(Z.take k++A.drop k).map qC=(Z.take k).map qC++[.int .i64 (x:Int)]::(A.drop (k+1)).map qC:=by rw[b0,cO,cN];rfl
  have hn:(Z.take (k+1)++A.drop (k+1)).map qC=(Z.take k).map qC++[.int .i64 ((pE op x y:Nat):Int)]::(A.drop (k+1)).map qC:=by rw[b6,cO,cO,bU];rfl
  rw[hR]at f;have Q:=R [.int .i64 (x:Int)];have a4:=R [.int .i64 0];have a8:=T [.int .i64 (x:Int)] [.int .i64 0];have a9:=T [.int .i64 0] [.int .i64 1];generalize(Z.take k).map qC=ZT at *;generalize(A.drop (k+1)).map qC=AT at *;have L:(k:Int)<32:=by omega
  clear T R hR;have P:pE op x y=if(x+y=2∧op≠11)∨(x+y=1∧op≠9)then 1 else 0:=rfl
  obtain⟨s,hs⟩: ∃s,s=x+y:=⟨_,rfl⟩;have W:IntKind.wrap .i64 ((x:Int)+(y:Int))=(s:Int):=by rw[aS _ (by omega)];omega
  rw[←hs]at P;generalize pE op x y=w at *;have b5:s=0∨s=1∨s=2:=by omega
  clear hs;by_cases J:op=9<;>by_cases I:op=11<;>rcases b5 with rfl|rfl|rfl
  all_goals
   refine aK ?_;simp only[RR];refine aI ?_;refine aP ?_;refine aC fun K c=>?_;refine bB (fun x=>x≠i) [(0,3),(1,3),(2,3),(3,1),(4,3),(5,3),(6,3),(7,1),(8,3),(9,3)] [] eF (by kernel_rfl) rfl rfl ?_;simp only[dR,e,D,g,f,S,Q,L,W,RR,seval];apply c;clear c K;refine aA fun K c=>?_;simp only[e,g,f,Q,a8,L,RR,seval];apply c;clear c K;refine aA fun K c=>?_;simp only[C,J,I,RR,seval]
   repeat' ((refine bZ (fun h=>?_) (fun h=>?_))<;>simp only[h,C,j,e,D,g,f,aE,a6,S,Q,a4,a8,a9,L,W,J,I,RR,seval])
   all_goals
    apply c;clear c K;refine aU ?_ ?_<;>intro a3
    ·try (cases a3;done)
     all_goals
      refine aG ?_;simp only[e,g,a4,a9,L,RR,seval];refine aG ?_;simp only[g,RR,seval];rw[aS _ (by omega)];refine a0 _ _ F ⟨by rfl, ?_⟩ (by repeat (first|exact V|refine aX.upd rfl ?_));rw[hn,P]
      first|subst J|subst I|skip
      simp_all [upd]
    try (cases a3;done)
    all_goals
     refine aK ?_;simp only[RR];refine aG ?_;simp only[g,RR,seval];rw[aS _ (by omega)];refine a0 _ _ F ⟨by rfl, ?_⟩ (by repeat (first|exact V|refine aX.upd rfl ?_));rw[hn,P]
     first|subst J|subst I|skip
     simp_all [upd]
 have b3:k=32:=by have:=aD G;omega
 clear G;rw[b3,sD (pT a7),List.drop_of_length_le (pT H),dZ]at f;have b4:(Z.map qC).length=32:=by rw[aE,a7]
 refine cF ?_;simp only[RR,seval];refine bM fun F4 M4 d p=>?_;have l:=d 6;have n:=d 7;have o:=p i;simp only[j,e,f,RR,seval]at l n o;have j:=l;clear l;have e:=n;clear n;have f:=o;clear o;clear d p;refine oC f ?_;refine bM fun F5 M5 d p=>?_;have l:=d 6;have n:=d 7;simp only[xR,Gz,and_self,b4,j,e,seval]at l n;have j:=l;clear l;have e:=n;clear n;clear d p;refine aA fun K c=>?_;simp only[e,RR,seval];refine aO (hO) ?_;simp only[RR,seval];apply c;clear c K;refine aN ?_;simp only[aW,aJ,bN,RR,seval];refine aY.pure ?_;rfl
theorem MQ (n:Int):IntKind.wrap .u32 n=n % 4294967296:=by simp [IntKind.wrap,IntKind.signed,IntKind.bits]
theorem HM (x y:Nat) (a:y<4294967296):((x:Int)-y) % 4294967296=(((x+4294967296 -y) % 4294967296:Nat):Int):=by omega
theorem JZ (a b:Nat) (E:a<4294967296) (P:b<4294967296):eN dV 200 [.int .i64 12, .int .u32 (a:Int), .int .u32 (b:Int)] (.int .u32 (if 31<(b:Int)then 0 else IntKind.wrap .u32 ((a:Int) *2^(min ((b:Int)).toNat 32)))):=by
 by_cases h:31<(b:Int)
 ·rw[bH h]
  have z:(32:Int)≤(b:Int):=by omega
  refine bX 27 [.tmp 6] func200 ?_;refine aA fun K c=>?_;simp only[RR,seval];refine c _ _ (aI (aA fun K c=>?_));simp only[z,RR,seval];refine c _ _ (cR (aA fun K c=>?_));simp only[RR,seval];apply c;refine aN ?_;simp only[aW,aJ,bN,RR,seval];refine aY.pure ?_;rfl
 rw[aL h];have z: ¬(32:Int)≤(b:Int):=by omega
 have H:IntKind.wrap .u32 ((a:Int) *2^(min ((b:Int)).toNat 32))=((a *2^b % 4294967296:Nat):Int):=by
  rw[cC,Nat.min_eq_left (by omega)];rw[MQ,Int.natCast_emod,Int.natCast_mul,Int.natCast_pow];rfl
 rw[H];have v:=Q5 a (by omega);refine bX 27 [.tmp 6] func200 ?_;refine aA fun K c=>?_;simp only[RR,seval];refine c _ _ (aI (aA fun K c=>?_));simp only[z,RR,seval];refine c _ _ (bL ?_);refine aK ?_;simp only[RR];refine aA fun K c=>?_;simp only[v,RR,seval];refine c _ _ (aI (aA fun K c=>?_));simp only[RR,seval];refine c _ _ (bM fun I L f O=>?_);have i:=f 0;have k:=f 2;have l:=f 6;have d:=f 7;have e:=f 8;simp only[RR,seval]at i k l d e;refine aP (iV [0,2,6] (b) (fun m o M=>m≤b∧o 8= .int .u32 ((b-m:Nat):Int)∧o 7= .int .u64 ((a *2^(b-m) % 4294967296:Nat):Int)) ⟨bI _,(by rw[e,Gq];rfl),(by rw[d,Gq,Nat.pow_zero,nA,Nat.mod_eq_of_lt E])⟩ ?_);rintro m t N ⟨Q,e,d⟩ g J D;have i:=(g 0 rfl).trans i;have k:=(g 2 rfl).trans k;have l:=(g 6 rfl).trans l;have u:=aX.refl [0,2,6] t;clear g;refine aI (aA fun K c=>?_);simp only[k,e,RR,seval];refine c _ _ (aU ?_ ?_)<;>intro p
 ·have n:=p
  obtain⟨j,rfl⟩: ∃j,m=j+1:=⟨m- 1,by have:=aB n;omega⟩
  have G:a *2^(b-j) % 4294967296=2 *(a *2^(b-(j+1)) % 4294967296) % 4294967296:=by
   rw[show b-j=b-(j+1)+1 by omega,mQ,←Nat.mul_assoc];omega
  have R:a *2^(b-(j+1)) % 4294967296<4294967296:=sB _ (by decide);generalize a *2^(b-(j+1)) % 4294967296=x at *;have y:IntKind.wrap .u64 (2 *(x:Int))=((2 *x:Nat):Int):=by rw[show 2 *(x:Int)=((2 *x:Nat):Int)by omega,Q5 _ (by omega)]
  have A:((2 *x:Nat):Int).tmod 4294967296=((2 *x % 4294967296:Nat):Int):=pY _ _;have B:IntKind.wrap .u32 (((b-(j+1):Nat):Int)+1)=((b-j:Nat):Int):=by rw[show((b-(j+1):Nat):Int)+1=((b-j:Nat):Int)by omega,E1 _ (by omega)]
  refine aK ?_;simp only[RR];refine aI (aP (aA fun K c=>?_));simp only[i,RR,seval];refine c _ _ (cR (aG ?_));simp only[d,y,A,RR,seval];refine aG ?_;simp only[e,B,RR,seval];refine D (j) _ _ (by omega) ⟨(by omega),rfl,(by rw[G];rfl)⟩ (by repeat (first|exact u|refine aX.upd rfl ?_))
 have n:=p;have F:m=0:=by have:=aD n;omega
 subst F;rw[Nat.sub_zero]at d;have C:=E1 _ (show a *2^b % 4294967296<4294967296 from sB _ (by decide));refine cF ?_;simp only[RR,seval];refine aA fun K c=>?_;simp only[d,C,RR,seval];apply c;refine aN ?_;simp only[aW,aJ,bN,RR,seval];refine aY.pure ?_;rfl
theorem JY (a b:Nat) (D:a<4294967296) (O:b<4294967296):eN dV 200 [.int .i64 13, .int .u32 (a:Int), .int .u32 (b:Int)] (.int .u32 (if 31<(b:Int)then 0 else((a:Int)).fdiv (2^(min ((b:Int)).toNat 32)))):=by
 by_cases h:31<(b:Int)
 ·rw[bH h]
  have z:(32:Int)≤(b:Int):=by omega
  refine bX 27 [.tmp 6] func200 ?_;refine aA fun K c=>?_;simp only[RR,seval];refine c _ _ (aI (aA fun K c=>?_));simp only[z,RR,seval];refine c _ _ (cR (aA fun K c=>?_));simp only[RR,seval];apply c;refine aN ?_;simp only[aW,aJ,bN,RR,seval];refine aY.pure ?_;rfl
 rw[aL h];have z: ¬(32:Int)≤(b:Int):=by omega
 have G:((a:Int)).fdiv (2^(min ((b:Int)).toNat 32))=((a/2^b:Nat):Int):=by
  rw[cC,Nat.min_eq_left (by omega),oW _ (Int.pow_nonneg (by decide))];rw[Int.natCast_ediv,Int.natCast_pow];rfl
 rw[G];have v:=Q5 a (by omega);refine bX 27 [.tmp 6] func200 ?_;refine aA fun K c=>?_;simp only[RR,seval];refine c _ _ (aI (aA fun K c=>?_));simp only[z,RR,seval];refine c _ _ (bL ?_);refine aK ?_;simp only[RR];refine aA fun K c=>?_;simp only[v,RR,seval];refine c _ _ (aI (aA fun K c=>?_));simp only[RR,seval];refine c _ _ (bM fun H J f N=>?_);have i:=f 0;have k:=f 2;have l:=f 6;have d:=f 7;have e:=f 8;simp only[RR,seval]at i k l d e;refine aP (iV [0,2,6] (b) (fun m o M=>m≤b∧o 8= .int .u32 ((b-m:Nat):Int)∧o 7= .int .u64 ((a/2^(b-m):Nat):Int)) ⟨bI _,(by rw[e,Gq];rfl),(by rw[d,Gq,Nat.pow_zero,Nat.div_one])⟩ ?_);rintro m t L ⟨P,e,d⟩ g I C;have i:=(g 0 rfl).trans i;have k:=(g 2 rfl).trans k;have l:=(g 6 rfl).trans l;have u:=aX.refl [0,2,6] t;clear g;refine aI (aA fun K c=>?_);simp only[k,e,RR,seval];refine c _ _ (aU ?_ ?_)<;>intro p
 ·have n:=p
  obtain⟨j,rfl⟩: ∃j,m=j+1:=⟨m- 1,by have:=aB n;omega⟩
  have F:a/2^(b-j)=a/2^(b-(j+1))/2:=by
   rw[show b-j=b-(j+1)+1 by omega,mQ,XL]
  have Q:a/2^(b-(j+1))≤a:=YA _ _;generalize a/2^(b-(j+1))=x at *;have y:IntKind.wrap .u64 (((x:Int)).tdiv 2)=((x/2:Nat):Int):=by rw[show((x:Int)).tdiv 2=((x/2:Nat):Int)from zT x 2,Q5 _ (by omega)]
  have A:IntKind.wrap .u32 (((b-(j+1):Nat):Int)+1)=((b-j:Nat):Int):=by rw[show((b-(j+1):Nat):Int)+1=((b-j:Nat):Int)by omega,E1 _ (by omega)]
  refine aK ?_;simp only[RR];refine aI (aP (aA fun K c=>?_));simp only[i,RR,seval];refine c _ _ (bL (aG ?_));simp only[d,y,RR,seval];refine aG ?_;simp only[e,A,RR,seval];refine C (j) _ _ (by omega) ⟨(by omega),rfl,(by rw[F];rfl)⟩ (by repeat (first|exact u|refine aX.upd rfl ?_))
 have n:=p;have E:m=0:=by have:=aD n;omega
 subst E;rw[Nat.sub_zero]at d;have B:=E1 (a/2^b) (Nat.lt_of_le_of_lt (YA _ _) D);refine cF ?_;simp only[RR,seval];refine aA fun K c=>?_;simp only[d,B,RR,seval];apply c;refine aN ?_;simp only[aW,aJ,bN,RR,seval];refine aY.pure ?_;rfl
theorem Lx (op:Int) {a b:Int} (t:dX a) (u:dX b):eN dV 160 [.int .i64 op, .int .u32 a, .int .u32 b] (.tup [.int .u32 (eR op a b).1, .int .i64 (eR op a b).2]):=by
 obtain⟨x,rfl⟩:=gY t.1;obtain⟨y,rfl⟩:=gY u.1;have l:x<4294967296:=by have:=t.2;omega
 have j:y<4294967296:=by have:=u.2;omega
 have g:=Q5 x (by omega);have k:=Q5 y (by omega);by_cases h:op=4∨op=5∨op=6∨op=7∨op=8∨op=9∨op=10∨op=11∨op=12∨op=13∨op=14∨op=15
 ·have p:=BC op x y l j
  have X:=JZ x y l j;have Y:=JY x y l j;have v:=fun c=>KR c;have s4:IntKind.wrap .u64 ((x:Int)+(y:Int))=((x+y:Nat):Int):=by rw[show(x:Int)+(y:Int)=((x+y:Nat):Int)by omega,Q5 _ (by omega)]
  have r4:((x+y:Nat):Int).tmod 4294967296=(((x+y) % 4294967296:Nat):Int):=pY _ _;have t4:=E1 ((x+y) % 4294967296) (sB _ (by decide));have u5:IntKind.wrap .u64 ((x:Int)+4294967296)=((x+4294967296:Nat):Int):=by rw[show(x:Int)+4294967296=((x+4294967296:Nat):Int)by omega,Q5 _ (by omega)]
  have s5:IntKind.wrap .u64 (((x+4294967296:Nat):Int)-(y:Int))=((x+4294967296 -y:Nat):Int):=by rw[show((x+4294967296:Nat):Int)-(y:Int)=((x+4294967296 -y:Nat):Int)by omega,Q5 _ (by omega)]
  have r5:((x+4294967296 -y:Nat):Int).tmod 4294967296=(((x+4294967296 -y) % 4294967296:Nat):Int):=pY _ _;have t5:=E1 ((x+4294967296 -y) % 4294967296) (sB _ (by decide))
  have Z:x *y<18446744073709551616:=by
   have h1:x *y≤4294967295 *4294967295:=Nat.mul_le_mul (by omega) (by omega);omega
  have s6:IntKind.wrap .u64 ((x:Int) *(y:Int))=((x *y:Nat):Int):=by rw[show(x:Int) *(y:Int)=((x *y:Nat):Int)by rw[Int.natCast_mul],Q5 _ Z]
  have r6:((x *y:Nat):Int).tmod 4294967296=(((x *y) % 4294967296:Nat):Int):=pY _ _;have t6:=E1 ((x *y) % 4294967296) (sB _ (by decide));have a0:x/y≤x:=YA _ _;have s7:IntKind.wrap .u64 (((x:Int)).tdiv (y:Int))=((x/y:Nat):Int):=by rw[zT,Q5 _ (by omega)]
  have M:=E1 (x/y) (by omega);have a1:x % y≤x:=Nat.mod_le _ _;have s8:((x:Int)).tmod (y:Int)=((x % y:Nat):Int):=pY x y;have t8:=E1 (x % y) (by omega);have N:y=0∨ ∃q,(y:Int)≠0∧q=y:=by by_cases h:y=0;exact .inl h;exact .inr ⟨y,by omega,rfl⟩
  have S:eR 4 x y=((((x+y) % 4294967296:Nat):Int),0):=by
   show(IntKind.wrap .u32 ((x:Int)+y),(0:Int))=_;rw[MQ,show((x:Int)+y) % 4294967296=(((x+y) % 4294967296:Nat):Int)from(Int.natCast_emod (x+y) 4294967296).symm]
  have T:eR 5 x y=((((x+4294967296 -y) % 4294967296:Nat):Int),0):=by
   show(IntKind.wrap .u32 ((x:Int)-y),(0:Int))=_;rw[MQ,HM x y j]
  have U:eR 6 x y=((((x *y) % 4294967296:Nat):Int),0):=by
   show(IntKind.wrap .u32 ((x:Int) *y),(0:Int))=_;rw[MQ,show((x:Int) *y) % 4294967296=(((x *y) % 4294967296:Nat):Int)from by rw[←Int.natCast_mul];omega]
  have V:(y:Int)≠0→eR 7 x y=(((x/y:Nat):Int),0):=fun h=>by
   show(if(y:Int)=0 then((0:Int),(14:Int))else(IntKind.wrap .u32 (((x:Int)).tdiv (y:Int)),0))=_;rw[aL h,zT,M]
  have W:(y:Int)≠0→eR 8 x y=(((x % y:Nat):Int),0):=fun h=>by
   show(if(y:Int)=0 then((0:Int),(14:Int))else(((x:Int)).tmod (y:Int),0))=_;rw[aL h,pY]
  have n:op=9∨op=10∨op=11→eR op x y=(((yR op x y:Nat):Int),(0:Int)):=fun h=>Zg op h x y l j
  have O:eR 12 x y=(if 31<(y:Int)then 0 else IntKind.wrap .u32 ((x:Int) *2^(min ((y:Int)).toNat 32)),0):=by
   show(if 31<(y:Int)then((0:Int),(0:Int))else(IntKind.wrap .u32 ((x:Int) *2^(min ((y:Int)).toNat 32)),0))=_;by_cases h:31<(y:Int)<;>simp only[h,cT,dK]
  have P:eR 13 x y=(if 31<(y:Int)then 0 else((x:Int)).fdiv (2^(min ((y:Int)).toNat 32)),0):=by
   show(if 31<(y:Int)then((0:Int),(0:Int))else(((x:Int)).fdiv (2^(min ((y:Int)).toNat 32)),0))=_;by_cases h:31<(y:Int)<;>simp only[h,cT,dK]
  have Q:eR 14 x y=(if decide ((x:Int)<(y:Int))=true then 1 else 0,0):=by simp [eR]
  have R:eR 15 x y=(if decide ((x:Int)=(y:Int))=true then 1 else 0,0):=by simp [eR]
  rcases h with rfl|rfl|rfl|rfl|rfl|rfl|rfl|rfl|rfl|rfl|rfl|rfl
  all_goals first|rw[S]|rw[T]|rw[U]|(rw[n (.inl rfl)];have f:=p)|(rw[n (.inr (.inl rfl))];have f:=p)|(rw[n (.inr (.inr rfl))];have f:=p)|(rw[O];have f:=X)|(rw[P];have f:=Y)|(rw[Q];have f:=v (decide ((x:Int)<(y:Int))))|(rw[R];have f:=v (decide ((x:Int)=(y:Int))))|skip
  case inr.inr.inr.inl=>
   rcases N with rfl|⟨_,i,_⟩
   ·rw[show eR 7 x ((0:Nat):Int)=(0,14)from rfl]
    refine bX 80 [.tmp 6, .tmp 7] func160 ?_
    repeat' (first|(refine aC fun K d=>?_;refine aG ?_;simp only[g,RR,seval];apply d;clear d K)|(refine aI ?_)|(refine aP ?_)|(refine cR ?_)|(refine bL ?_)|(refine aN ?_;simp only[bK,cM,aW,aJ,bN,RR,seval];refine aY.pure ?_))
    all_goals rfl
   rw[V i];have o: ¬(y:Int)=0:=i;refine bX 80 [.tmp 6, .tmp 7] func160 ?_
   repeat' (first|(refine aC fun K d=>?_;refine aG ?_;simp only[g,k,s7,M,o,RR,seval];apply d;clear d K)|(refine aI ?_)|(refine aP ?_)|(refine cR ?_)|(refine bL ?_)|(refine aK ?_;simp only[bK])|(refine aN ?_;simp only[bK,cM,aW,aJ,bN,RR,seval];refine aY.pure ?_))
   all_goals rfl
  case inr.inr.inr.inr.inl=>
   rcases N with rfl|⟨_,i,_⟩
   ·rw[show eR 8 x ((0:Nat):Int)=(0,14)from rfl]
    refine bX 80 [.tmp 6, .tmp 7] func160 ?_
    repeat' (first|(refine aC fun K d=>?_;refine aG ?_;simp only[g,RR,seval];apply d;clear d K)|(refine aI ?_)|(refine aP ?_)|(refine cR ?_)|(refine bL ?_)|(refine aN ?_;simp only[bK,cM,aW,aJ,bN,RR,seval];refine aY.pure ?_))
    all_goals rfl
   rw[W i];have o: ¬(y:Int)=0:=i;refine bX 80 [.tmp 6, .tmp 7] func160 ?_
   repeat' (first|(refine aC fun K d=>?_;refine aG ?_;simp only[g,k,s8,t8,o,RR,seval];apply d;clear d K)|(refine aI ?_)|(refine aP ?_)|(refine cR ?_)|(refine bL ?_)|(refine aK ?_;simp only[bK])|(refine aN ?_;simp only[bK,cM,aW,aJ,bN,RR,seval];refine aY.pure ?_))
   all_goals rfl
  all_goals
   refine bX 80 [.tmp 6, .tmp 7] func160 ?_
   repeat' (first|(refine aC fun K d=>?_;refine aG ?_;simp only[g,k,s4,r4,t4,u5,s5,r5,t5,s6,r6,t6,RR,seval];apply d;clear d K)|(refine aI ?_)|(refine aP ?_)|(refine cR ?_)|(refine bL ?_)|(refine aK ?_;simp only[bK])|(refine aG ?_;simp only[bK,RR,seval])|(refine aN ?_;simp only[bK,cM,aW,aJ,bN,RR,seval];refine aY.pure ?_)|(refine aO (f) ?_;simp only[bK,RR,seval]))
   all_goals rfl
 have F: ¬op=4:=fun e=>h (by simp [e]);have G: ¬op=5:=fun e=>h (by simp [e]);have H: ¬op=6:=fun e=>h (by simp [e]);have I: ¬op=7:=fun e=>h (by simp [e]);have J: ¬op=8:=fun e=>h (by simp [e]);have L: ¬op=9:=fun e=>h (by simp [e]);have z: ¬op=10:=fun e=>h (by simp [e]);have A: ¬op=11:=fun e=>h (by simp [e]);have B: ¬op=12:=fun e=>h (by simp [e]);have C: ¬op=13:=fun e=>h (by simp [e]);have D: ¬op=14:=fun e=>h (by simp [e]);have E: ¬op=15:=fun e=>h (by simp [e]);have e:eR op x y=(0,1):=by simp [eR,F,G,H,I,J,L,z,A,B,C,D,E]
 rw[e];refine bX 80 [.tmp 6, .tmp 7] func160 ?_
 repeat' (first|(refine aC fun K d=>?_;refine aG ?_;simp only[g,k,F,G,H,I,J,L,z,B,D,E,RR,seval];apply d;clear d K)|(refine aI ?_)|(refine aP ?_)|(refine bL ?_)|(refine aK ?_;simp only[bK,cM])|(refine aG ?_;simp only[A,C,bK,RR,seval])|(refine aN ?_;simp only[aW,aJ,bN,RR,seval];refine aY.pure ?_))
 all_goals rfl
end Go.Proofs.YtaecpjgmcffliaaGreatDoor
