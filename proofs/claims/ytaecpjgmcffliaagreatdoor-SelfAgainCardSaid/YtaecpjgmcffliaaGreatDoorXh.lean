/- Xh -/
import Derived.Test.YtaecpjgmcffliaaGreatDoorXg
import Derived.Test.YtaecpjgmcffliaaGreatDoorQe
import Derived.Test.YtaecpjgmcffliaaGreatDoorSc1
import Derived.Test.YtaecpjgmcffliaaGreatDoorAl3
import Derived.Test.YtaecpjgmcffliaaGreatDoorRows
import Derived.Test.YtaecpjgmcffliaaGreatDoorJf
set_option linter.unusedSimpArgs false
set_option linter.unusedVariables false
set_option maxRecDepth 10000
set_option maxHeartbeats 16000000
namespace Go.Al
def N9 (s:Mc) (vm:AV) (e:Int):List AV:=[.int .i64 s.pc, .int .u32 0, .int .u32 s.r1, .int .u32 s.r2, .int .u32 0, .int .u32 0, .int .u32 0, .int .u32 0, .int .u32 0, .int .u32 0, .int .u32 0, .int .u32 0, .int .u32 0, .int .u32 0, .int .u32 0, .int .u32 0, .int .u32 0,vm, .int .i64 s.rd, .str s.out, .int .i64 s.st, .int .i64 e]
theorem MI:A8.mem.map gI=List.replicate 4224 [AV.int .u32 0]:=List.map_replicate
theorem MJ:A8.mem.length=4224:=fF
theorem VI: ∀x∈A8.mem,dR x:=fun x a=>by
 rw[ON a];exact⟨by decide,by decide⟩
theorem KF {E:kB} {F:Nat→Prop} {j:List (Option Nat)} {Q:fJ} {d:Option Nat} {n:List Oper} {fr:Fr} {H:Hp} {g:FuncId} {i:List AV} {R:vI→Prop} (p:oM E g i pZ (fun c _=>R c)) (u: ∀v, ¬R (.pan v))
  (h: ∀v a,R (.ret v)→(∀b o,H b=some o→a b=some o)→eF E F j Q n (fP fr d v) a):qL E F j Q d n fr H g i:=by
 refine mK p (fN.refl _) (fun b o h=>by cases h) (fun b f=>absurd rfl f) fun c a k f=>?_
 cases c with
 |pan v=>exact absurd k (u v)
 |ret v=>
  refine h v _ k fun b o l=>?_
  have t:a b=none:=by
   cases e:a b with
   |none=>rfl
   |some o'=>
    rcases f b (by rw[e];exact bZ _)with h|h
    ·exact absurd rfl h
    rw[l]at h;cases h
  unfold lQ;rw[t];simp [pZ,l]
theorem jV.seal {W:List Int} {inp:dD} {r g u:Nat} {vo:AV} {s:Mc} {v:Int} {H:Hp} {E:kB} {N:Nat} {Q:fJ} {c:Code} {fr:Fr} (f:jV W inp r g u vo s v H)
  (h: ∀D A,(∀j,tQ (fr j)=true→D j=fr j)→A r=some (.rows 28 [[.int .i64 s.pc, .int .u32 0, .int .u32 s.r1, .int .u32 s.r2, .int .u32 0, .int .u32 0, .int .u32 0, .int .u32 0, .int .u32 0, .int .u32 0, .int .u32 0, .int .u32 0, .int .u32 0, .int .u32 0, .int .u32 0, .int .u32 0, .int .u32 0, .isl 1 (s.mem.map gI), .int .i64 s.rd, .str [], .int .i64 s.st, .int .i64 v, .isl 1 (s.out.map rG), .isl 4 (W.map yC), .isl 1 (W.map fun _=>[.bool true]), .isl 1 (W.map gI), .str inp, .osl 1 u W.length]])→
   (∀b d l,b≠r→b≠g→off vo b→(∀r∈l, ∀x∈r,tQ x=true)→H b=some (.rows d l)→A b=some (.rows d l))→mT E N c Q D A):mT E N c Q fr H:=by
 have L:H r=some (.rows 28 [[AV.int .i64 s.pc, .int .u32 0, .int .u32 s.r1, .int .u32 s.r2, .int .u32 0, .int .u32 0, .int .u32 0, .int .u32 0, .int .u32 0, .int .u32 0, .int .u32 0, .int .u32 0, .int .u32 0, .int .u32 0, .int .u32 0, .int .u32 0, .int .u32 0]++AV.osl 1 g 4224::[.int .i64 s.rd, .str [], .int .i64 s.st, .int .i64 v,vo, .isl 4 (W.map yC), .isl 1 (W.map fun _=>[.bool true]), .isl 1 (W.map gI), .str inp, .osl 1 u W.length]]):=f.r;have S:(s.mem.map gI).length=4224:=by rw[aG];exact f.ml
 have V:eB 1 (.osl 1 g 4224) (s.mem.map gI) H:= .inr ⟨g,by rw[S],f.m⟩;have T:=f.nmr;have k: ∀b,b≠g→off (.osl 1 g 4224) b:=fun b k sz n e=>by cases e;exact k rfl
 refine iG V L (fun x a=>?_) (fun x a=>?_) (k r (Ne.symm T)) fun Y H1 O P R=>?_
 ·simp only[bL,bN,dH]at a
  rcases a with rfl|rfl|rfl|rfl|rfl|rfl|rfl|rfl|rfl|rfl|rfl|rfl|rfl|rfl|rfl|rfl|rfl<;>exact bU rfl
 ·simp only[bL,bN,dH]at a
  rcases a with rfl|rfl|rfl|rfl|rfl|rfl|rfl|rfl|rfl|rfl
  ·exact bU rfl
  ·exact bU rfl
  ·exact bU rfl
  ·exact bU rfl
  ·exact fun d b n e=>k b fun p=>f.om d n (by rw[e,p])
  ·exact bU rfl
  ·exact bU rfl
  ·exact bU rfl
  ·exact bU rfl
  exact fun d b n e=>by cases e;exact k _ (Ne.symm f.mc)
 have G: ∀b d l,b≠r→b≠g→(∀r∈l, ∀x∈r,tQ x=true)→H b=some (.rows d l)→H1 b=some (.rows d l):=fun b d l y B C z=>R b d l y (k b B) (fun r t x a=>bU (C r t x a)) z
 have U:eB 1 vo (s.out.map rG) H1:=by
  rcases f.o with⟨i,p⟩|⟨b,i,p⟩
  ·exact .inl ⟨i,p⟩
  refine .inr ⟨b,i,G b _ _ (fun e=>f.or _ _ (by rw[i,e])) (fun e=>f.om _ _ (by rw[i,e])) (fun r t x a=>?_) p⟩;obtain⟨c,_,rfl⟩:=lJ.1 t;simp only[rG,bE]at a;subst a;rfl
 have M:H1 r=some (.rows 28 [[AV.int .i64 s.pc, .int .u32 0, .int .u32 s.r1, .int .u32 s.r2, .int .u32 0, .int .u32 0, .int .u32 0, .int .u32 0, .int .u32 0, .int .u32 0, .int .u32 0, .int .u32 0, .int .u32 0, .int .u32 0, .int .u32 0, .int .u32 0, .int .u32 0, .isl 1 (s.mem.map gI), .int .i64 s.rd, .str [], .int .i64 s.st, .int .i64 v]++vo::[.isl 4 (W.map yC), .isl 1 (W.map fun _=>[.bool true]), .isl 1 (W.map gI), .str inp, .osl 1 u W.length]]):=P;refine iG U M (fun x a=>?_) (fun x a=>?_) f.or fun J I k1 X k3=>?_
 ·simp only[bL,bN,dH]at a
  rcases a with rfl|rfl|rfl|rfl|rfl|rfl|rfl|rfl|rfl|rfl|rfl|rfl|rfl|rfl|rfl|rfl|rfl|rfl|rfl|rfl|rfl|rfl<;>exact bU rfl
 ·simp only[bL,bN,dH]at a
  rcases a with rfl|rfl|rfl|rfl|rfl
  ·exact bU rfl
  ·exact bU rfl
  ·exact bU rfl
  ·exact bU rfl
  exact fun d b n e=>by cases e;exact f.oc
 refine h J I (fun j F=>?_) X fun b d l y B C z K=>k3 b d l y C (fun r t x a=>bU (z r t x a)) (G b d l y B z K);have i:=O j (bU F);rw[k1 j (by rw[i];exact bU F),i]
theorem qW: ∀{L:List Int} {i:Nat} {x:Int},L[i]?=some x→ ∀j,j<4→(vN L)[4 *i+j]?=(SY x)[j]?
 |[],i,x,h,_,_=>by simp at h
 |y::L,0,x,h,j,hj=>by
  simp only[eS,Option.some.injEq]at h;subst h;rw[Nat.mul_zero,bV];show(SY y++vN L)[j]?=_;rw[fU (by show j<4;exact hj)]
 |y::L,i+1,x,h,j,hj=>by
  rw[kU]at h;show(SY y++vN L)[4 *(i+1)+j]?=_;have a:(SY y).length=4:=rfl;rw[gZ (by rw[a];omega),a,show 4 *(i+1)+j- 4=4 *i+j by omega];exact qW h j hj
theorem Rq (x:Int):(((UInt8.ofNat (x % 256).toNat).toNat:Nat):Int)=x % 256:=by
 rw[UInt8.toNat_ofNat'];omega
instance opK_dec (o:Int):Decidable (QF o):=by unfold QF;infer_instance
def QG (w:Int):Prop:=dR w∧sR w
theorem pD {o a b c:Int} (j:(0≤o∧o≤200)∧(0≤a∧a≤15)∧(0≤b∧b≤15)∧(0≤c∧c≤65535)) (i:QF o) (h:Z7 o a b c=true):QG (gB o a b c):=by
 have d:gB o a b c/16777216=o:=by simp only[gB];omega
 have e:gB o a b c/1048576 % 16=a:=by simp only[gB];omega
 have f:gB o a b c/65536 % 16=b:=by simp only[gB];omega
 have g:gB o a b c % 65536=c:=by simp only[gB];omega
 unfold QG sR;rw[d,e,f,g];exact⟨⟨by simp only[gB];omega,by simp only[gB];omega⟩,i,h⟩
theorem wG {o a b c:Int} (d:(0≤o∧o≤200)∧(0≤a∧a≤15)∧(0≤b∧b≤15)) (k:QF o) (h:(vY (vU (rH o) 97) a 15&&vY (vU (rH o) 98) b 15&&vU (rH o) 99&& !vU (rH o) 114)=true) (e:0≤c∧c≤65535):QG (gB o a b c):=by
 refine pD ⟨d.1,d.2.1,d.2.2,e⟩ k ?_;simp only[aX,eJ]at h;obtain⟨⟨⟨f,g⟩,i⟩,j⟩:=h;unfold Z7;rw[f,g,i,j];simp [vY,e]
theorem mG {d X e:Int} (hd:0≤d∧d≤200) (c: -1≤e∧e≤200) (b:QG X): ∀w∈zD d X e,QG w:=fun w a=>by
 simp only[zD,bL,bN,dH]at a;rcases a with rfl|rfl|rfl|rfl
 ·exact wG (by decide) (by decide) (by decide) (by omega)
 ·exact wG (by decide) (by decide) (by decide) (by omega)
 ·exact b
 exact wG (by decide) (by decide) (by decide) (by omega)
theorem RU {o:Int} (h:4≤o∧o≤15):QG (gB o 1 1 2):=by
 have :o=4∨o=5∨o=6∨o=7∨o=8∨o=9∨o=10∨o=11∨o=12∨o=13∨o=14∨o=15:=by omega
 rcases this with rfl|rfl|rfl|rfl|rfl|rfl|rfl|rfl|rfl|rfl|rfl|rfl<;>exact pD (by decide) (by decide) (by decide)
def Kw (q:Nat) (z:Zs) (A:List Int):Prop:= ∀w∈(iL A q z).2,QG w
theorem Kw.app {q:Nat} {z:Zs} {A B:List Int} (b:Kw q z A) (c:Kw (q+A.length) (iL A q z).1 B):Kw q z (A++B):=fun w a=>by
 rw[zM]at a;rcases eU.1 a with h|h
 ·exact b w h
 exact c w h
structure fQ (p:Pg) (cx:Cx) (r:Nat) (vv:AV) (abs:List Nat) (st:RS) (vo:AV) (en:Int) (H:Hp):Prop where
 r:H r=some (.rows 11 [[.isl 1 (p.vars.map bM), .isl 2 (p.arrs.map Ar.row), .isl 5 (p.funs.map Fu.row), .str cx.inp, .int .i64 cx.fuel,vv, .isl 1 (fR abs st.arrs),vo, .int .i64 st.read, .int .i64 st.ticks, .int .i64 en]])
 v:eB 1 vv (st.vars.map gI) H
 al:abs.length=st.arrs.length
 a: ∀(i:Nat) b l,abs[i]?=some b→st.arrs[i]?=some l→H b=some (.rows 1 (l.map gI))
 nd:abs.Nodup
 va: ∀b∈abs,off vv b
 o:eB 1 vo (st.out.map rG) H
 ov: ∀s b n,vv= .osl s b n→off vo b
 oa: ∀b∈abs,off vo b
 uv: ∀x∈st.vars,dR x
 ua: ∀l∈st.arrs,l.length≤4096∧ ∀x∈l,dR x
 ub:st.out.length≤65536
 rd:st.read≤cx.inp.length
 tk:st.ticks≤cx.fuel
def eA (r:Nat) (vv:AV) (abs:List Nat) (vo vo':AV) (H H':Hp):Prop:= ∀b o,H b=some o→b≠r→off vv b→b∉abs→off vo b→H' b=some o∧off vo' b
structure iH (vv:AV) (abs:List Nat) (vo:AV) (wv:AV) (ow:List Int) (H:Hp):Prop where
 h:eB 1 wv (ow.map gI) H
 nv: ∀s b n,wv= .osl s b n→off vv b
 na: ∀s b n,wv= .osl s b n→b∉abs
 nf: ∀s b n,wv= .osl s b n→off vo b
def kQ (r:Nat) (vv:AV) (abs:List Nat) (vo vo':AV) (x:Nat) (wv:AV) (H H':Hp):Prop:= ∀b o,H b=some o→b≠r→off vv b→b∉abs→off vo b→b≠x→off wv b→H' b=some o∧off vo' b
section
variable {p : Pg} {cx : Cx} {r : Nat} {vv vo vo' vo2 wv : AV} {abs : List Nat} {st : RS} {en : Int} {ow : List Int} {H H' H2 : Hp} {x : Nat}
theorem eA.refl (r:Nat) (vv:AV) (abs:List Nat) (vo:AV) (H:Hp):eA r vv abs vo vo H H:=fun _ _ h _ _ _ a=>⟨h,a⟩
theorem eA.trans (h:eA r vv abs vo vo' H H') (g:eA r vv abs vo' vo2 H' H2):eA r vv abs vo vo2 H H2:=fun b o j a c d i=>by
 obtain⟨e,f⟩:=h b o j a c d i;exact g b o e a c d f
theorem eA.w (h:eA r vv abs vo vo' H H') (x:Nat) (wv:AV):kQ r vv abs vo vo' x wv H H':=fun b o f a c d e _ _=>h b o f a c d e
theorem kQ.trans (h:kQ r vv abs vo vo' x wv H H') (j:kQ r vv abs vo' vo2 x wv H' H2):kQ r vv abs vo vo2 x wv H H2:=fun b o l a c d k e f=>by
 obtain⟨g,i⟩:=h b o l a c d k e f;exact j b o g a c d i e f
theorem kQ.new {b:Nat} {o:Option iF} (l:H b=none) (h:kQ r vv abs vo vo' x wv (Al.upd H b o) H'):kQ r vv abs vo vo' x wv H H':=fun c n a d f g i j k=>by
 have :c≠b:=fun e=>by rw[e,l]at a;cases a
 exact h c n (by rw[cH _ _ this];exact a) d f g i j k
theorem eA.new {b:Nat} {o:Option iF} (j:H b=none) (h:eA r vv abs vo vo' (Al.upd H b o) H'):eA r vv abs vo vo' H H':=fun c k a d f g i=>by
 have :c≠b:=fun e=>by rw[e,j]at a;cases a
 exact h c k (by rw[cH _ _ this];exact a) d f g i
theorem eA.updN (h:eA r vv abs vo vo' H H') {b:Nat} (l:H b=none) (o:Option iF):eA r vv abs vo vo' H (Al.upd H' b o):=fun c n a g i j k=>by
 obtain⟨d,f⟩:=h c n a g i j k;have :c≠b:=fun e=>by rw[e,l]at a;cases a
 exact⟨by rw[cH _ _ this];exact d,f⟩
theorem fQ.same (h:fQ p cx r vv abs st vo en H) (a: ∀b,H' b=H b):fQ p cx r vv abs st vo en H':=by
 have :H'=H:=funext a;rw[this];exact h
theorem iH.same (h:iH vv abs vo wv ow H) (a: ∀b,H' b=H b):iH vv abs vo wv ow H':=by
 have :H'=H:=funext a;rw[this];exact h
theorem fQ.abs_some (h:fQ p cx r vv abs st vo en H) {b:Nat} (d:b∈abs): ∃l,H b=some (.rows 1 l):=by
 obtain⟨i,c⟩:=jB d;have e:i<st.arrs.length:=by have:=(bF.1 c).1;rw[←h.al];exact this
 exact⟨_,h.a i b _ c (aF e)⟩
theorem fQ.apart (h:fQ p cx r vv abs st vo en H) {b sz:Nat} {l:List (List AV)} (a:H b=some (.rows sz l)) (c:sz≠1) (d:sz≠11):b≠r∧off vv b∧b∉abs∧off vo b:=
 ⟨fun e=>by rw[e,h.r]at a;cases a;exact d rfl,h.v.offsz a c,fun e=>by obtain⟨g,f⟩:=h.abs_some e;rw[f]at a;cases a;exact c rfl,h.o.offsz a c⟩
theorem fQ.keep (h:fQ p cx r vv abs st vo en H) {b sz:Nat} {l:List (List AV)} (a:H b=some (.rows sz l)) (g:sz≠1) (i:sz≠11) (j:eA r vv abs vo vo' H H'):H' b=some (.rows sz l):=by
 obtain⟨c,d,e,f⟩:=h.apart a g i;exact(j b _ a c d e f).1
theorem fQ.keepW (h:fQ p cx r vv abs st vo en H) (k:iH vv abs vo wv ow H) {b sz:Nat} {l:List (List AV)} (a:H b=some (.rows sz l)) (c:sz≠1) (i:sz≠11) (n:b≠x) (j:kQ r vv abs vo vo' x wv H H'):H' b=some (.rows sz l):=by
 obtain⟨d,e,f,g⟩:=h.apart a c i;exact(j b _ a d e f g n (k.h.offsz a c)).1
theorem fQ.nr (h:fQ p cx r vv abs st vo en H) {b:Nat} {l:List (List AV)} (a:H b=some (.rows 1 l)):b≠r:=fun e=>by rw[e,h.r]at a;cases a
theorem iH.keep (h:iH vv abs vo wv ow H) (g:fQ p cx r vv abs st vo en H) (f:eA r vv abs vo vo' H H'):iH vv abs vo' wv ow H':=by
 rcases h.h with⟨rfl,e⟩|⟨b,rfl,a⟩
 ·exact⟨.inl ⟨rfl,e⟩,(fun _ _ _ e=>by cases e),(fun _ _ _ e=>by cases e),(fun _ _ _ e=>by cases e)⟩
 obtain⟨c,d⟩:=f b _ a (g.nr a) (h.nv _ _ _ rfl) (h.na _ _ _ rfl) (h.nf _ _ _ rfl);exact⟨.inr ⟨b,rfl,c⟩,h.nv,h.na,fun s i n e=>by cases e;exact d⟩
theorem fQ.new (h:fQ p cx r vv abs st vo en H) {b:Nat} (c:H b=none) (o:Option iF):fQ p cx r vv abs st vo en (upd H b o):=by
 have k:r≠b:=fun e=>by have:=h.r;rw[e,c]at this;cases this
 refine {h with r:=by rw[cH _ _ k];exact h.r,v:=h.v.upd c o,a:=fun i d l f j=>?_,o:=h.o.upd c o};have n:d≠b:=fun e=>by obtain⟨l,g⟩:=h.abs_some (aW f);rw[e,c]at g;cases g
 rw[cH _ _ n];exact h.a i d l f j
theorem iH.new (h:iH vv abs vo wv ow H) {b:Nat} (a:H b=none) (o:Option iF):iH vv abs vo wv ow (upd H b o):=⟨h.h.upd a o,h.nv,h.na,h.nf⟩
theorem iH.off (h:iH vv abs vo wv ow H) {b:Nat} (a:Al.off wv b) (o:Option iF):iH vv abs vo wv ow (upd H b o):=⟨h.h.off a o,h.nv,h.na,h.nf⟩
theorem fQ.other (h:fQ p cx r vv abs st vo en H) {b:Nat} (g:b≠r) (j:Al.off vv b) (k:b∉abs) (n:Al.off vo b) (o:Option iF):fQ p cx r vv abs st vo en (upd H b o):=by
 refine {h with r:=by rw[cH _ _ (Ne.symm g)];exact h.r,v:=h.v.off j o,a:=fun i d l c f=>?_,o:=h.o.off n o};rw[cH _ _ (fun e=>k (by rw[←e];exact aW c))];exact h.a i d l c f
theorem fQ.turn (h:fQ p cx r vv abs st vo en H) {st':RS} (en':Int) (f:st'.vars=st.vars) (b:st'.arrs=st.arrs) (e:st'.out=st.out) (n:st'.read≤cx.inp.length) (t:st'.ticks≤cx.fuel):
  fQ p cx r vv abs st' vo en' (upd H r (some (.rows 11 [[.isl 1 (p.vars.map bM), .isl 2 (p.arrs.map Ar.row), .isl 5 (p.funs.map Fu.row), .str cx.inp, .int .i64 cx.fuel,vv, .isl 1 (fR abs st.arrs),vo, .int .i64 st'.read, .int .i64 st'.ticks, .int .i64 en']]))):=by
 have k:off vo r:=h.o.offsz h.r (by decide);have u:off vv r:=h.v.offsz h.r (by decide);refine⟨by rw[bC,b],by rw[f];exact h.v.off u _,by rw[b];exact h.al,fun i g l j c=>?_,h.nd,h.va,by rw[e];exact h.o.off k _,h.ov,h.oa,by rw[f];exact h.uv,by rw[b];exact h.ua,by rw[e];exact h.ub,n,t⟩;rw[b]at c;have d:=h.a i g l j c;rw[cH _ _ (h.nr d)];exact d
theorem eA.run (o:Option iF):eA r vv abs vo vo H (upd H r o):=fun d e c a _ _ b=>⟨by rw[cH _ _ a];exact c,b⟩
theorem eA.vars {s b n:Nat} (f:vv= .osl s b n) (o:Option iF):eA r vv abs vo vo H (upd H b o):=fun g i d _ a _ c=>⟨by rw[cH _ _ (fun e=>a _ _ (by rw[f,e]))];exact d,c⟩
theorem eA.arr {b:Nat} (d:b∈abs) (o:Option iF):eA r vv abs vo vo H (upd H b o):=fun g i f _ _ a c=>⟨by rw[cH _ _ (fun e=>a (by rw[e];exact d))];exact f,c⟩
theorem fQ.setV {b:Nat} (h:fQ p cx r (.osl 1 b st.vars.length) abs st vo en H) (i:Nat) (v:Int) (k:dR v):fQ p cx r (.osl 1 b st.vars.length) abs {st with vars:=st.vars.set i v} vo en (upd H b (some (.rows 1 ((st.vars.map gI).set i [.int .u32 v])))):=by
 have d:H b=some (.rows 1 (st.vars.map gI)):=by
  rcases h.v with⟨e,_⟩|⟨c,e,d⟩
  ·cases e
  simp only[AV.osl.injEq]at e;obtain⟨_,rfl,_⟩:=e;exact d
 have n:r≠b:=fun e=>h.nr d e.symm;refine⟨?_, ?_,h.al,fun i c l g j=>?_,h.nd,h.va,h.o.off (h.ov _ _ _ rfl) _,h.ov,h.oa,fun x f=>?_,h.ua,h.ub,h.rd,h.tk⟩
 ·rw[cH _ _ n];exact h.r
 ·exact .inr ⟨b,by simp,by rw[bC,rB]⟩
 ·rw[cH _ _ (fun e=>h.va c (aW g) _ _ (by rw[e]))];exact h.a i c l g j
 rcases pI f with f|rfl
 ·exact h.uv x f
 exact k
theorem fQ.setA (h:fQ p cx r vv abs st vo en H) {i:Nat} {b:Nat} {l:List Int} (g:abs[i]?=some b) (A:st.arrs[i]?=some l) (j:Nat) (v:Int) (E:dR v):fQ p cx r vv abs {st with arrs:=st.arrs.modify i fun l=>l.set j v} vo en (upd H b (some (.rows 1 ((l.map gI).set j [.int .u32 v])))):=by
 have B:=aW g;have F:r≠b:=fun e=>h.nr (h.a i b l g A) e.symm;refine⟨?_,h.v.off (h.va b B) _,by simp only[List.length_modify];exact h.al,fun d z n t c=>?_,h.nd,h.va,h.o.off (h.oa b B) _,h.ov,h.oa,h.uv,fun n C=>?_,h.ub,h.rd,h.tk⟩
 ·rw[cH _ _ F]
  simp only;rw[wY abs st.arrs i _ (fun l=>by simp)];exact h.r
 ·simp only[Uy]at c
  by_cases u:i=d
  ·subst u
   rw[g]at t;cases t;rw[A]at c;have c:l.set j v=n:=by simpa using c
   subst c;rw[bC,rB]
  have c:st.arrs[d]?=some n:=by simpa [aJ u]using c
  have :z≠b:=fun e=>by
   subst e;exact u ((List.getElem?_inj (bF.1 g).1 h.nd).1 (g.trans t.symm))
  rw[cH _ _ this];exact h.a d z n t c
 obtain⟨d,k⟩:=jB C;rw[Uy]at k
 obtain⟨f,D,rfl⟩: ∃f,st.arrs[d]?=some f∧(if i=d then f.set j v else f)=n:=by
  cases hq:st.arrs[d]? with
  |none=>rw[hq]at k;simp at k
  |some f=>rw[hq]at k;exact⟨f,rfl,by simpa using k⟩
 have:=h.ua f (aW D);split
 ·refine⟨by simpa using this.1,fun x y=>?_⟩
  rcases pI y with y|rfl
  ·exact this.2 x y
  exact E
 exact this
theorem fQ.put {v':AV} (h:fQ p cx r vv abs st vo en H) {c:UInt8} (A:st.out.length<65536) (B:eB 1 v' (st.out.map rG++[rG c]) H')
  (u: ∀b o,H b=some o→vo≠ .osl 1 b (st.out.map rG).length→H' b=some o) (j: ∀b,off vo b→H b≠none→off v' b):
  fQ p cx r vv abs {st with out:=st.out++[c]} v' en (upd H' r (some (.rows 11 [[.isl 1 (p.vars.map bM), .isl 2 (p.arrs.map Ar.row), .isl 5 (p.funs.map Fu.row), .str cx.inp, .int .i64 cx.fuel,vv, .isl 1 (fR abs st.arrs),v', .int .i64 st.read, .int .i64 st.ticks, .int .i64 en]])))∧
  eA r vv abs vo v' H (upd H' r (some (.rows 11 [[.isl 1 (p.vars.map bM), .isl 2 (p.arrs.map Ar.row), .isl 5 (p.funs.map Fu.row), .str cx.inp, .int .i64 cx.fuel,vv, .isl 1 (fR abs st.arrs),v', .int .i64 st.read, .int .i64 st.ticks, .int .i64 en]]))):=by
 have C:off vo r:=h.o.offsz h.r (by decide);have G:off vv r:=h.v.offsz h.r (by decide);have D:off v' r:=j r C (by rw[h.r];exact bZ _)
 have E: ∀s b n,vv= .osl s b n→H b=some (.rows 1 (st.vars.map gI)):=fun s b n e=>by
  rcases h.v with⟨t,_⟩|⟨k,t,d⟩
  ·rw[t]at e;cases e
  rw[t]at e;cases e;exact d
 refine⟨⟨bC _ _ _, ?_,h.al,fun i k l f y=>?_,h.nd,h.va, ?_,fun s b n e=>j b (h.ov s b n e) (by rw[E s b n e];exact bZ _),fun b d=>j b (h.oa b d) (by obtain⟨l,A⟩:=h.abs_some d;rw[A];exact bZ _),h.uv,h.ua, ?_,h.rd,h.tk⟩,fun b o d f y F z=>⟨?_,j b z (by rw[d];exact bZ _)⟩⟩
 ·rcases h.v with g|⟨b,e,d⟩
  ·exact .inl g
  exact .inr ⟨b,e,by rw[cH _ _ (h.nr d)];exact u _ _ d (h.ov _ _ _ e _ _)⟩
 ·have d:=h.a i k l f y
  rw[cH _ _ (h.nr d)];exact u _ _ d (h.oa k (aW f) _ _)
 ·rw[cO]
  exact B.off D _
 ·simp only[aB,bS];omega
 rw[cH _ _ f];exact u _ _ d (z _ _)
theorem iH.osl (h:iH vv abs vo wv ow H) {i:Nat} {y:Int} (c:ow[i]?=some y): ∃b,wv= .osl 1 b ow.length∧H b=some (.rows 1 (ow.map gI)):=by
 rcases h.h with⟨_,e⟩|⟨b,e,a⟩
 ·have:=congrArg List.length e
  have:=(bF.1 c).1;simp only[aG,aU]at *;omega
 exact⟨b,by rw[e,aG],a⟩
theorem fQ.osl (h:fQ p cx r vv abs st vo en H) {i:Nat} {y:Int} (c:st.vars[i]?=some y): ∃b,vv= .osl 1 b st.vars.length∧H b=some (.rows 1 (st.vars.map gI)):=by
 rcases h.v with⟨_,e⟩|⟨b,e,a⟩
 ·have:=congrArg List.length e
  have:=(bF.1 c).1;simp only[aG,aU]at *;omega
 exact⟨b,by rw[e,aG],a⟩
end
def nE {α:Type}:Rz α→Int| .val _ _=>0| .fin e _=>e
def vL {α:Type} (en:Int) (st:RS) (f:Option (Rz α)) (o:Rz α):Prop:=(en=0∧f=some o)∨(en≠0∧o= .fin en st)
def Xf (p:Pg) (cx:Cx) (r:Nat) (vv:AV) (abs:List Nat) (vo:AV) (H:Hp) (o:Rz Int):vI→Hp→Prop:=fun ae H'=>
 ∃w vo',ae= .ret (.int .u32 w)∧dR w∧(∀v s,o= .val v s→w=v)∧(∀e s,o= .fin e s→e≠0)∧fQ p cx r vv abs o.st vo' (nE o) H'∧eA r vv abs vo vo' H H'
def tK (p:Pg) (cx:Cx) (r:Nat) (vv:AV) (abs:List Nat) (vo:AV) (x i:Nat) (wv:AV) (n:Nat) (H:Hp) (o:Rz (Option Int×List Int)):vI→Hp→Prop:=fun ae H'=>
 ∃ow bk vl vo',ae= .ret (.tup [])∧ow.length=n∧(∀y∈ow,dR y)∧dR vl∧(bk=false→vl=0)∧(∀q s,o= .val q s→ow=q.2∧bk=q.1.isSome∧vl=q.1.getD 0)∧(∀e s,o= .fin e s→e≠0)∧H' x=some (.rows 4 [[.int .i64 i,wv, .bool bk, .int .u32 vl]])∧iH vv abs vo' wv ow H'∧fQ p cx r vv abs o.st vo' (nE o) H'∧kQ r vv abs vo vo' x wv H H'
theorem sN {b:Type} {o:Rz b} (a: ∀e s,o= .fin e s→e≠0) (h:nE o=0): ∃v s,o= .val v s:=by
 cases o with
 |val v s=>exact⟨v,s,rfl⟩
 |fin e s=>exact absurd h (a e s rfl)
theorem sO {a:Type} {o:Rz a} (h: ¬nE o=0): ∃e s,o= .fin e s:=by
 cases o with
 |val v s=>exact absurd rfl h
 |fin e s=>exact⟨e,s,rfl⟩
theorem QN {d g i:Type} {a:Rz d} {f:RS→Option (Rz g)} {K:d→g→RS→Option (Rz i)} {o:Rz i} (j: ∀e s,a= .fin e s→e≠0) (h:bindR (some a) (fun x s=>bindR (f s) (K x))=some o):
  ∃b,vL (nE a) a.st (f a.st) b∧((∃x c,a= .val x c∧f c=some b∧bindR (some b) (K x)=some o)∨(∃e s,a= .fin e s∧b= .fin e s∧o= .fin e s)):=by
 cases a with
 |fin e s=>exact⟨.fin e s, .inr ⟨j e s rfl,rfl⟩, .inr ⟨e,s,rfl,rfl,(Option.some.inj (show some (Rz.fin e s)=some o from h)).symm⟩⟩
 |val x s=>
  simp only[bindR]at h
  cases h2:f s with
  |none=>rw[h2]at h;cases h
  |some b=>rw[h2]at h;exact⟨b, .inl ⟨rfl,h2⟩, .inl ⟨x,s,rfl,h2,h⟩⟩
theorem fZ {a:Ex}: ∀{l:List Ex},a∈l→(∀u∈nF a,u∈fG l)∧ ∀u∈fG a.kids,u∈fG l
 |x::l,h=>by
  rw[lZ];rcases bL.1 h with rfl|h
  ·exact⟨fun u b=>by simp [b],fun u b=>by simp [b]⟩
  have:=fZ h;exact⟨fun u b=>by simp [this.1 u b],fun u b=>by simp [this.2 u b]⟩
theorem Of {a:Sm}: ∀{l:List Sm},a∈l→(∀u∈kZ a,u∈eG l)∧(∀u∈fG a.es,u∈eG l)∧(∀u∈eG a.thn,u∈eG l)∧ ∀u∈eG a.els,u∈eG l
 |x::l,h=>by
  rw[nI];rcases bL.1 h with rfl|h
  ·exact⟨fun u b=>by simp [b],fun u b=>by simp [b],fun u b=>by simp [b],fun u b=>by simp [b]⟩
  have:=Of h;exact⟨fun u b=>by simp [this.1 u b],fun u b=>by simp [this.2.1 u b],fun u b=>by simp [this.2.2.1 u b],fun u b=>by simp [this.2.2.2 u b]⟩
section
variable {p : Pg} {cx : Cx} {r : Nat} {vv vo wv wv' : AV} {abs : List Nat} {st : RS} {en : Int} {ow : List Int} {ys : List (List AV)} {H H' : Hp}
theorem fQ.grow (h:fQ p cx r vv abs st vo en H) (c:iH vv abs vo wv ow H) (f: ∀b o,H b=some o→wv≠ .osl 1 b (ow.map gI).length→H' b=some o):fQ p cx r vv abs st vo en H':=by
 have own: ∀{v:AV} {rows:List (List AV)},eB 1 v rows H→(∀s b n,v= .osl s b n→Al.off wv b)→eB 1 v rows H':=fun h u=>by
  rcases h with g|⟨b,e,t⟩
  ·exact .inl g
  exact .inr ⟨b,e,f b _ t (u _ _ _ e _ _)⟩
 refine {h with r:=f _ _ h.r (c.h.offsz h.r (by decide) _ _),v:=own h.v fun s b n e y x d=>c.nv _ _ _ d _ _ e,a:=fun i b l j k=>f _ _ (h.a i b l j k) fun e=>c.na _ _ _ e (aW j),o:=own h.o fun s b n e y x d=>c.nf _ _ _ d _ _ e}
theorem iH.grow (f:iH vv abs vo wv ow H) (h:fQ p cx r vv abs st vo en H) {x:Int} (u:eB 1 wv' (ow.map gI++[[.int .u32 x]]) H') (d: ∀b,Al.off wv b→H b≠none→Al.off wv' b):iH vv abs vo wv' (ow++[x]) H':=by
 have k: ∀{v:AV} {rows:List (List AV)} {s b n:Nat},eB 1 v rows H→v= .osl s b n→H b≠none:=fun h e=>h.there _ _ _ e;refine⟨by rw[cO];exact u,fun s b n e z y a=>?_,fun s b n e g=>?_,fun s b n e z y a=>?_⟩
 ·exact d b (fun j i c=>f.nv _ _ _ c _ _ a) (k h.v a) _ _ e
 ·obtain⟨l,t⟩:=h.abs_some g
  exact d b (fun j i c=>f.na _ _ _ c g) (by rw[t];exact bZ _) _ _ e
 exact d b (fun j i c=>f.nf _ _ _ c _ _ a) (k h.o a) _ _ e
theorem iH.nil:iH vv abs vo .nsl [] H:=⟨.inl ⟨rfl,rfl⟩,(fun _ _ _ e=>by cases e),(fun _ _ _ e=>by cases e),(fun _ _ _ e=>by cases e)⟩
theorem iH.other {a:AV} {c:List Int} (h:iH vv abs vo a c H) (d: ∀s b n,a= .osl s b n→Al.off wv b) (i: ∀b o,H b=some o→wv≠ .osl 1 b (ow.map gI).length→H' b=some o):iH vv abs vo a c H':=by
 refine {h with h:=?_};rcases h.h with g|⟨b,e,f⟩
 ·exact .inl g
 exact .inr ⟨b,e,i b _ f (d _ _ _ e _ _)⟩
end
end Go.Al
namespace Go.Proofs.YtaecpjgmcffliaaGreatDoor
open Go.Al Go.Proofs.Tryz
theorem MA (W:List Int) (inp:dD) (D:Nat) (fu:Int) (G:Nat→Mc) (en:Nat→Int) (k:Nat) (hD:D=4224) (k0:W.length≤20000) (k7: ∀w∈W,dR w∧sR w) (l5:inp.length≤2000000) (h0:G 0=A8)
  (hs: ∀i,i≤k→en i=0∧(G i).st≤1000000000000∧nC W inp (G i)=some (en (i+1),G (i+1))) (he:en (k+1)≠0) (n1:k≤1000000000000) (n0:(k:Int)+2≤fu):
  oM dP 68 [.agg [.isl 1 (W.map gI), .int .i64 (D:Int)], .str inp, .agg [.int .i64 0, .int .u32 0, .int .u32 0, .int .u32 0, .int .u32 0, .int .u32 0, .int .u32 0, .int .u32 0, .int .u32 0, .int .u32 0, .int .u32 0, .int .u32 0, .int .u32 0, .int .u32 0, .int .u32 0, .int .u32 0, .int .u32 0, .isl 1 (List.replicate D [.int .u32 0]), .int .i64 0, .str [], .int .i64 0, .int .i64 0], .int .i64 fu] pZ (fun ae _=> ∃vc,ae= .ret (.tup [.agg (N9 (G (k+1)) (.isl 1 ((G (k+1)).mem.map gI)) (en (k+1))),vc])):=by
 have hC:=LF W (D:Int) k0 k7;have e1:(8:Int) *(W.length:Int)≤281474976710656:=by omega
 have e4:(0:Int)≤(W.length:Int):=by omega
 have e5:D *4≤140737488355328:=by omega
 have i9:(List.replicate D [AV.int .u32 0]).length=D:=fF
 have i8:(List.replicate D [AV.int .u32 0]).all (fun r=>r.all one)=true:=by
  rw[cJ];intro x hx;rw[ON hx];rfl
 have l8:List.replicate D [AV.int .u32 0]=A8.mem.map gI:=by rw[hD];exact MI.symm
 generalize hL:List.replicate D [AV.int .u32 0]=L at *;refine bY 70 [.cell 8 93, .tmp 9] func68 ?_;refine aA fun K hK=>?_;simp only[bV,RR,seval];refine aN fun C n2=>?_;simp only[bV,RR,seval];refine aN fun B k6=>?_;have k9:B≠C:=fun e=>by rw[e]at k6;simp only[RR,seval,reduceCtorEq]at k6
 have i6:=k9.symm;simp only[bV,RR,seval];refine aN fun v i5=>?_;have m4:v≠C:=fun e=>by rw[e]at i5;simp only[i6,RR,seval,reduceCtorEq]at i5
 have k8:=m4.symm;have m5:v≠B:=fun e=>by rw[e]at i5;simp only[RR,seval,reduceCtorEq]at i5
 have m3:=m5.symm;simp only[RR,seval];refine hK _ _ (aA fun K hK=>?_);simp only[i6,k8,bV,cC,RR,seval];refine aO (hC) ?_;simp only[RR,seval];refine hK _ _ (bQ fun F1 M1 E hH=>?_);have f1:=E 1;have f3:=E 3;have f4:=E 4;have f6:=E 6;have N:=E 8;have f9:=E 9;have g5:=E 10;have g7:=E 11;have u:=hH C;have t:=hH B;have g:=hH v;simp only[i6,k8,m3,RR,seval]at f1 f3 f4 f6 N f9 g5 g7 u t g;refine aC fun K hK=>?_;refine gP (fun fr M=>bB [1,3,4,6,8,9,10,11] F1 fr∧M C=M1 C∧M B=M1 B∧M v=M1 v∧ ∃y p,fr 12= .ptr 22 y 0 0∧M y=some (.rows 22 [[.int .i64 0, .int .u32 0, .int .u32 0, .int .u32 0, .int .u32 0, .int .u32 0, .int .u32 0, .int .u32 0, .int .u32 0, .int .u32 0, .int .u32 0, .int .u32 0, .int .u32 0, .int .u32 0, .int .u32 0, .int .u32 0, .int .u32 0, .osl 1 p D, .int .i64 0, .str [], .int .i64 0, .int .i64 0]])∧M p=some (.rows 1 L)∧y≠p) (fun m7 j0=>?_) ?_
 ·refine lR (fun x=>x≠B) eE (by kernel_rfl) fun hd=>?_
  refine hQ [(0,3),(1,0),(2,3),(3,0),(5,3),(6,0),(8,3),(9,0),(10,3),(11,0),(12,3),(13,0)] hd (m:=5) rfl (by kernel_rfl) rfl rfl ?_;simp only[dL,fW,f6,t,bV,RR,seval];refine lG hd (by kernel_rfl:Region.ready .any _ _=[4,15]) (by simp) ⟨?_, ?_,trivial⟩
  ·simp only[RR,seval]
   refine wW fun c6 b2=>?_;have h4:=cY b2 u;have d6:=h4.symm;have h5:=cY b2 t;have d7:=h5.symm;have h6:=cY b2 g;have d9:=h6.symm;simp only[RR,seval];refine lG hd (by kernel_rfl:Region.ready .any _ _=[7,15]) (by simp) ⟨?_, ?_,trivial⟩
   ·simp only[i8,bV,RR,seval]
    refine Kt (b:=c6) (bC _ _ _) (by rfl) (by(simp only[aU]);omega) (by repeat (trivial)) fun p b1=>?_;have f0:p≠C:=by rcases b1 with e|e;rw[e];exact h4;intro F;rw[F]at e;simp only[u,d6,RR,seval,reduceCtorEq]at e
    have f7:=f0.symm;have f2:p≠B:=by rcases b1 with e|e;rw[e];exact h5;intro F;rw[F]at e;simp only[t,d7,RR,seval,reduceCtorEq]at e
    have g0:=f2.symm;have f5:p≠v:=by rcases b1 with e|e;rw[e];exact h6;intro F;rw[F]at e;simp only[g,d9,RR,seval,reduceCtorEq]at e
    have g2:=f5.symm;simp only[i9,bV,cC,RR,seval];refine hQ [(14,3),(15,1),(16,1)] hd (m:=0) rfl (by kernel_rfl) rfl rfl ?_;simp only[dL,bV,cC,RR,seval];refine aN fun y H=>?_;have e6:y≠C:=fun e=>by rw[e]at H;simp only[u,d6,f7,RR,seval,reduceCtorEq]at H
    have c4:=e6.symm;have c1:y≠B:=fun e=>by rw[e]at H;simp only[t,d7,g0,RR,seval,reduceCtorEq]at H
    have c5:=c1.symm;have e9:y≠v:=fun e=>by rw[e]at H;simp only[g,d9,g2,RR,seval,reduceCtorEq]at H
    have d8:=e9.symm;have c2:y≠p:=fun e=>by rw[e]at H;simp only[RR,seval,reduceCtorEq]at H
    have e7:=c2.symm;simp only[c1,bV,cC,RR,seval];refine jG (by kernel_rfl) ?_;simp only[RR,seval];exact j0 _ _ ⟨(by repeat (first|exact bB.refl _ _|refine bB.upd rfl ?_)),(by(simp only[u,d6,f7,c4,aT,seval];done)),(by(simp only[t,d7,g0,c5,aT,seval];done)),(by(simp only[g,d9,g2,d8,aT,seval];done)),y,p,(by rfl),(by(simp only[aT,seval];done)),(by(simp only[e7,aT,seval];done)),c2⟩
   simp only[bV,RR,seval];refine aN fun y H=>?_;have e6:y≠C:=fun e=>by rw[e]at H;simp only[u,d6,RR,seval,reduceCtorEq]at H
   have c4:=e6.symm;have c1:y≠B:=fun e=>by rw[e]at H;simp only[t,d7,RR,seval,reduceCtorEq]at H
   have c5:=c1.symm;have e9:y≠v:=fun e=>by rw[e]at H;simp only[g,d9,RR,seval,reduceCtorEq]at H
   have d8:=e9.symm;have i2:y≠c6:=fun e=>by rw[e]at H;simp only[RR,seval,reduceCtorEq]at H
   have i3:=i2.symm;simp only[RR,seval];refine hQ [(7,1),(14,3),(16,1)] hd (m:=0) rfl (by kernel_rfl) rfl rfl ?_;simp only[dL,i8,bV,RR,seval];refine Kt (b:=c6) (by(simp only[i3,aT,seval];rfl)) (by rfl) (by(simp only[aU]);omega) (by repeat (trivial)) fun p b1=>?_;have f0:p≠C:=by rcases b1 with e|e;rw[e];exact h4;intro F;rw[F]at e;simp only[u,d6,c4,RR,seval,reduceCtorEq]at e
   have f7:=f0.symm;have f2:p≠B:=by rcases b1 with e|e;rw[e];exact h5;intro F;rw[F]at e;simp only[t,d7,c5,RR,seval,reduceCtorEq]at e
   have g0:=f2.symm;have f5:p≠v:=by rcases b1 with e|e;rw[e];exact h6;intro F;rw[F]at e;simp only[g,d9,d8,RR,seval,reduceCtorEq]at e
   have g2:=f5.symm;have e7:p≠y:=by rcases b1 with e|e;rw[e];exact i3;intro F;rw[F]at e;simp only[RR,seval,reduceCtorEq]at e
   have c2:=e7.symm;simp only[c1,i2,c2,i9,bV,cC,RR,seval];refine jG (by kernel_rfl) ?_;simp only[RR,seval];exact j0 _ _ ⟨(by repeat (first|exact bB.refl _ _|refine bB.upd rfl ?_)),(by(simp only[u,d6,c4,f7,aT,seval];done)),(by(simp only[t,d7,c5,g0,aT,seval];done)),(by(simp only[g,d9,d8,g2,aT,seval];done)),y,p,(by rfl),(by(simp only[aT,seval];done)),(by(simp only[e7,aT,seval];done)),c2⟩
  simp only[bV,RR,seval];refine aN fun y H=>?_;have e6:=cY H u;have c4:=e6.symm;have c1:=cY H t;have c5:=c1.symm;have e9:=cY H g;have d8:=e9.symm;simp only[RR,seval];refine hQ [(4,1),(7,1),(14,3),(16,1)] hd (m:=0) rfl (by kernel_rfl) rfl rfl ?_;simp only[dL,RR,seval];refine wW fun c6 b2=>?_;have h4:c6≠C:=fun e=>by rw[e]at b2;simp only[u,c4,RR,seval,reduceCtorEq]at b2
  have d6:=h4.symm;have h5:c6≠B:=fun e=>by rw[e]at b2;simp only[t,c5,RR,seval,reduceCtorEq]at b2
  have d7:=h5.symm;have h6:c6≠v:=fun e=>by rw[e]at b2;simp only[g,d8,RR,seval,reduceCtorEq]at b2
  have d9:=h6.symm;have i3:c6≠y:=fun e=>by rw[e]at b2;simp only[RR,seval,reduceCtorEq]at b2
  have i2:=i3.symm;simp only[i8,bV,RR,seval];refine Kt (b:=c6) (bC _ _ _) (by rfl) (by(simp only[aU]);omega) (by repeat (trivial)) fun p b1=>?_;have f0:p≠C:=by rcases b1 with e|e;rw[e];exact h4;intro F;rw[F]at e;simp only[u,c4,d6,RR,seval,reduceCtorEq]at e
  have f7:=f0.symm;have f2:p≠B:=by rcases b1 with e|e;rw[e];exact h5;intro F;rw[F]at e;simp only[t,c5,d7,RR,seval,reduceCtorEq]at e
  have g0:=f2.symm;have f5:p≠v:=by rcases b1 with e|e;rw[e];exact h6;intro F;rw[F]at e;simp only[g,d8,d9,RR,seval,reduceCtorEq]at e
  have g2:=f5.symm;have e7:p≠y:=by rcases b1 with e|e;rw[e];exact i3;intro F;rw[F]at e;simp only[i2,RR,seval,reduceCtorEq]at e
  have c2:=e7.symm;simp only[c1,i2,c2,i9,bV,cC,RR,seval];refine jG (by kernel_rfl) ?_;simp only[RR,seval];exact j0 _ _ ⟨(by repeat (first|exact bB.refl _ _|refine bB.upd rfl ?_)),(by(simp only[u,c4,d6,f7,aT,seval];done)),(by(simp only[t,c5,d7,g0,aT,seval];done)),(by(simp only[g,d8,d9,g2,aT,seval];done)),y,p,(by rfl),(by(simp only[aT,seval];done)),(by(simp only[e7,aT,seval];done)),c2⟩
 rintro F2 M2 ⟨I,e0,e3,c0,y,p,i7,z,A,c2⟩;simp only[iM];apply hK;have f1:=(I 1 rfl).trans f1;have f3:=(I 3 rfl).trans f3;have f4:=(I 4 rfl).trans f4;have f6:=(I 6 rfl).trans f6;have N:=(I 8 rfl).trans N;have f9:=(I 9 rfl).trans f9;have g5:=(I 10 rfl).trans g5;have g7:=(I 11 rfl).trans g7;have u:=e0.trans u;have t:=e3.trans t;have g:=c0.trans g;clear I e0 e3 c0;have e7:=c2.symm;have e6:y≠C:=fun e=>by rw[e,u]at z;cases z
 have c1:y≠B:=fun e=>by rw[e,t]at z;cases z
 have e9:y≠v:=fun e=>by rw[e,g]at z;cases z
 have f0:p≠C:=fun e=>by rw[e,u]at A;cases A
 have f2:p≠B:=fun e=>by rw[e,t]at A;cases A
 have f5:p≠v:=fun e=>by rw[e,g]at A;cases A
 have c4:=e6.symm;have c5:=c1.symm;have d8:=e9.symm;have f7:=f0.symm;have g0:=f2.symm;have g2:=f5.symm;refine bQ fun F3 M3 E hH=>?_;have g1:=E 1;have g3:=E 3;have g4:=E 4;have g6:=E 6;have g8:=E 8;have g9:=E 9;have j5:=E 10;have j6:=E 11;have j7:=E 12;have e0:=hH C;have e3:=hH B;have c0:=hH v;have h8:=hH y;have h9:=hH p;simp only[f1,f3,f4,f6,N,f9,g5,g7,i7,u,t,g,z,A,seval]at g1 g3 g4 g6 g8 g9 j5 j6 j7 e0 e3 c0 h8 h9;have f1:=g1;have f3:=g3;have f4:=g4;have f6:=g6;have N:=g8;have f9:=g9;have g5:=j5;have g7:=j6;have i7:=j7;have u:=e0;have t:=e3;have g:=c0;have z:=h8;have A:=h9;refine aC fun K hK=>?_;refine gP (fun fr M=>bB [3,8,9] F3 fr∧M C=M3 C∧M B=M3 B∧M v=M3 v∧M y=M3 y∧M p=M3 p∧ ∃j l o,fr 13= .ptr 28 j 0 0∧M j=some (.rows 28 [[.int .i64 0, .int .u32 0, .int .u32 0, .int .u32 0, .int .u32 0, .int .u32 0, .int .u32 0, .int .u32 0, .int .u32 0, .int .u32 0, .int .u32 0, .int .u32 0, .int .u32 0, .int .u32 0, .int .u32 0, .int .u32 0, .int .u32 0, .osl 1 p D, .int .i64 0, .str [], .int .i64 0, .int .i64 0, .osl 1 l 0, .isl 4 (W.map yC), .isl 1 (W.map fun _=>[.bool true]), .isl 1 (W.map gI), .str inp, .osl 1 o W.length]])∧M l=some (.rows 1 [])∧M o=some (.rows 1 (List.replicate W.length [.int .i64 0]))∧l≠p∧o≠p∧l≠o) (fun m8 h2=>?_) ?_
 ·refine lR (fun x=>x≠C∧x≠B∧x≠y) eE (by kernel_rfl) fun hd=>?_
  refine hQ [(0,0),(1,3),(2,0),(4,3),(5,3),(6,3),(7,0),(8,3),(9,3),(10,0),(11,3)] hd (m:=5) rfl (by kernel_rfl) rfl rfl ?_;simp only[dL,fW,f1,f4,f6,g5,g7,i7,u,t,z,k9,i6,e6,c1,c4,c5,aG,bV,RR,seval];refine lG hd (by kernel_rfl:Region.ready .any _ _=[3,12,14]) (by simp) ⟨?_, ?_, ?_,trivial⟩
  ·simp only[rT,RR,seval]
   refine aN fun l d=>?_;have c9:=cY d u;have Z:=c9.symm;have d0:=cY d t;have a2:=d0.symm;have d1:=cY d g;have a4:=d1.symm;have c8:=cY d z;have S:=c8.symm;have P:=cY d A;have V:=P.symm;simp only[RR,seval];refine lG hd (by kernel_rfl:Region.ready .any _ _=[12,14]) (by simp) ⟨?_, ?_,trivial⟩
   ·simp only[e1,e4,cB,bV,RR,seval]
    refine aN fun o f=>?_;have d3:o≠C:=fun e=>by rw[e]at f;simp only[u,Z,RR,seval,reduceCtorEq]at f
    have a0:=d3.symm;have d4:o≠B:=fun e=>by rw[e]at f;simp only[t,a2,RR,seval,reduceCtorEq]at f
    have a3:=d4.symm;have d5:o≠v:=fun e=>by rw[e]at f;simp only[g,a4,RR,seval,reduceCtorEq]at f
    have a5:=d5.symm;have d2:o≠y:=fun e=>by rw[e]at f;simp only[z,S,RR,seval,reduceCtorEq]at f
    have T:=d2.symm;have Q:o≠p:=fun e=>by rw[e]at f;simp only[A,V,RR,seval,reduceCtorEq]at f
    have X:=Q.symm;have b7:o≠l:=fun e=>by rw[e]at f;simp only[RR,seval,reduceCtorEq]at f
    have J:=b7.symm;simp only[RR,seval];refine hQ [(13,3),(14,1),(15,1)] hd (m:=0) rfl (by kernel_rfl) rfl rfl ?_;simp only[dL,bV,cC,RR,seval];refine aN fun j a=>?_;have a7:j≠C:=fun e=>by rw[e]at a;simp only[u,Z,a0,RR,seval,reduceCtorEq]at a
    have Y:=a7.symm;have a8:j≠B:=fun e=>by rw[e]at a;simp only[t,a2,a3,RR,seval,reduceCtorEq]at a
    have a1:=a8.symm;have c3:j≠v:=fun e=>by rw[e]at a;simp only[g,a4,a5,RR,seval,reduceCtorEq]at a
    have O:=c3.symm;have a6:j≠y:=fun e=>by rw[e]at a;simp only[z,S,T,RR,seval,reduceCtorEq]at a
    have R:=a6.symm;have c7:j≠p:=fun e=>by rw[e]at a;simp only[A,V,X,RR,seval,reduceCtorEq]at a
    have U:=c7.symm;have b3:j≠l:=fun e=>by rw[e]at a;simp only[J,RR,seval,reduceCtorEq]at a
    have a9:=b3.symm;have b5:j≠o:=fun e=>by rw[e]at a;simp only[RR,seval,reduceCtorEq]at a
    have b0:=b5.symm;simp only[a7,a8,a6,bV,cC,RR,seval];refine jG (by kernel_rfl) ?_;simp only[RR,seval];exact h2 _ _ ⟨(by repeat (first|exact bB.refl _ _|refine bB.upd rfl ?_)),(by(simp only[u,Z,a0,Y,aT,seval];done)),(by(simp only[t,a2,a3,a1,aT,seval];done)),(by(simp only[g,a4,a5,O,aT,seval];done)),(by(simp only[z,S,T,R,aT,seval];done)),(by(simp only[A,V,X,U,aT,seval];done)),j,l,o,(by rfl),(by(simp only[aT,seval];done)),(by(simp only[J,a9,aT,seval];done)),(by(simp only[b0,aT,seval];done)),P,Q,J⟩
   simp only[bV,RR,seval];refine aN fun j a=>?_;have a7:j≠C:=fun e=>by rw[e]at a;simp only[u,Z,RR,seval,reduceCtorEq]at a
   have Y:=a7.symm;have a8:j≠B:=fun e=>by rw[e]at a;simp only[t,a2,RR,seval,reduceCtorEq]at a
   have a1:=a8.symm;have c3:j≠v:=fun e=>by rw[e]at a;simp only[g,a4,RR,seval,reduceCtorEq]at a
   have O:=c3.symm;have a6:j≠y:=fun e=>by rw[e]at a;simp only[z,S,RR,seval,reduceCtorEq]at a
   have R:=a6.symm;have c7:j≠p:=fun e=>by rw[e]at a;simp only[A,V,RR,seval,reduceCtorEq]at a
   have U:=c7.symm;have b3:j≠l:=fun e=>by rw[e]at a;simp only[RR,seval,reduceCtorEq]at a
   have a9:=b3.symm;simp only[RR,seval];refine hQ [(12,1),(13,3),(15,1)] hd (m:=0) rfl (by kernel_rfl) rfl rfl ?_;simp only[dL,e1,e4,cB,bV,RR,seval];refine aN fun o f=>?_;have d3:o≠C:=fun e=>by rw[e]at f;simp only[u,Z,Y,RR,seval,reduceCtorEq]at f
   have a0:=d3.symm;have d4:o≠B:=fun e=>by rw[e]at f;simp only[t,a2,a1,RR,seval,reduceCtorEq]at f
   have a3:=d4.symm;have d5:o≠v:=fun e=>by rw[e]at f;simp only[g,a4,O,RR,seval,reduceCtorEq]at f
   have a5:=d5.symm;have d2:o≠y:=fun e=>by rw[e]at f;simp only[z,S,R,RR,seval,reduceCtorEq]at f
   have T:=d2.symm;have Q:o≠p:=fun e=>by rw[e]at f;simp only[A,V,U,RR,seval,reduceCtorEq]at f
   have X:=Q.symm;have b7:o≠l:=fun e=>by rw[e]at f;simp only[a9,RR,seval,reduceCtorEq]at f
   have J:=b7.symm;have b0:o≠j:=fun e=>by rw[e]at f;simp only[RR,seval,reduceCtorEq]at f
   have b5:=b0.symm;simp only[a7,a8,a6,b5,bV,cC,RR,seval];refine jG (by kernel_rfl) ?_;simp only[RR,seval];exact h2 _ _ ⟨(by repeat (first|exact bB.refl _ _|refine bB.upd rfl ?_)),(by(simp only[u,Z,Y,a0,aT,seval];done)),(by(simp only[t,a2,a1,a3,aT,seval];done)),(by(simp only[g,a4,O,a5,aT,seval];done)),(by(simp only[z,S,R,T,aT,seval];done)),(by(simp only[A,V,U,X,aT,seval];done)),j,l,o,(by rfl),(by(simp only[aT,seval];done)),(by(simp only[a9,J,aT,seval];done)),(by(simp only[b0,aT,seval];done)),P,Q,J⟩
  ·simp only[e1,e4,cB,bV,RR,seval]
   refine aN fun o f=>?_;have d3:=cY f u;have a0:=d3.symm;have d4:=cY f t;have a3:=d4.symm;have d5:=cY f g;have a5:=d5.symm;have d2:=cY f z;have T:=d2.symm;have Q:=cY f A;have X:=Q.symm;simp only[RR,seval];refine lG hd (by kernel_rfl:Region.ready .any _ _=[3,14]) (by simp) ⟨?_, ?_,trivial⟩
   ·simp only[rT,RR,seval]
    refine aN fun l d=>?_;have c9:l≠C:=fun e=>by rw[e]at d;simp only[u,a0,RR,seval,reduceCtorEq]at d
    have Z:=c9.symm;have d0:l≠B:=fun e=>by rw[e]at d;simp only[t,a3,RR,seval,reduceCtorEq]at d
    have a2:=d0.symm;have d1:l≠v:=fun e=>by rw[e]at d;simp only[g,a5,RR,seval,reduceCtorEq]at d
    have a4:=d1.symm;have c8:l≠y:=fun e=>by rw[e]at d;simp only[z,T,RR,seval,reduceCtorEq]at d
    have S:=c8.symm;have P:l≠p:=fun e=>by rw[e]at d;simp only[A,X,RR,seval,reduceCtorEq]at d
    have V:=P.symm;have J:l≠o:=fun e=>by rw[e]at d;simp only[RR,seval,reduceCtorEq]at d
    have b7:=J.symm;simp only[RR,seval];refine hQ [(13,3),(14,1),(15,1)] hd (m:=0) rfl (by kernel_rfl) rfl rfl ?_;simp only[dL,bV,cC,RR,seval];refine aN fun j a=>?_;have a7:j≠C:=fun e=>by rw[e]at a;simp only[u,a0,Z,RR,seval,reduceCtorEq]at a
    have Y:=a7.symm;have a8:j≠B:=fun e=>by rw[e]at a;simp only[t,a3,a2,RR,seval,reduceCtorEq]at a
    have a1:=a8.symm;have c3:j≠v:=fun e=>by rw[e]at a;simp only[g,a5,a4,RR,seval,reduceCtorEq]at a
    have O:=c3.symm;have a6:j≠y:=fun e=>by rw[e]at a;simp only[z,T,S,RR,seval,reduceCtorEq]at a
    have R:=a6.symm;have c7:j≠p:=fun e=>by rw[e]at a;simp only[A,X,V,RR,seval,reduceCtorEq]at a
    have U:=c7.symm;have b5:j≠o:=fun e=>by rw[e]at a;simp only[b7,RR,seval,reduceCtorEq]at a
    have b0:=b5.symm;have b3:j≠l:=fun e=>by rw[e]at a;simp only[RR,seval,reduceCtorEq]at a
    have a9:=b3.symm;simp only[a7,a8,a6,bV,cC,RR,seval];refine jG (by kernel_rfl) ?_;simp only[RR,seval];exact h2 _ _ ⟨(by repeat (first|exact bB.refl _ _|refine bB.upd rfl ?_)),(by(simp only[u,a0,Z,Y,aT,seval];done)),(by(simp only[t,a3,a2,a1,aT,seval];done)),(by(simp only[g,a5,a4,O,aT,seval];done)),(by(simp only[z,T,S,R,aT,seval];done)),(by(simp only[A,X,V,U,aT,seval];done)),j,l,o,(by rfl),(by(simp only[aT,seval];done)),(by(simp only[a9,aT,seval];done)),(by(simp only[b7,b0,aT,seval];done)),P,Q,J⟩
   simp only[bV,RR,seval];refine aN fun j a=>?_;have a7:j≠C:=fun e=>by rw[e]at a;simp only[u,a0,RR,seval,reduceCtorEq]at a
   have Y:=a7.symm;have a8:j≠B:=fun e=>by rw[e]at a;simp only[t,a3,RR,seval,reduceCtorEq]at a
   have a1:=a8.symm;have c3:j≠v:=fun e=>by rw[e]at a;simp only[g,a5,RR,seval,reduceCtorEq]at a
   have O:=c3.symm;have a6:j≠y:=fun e=>by rw[e]at a;simp only[z,T,RR,seval,reduceCtorEq]at a
   have R:=a6.symm;have c7:j≠p:=fun e=>by rw[e]at a;simp only[A,X,RR,seval,reduceCtorEq]at a
   have U:=c7.symm;have b5:j≠o:=fun e=>by rw[e]at a;simp only[RR,seval,reduceCtorEq]at a
   have b0:=b5.symm;simp only[RR,seval];refine hQ [(3,1),(13,3),(15,1)] hd (m:=0) rfl (by kernel_rfl) rfl rfl ?_;simp only[dL,rT,RR,seval];refine aN fun l d=>?_;have c9:l≠C:=fun e=>by rw[e]at d;simp only[u,a0,Y,RR,seval,reduceCtorEq]at d
   have Z:=c9.symm;have d0:l≠B:=fun e=>by rw[e]at d;simp only[t,a3,a1,RR,seval,reduceCtorEq]at d
   have a2:=d0.symm;have d1:l≠v:=fun e=>by rw[e]at d;simp only[g,a5,O,RR,seval,reduceCtorEq]at d
   have a4:=d1.symm;have c8:l≠y:=fun e=>by rw[e]at d;simp only[z,T,R,RR,seval,reduceCtorEq]at d
   have S:=c8.symm;have P:l≠p:=fun e=>by rw[e]at d;simp only[A,X,U,RR,seval,reduceCtorEq]at d
   have V:=P.symm;have J:l≠o:=fun e=>by rw[e]at d;simp only[b0,RR,seval,reduceCtorEq]at d
   have b7:=J.symm;have a9:l≠j:=fun e=>by rw[e]at d;simp only[RR,seval,reduceCtorEq]at d
   have b3:=a9.symm;simp only[a7,a8,a6,b3,bV,cC,RR,seval];refine jG (by kernel_rfl) ?_;simp only[RR,seval];exact h2 _ _ ⟨(by repeat (first|exact bB.refl _ _|refine bB.upd rfl ?_)),(by(simp only[u,a0,Y,Z,aT,seval];done)),(by(simp only[t,a3,a1,a2,aT,seval];done)),(by(simp only[g,a5,O,a4,aT,seval];done)),(by(simp only[z,T,R,S,aT,seval];done)),(by(simp only[A,X,U,V,aT,seval];done)),j,l,o,(by rfl),(by(simp only[aT,seval];done)),(by(simp only[a9,aT,seval];done)),(by(simp only[b0,b7,aT,seval];done)),P,Q,J⟩
  simp only[bV,RR,seval];refine aN fun j a=>?_;have a7:=cY a u;have Y:=a7.symm;have a8:=cY a t;have a1:=a8.symm;have c3:=cY a g;have O:=c3.symm;have a6:=cY a z;have R:=a6.symm;have c7:=cY a A;have U:=c7.symm;simp only[RR,seval];refine lG hd (by kernel_rfl:Region.ready .any _ _=[3,12]) (by simp) ⟨?_, ?_,trivial⟩
  ·simp only[rT,RR,seval]
   refine aN fun l d=>?_;have c9:l≠C:=fun e=>by rw[e]at d;simp only[u,Y,RR,seval,reduceCtorEq]at d
   have Z:=c9.symm;have d0:l≠B:=fun e=>by rw[e]at d;simp only[t,a1,RR,seval,reduceCtorEq]at d
   have a2:=d0.symm;have d1:l≠v:=fun e=>by rw[e]at d;simp only[g,O,RR,seval,reduceCtorEq]at d
   have a4:=d1.symm;have c8:l≠y:=fun e=>by rw[e]at d;simp only[z,R,RR,seval,reduceCtorEq]at d
   have S:=c8.symm;have P:l≠p:=fun e=>by rw[e]at d;simp only[A,U,RR,seval,reduceCtorEq]at d
   have V:=P.symm;have a9:l≠j:=fun e=>by rw[e]at d;simp only[RR,seval,reduceCtorEq]at d
   have b3:=a9.symm;simp only[RR,seval];refine hQ [(12,1),(13,3),(15,1)] hd (m:=0) rfl (by kernel_rfl) rfl rfl ?_;simp only[dL,e1,e4,cB,bV,RR,seval];refine aN fun o f=>?_;have d3:o≠C:=fun e=>by rw[e]at f;simp only[u,Y,Z,RR,seval,reduceCtorEq]at f
   have a0:=d3.symm;have d4:o≠B:=fun e=>by rw[e]at f;simp only[t,a1,a2,RR,seval,reduceCtorEq]at f
   have a3:=d4.symm;have d5:o≠v:=fun e=>by rw[e]at f;simp only[g,O,a4,RR,seval,reduceCtorEq]at f
   have a5:=d5.symm;have d2:o≠y:=fun e=>by rw[e]at f;simp only[z,R,S,RR,seval,reduceCtorEq]at f
   have T:=d2.symm;have Q:o≠p:=fun e=>by rw[e]at f;simp only[A,U,V,RR,seval,reduceCtorEq]at f
   have X:=Q.symm;have b0:o≠j:=fun e=>by rw[e]at f;simp only[b3,RR,seval,reduceCtorEq]at f
   have b5:=b0.symm;have b7:o≠l:=fun e=>by rw[e]at f;simp only[RR,seval,reduceCtorEq]at f
   have J:=b7.symm;simp only[a7,a8,a6,b3,b5,bV,cC,RR,seval];refine jG (by kernel_rfl) ?_;simp only[RR,seval];exact h2 _ _ ⟨(by repeat (first|exact bB.refl _ _|refine bB.upd rfl ?_)),(by(simp only[u,Y,Z,a0,aT,seval];done)),(by(simp only[t,a1,a2,a3,aT,seval];done)),(by(simp only[g,O,a4,a5,aT,seval];done)),(by(simp only[z,R,S,T,aT,seval];done)),(by(simp only[A,U,V,X,aT,seval];done)),j,l,o,(by rfl),(by(simp only[aT,seval];done)),(by(simp only[a9,J,aT,seval];done)),(by(simp only[b0,aT,seval];done)),P,Q,J⟩
  simp only[e1,e4,cB,bV,RR,seval];refine aN fun o f=>?_;have d3:o≠C:=fun e=>by rw[e]at f;simp only[u,Y,RR,seval,reduceCtorEq]at f
  have a0:=d3.symm;have d4:o≠B:=fun e=>by rw[e]at f;simp only[t,a1,RR,seval,reduceCtorEq]at f
  have a3:=d4.symm;have d5:o≠v:=fun e=>by rw[e]at f;simp only[g,O,RR,seval,reduceCtorEq]at f
  have a5:=d5.symm;have d2:o≠y:=fun e=>by rw[e]at f;simp only[z,R,RR,seval,reduceCtorEq]at f
  have T:=d2.symm;have Q:o≠p:=fun e=>by rw[e]at f;simp only[A,U,RR,seval,reduceCtorEq]at f
  have X:=Q.symm;have b0:o≠j:=fun e=>by rw[e]at f;simp only[RR,seval,reduceCtorEq]at f
  have b5:=b0.symm;simp only[RR,seval];refine hQ [(3,1),(13,3),(15,1)] hd (m:=0) rfl (by kernel_rfl) rfl rfl ?_;simp only[dL,rT,RR,seval];refine aN fun l d=>?_;have c9:l≠C:=fun e=>by rw[e]at d;simp only[u,Y,a0,RR,seval,reduceCtorEq]at d
  have Z:=c9.symm;have d0:l≠B:=fun e=>by rw[e]at d;simp only[t,a1,a3,RR,seval,reduceCtorEq]at d
  have a2:=d0.symm;have d1:l≠v:=fun e=>by rw[e]at d;simp only[g,O,a5,RR,seval,reduceCtorEq]at d
  have a4:=d1.symm;have c8:l≠y:=fun e=>by rw[e]at d;simp only[z,R,T,RR,seval,reduceCtorEq]at d
  have S:=c8.symm;have P:l≠p:=fun e=>by rw[e]at d;simp only[A,U,X,RR,seval,reduceCtorEq]at d
  have V:=P.symm;have a9:l≠j:=fun e=>by rw[e]at d;simp only[b5,RR,seval,reduceCtorEq]at d
  have b3:=a9.symm;have J:l≠o:=fun e=>by rw[e]at d;simp only[RR,seval,reduceCtorEq]at d
  have b7:=J.symm;simp only[a7,a8,a6,b5,b3,bV,cC,RR,seval];refine jG (by kernel_rfl) ?_;simp only[RR,seval];exact h2 _ _ ⟨(by repeat (first|exact bB.refl _ _|refine bB.upd rfl ?_)),(by(simp only[u,Y,a0,Z,aT,seval];done)),(by(simp only[t,a1,a3,a2,aT,seval];done)),(by(simp only[g,O,a5,a4,aT,seval];done)),(by(simp only[z,R,T,S,aT,seval];done)),(by(simp only[A,U,X,V,aT,seval];done)),j,l,o,(by rfl),(by(simp only[aT,seval];done)),(by(simp only[a9,aT,seval];done)),(by(simp only[b0,b7,aT,seval];done)),P,Q,J⟩
 rintro F4 M4 ⟨I,e0,e3,c0,h8,h9,j,l,o,b9,e8,i4,k2,P,Q,J⟩;simp only[iM];apply hK;have f3:=(I 3 rfl).trans f3;have N:=(I 8 rfl).trans N;have f9:=(I 9 rfl).trans f9;have u:=e0.trans u;have t:=e3.trans t;have g:=c0.trans g;have z:=h8.trans z;have A:=h9.trans A;clear I e0 e3 c0 h8 h9;have j1:jV W inp j p o (.osl 1 l 0) A8 0 M4:=⟨by rw[←hD];exact e8,by rw[←l8];exact A,MJ,⟨List.replicate W.length 0,fF,by rw[List.map_replicate];exact k2⟩, .inr ⟨l,rfl,i4⟩,fun s n e=>P (by cases e;rfl),fun s n e=>J (by cases e;rfl),Ne.symm Q,cK _,⟨by decide,by decide⟩,⟨by decide,by decide⟩,VI,cK _⟩;have h3:off (.osl 1 l 0) v:=fun s n e=>by cases e;rw[g]at i4;cases i4
 clear u t z A i4 k2;refine aI (aA fun K hK=>?_);simp only[RR,seval];refine hK _ _ (bQ fun F5 M5 E hH=>?_);have g3:=E 3;have g8:=E 8;have g9:=E 9;have j8:=E 13;have h7:=E 14;have c0:=hH v;have j9:=hH j;simp only[f3,N,f9,b9,g,e8,RR,seval]at g3 g8 g9 j8 h7 c0 j9;have j1:jV W inp j p o (.osl 1 l 0) A8 0 M5:=j1.same hH;have f3:=g3;have N:=g8;have f9:=g9;have b9:=j8;have g:=c0;have e8:=j9;refine aQ ?_;refine iQ [3,8,9,13] (k+1) (fun q fr M=> ∃i vo,i≤k+1∧q=k+1 -i∧fr 14= .int .i64 (i:Nat)∧jV W inp j p o vo (G i) (en i) M∧M v=some (.rows 22 [[.int .i64 0, .int .u32 0, .int .u32 0, .int .u32 0, .int .u32 0, .int .u32 0, .int .u32 0, .int .u32 0, .int .u32 0, .int .u32 0, .int .u32 0, .int .u32 0, .int .u32 0, .int .u32 0, .int .u32 0, .int .u32 0, .int .u32 0, .nsl, .int .i64 0, .str [], .int .i64 0, .int .i64 0]])∧off vo v) ⟨0, .osl 1 l 0,cK _,rfl,h7,(by rw[h0,(hs 0 (cK _)).1];exact j1),g,h3⟩ ?_;rintro q F6 M6 ⟨i,vo,hi,hq,h7,hM,g,h3⟩ I K0 l1;have f3:=(I 3 rfl).trans f3;have N:=(I 8 rfl).trans N;have f9:=(I 9 rfl).trans f9;have b9:=(I 13 rfl).trans b9;have l0:=bB.refl [3,8,9,13] F6;clear I;have hz:decide ((i:Int)<fu)=true:=cR (by omega);have e8:=hM.r;have m1:IntKind.wrap .i64 ((i:Int)+1)=((i+1:Nat):Int):=by rw[aS _ (by omega)];omega
 refine aI (aA fun K hK=>?_);simp only[f3,b9,h7,e8,bV,hz,RR,seval];refine hK _ _ (aV ?_ ?_)<;>intro hc
 ·have j3:=hc;clear hc
  have i0:en i=0:=aD j3
  have j2:i≤k:=by
   rcases pU i (k+1)with h|h
   ·omega
   have :i=k+1:=by omega
   rw[this]at i0;exact absurd i0 he
  obtain⟨_,m0,l9⟩:=hs i j2;rw[i0]at hM;have i1:v≠j:=fun e=>by have h1:=hM.r;rw[←e,g]at h1;cases h1
  have j4:v≠p:=fun e=>by have h1:=hM.m;rw[←e,g]at h1;cases h1
  have m2:v≠o:=fun e=>by obtain⟨cn,_,h1⟩:=hM.c;rw[←e,g]at h1;cases h1
  refine aL ?_;simp only[RR];refine aI (aQ (aH ?_));simp only[b9,cC,RR,seval];refine jT (X4 hM k0 k7 m0 l5 l9) (fun _=>trivial) fun ae H2 ⟨g1,m6,l3,l7⟩=>?_;subst g1;obtain⟨g,h3⟩:=l7 v _ g i1 j4 m2 h3;simp only[RR,seval];refine aH ?_;simp only[h7,m1,RR,seval];refine l1 (k+1 -(i+1)) _ _ (by omega) ⟨i+1,m6,by omega,rfl,by rfl,l3,g,h3⟩ (by repeat (first|exact l0|refine bB.upd rfl ?_))
 have j3:=hc;have i0:en i≠0:=aE j3
 have j2:i=k+1:=by
  rcases pU i (k+1)with h|h
  ·exact absurd (hs i (by omega)).1 i0
  omega
 subst j2;have i1:v≠j:=fun e=>by have h1:=hM.r;rw[←e,g]at h1;cases h1
 have j4:v≠p:=fun e=>by have h1:=hM.m;rw[←e,g]at h1;cases h1
 have O:=i1;have c3:=i1.symm;refine cG ?_;simp only[RR,seval];refine hM.seal fun FT HT k5 e8 l6=>?_;have N:FT 8= .ptr 22 v 0 0:=(k5 8 (by simp only[aT,N,seval];rfl)).trans (by simp only[aT,N,seval]);have b9:FT 13= .ptr 28 j 0 0:=(k5 13 (by simp only[aT,b9,seval];rfl)).trans (by simp only[aT,b9,seval]);have g:=l6 v _ _ i1 j4 h3 (fun r hr x hx=>by simp only[bE]at hr;subst hr;simp only[bL,bN,dH]at hx;rcases hx with rfl|rfl|rfl|rfl|rfl|rfl|rfl|rfl|rfl|rfl|rfl|rfl|rfl|rfl|rfl|rfl|rfl|rfl|rfl|rfl|rfl|rfl<;>rfl) g;have l4:=Am (G (k+1)).out;refine aA fun K hK=>?_;simp only[b9,e8,bV,cC,l4,RR,seval];refine hK _ _ (aC fun K hK=>?_);refine gP (fun fr M=>fr 8= .ptr 22 v 0 0∧fr 9= .osl 1 o W.length∧M v=some (.rows 22 [[.int .i64 (G (k+1)).pc, .int .u32 0, .int .u32 (G (k+1)).r1, .int .u32 (G (k+1)).r2, .int .u32 0, .int .u32 0, .int .u32 0, .int .u32 0, .int .u32 0, .int .u32 0, .int .u32 0, .int .u32 0, .int .u32 0, .int .u32 0, .int .u32 0, .int .u32 0, .int .u32 0, .isl 1 ((G (k+1)).mem.map gI), .int .i64 (G (k+1)).rd, .str (G (k+1)).out, .int .i64 (G (k+1)).st, .int .i64 (en (k+1))]])) (fun m9 l2=>?_) ?_
 ·refine lR (fun x=>x≠j) eE (by kernel_rfl) fun hd=>?_
  refine hQ [(0,3),(1,1),(2,3),(3,0),(4,1),(5,3)] hd (m:=0) rfl (by kernel_rfl) rfl rfl ?_;simp only[dL,fW,N,b9,g,O,bV,cC,RR,seval];refine jG (by kernel_rfl) ?_;simp only[RR,seval];refine l2 _ _ ⟨?_, ?_, ?_⟩<;>first|rfl|(simp only[N,aT,seval];done)
 rintro F7 M7 ⟨N,f9,g⟩;simp only[iM];apply hK;refine aP ?_;simp only[aY,aK,bR,N,f9,g,bV,RR,seval];exact aZ.run ⟨_,rfl⟩
theorem uP {q f:Mc} {a x e:Int} (h:q.set a x=some (e,f)):f.st=q.st+1:=by
 unfold Mc.set at h;by_cases c:a=1
 ·rw[bD c]at h
  have b:=(Prod.mk.inj (Option.some.inj h)).2;rw[←b];rfl
 rw[aJ c]at h;by_cases d:a=2
 ·rw[bD d]at h
  have b:=(Prod.mk.inj (Option.some.inj h)).2;rw[←b];rfl
 rw[aJ d]at h;cases h
theorem RX {inp:dD} {o a b c:Int} {s s':Mc} {e:Int} (h:uD inp o a b c s=some (e,s')):s'.st≤s.st+1:=by
 unfold uD at h;by_cases g:o=1
 ·rw[bD g]at h
  exact pV (uP h)
 rw[aJ g]at h;by_cases k:o=2
 ·rw[bD k]at h
  exact pV (uP h)
 rw[aJ k]at h;by_cases l:o=3
 ·rw[bD l]at h
  exact pV (uP h)
 rw[aJ l]at h;by_cases n:4≤o∧o≤15
 ·rw[bD n]at h
  by_cases d:(eQ o (s.r b) (s.r c)).2=0
  ·rw[bD d]at h;exact pV (uP h)
  rw[aJ d]at h;exact(by have f:=(Prod.mk.inj (Option.some.inj h)).2;rw[←f];exact bH _)
 rw[aJ n]at h;by_cases p:o=16
 ·rw[bD p]at h
  cases hm:s.mem[(gR (s.r b+c)).toNat]? with
  |none=>rw[hm]at h;cases h
  |some x=>rw[hm]at h;exact pV (uP h)
 rw[aJ p]at h;by_cases t:o=17
 ·rw[bD t]at h
  by_cases d:(gR (s.r b+c)).toNat<s.mem.length
  ·rw[bD d]at h;exact(by have f:=(Prod.mk.inj (Option.some.inj h)).2;rw[←f];exact bH _)
  rw[aJ d]at h;cases h
 rw[aJ t]at h;by_cases u:o=19
 ·rw[bD u]at h
  have f:=(Prod.mk.inj (Option.some.inj h)).2;rw[←f];split<;>exact bH _
 rw[aJ u]at h;by_cases v:o=22
 ·rw[bD v]at h
  exact(by have f:=(Prod.mk.inj (Option.some.inj h)).2;rw[←f];exact bH _)
 rw[aJ v]at h;by_cases y:o=23
 ·rw[bD y]at h
  cases hm:inp[s.rd]? with
  |none=>rw[hm]at h;exact pV (uP h)
  |some x=>
   rw[hm]at h;change ({s with rd:=s.rd+1}:Mc).set a (x.toNat:Int)=_ at h;have f:=uP h;exact pV f
 rw[aJ y]at h;by_cases WW:o=24
 ·rw[bD WW]at h
  by_cases d:65536≤s.out.length
  ·rw[bD d]at h;exact(by have f:=(Prod.mk.inj (Option.some.inj h)).2;rw[←f];exact bH _)
  rw[aJ d]at h;exact(by have f:=(Prod.mk.inj (Option.some.inj h)).2;rw[←f];exact bH _)
 rw[aJ WW]at h;by_cases i:o=25
 ·rw[bD i]at h
  by_cases d:s.r a<c
  ·rw[bD d]at h;exact(by have f:=(Prod.mk.inj (Option.some.inj h)).2;rw[←f];exact bH _)
  rw[aJ d]at h;exact(by have f:=(Prod.mk.inj (Option.some.inj h)).2;rw[←f];exact bH _)
 rw[aJ i]at h;by_cases j:o=26
 ·rw[bD j]at h
  exact(by have f:=(Prod.mk.inj (Option.some.inj h)).2;rw[←f];exact bH _)
 rw[aJ j]at h;cases h
theorem ID {W:List Int} {inp:dD} {s s':Mc} {e:Int} (h:nC W inp s=some (e,s')):s'.st≤s.st+1:=by
 unfold nC at h;split at h
 ·cases h
 split at h
 ·exact RX h
 cases h
theorem LZ {W:List Int} {inp:dD} {k:Nat} {e:Int} {s':Mc} (h:Fin W inp k A8 e s'): ∃(G:Nat→Mc) (b:Nat→Int),G 0=A8∧G (k+1)=s'∧b (k+1)=e∧ ∀i,i≤k→b i=0∧(G i).st≤i∧nC W inp (G i)=some (b (i+1),G (i+1)):=by
 obtain⟨o,j,l⟩:=h;obtain⟨g,c,f,d⟩:=j.trace
 have n: ∀i,i≤k→(g i).st≤i:=fun i=>by
  induction i with
  |zero=>intro _;rw[c];exact bH _
  |succ i ih=>
   intro a;have:=ID (d i (by omega));have:=ih (by omega);omega
 refine⟨fun i=>if i≤k then g i else s',fun i=>if i≤k then 0 else e, ?_, ?_, ?_,fun i a=>⟨bD a, ?_, ?_⟩⟩
 ·show(if 0≤k then g 0 else s')=A8
  rw[bD (cK _),c]
 ·exact aJ (by omega)
 ·exact aJ (by omega)
 ·show(if i≤k then g i else s').st≤_
  rw[bD a];exact n i a
 show nC W inp (if i≤k then g i else s')=some ((if i+1≤k then 0 else e),(if i+1≤k then g (i+1)else s'));rw[bD a];by_cases h:i+1≤k
 ·rw[bD h,bD h];exact d i (by omega)
 have :i=k:=by omega
 subst this;rw[aJ h,aJ h,f];exact l
theorem TR (W:List Int) (inp:dD) (D:Nat) (p:Int) (k:Nat) (e:Int) (s:Mc) (O:D=4224) (P:W.length≤20000) (X: ∀w∈W,dR w∧sR w) (T:inp.length≤2000000)
  (R:Fin W inp k A8 e s) (Q:e≠0) (U:k≤1000000000000) (S:(k:Int)+2≤p):
  eH dP 40 [.agg [.isl 1 (W.map gI), .int .i64 (D:Int)], .str inp, .agg [.int .i64 0, .int .u32 0, .int .u32 0, .int .u32 0, .int .u32 0, .int .u32 0, .int .u32 0, .int .u32 0, .int .u32 0, .int .u32 0, .int .u32 0, .int .u32 0, .int .u32 0, .int .u32 0, .int .u32 0, .int .u32 0, .int .u32 0, .isl 1 (List.replicate D [.int .u32 0]), .int .i64 0, .str [], .int .i64 0, .int .i64 0], .int .i64 p] (.agg (N9 s (.isl 1 (s.mem.map gI)) e)):=by
 obtain⟨G,L,N,V,H,A⟩:=LZ R;have u:=MA W inp D p G L k O P X T N (fun i x=>⟨(A i x).1,by have:=(A i x).2.1;omega,(A i x).2.2⟩) (by rw[H];exact Q) U S;rw[V,H]at u;unfold N9 at u⊢;refine bY 20 [.cell 8 93] func40 ?_;refine aA fun K a=>?_;simp only[RR,seval];refine aN fun g a7=>?_;simp only[RR,seval];refine aN fun j I=>?_;have Z:j≠g:=fun e=>by rw[e]at I;simp only[RR,seval,reduceCtorEq]at I
 have J:=Z.symm;simp only[RR,seval];refine aN fun l n=>?_;have a1:l≠g:=fun e=>by rw[e]at n;simp only[J,RR,seval,reduceCtorEq]at n
 have Y:=a1.symm;have a2:l≠j:=fun e=>by rw[e]at n;simp only[RR,seval,reduceCtorEq]at n
 have a0:=a2.symm;simp only[RR,seval];refine a _ _ (bQ fun F1 M1 f t=>?_);have B:=f 1;have C:=f 3;have E:=f 4;have F:=f 6;have o:=f 8;have b:=t g;have c:=t j;have d:=t l;simp only[J,Y,a0,RR,seval]at B C E F o b c d;refine aA fun K a=>?_;simp only[B,C,E,F,b,c,RR,seval];refine KF u (fun v e=>by obtain⟨_,h⟩:=e;cases h) fun v M ⟨vc,e⟩ y=>?_;cases e;have b:=y g _ b;have c:=y j _ c;have d:=y l _ d;simp only[RR,seval];refine aN fun b9 z=>?_;have a4:=cY z b;have a8:=a4.symm;have a5:=cY z c;have a9:=a5.symm;have a6:=cY z d;have a3:=a6.symm;simp only[RR,seval];refine a _ _ (aA fun K a=>?_);simp only[o,d,a3,RR,seval];apply a;refine aP ?_;simp only[aY,aK,bR,o,RR,seval];refine aZ.pure ?_;rfl
theorem BH (W:List Int) (inp:dD) (D:Nat) (y:Int) (k:Nat) (e:Int) (s:Mc) (R:D=4224) (S:W.length≤20000) (Y: ∀w∈W,dR w∧sR w) (V:inp.length≤2000000)
  (T:Fin W inp k A8 e s) (O:e≠0) (X:k≤1000000000000) (U:(k:Int)+2≤y):
  eH dP 19 [.agg [.isl 1 (W.map gI), .int .i64 (D:Int)], .str inp, .int .i64 y] (.agg [.int .i64 e, .str s.out, .int .i64 s.st]):=by
 have N:=BG W D (by omega);have t:=TR W inp D y k e s R S Y V T O X U;have Z:decide (e=0)=false:=bG O;unfold N9 at t;refine bY 25 [.cell 6 40] func19 ?_;refine aA fun K g=>?_;simp only[RR,seval];refine aN fun l a3=>?_;simp only[RR,seval];refine aN fun n P=>?_;have a1:n≠l:=fun e=>by rw[e]at P;simp only[RR,seval,reduceCtorEq]at P
 have a0:=a1.symm;simp only[RR,seval];refine g _ _ (bQ fun Q A v L=>?_);have C:=v 1;have E:=v 2;have F:=v 3;have o:=v 6;have c:=L l;have a:=L n;simp only[a0,RR,seval]at C E F o c a;refine aC fun K g=>?_;refine gP (fun H M=>bB [6] Q H∧M l=A l∧M n=A n∧ ∃b,H 7= .ptr 22 b 0 0∧M b=some (.rows 22 [[.int .i64 s.pc, .int .u32 0, .int .u32 s.r1, .int .u32 s.r2, .int .u32 0, .int .u32 0, .int .u32 0, .int .u32 0, .int .u32 0, .int .u32 0, .int .u32 0, .int .u32 0, .int .u32 0, .int .u32 0, .int .u32 0, .int .u32 0, .int .u32 0, .isl 1 (s.mem.map gI), .int .i64 s.rd, .str s.out, .int .i64 s.st, .int .i64 e]])) (fun a2 z=>?_) ?_
 ·refine lR (fun x=>x≠l) eE (by kernel_rfl) fun hd=>?_
  refine hQ [(0,0),(1,3),(2,0),(4,3)] hd (m:=4) rfl (by kernel_rfl) rfl rfl ?_;simp only[dL,fW,C,E,F,c,RR,seval];refine lG hd (by kernel_rfl:Region.ready .any _ _=[3,6]) (by simp) ⟨?_, ?_,trivial⟩
  ·simp only[RR,seval]
   refine aO (N) ?_;simp only[RR,seval];refine lG hd (by kernel_rfl:Region.ready .any _ _=[5,6]) (by simp) ⟨?_, ?_,trivial⟩
   ·simp only[RR,seval]
    refine aO (t) ?_;simp only[RR,seval];refine hQ [(6,1),(7,1)] hd (m:=0) rfl (by kernel_rfl) rfl rfl ?_;simp only[dL,RR,seval];refine aN fun b d=>?_;have f:=cY d c;have p:=f.symm;have i:=cY d a;have j:=i.symm;simp only[f,RR,seval];refine jG (by kernel_rfl) ?_;simp only[RR,seval];exact z _ _ ⟨(by repeat (first|exact bB.refl _ _|refine bB.upd rfl ?_)),(by(simp only[c,p,aT,seval];done)),(by(simp only[a,j,aT,seval];done)),b,(by rfl),(by(simp only[aT,seval];done))⟩
   simp only[RR,seval];refine aN fun b d=>?_;have f:=cY d c;have p:=f.symm;have i:=cY d a;have j:=i.symm;simp only[RR,seval];refine hQ [(5,1),(7,1)] hd (m:=0) rfl (by kernel_rfl) rfl rfl ?_;simp only[dL,RR,seval];refine aO (t) ?_;simp only[f,RR,seval];refine jG (by kernel_rfl) ?_;simp only[RR,seval];exact z _ _ ⟨(by repeat (first|exact bB.refl _ _|refine bB.upd rfl ?_)),(by(simp only[c,p,aT,seval];done)),(by(simp only[a,j,aT,seval];done)),b,(by rfl),(by(simp only[aT,seval];done))⟩
  simp only[RR,seval];refine aN fun b d=>?_;have f:=cY d c;have p:=f.symm;have i:=cY d a;have j:=i.symm;simp only[RR,seval];refine hQ [(3,1),(5,1),(7,1)] hd (m:=0) rfl (by kernel_rfl) rfl rfl ?_;simp only[dL,RR,seval];refine aO (N) ?_;simp only[RR,seval];refine aO (t) ?_;simp only[f,RR,seval];refine jG (by kernel_rfl) ?_;simp only[RR,seval];exact z _ _ ⟨(by repeat (first|exact bB.refl _ _|refine bB.upd rfl ?_)),(by(simp only[c,p,aT,seval];done)),(by(simp only[a,j,aT,seval];done)),b,(by rfl),(by(simp only[aT,seval];done))⟩
 rintro F2 M2 ⟨B,I,J,b,G,u⟩;simp only[iM];apply g;have o:=(B 6 rfl).trans o;have c:=I.trans c;have a:=J.trans a;clear B I J;have i:b≠n:=fun e=>by rw[e,a]at u;cases u
 have j:=i.symm;refine aI (aA fun K g=>?_);simp only[G,u,Z,RR,seval];refine g _ _ (bI ?_);refine aL ?_;simp only[RR];refine aA fun K g=>?_;simp only[o,G,a,u,RR,seval];apply g;refine aP ?_;simp only[aY,aK,bR,o,RR,seval];refine aZ.pure ?_;rfl
theorem U8 (s:dD) (n:Nat) (N:n≤1000000) (b a c d:UInt8) (I:s[n]?=some b) (J:s[n+1]?=some a) (L:s[n+2]?=some c) (M:s[n+3]?=some d):
  eH dP 47 [.str s, .int .i64 (n:Int)] (.int .u32 ((b.toNat:Int)+256 *(a.toNat:Int)+65536 *(c.toNat:Int)+16777216 *(d.toNat:Int))):=by
 have O:=b.toNat_lt;have P:=a.toNat_lt;have Q:=c.toNat_lt;have R:=d.toNat_lt;have j:(0:Int)≤(n:Int):=by omega
 have k:IntKind.wrap .i64 ((n:Int)+1)=((n+1:Nat):Int):=by rw[aS _ (by omega)];omega
 have l:IntKind.wrap .i64 ((n:Int)+2)=((n+2:Nat):Int):=by rw[aS _ (by omega)];omega
 have o:IntKind.wrap .i64 ((n:Int)+3)=((n+3:Nat):Int):=by rw[aS _ (by omega)];omega
 have B:(0:Int)≤((n+1:Nat):Int):=by omega
 have C:(0:Int)≤((n+2:Nat):Int):=by omega
 have D:(0:Int)≤((n+3:Nat):Int):=by omega
 have E:((n:Int)).toNat=n:=cB n;have F:(((n+1:Nat):Int)).toNat=n+1:=cB _;have G:(((n+2:Nat):Int)).toNat=n+2:=cB _;have H:(((n+3:Nat):Int)).toNat=n+3:=cB _;have v:IntKind.wrap .u32 (b.toNat:Int)=(b.toNat:Int):=dX _ (by omega);have y:IntKind.wrap .u32 (a.toNat:Int)=(a.toNat:Int):=dX _ (by omega);have z:IntKind.wrap .u32 (c.toNat:Int)=(c.toNat:Int):=dX _ (by omega);have A:IntKind.wrap .u32 (d.toNat:Int)=(d.toNat:Int):=dX _ (by omega);have f:IntKind.wrap .u32 (256 *(a.toNat:Int))=256 *(a.toNat:Int):=dX _ (by omega);have g:IntKind.wrap .u32 (65536 *(c.toNat:Int))=65536 *(c.toNat:Int):=dX _ (by omega);have i:IntKind.wrap .u32 (16777216 *(d.toNat:Int))=16777216 *(d.toNat:Int):=dX _ (by omega);have p:IntKind.wrap .u32 ((b.toNat:Int)+256 *(a.toNat:Int))=(b.toNat:Int)+256 *(a.toNat:Int):=dX _ (by omega);have t:IntKind.wrap .u32 ((b.toNat:Int)+256 *(a.toNat:Int)+65536 *(c.toNat:Int))=(b.toNat:Int)+256 *(a.toNat:Int)+65536 *(c.toNat:Int):=dX _ (by omega);have u:IntKind.wrap .u32 ((b.toNat:Int)+256 *(a.toNat:Int)+65536 *(c.toNat:Int)+16777216 *(d.toNat:Int))=(b.toNat:Int)+256 *(a.toNat:Int)+65536 *(c.toNat:Int)+16777216 *(d.toNat:Int):=dX _ (by omega);refine bY 30 [.tmp 4] func47 ?_;refine aA fun K e=>?_;simp only[RR,seval];refine e _ _ (aC fun K e=>?_);refine bA (fun x=>True) [(0,3),(1,3),(2,3),(3,3),(4,3),(5,3),(6,3),(7,3),(8,3),(9,3),(10,3),(11,3),(12,3),(13,3),(14,3),(15,3),(16,3),(17,3),(18,3),(19,3),(20,3),(21,3),(22,3),(23,3),(24,3),(25,3)] [] eE (by kernel_rfl) rfl rfl ?_;simp only[*,dL,j,k,l,o,B,C,D,v,y,z,A,f,g,i,p,t,u,RR,seval];apply e;refine aP ?_;simp only[aY,aK,bR,RR,seval];refine aZ.pure ?_;rfl
theorem Bi {L:List Int} {i:Nat} {x:Int} (h:L[i]?=some x) (a:dR x) (b:i≤100000):eH dP 47 [.str (vN L), .int .i64 ((4 *i:Nat):Int)] (.int .u32 x):=by
 have:=U8 (vN L) (4 *i) (by omega) _ _ _ _ (qW h 0 (by decide)) (qW h 1 (by decide)) (qW h 2 (by decide)) (qW h 3 (by decide));rw[Rq,Rq,Rq,Rq]at this
 have e:x % 256+256 *(x/256 % 256)+65536 *(x/65536 % 256)+16777216 *(x/16777216 % 256)=x:=by
  have:=a.1;have:=a.2;omega
 rwa [e]at this
theorem KZ (W:List Int) (hW:W.length≤16384) (c5: ∀w∈W,dR w):eH dP 23 [.str (vN ([1145390419,(W.length:Int),4224]++W))] (.tup [.agg [.isl 1 (W.map gI), .int .i64 4224], .int .i64 0]):=by
 have c2:eH dP 47 [.str (vN ([1145390419,(W.length:Int),4224]++W)), .int .i64 4] (.int .u32 (W.length:Int)):=Bi (i:=1) rfl ⟨by omega,by omega⟩ (by decide);have c3:eH dP 47 [.str (vN ([1145390419,(W.length:Int),4224]++W)), .int .i64 8] (.int .u32 4224):=Bi (i:=2) rfl ⟨by decide,by decide⟩ (by decide)
 have c4: ∀{k:Nat} {x:Int},W[k]?=some x→eH dP 47 [.str (vN ([1145390419,(W.length:Int),4224]++W)), .int .i64 ((12+4 *k:Nat):Int)] (.int .u32 x):=fun {k x} h=>by
  have hk:=(bF.1 h).1;have:=Bi (L:=[1145390419,(W.length:Int),4224]++W) (i:=3+k) (x:=x) (by rw[gZ (by show 3≤3+k;omega),show 3+k-[1145390419,(W.length:Int),4224].length=k by show 3+k- 3=k;omega];exact h) (c5 x (aW h)) (by omega);rwa [show 4 *(3+k)=12+4 *k by omega]at this
 have a8:(vN ([1145390419,(W.length:Int),4224]++W))[0]?=some 83:=qW (i:=0) (x:=1145390419) rfl 0 (by decide);have a9:(vN ([1145390419,(W.length:Int),4224]++W))[1]?=some 69:=qW (i:=0) (x:=1145390419) rfl 1 (by decide);have b0:(vN ([1145390419,(W.length:Int),4224]++W))[2]?=some 69:=qW (i:=0) (x:=1145390419) rfl 2 (by decide);have b1:(vN ([1145390419,(W.length:Int),4224]++W))[3]?=some 68:=qW (i:=0) (x:=1145390419) rfl 3 (by decide);have d7:(vN ([1145390419,(W.length:Int),4224]++W)).length=12+4 *W.length:=by rw[Gs,aB];simp only[aM,aU];omega
 generalize vN ([1145390419,(W.length:Int),4224]++W)=s at *;have d0:decide ((s.length:Int)<12)=false:=bG (by omega);have d1:decide ((16384:Int)<(W.length:Int))=false:=bG (by omega);have X:IntKind.wrap .i64 (W.length:Int)=(W.length:Int):=aS _ (by omega);have d3:IntKind.wrap .i64 (4 *(W.length:Int))=4 *(W.length:Int):=aS _ (by omega);have d4:IntKind.wrap .i64 (12+4 *(W.length:Int))=12+4 *(W.length:Int):=aS _ (by omega);have d5:decide ((s.length:Int)=12+4 *(W.length:Int))=true:=cR (by omega);have d6:IntKind.wrap .i64 4224=4224:=rfl;have y0:(((83:UInt8).toNat:Nat):Int)=83:=rfl;have y1:(((69:UInt8).toNat:Nat):Int)=69:=rfl;have y2:(((68:UInt8).toNat:Nat):Int)=68:=rfl;refine bY 72 [.cell 2 36, .tmp 3] func23 ?_;refine aA fun K g=>?_;simp only[RR,seval];refine aN fun t d8=>?_;simp only[RR,seval];refine g _ _ (aI (aA fun K g=>?_));simp only[d0,a8,a9,b0,b1,RR,seval];refine g _ _ (bI ?_);refine aL ?_;simp only[RR];refine aA fun K g=>?_;simp only[RR,seval];refine aO (c2) ?_;simp only[RR,seval];refine g _ _ (aA fun K g=>?_);simp only[RR,seval];refine aO (c3) ?_;simp only[RR,seval];refine g _ _ (aI (aA fun K g=>?_));simp only[d1,X,d3,d4,d5,RR,seval];refine g _ _ (bI ?_);refine aL ?_;simp only[RR];refine aA fun K g=>?_;simp only[d6,RR,seval];refine aN fun u a2=>?_;have a5:u≠t:=fun e=>by rw[e]at a2;simp only[RR,seval,reduceCtorEq]at a2
 have S:=a5.symm;simp only[RR,seval];refine g _ _ (aI (aA fun K g=>?_));simp only[RR,seval];refine g _ _ (bQ fun F1 M1 a j=>?_);have B:=a 0;have o:=a 2;have A:=a 3;have C:=a 4;have l:=a 6;have z:=a 7;have f:=j t;have d:=j u;simp only[S,RR,seval]at B o A C l z f d;refine aQ (eY [0,2,3,4,6] (W.length) (fun k fr M=>fr 7= .int .i64 (k:Nat)∧M t=M1 t∧ ∃v,eB 1 v ((W.take k).map gI) M∧off v u∧M u=some (.rows 2 [[v, .int .i64 4224]])) ⟨z,rfl, .nsl, .inl ⟨rfl,rfl⟩,(fun s n e=>by cases e),d⟩ ?_);rintro k T M2 c8 ⟨Y,p,v,y,V,d⟩ J K0 a7;have B:=(J 0 rfl).trans B;have o:=(J 2 rfl).trans o;have A:=(J 3 rfl).trans A;have C:=(J 4 rfl).trans C;have l:=(J 6 rfl).trans l;have z:=Y;clear Y;have f:=p.trans f;have N:=bB.refl [0,2,3,4,6] T;have G:=p;clear J;refine aI (aA fun K g=>?_);simp only[C,z,X,RR,seval];refine g _ _ (aV ?_ ?_)<;>intro U
 ·have a1:k<W.length:=by have:=aD U;omega
  clear U;obtain⟨wd,a4⟩: ∃x,W[k]?=some x:=⟨_,aF a1⟩;have b7:=c4 a4;have e1:IntKind.wrap .i64 (4 *(k:Int))=4 *(k:Int):=aS _ (by omega);have e2:IntKind.wrap .i64 (12+4 *(k:Int))=((12+4 *k:Nat):Int):=by rw[aS _ (by omega)];omega
  have c1:(W.take (k+1)).map gI=(W.take k).map gI++[[.int .u32 wd]]:=by rw[List.take_add_one,a4,cO];rfl
  have c9:((W.take k).map gI).length=k:=by simp;omega
  refine aL ?_;simp only[RR];refine aI (aQ (bQ fun F3 M3 a j=>?_));have O:=a 0;have D:=a 2;have E:=a 3;have P:=a 4;have F:=a 6;have Q:=a 7;have p:=j t;have H:=j u;simp only[B,o,A,C,l,z,f,d,RR,seval]at O D E P F Q p H;have N:bB [0,2,3,4,6] T F3:=bB.same a (by repeat (first|exact N|refine bB.upd rfl ?_));have G:=(j t).trans G;have y:=y.same j;have B:=O;have o:=D;have A:=E;have C:=P;have l:=F;have z:=Q;have f:=p;have d:=H;refine bA (fun x=>x≠u∧x≠t) [(0,3),(1,0),(2,3),(3,3),(4,3),(5,3),(6,1),(7,2),(8,1),(9,3)] [(10,1)] eE (by kernel_rfl) rfl rfl ?_;simp only[dL,fW,B,l,z,d,a5,e1,e2,RR,seval];refine aO (b7) ?_;simp only[RR,seval];refine iZ y (by simp only[aG,aM,aU];(simp only[dV];omega)) (fun b e=>by(repeat' apply And.intro)<;>(intro c;subst c;first|exact V _ _ e|exact y.nb' f (by decide) e)) fun c6 M4 R a0 b8=>?_;have a3:=b8 u V (by rw[d];exact bZ _);simp only[l,RR,seval];have p:=a0 t _ f (by exact(y).nb' f (by decide));have G:=(p.trans f.symm).trans G;have f:=p;have H:=a0 u _ d (by exact(y).nb' d (by decide));have d:=H;have b5:=R.cells;have c0:=R.one1;simp only[b5,c0,cA,List.drop,d,RR,seval];refine bQ fun F5 M5 a j=>?_;have O:=a 0;have D:=a 2;have E:=a 3;have P:=a 4;have F:=a 6;have Q:=a 7;have p:=j t;have d:=j u;simp only[B,o,A,C,l,z,f,S,RR,seval]at O D E P F Q p d;have N:bB [0,2,3,4,6] T F5:=bB.same a (by repeat (first|exact N|refine bB.upd rfl ?_));have G:=(j t).trans (by(simp only[S,aT,seval];exact G));have R:=(R.off a3 _).same j;have B:=O;have o:=D;have A:=E;have C:=P;have l:=F;have z:=Q;have f:=p;refine aH ?_;simp only[z,RR,seval];rw[aS _ (by omega)];refine a7 _ _ a1 ⟨by rfl,G,c6,(by rw[c1];exact R),a3,d⟩ (by repeat (first|exact N|refine bB.upd rfl ?_))
 have b9:k=W.length:=by have:=aE U;omega
 rw[b9,dG]at y;refine cG ?_;simp only[RR,seval];refine bQ fun F6 M6 a j=>?_;have D:=a 2;have E:=a 3;have F:=a 6;have p:=j t;have H:=j u;simp only[o,A,l,f,d,RR,seval]at D E F p H;have y:=y.same j;have o:=D;have A:=E;have l:=F;have f:=p;have d:=H;have h0:M6 u=some (.rows 2 [[]++v::[.int .i64 4224]]):=d;refine iG y h0 (fun x I=>by cases I) (fun x I=>by simp only[bE]at I;subst I;exact bU rfl) V fun c7 a6 Z b3 b4=>?_;have o:=(Z 2 (by rw[o];exact bU rfl)).trans o;have l:=(Z 6 (by rw[l];exact bU rfl)).trans l;have f:=b4 t _ _ S (y.offsz f (by decide)) (fun r hr x I=>by simp only[bE]at hr;subst hr;simp only[bL,bN,dH]at I;rcases I with rfl|rfl<;>exact bU rfl) f;have d:a6 u=some (.rows 2 [[.isl 1 (W.map gI), .int .i64 4224]]):=b3;refine aA fun K g=>?_;simp only[o,l,f,d,RR,seval];apply g;refine aP ?_;simp only[aY,aK,bR,o,RR,seval];refine aZ.pure ?_;rfl
theorem mX {q:Nat} {c:Int} {z:Zs} (h: ∀w∈vW (q:Int) c z,QG w):Kw q z [c]:=by
 unfold Kw;rw[eL];exact h
theorem TO (q:Nat) (z:Zs):Kw q z []:=fun w a=>by cases a
theorem VZ (n:Nat): ∀(q d:Nat),d≤200→n<4294967296→Kw q (zl d 0) (jP (Lib.decDigits n)):=by
 induction n using Nat.strongRecOn with
 |_ n ih=>
  intro q d hd f
  have one: ∀k:Nat,k<10→jP [UInt8.ofNat (48+k)]=[((48+k:Nat):Int)]:=fun k e=>by
   simp only[jP,cU,dI];rw[UInt8.toNat_ofNat',Nat.mod_eq_of_lt (by omega)]
  rw[Lib.decDigits];split
  ·rename_i h
   have z:=L9 (q:=(q:Int)) (c:=((48+n:Nat):Int)) (d:=(d:Int)) (s:=1880096768) (m:=0) (by omega) (by omega) (by omega);rw[one n h];refine mX ?_;rw[z.1];exact mG (by omega) (by omega) (pD (by decide) (by decide) (by decide))
  rename_i h;have a:n % 10<10:=sF _ (by decide);obtain⟨b,_⟩:=R7 (W:=[]) (n/10) q d (by omega) (by omega);have z:=L9 (q:=((q+(jP (Lib.decDigits (n/10))).length:Nat):Int)) (c:=((48+n % 10:Nat):Int)) (d:=(d:Int)) (s:=1880096768) (m:=((n/10:Nat):Int)) (by omega) (by omega) (by omega);rw[jF,one _ a];refine(ih (n/10) (by omega) q d hd (by omega)).app ?_;rw[b];refine mX ?_;rw[z.1];exact mG (by omega) (by omega) (pD (by decide) (by decide) (by decide))
section
variable {V : UInt8 → Prop} {A : Prop}
theorem TS {i:Int} {e:Ex} (h:SX V A i e): ∀(q d:Nat),(d:Int)≤i→Kw q (zl d 0) (jP (fO e)):=by
 induction h with
 |num i n hl h=>
  intro q d hd;have f:fO (.mk 1 0 n [] [])=Lib.decDigits n.toNat++[32]:=by simp [fO,iJ,iR]
  have l:n.toNat<4294967296:=by have:=h.1;have:=h.2;omega
  obtain⟨t,_⟩:=R7 (W:=[]) n.toNat q d (by omega) l;rw[f,jF];refine(VZ n.toNat q d (by omega) l).app ?_;rw[t];show Kw _ _ [32];refine mX ?_;rw[(BY (by omega) (by omega)).1];intro w j;simp only[bL,bN,dH]at j;rcases j with rfl|rfl|rfl|rfl<;>exact wG (by decide) (by decide) (by decide) (by omega)
 |var i c hl h hV=>
  intro q d hd;have f:fO (.mk 2 0 0 [c] [])=[c]:=by simp [fO,iJ,iR]
  have k:97≤c.toNat∧c.toNat≤122:=by simp only[Nq,aX,bP]at h;exact h
  rw[f];show Kw _ _ [(c.toNat:Int)];refine mX ?_;rw[(QT (by omega) (by omega)).1];exact mG (by omega) (by omega) (wG (by decide) (by decide) (by decide) (by omega))
 |idx i a hl hA ha ih=>
  intro q d hd;have f:fO (.mk 3 0 0 [116] [a])=fO a++[64]:=by rw[fO,xX];simp [iR]
  rw[f,jF];refine(ih q d (by omega)).app ?_;rw[lW ha q d (by omega)];show Kw _ _ [64];refine mX ?_;rw[(QU (by omega)).1];intro w j;simp only[bL,bN,dH]at j;rcases j with rfl|rfl|rfl|rfl<;>exact wG (by decide) (by decide) (by decide) (by omega)
 |get i hl=>
  intro q d hd;have f:fO (.mk 5 0 0 [] [])=[63]:=by simp [fO,iJ,iR]
  rw[f];show Kw _ _ [63];refine mX ?_;rw[(pJ (A:=1997537280) (X:=gB 23 1 0 0) (g:=3) (by decide) (by decide) (by decide) (by decide) (by decide) (by decide) (by omega) (by omega)).1];exact mG (by omega) (by omega) (pD (by decide) (by decide) (by decide))
 |neg i a hl ha ih=>
  intro q d hd;have f:fO (.mk 7 0 0 [] [a])=fO a++[33]:=by rw[fO,xX];simp [iR]
  rw[f,jF];refine(ih q d (by omega)).app ?_;rw[lW ha q d (by omega)];show Kw _ _ [33];refine mX ?_;rw[(pJ (A:=1326579712) (X:=gB 15 1 2 0) (g:=2) (by decide) (by decide) (by decide) (by decide) (by decide) (by decide) (by omega) (by omega)).1];exact mG (by omega) (by omega) (pD (by decide) (by decide) (by decide))
 |op i o a b hl h ha hb iha ihb=>
  intro q d hd;obtain⟨c,k,p⟩:=QS h;have f:fO (.mk 6 o 0 [] [a,b])=fO a++(fO b++[c]):=by rw[fO,V4];simp [iR,k]
  rw[f,jF,jF];refine(iha q d (by omega)).app ?_;rw[lW ha q d (by omega)];refine(ihb _ (d+1) (by omega)).app ?_;rw[lW hb _ (d+1) (by omega)];show Kw _ _ [(c.toNat:Int)];refine mX ?_;rw[(p (by omega)).1];exact mG (by omega) (by omega) (RU h)
theorem WP {N:Nat}: ∀{l:List Sm} {q d:Nat},(∀m∈l, ∀q,q+(oW m).length≤N→Kw q (zl d 0) (yI q m)∧(iL (yI q m) q (zl d 0)).1=zl (d:Int) 0∧(yI q m).length=(oW m).length)→q+(hJ l).length≤N→Kw q (zl d 0) (pX q l)
 |[],q,_,_,_=>TO q _
 |m::l,q,d,h,hq=>by
  rw[hJ,aB]at hq;obtain⟨a,b,c⟩:=h m (dU) q (by omega);rw[pX];refine a.app ?_;rw[b,c];exact WP (fun x e=>h x (fC _ e)) (by omega)
theorem YE {N:Nat} (k:N≤3000) {i:Int} {m:Sm} (h:SS V A i m): ∀(q d:Nat),(d:Int)+1≤i→q+(oW m).length≤N→Kw q (zl d 0) (yI q m):=by
 induction h with
 |set i c e hl hc hV he=>
  intro q d hd b;have n:97≤c.toNat∧c.toNat≤122:=by simp only[Nq,aX,bP]at hc;exact hc
  rw[Y5];refine(TS he q d (by omega)).app ?_;rw[lW he q d (by omega)];refine Kw.app (mX ?_) ?_
  ·rw[(Vi (by omega)).1]
   exact mG (by omega) (by omega) (pD (by decide) (by decide) (by decide))
  rw[eL 58,(Vi (by omega)).2];refine mX ?_;rw[(QR (by omega) (by omega)).1];exact mG (by omega) (by omega) (wG (by decide) (by decide) (by decide) (by omega))
 |store i a e hl hA ha he=>
  intro q d hd b;rw[Y4];refine(TS ha q d (by omega)).app ?_;rw[lW ha q d (by omega)];refine(TS he _ (d+1) (by omega)).app ?_;rw[lW he _ (d+1) (by omega)];refine mX ?_;rw[(B1 (by omega)).1];intro w j;simp only[bL,bN,dH]at j;rcases j with rfl|rfl|rfl|rfl<;>exact wG (by decide) (by decide) (by decide) (by omega)
 |put i e hl he=>
  intro q d hd b;rw[Y3];refine(TS he q d (by omega)).app ?_;rw[lW he q d (by omega)];refine mX ?_;rw[(pJ (A:=941621248) (X:=gB 24 2 0 0) (g:=1) (by decide) (by decide) (by decide) (by decide) (by decide) (by decide) (by omega) (by omega)).1];exact mG (by omega) (by omega) (pD (by decide) (by decide) (by decide))
 |cond i e t hl he ht ih=>
  intro q d hd b;rw[C4]at b;simp only[aB,aM,aU]at b;have l:=LI (N:=N) (q:=q+(fO e).length+1) (d:=d) (fun m f q b=>⟨LG k (ht m f) q d (by omega) b,jL (ht m f) q⟩) (by omega);have j:=WP (N:=N) (q:=q+(fO e).length+1) (d:=d) (fun m f q b=>⟨ih m f q d (by omega) b,LG k (ht m f) q d (by omega) b,jL (ht m f) q⟩) (by omega);rw[Y2];refine(TS he q d (by omega)).app ?_;rw[lW he q d (by omega),gE];refine Kw.app (mX ?_) ?_
  ·rw[(Na (by omega) (by omega)).1]
   exact mG (by omega) (by omega) (wG (by decide) (by decide) (by decide) (by omega))
  rw[eL,(Na (by omega) (by omega)).2,show(((d+1:Nat):Int)- 1)=(d:Int)by omega];refine Kw.app j ?_;rw[show q+(fO e).length+[857735172+4 *((q+(fO e).length+1+(hJ t).length:Nat):Int)].length=q+(fO e).length+1 from rfl,l];refine mX ?_;rw[(pJ (A:=1125253120) (X:=gB 3 1 2 0) (g:=2) (by decide) (by decide) (by decide) (by decide) (by decide) (by decide) (by omega) (by omega)).1];exact mG (by omega) (by omega) (pD (by decide) (by decide) (by decide))
 |loop i e t hl he ht ih=>
  intro q d hd b;rw[C3]at b;simp only[aB,aM,aU]at b;have l:=LI (N:=N) (q:=q+1+(fO e).length+1) (d:=d+1) (fun m f q b=>⟨LG k (ht m f) q (d+1) (by omega) b,jL (ht m f) q⟩) (by omega);have j:=WP (N:=N) (q:=q+1+(fO e).length+1) (d:=d+1) (fun m f q b=>⟨ih m f q (d+1) (by omega) b,LG k (ht m f) q (d+1) (by omega) b,jL (ht m f) q⟩) (by omega);rw[Y1];refine Kw.app (mX ?_) ?_
  ·rw[(Vh (by omega) (by omega)).1]
   exact mG (by omega) (by omega) (wG (by decide) (by decide) (by decide) (by omega))
  rw[eL,(Vh (by omega) (by omega)).2];rw[show zl ((d:Int)+1) 0=zl ((d+1:Nat):Int) 0 from rfl,show q+[(87:Int)].length=q+1 from rfl];refine(TS he (q+1) (d+1) (by omega)).app ?_;rw[lW he (q+1) (d+1) (by omega),gE];refine Kw.app (mX ?_) ?_
  ·rw[(Na (by omega) (by omega)).1]
   exact mG (by omega) (by omega) (wG (by decide) (by decide) (by decide) (by omega))
  rw[eL,(Na (by omega) (by omega)).2,show(((d+1+1:Nat):Int)- 1)=((d+1:Nat):Int)by omega];refine Kw.app j ?_;rw[show q+1+(fO e).length+[857735172+4 *((q+1+(fO e).length+1+(hJ t).length:Nat):Int)].length=q+1+(fO e).length+1 from rfl,l];refine mX ?_;rw[(pJ (A:=908066816) (X:=gB 22 2 0 0) (g:=1) (by decide) (by decide) (by decide) (by decide) (by decide) (by decide) (by omega) (by omega)).1];exact mG (by omega) (by omega) (pD (by decide) (by decide) (by decide))
end
section
open Go.Al Go.ChangeShapes Go.WideShapes
structure WN (p:Pg):Prop where
 ok:p.ok
 fs: ∀f∈p.funs,f.params.length≤1100000∧f.locs.length≤1100000∧sS f.body≤1000000
theorem WN.few {p:Pg} (h:WN p) (e:p.vars.length≤40) (d:p.arrs.length≤4) (b:gL p=true):p.few:=by
 simp only[gL,aX,bP,cJ]at b;refine⟨h.ok,by omega,by omega,by omega,fun f a=>?_⟩;have:=h.fs f a;have c:=b.2 f a;simp only[lP,aX,bP]at c;omega
section
variable {H : Type} {enc : TypeId × Value → H} {P : Program} {w : World} {sp : Nat → Bool} {held : Bool}
end
section
variable {H : Type} {enc : TypeId × Value → H} {P : Program} {w : World} {sp : Nat → Bool} {held : Bool} (T : XW P)
end
end
structure UJ (p:Pg) (i:Nat) (rs:dD→Bool×Int) (u:Us):Prop where
 f:eH dP 142 [p.av, .int .i64 i, .str u.name] (.tup [.int .i64 (eR p i u.name).1, .int .i64 (eR p i u.name).2])
 r:rs u.name=(decide ((eR p i u.name).1=1),if(eR p i u.name).1=0 then 0 else(eR p i u.name).2)
 o:jE p i u=true
 n:zA p i u=true
theorem UJ.k1 {p:Pg} {i:Nat} {b:dD→Bool×Int} {s:dD} {n:Int} (h:UJ p i b ⟨s,1,n⟩):((eR p i s).1=1∧b s=(true,(eR p i s).2))∨((eR p i s).1=2∧b s=(false,(eR p i s).2)):=by
 have a:=h.r;have c:=h.o;simp only[jE,eJ,Uz,Ly,eX,sI,bP]at c;rcases c.1.1 with(h1|h1)|h1
 ·exact absurd trivial h1
 ·simp only[h1]at a;exact .inl ⟨h1,a⟩
 simp only[h1]at a;exact .inr ⟨h1,a⟩
theorem UJ.k3 {p:Pg} {i:Nat} {c:dD→Bool×Int} {s:dD} {n:Int} (h:UJ p i c ⟨s,3,n⟩):(eR p i s).1=3∧c s=(false,(eR p i s).2):=by
 have b:=h.r;have a:=h.o;simp only[jE,eJ,Uz,Ly,eX,sI,bP]at a;rcases a.1.2 with h1|h1
 ·exact absurd trivial h1
 simp only[h1]at b;exact⟨h1,b⟩
theorem UJ.k4 {p:Pg} {i:Nat} {e:dD→Bool×Int} {s:dD} {n:Int} (h:UJ p i e ⟨s,4,n⟩):(eR p i s).1=4∧e s=(false,(eR p i s).2)∧ ∃g,p.funs[(eR p i s).2.toNat]?=some g∧(g.params.length:Int)=n:=by
 have d:=h.r;have c:=h.o;have a:=h.n;simp only[jE,eJ,Uz,Ly,eX,sI,bP]at c;rcases c.2 with b|⟨b,_⟩
 ·exact absurd trivial b
 simp only[b]at d;refine⟨b,d, ?_⟩;simp only[zA,nG,Rm,zJ]at a
 cases hg:p.funs[(eR p i s).2.toNat]? with
 |none=>rw[hg]at a;cases a
 |some g=>rw[hg]at a;exact⟨g,rfl,aD a⟩
theorem mR {F:Nat→Prop} {c:List (Option Nat)} {Q:fJ} {d:Option Nat} {f:List Oper} {fr:Fr} {H:Hp} {g:FuncId} {a:List AV} {p:Pg} {cx:Cx} {r:Nat} {vv:AV} {abs:List Nat} {vo:AV} {o:Rz Int}
  (y:oM dP g a H (Xf p cx r vv abs vo H o)) (u: ∀b,F b)
  (h: ∀w vo' H',dR w→(∀v s,o= .val v s→w=v)→(∀e s,o= .fin e s→e≠0)→fQ p cx r vv abs o.st vo' (nE o) H'→eA r vv abs vo vo' H H'→eF dP F c Q f (fP fr d (.int .u32 w)) H'):qL dP F c Q d f fr H g a:=by
 refine jT y u fun z H' ⟨w,vo',i,j,k,l,n,t⟩=>?_;subst i;exact h w vo' H' j k l n t
theorem Ks {F:Nat→Prop} {j:List (Option Nat)} {Q:fJ} {d:Option Nat} {k:List Oper} {fr:Fr} {H:Hp} {g:FuncId} {f:List AV} {p:Pg} {cx:Cx} {r:Nat} {vv:AV} {abs:List Nat} {vo:AV} {x i:Nat} {wv:AV} {n:Nat} {o:Rz (Option Int×List Int)}
  (J:oM dP g f H (tK p cx r vv abs vo x i wv n H o)) (I: ∀b,F b)
  (h: ∀ow c a vo' H',ow.length=n→(∀y∈ow,dR y)→dR a→(c=false→a=0)→(∀q s,o= .val q s→ow=q.2∧c=q.1.isSome∧a=q.1.getD 0)→(∀e s,o= .fin e s→e≠0)→H' x=some (.rows 4 [[.int .i64 i,wv, .bool c, .int .u32 a]])→iH vv abs vo' wv ow H'→fQ p cx r vv abs o.st vo' (nE o) H'→kQ r vv abs vo vo' x wv H H'→eF dP F j Q k (fP fr d (.tup [])) H'):qL dP F j Q d k fr H g f:=by
 refine jT J I fun K H' ⟨ow,c,a,vo',l,v,z,A,B,C,D,E,G,t,u⟩=>?_;subst l;exact h ow c a vo' H' v z A B C D E G t u
theorem Dj {F:Nat→Prop} {f:List (Option Nat)} {Q:fJ} {d:Option Nat} {i:List Oper} {fr:Fr} {H:Hp} {g:FuncId} {c:List AV} {p:Pg} {cx:Cx} {r:Nat} {vv:AV} {abs:List Nat} {vo:AV} {o:Rz Unit}
  (u:oM dP g c H (fun a H'=>a= .ret (.tup [])∧(∀e s,o= .fin e s→e≠0)∧fQ p cx r vv abs o.st vo (nE o) H'∧eA r vv abs vo vo H H')) (t: ∀b,F b)
  (h: ∀H',(∀e s,o= .fin e s→e≠0)→fQ p cx r vv abs o.st vo (nE o) H'→eA r vv abs vo vo H H'→eF dP F f Q i (fP fr d (.tup [])) H'):qL dP F f Q d i fr H g c:=by
 refine jT u t fun a H' ⟨j,k,l,n⟩=>?_;subst j;exact h H' k l n
theorem V5 (b:Bool):eH dP 197 [.bool b] (.int .u32 (if b=true then 1 else 0)):=by
 cases b
 ·skip
  refine bY 4 [.tmp 2] func197 ?_;refine aA fun K a=>?_;simp only[RR,seval];refine a _ _ (aI (aA fun K a=>?_));simp only[RR,seval];refine a _ _ (bI ?_);refine aL ?_;simp only[RR];refine aA fun K a=>?_;simp only[RR,seval];apply a;refine aP ?_;simp only[aY,aK,bR,RR,seval];refine aZ.pure ?_;rfl
 skip;refine bY 4 [.tmp 2] func197 ?_;refine aA fun K a=>?_;simp only[RR,seval];refine a _ _ (aI (aA fun K a=>?_));simp only[RR,seval];refine a _ _ (cM (aA fun K a=>?_));simp only[RR,seval];apply a;refine aP ?_;simp only[aY,aK,bR,RR,seval];refine aZ.pure ?_;rfl
structure Bd (p:Pg) (cx:Cx) (r:Nat) (vv:AV) (abs:List Nat) (n:Nat):Prop where
 V: ∀(i:Nat) (rs:dD→Bool×Int) (ow:List Int) (e:Ex) (st:RS) (vo:AV) (en:Int) (H:Hp) (x:Nat) (wv:AV) (bk:Bool) (vl:Int) (o:Rz Int),e.ok→(∀u∈nF e,UJ p i rs u)→(∀u∈fG e.kids,UJ p i rs u)→fQ p cx r vv abs st vo en H→iH vv abs vo wv ow H→(∀y∈ow,dR y)→H x=some (.rows 4 [[.int .i64 i,wv, .bool bk, .int .u32 vl]])→vL en st (kR cx n rs ow e st) o→
  oM dP 153 [.ptr 11 r 0 0, .ptr 4 x 0 0, .agg e.row] H (Xf p cx r vv abs vo H o)
 C: ∀(i:Nat) (rs:dD→Bool×Int) (ow:List Int) (s:dD) (l:List Ex) (st:RS) (vo:AV) (H:Hp) (x:Nat) (wv:AV) (bk:Bool) (vl:Int) (o:Rz Int),Br l→UJ p i rs ⟨s,4,l.length⟩→(∀u∈fG l,UJ p i rs u)→fQ p cx r vv abs st vo 0 H→iH vv abs vo wv ow H→(∀y∈ow,dR y)→H x=some (.rows 4 [[.int .i64 i,wv, .bool bk, .int .u32 vl]])→Ub cx n rs ow (rs s).2 l st=some o→
  oM dP 155 [.ptr 11 r 0 0, .ptr 4 x 0 0, .str s, .isl 5 (l.map Ex.row)] H (Xf p cx r vv abs vo H o)
 S: ∀(i:Nat) (rs:dD→Bool×Int) (ow:List Int) (e:Sm) (st:RS) (vo:AV) (H:Hp) (x:Nat) (wv:AV) (o:Rz (Option Int×List Int)),e.ok→(∀u∈kZ e,UJ p i rs u)→(∀u∈fG e.es,UJ p i rs u)→(∀u∈eG e.thn,UJ p i rs u)→(∀u∈eG e.els,UJ p i rs u)→fQ p cx r vv abs st vo 0 H→iH vv abs vo wv ow H→(∀y∈ow,dR y)→H x=some (.rows 4 [[.int .i64 i,wv, .bool false, .int .u32 0]])→pQ cx n rs ow e st=some o→
  oM dP 104 [.ptr 11 r 0 0, .ptr 4 x 0 0, .agg e.row] H (tK p cx r vv abs vo x i wv ow.length H o)
 L: ∀(i:Nat) (rs:dD→Bool×Int) (ow:List Int) (l:List Sm) (st:RS) (vo:AV) (en:Int) (H:Hp) (x:Nat) (wv:AV) (bk:Bool) (vl:Int) (o:Rz (Option Int×List Int)),yZ l→(∀u∈eG l,UJ p i rs u)→fQ p cx r vv abs st vo en H→iH vv abs vo wv ow H→(∀y∈ow,dR y)→H x=some (.rows 4 [[.int .i64 i,wv, .bool bk, .int .u32 vl]])→dR vl→(bk=false→vl=0)→(en=0→bk=false)→vL en st (nZ cx n rs ow l st) o→
  oM dP 67 [.ptr 11 r 0 0, .ptr 4 x 0 0, .isl 5 (l.map Sm.row)] H (tK p cx r vv abs vo x i wv ow.length H o)
section
variable {p : Pg} {cx : Cx} {r : Nat} {vv : AV} {abs : List Nat} {st : RS} {vo : AV} {H : Hp}
theorem Ci (j:OO cx) (a:fQ p cx r vv abs st vo 0 H):oM dP 154 [.ptr 11 r 0 0] H (fun g H'=>g= .ret (.tup [])∧(∀e s,nK cx st= .fin e s→e≠0)∧fQ p cx r vv abs (nK cx st).st vo (nE (nK cx st)) H'∧eA r vv abs vo vo H H'):=by
 have c:=a.r;by_cases f:cx.fuel≤st.ticks
 ·have d:(cx.fuel:Int)≤(st.ticks:Int):=by omega
  have e:nK cx st= .fin 5 st:=by unfold nK;rw[bD f]
  rw[e];refine bY 21 [] func154 ?_;refine aI (aC fun K b=>?_);refine bA (fun x=>x≠r) [(0,3),(1,3),(2,3),(3,1),(4,3),(5,3),(6,3),(7,1),(8,3)] [] eE (by kernel_rfl) rfl rfl ?_;simp only[dL,c,d,RR,seval];refine b _ _ (cM (aA fun K b=>?_));simp only[c,RR,seval];apply b;refine aP ?_;simp only[aY,aK,bR,RR,seval];exact aZ.run ⟨rfl,(fun e s h=>by cases h;decide),a.turn 5 rfl rfl rfl a.rd a.tk,eA.run _⟩
 have d: ¬(cx.fuel:Int)≤(st.ticks:Int):=by omega
 have e:nK cx st= .val () {st with ticks:=st.ticks+1}:=by unfold nK;rw[aJ f]
 rw[e];have k:=j.fuel;have i:IntKind.wrap .i64 ((st.ticks:Int)+1)=((st.ticks+1:Nat):Int):=by rw[aS _ (by omega)];omega
 refine bY 21 [] func154 ?_;refine aI (aC fun K b=>?_);refine bA (fun x=>x≠r) [(0,3),(1,3),(2,3),(3,1),(4,3),(5,3),(6,3),(7,1),(8,3)] [] eE (by kernel_rfl) rfl rfl ?_;simp only[dL,c,d,RR,seval];refine b _ _ (bI ?_);refine aL ?_;simp only[RR];refine aH ?_;simp only[c,i,RR,seval];simp only[aY,aK,bR,seval];exact aZ.run ⟨rfl,(fun e s h=>by cases h),a.turn (st':={st with ticks:=st.ticks+1}) 0 rfl rfl rfl a.rd (by show st.ticks+1≤_;omega),eA.run _⟩
end
structure BM (p:Pg) (cx:Cx):Prop where
 funs:cx.funs=p.funs.map (Jj (lV p))
 cx:OO cx
 uses: ∀(j:Nat) g,p.funs[j]?=some g→ ∀u∈eG g.body,UJ p j (Wy (lV p) (Vg g)) u
 f:p.funs.length≤10000
section
variable {p : Pg} {cx : Cx} {r : Nat} {vv : AV} {abs : List Nat} {n : Nat}
theorem Da (ih:Bd p cx r vv abs n) (V:BM p cx) (j:Nat) (g:Fu) (N:p.funs[j]?=some g) (ws:List Int) (st:RS) (vo:AV) (H:Hp) (wv:AV) (x:Rz (Option Int×List Int)) (hR:fQ p cx r vv abs st vo 0 H) (hW:iH vv abs vo wv ws H) (hu: ∀y∈ws,dR y) (hl:ws.length≤3000000) (c9:g.locs.length≤3000000) (h:nZ cx n (Wy (lV p) (Vg g)) (ws++List.replicate g.locs.length 0) g.body st=some x):
  oM dP 39 [.ptr 11 r 0 0, .int .i64 j,wv] H (fun ae H'=> ∃w P,ae= .ret (.int .u32 w)∧dR w∧(∀q s,x= .val q s→w=q.1.getD 0)∧(∀e s,x= .fin e s→e≠0)∧fQ p cx r vv abs x.st P (nE x) H'∧kQ r vv abs vo P r wv H H'):=by
 have d:=hR.r;have a8:=rQ N;have c6:=(bF.1 N).1
 have b3:yZ g.body:=by
  have:=V.cx.body (Jj (lV p) g) (by rw[V.funs];exact lJ.2 ⟨g,aW N,rfl⟩);exact this
 have c0:=V.uses j g N;obtain⟨Y,a0⟩: ∃X,X=H:=⟨_,rfl⟩;refine bY 46 [.tmp 6] func39 ?_;refine aA fun K a=>?_;simp only[RR,seval];refine a _ _ (aI (aA fun K a=>?_));simp only[RR,seval];refine a _ _ (bQ fun F1 M1 c v=>?_);have i:=c 0;have f:=c 1;have z:=c 2;have A:=c 6;have B:=c 7;have C:=v r;simp only[d,RR,seval]at i f z A B C;have T:=funext v;have d:=C;refine aQ (eY [0,1,6] (g.locs.length) (fun k Z M=>Z 7= .int .i64 (k:Nat)∧ ∃t,Z 2=t∧iH vv abs vo t (ws++List.replicate k 0) M∧fQ p cx r vv abs st vo 0 M∧(∀b o,Y b=some o→Al.off wv b→M b=some o∧Al.off t b)) ⟨B,wv,z,(by rw[T,List.replicate_zero,dQ];exact hW),(by rw[T];exact hR),(fun b o D E=>⟨by rw[T,←a0];exact D,E⟩)⟩ ?_);rintro k F2 M2 c7 ⟨fx,t,z,l,I,a7⟩ F K0 b2;have i:=(F 0 rfl).trans i;have f:=(F 1 rfl).trans f;have A:=(F 6 rfl).trans A;have B:=fx;clear fx;have b0:=bB.refl [0,1,6] F2;clear F;have d:=I.r;refine aI (aA fun K a=>?_);simp only[i,f,B,d,a8,aG,RR,seval];refine a _ _ (aV ?_ ?_)<;>intro U
 ·have b7:k<g.locs.length:=by have:=aD U;omega
  clear U;have b9:List.replicate (k+1) (0:Int)=List.replicate k 0++[0]:=List.replicate_succ';have c8:(ws++List.replicate k (0:Int)).length≤6000000:=by rw[aB,fF];omega
  refine aL ?_;simp only[RR];refine aI (aQ (aH ?_));simp only[z,RR,seval];refine dO ?_;simp only[RR,seval];refine iZ l.h (by simp only[aG,aM,aU];omega) (fun _ _=>trivial) fun v' H' b8 a9 a6=>?_;simp only[RR,seval];have a2:=I.grow l a9;have a4:=l.grow I b8 a6;have d:=a2.r;rw[bT,←b9]at a4
  have b5: ∀b o,Y b=some o→Al.off wv b→H' b=some o∧Al.off v' b:=fun b o D E=>by
   obtain⟨u,S⟩:=a7 b o D E;exact⟨a9 b _ u (S _ _),a6 b S (by rw[u];exact bZ _)⟩
  refine aH ?_;simp only[B,RR,seval];rw[aS _ (by omega)];refine b2 _ _ b7 ⟨by rfl,v',rfl,a4,a2,b5⟩ (by repeat (first|exact b0|refine bB.upd rfl ?_))
 have b6:k=g.locs.length:=by have:=aE U;omega
 rw[b6]at l;have b4:=l.h.cells;have d0:=l.h.one1;refine cG ?_;simp only[RR,seval];refine aA fun K a=>?_;simp only[f,z,b4,cA,List.drop,RR,seval];refine aN fun Q O=>?_;have c2:=cY O d;have c3:=c2.symm;simp only[RR,seval];refine a _ _ (bQ fun F3 M3 c v=>?_);have g0:=c 0;have u:=c 1;have G:=c 6;have R:=c 8;have C:=v r;have J:=v Q;simp only[i,f,A,d,c3,RR,seval]at g0 u G R C J;have a1:=funext v;have i:=g0;have f:=u;have A:=G;have d:=C;have a3:=(I.new O (some (.rows 4 [[.int .i64 j,t, .bool false, .int .u32 0]])));have a5:=(l.new O (some (.rows 4 [[.int .i64 j,t, .bool false, .int .u32 0]])));rw[←a1]at a3 a5
 have c1: ∀y∈ws++List.replicate g.locs.length 0,dR y:=fun y hy=>by
  rcases eU.1 hy with hy|hy
  ·exact hu y hy
  rw[(Bf.1 hy).2];simp [dR]
 have hL:=ih.L j (Wy (lV p) (Vg g)) (ws++List.replicate g.locs.length 0) g.body st vo 0 M3 Q t false 0 x b3 c0 a3 a5 c1 J (by simp [dR]) (fun _=>rfl) (fun _=>rfl) (.inl ⟨rfl,h⟩);refine aA fun K a=>?_;simp only[i,f,R,d,a8,cA,List.drop,RR,seval];refine Ks hL (fun _=>trivial) fun d1 c5 c4 P H' u S g3 g4 g5 G g7 g8 g9 b1=>?_;have J:=g7;simp only[RR,seval];refine a _ _ (aA fun K a=>?_);simp only[R,J,cA,List.drop,RR,seval];apply a;refine aP ?_;simp only[aY,aK,bR,RR,seval];refine aZ.run ⟨c4,P,rfl,g3,(fun q s e=>(g5 q s e).2.2),G,g9,fun b o hb D E h3 h4 _ h5=>?_⟩;rw[←a0]at hb;obtain⟨W,q2⟩:=a7 b o hb h5;have q3:b≠Q:=fun e=>by rw[e,O]at W;cases W
 exact b1 b o (by rw[a1,cH _ _ q3];exact W) D E h3 h4 q3 q2
end
section
variable {p : Pg} {cx : Cx} {r : Nat} {vv : AV} {abs : List Nat} {n : Nat}
theorem G3 (ih:Bd p cx r vv abs n) (hj:BM p cx) (i:Nat) (G:dD→Bool×Int) (ow:List Int) (s:dD) (l:List Ex) (st:RS) (vo:AV) (H:Hp) (x:Nat) (wv:AV) (bk:Bool) (vl:Int) (o:Rz Int) (hl:Br l) (hU:UJ p i G ⟨s,4,l.length⟩) (d: ∀u∈fG l,UJ p i G u) (hR:fQ p cx r vv abs st vo 0 H) (hW:iH vv abs vo wv ow H) (hu: ∀y∈ow,dR y) (hx:H x=some (.rows 4 [[.int .i64 i,wv, .bool bk, .int .u32 vl]])) (h:Ub cx (n+1) G ow (G s).2 l st=some o):
  oM dP 155 [.ptr 11 r 0 0, .ptr 4 x 0 0, .str s, .isl 5 (l.map Ex.row)] H (Xf p cx r vv abs vo H o):=by
 have W:=hR.r;have e8:=hl.fit;simp only[fK]at e8;have f9:x≠r:=fun e=>by rw[e,W]at hx;cases hx
 have h6:=f9.symm;have f6:p.av= .agg [.isl 1 (p.vars.map bM), .isl 2 (p.arrs.map Ar.row), .isl 5 (p.funs.map Fu.row)]:=rfl;have hF:=hU.f;rw[f6]at hF;simp only at hF;obtain⟨Q,I,g,hg,g8⟩:=hU.k4;generalize eR p i s=fi at hF Q I hg;obtain⟨kk,ii⟩:=fi;simp only at hF Q I hg;subst Q;rw[I]at h;simp only[Ub]at h;by_cases z0:ii<0
 ·rw[bD z0]at h;cases h
 rw[aJ z0]at h;obtain⟨j,rfl⟩:=hI (show 0≤ii by omega);rw[cB]at h hg;have d1:cx.funs[j]?=some (Jj (lV p) g):=by rw[hj.funs,dM,hg];rfl
 rw[d1]at h;simp only at h;have d4:(Jj (lV p) g).words=g.params.length+g.locs.length:=rfl;have P:(Jj (lV p) g).res=Wy (lV p) (Vg g):=rfl;have d3:(Jj (lV p) g).body=g.body:=rfl;have h5:=hj.cx.words (Jj (lV p) g) (aW d1);have d5:g.params.length=l.length:=by omega
 by_cases hw:(Jj (lV p) g).words<l.length
 ·rw[bD hw]at h;cases h
 rw[aJ hw]at h
 obtain⟨ra,hA,h⟩: ∃ra,Ek cx n G ow l st=some ra∧bindR (some ra) (fun vs s=>Pi cx n (Jj (lV p) g) l.length vs s)=some o:=by
  cases hA:Ek cx n G ow l st with
  |none=>rw[hA]at h;cases h
  |some ra=>rw[hA]at h;exact⟨ra,rfl,h⟩
 obtain⟨HX,a7⟩: ∃X,X=H:=⟨_,rfl⟩;generalize g7:Jj (lV p) g=f at *;refine bY 58 [.tmp 8] func155 ?_;refine aA fun K d=>?_;simp only[RR,seval];apply d;clear d K;refine aC fun K d=>?_;refine bA (fun x=>x≠r∧x≠x) [(0,3),(1,3),(2,3),(3,1),(4,3),(5,3),(6,3),(7,1),(8,3),(9,1),(10,3),(11,3),(12,3),(13,3),(14,3)] [] eE (by kernel_rfl) rfl rfl ?_;simp only[dL,W,hx,RR,seval];refine aO (hF) ?_;simp only[RR,seval];apply d;clear d K;refine aA fun K d=>?_;simp only[RR,seval];apply d;clear d K;refine aI ?_;refine aA fun K d=>?_;simp only[RR,seval];apply d;clear d K;refine bQ fun F1 M1 P hH=>?_;have T:=P 0;have f1:=P 1;have f3:=P 3;have f8:=P 8;have a6:=P 10;have a4:=P 11;have a5:=P 12;have gr:=hH r;have gx:=hH x;simp only[W,hx,RR,seval]at T f1 f3 f8 a6 a4 a5 gr gx;have hM:=funext hH;have W:=gr;clear gr;have hx:=gx;clear gx;clear P hH;refine aQ ?_;refine eY [0,1,3,8,10] (l.length) (fun k fr M=>fr 12= .int .i64 (k:Nat)∧ ∃D L E wk vs,fr 11=wk∧vs.length=k∧(∀y∈vs,dR y)∧iH vv abs L wk vs M∧fQ p cx r vv abs D L E M∧iH vv abs L wv ow M∧(∀s b n,wv= .osl s b n→Al.off wk b)∧M x=some (.rows 4 [[.int .i64 i,wv, .bool bk, .int .u32 vl]])∧(∀b o,HX b=some o→b≠r→Al.off vv b→b∉abs→Al.off vo b→M b=some o∧Al.off L b∧Al.off wk b)∧((E=0∧ ∃m Z,m≤n∧Ek cx m G ow (l.drop k) D=some Z∧bindR (some Z) (fun b3 s=>Pi cx n f l.length (vs++b3) s)=some o)∨(E≠0∧o= .fin E D))) ⟨a5,st,vo,0, .nsl,[],a4,rfl,(fun y hy=>by cases hy),iH.nil,(by rw[hM];exact hR),(by rw[hM];exact hW),(fun _ _ _ _ _ _ e=>by cases e),hx,(fun b o c _ _ _ t=>⟨by rw[hM,←a7];exact c,t,fun _ _ e=>by cases e⟩), .inl ⟨rfl,n,ra,bH _,hA,by simpa using h⟩⟩ ?_;rintro k F2 M2 g9 ⟨fx,D,L,E,wk,vs,a4,d7,c4,a8,a0,c7,c9,hx,a2,a1⟩ a3 K0 e2;have T:=(a3 0 rfl).trans T;have f1:=(a3 1 rfl).trans f1;have f3:=(a3 3 rfl).trans f3;have f8:=(a3 8 rfl).trans f8;have a6:=(a3 10 rfl).trans a6;have a5:=fx;clear fx;have e0:=bB.refl [0,1,3,8,10] F2;clear a3;have W:=a0.r;clear h hA;refine aI ?_;refine aA fun K d=>?_;simp only[f3,a5,aG,RR,seval];apply d;clear d K;refine aV ?_ ?_<;>intro hc
 ·have c1:k<l.length:=by have:=aD hc;omega
  clear hc;have c0:=aF c1;have d2:l.drop k=l[k]::l.drop (k+1):=bJ c1;generalize l[k]=a at c0 d2;have e9:=qJ c0;rw[d2]at a1
  obtain⟨B,e7,f4⟩: ∃B,vL E D (kR cx n G ow a D) B∧ ∀w,(∀v s,B= .val v s→w=v)→(∀e s,B= .fin e s→e≠0)→((nE B=0∧ ∃m Z,m≤n∧Ek cx m G ow (l.drop (k+1)) B.st=some Z∧bindR (some Z) (fun b3 s=>Pi cx n f l.length ((vs++[w])++b3) s)=some o)∨(nE B≠0∧o= .fin (nE B) B.st)):=by
   rcases a1 with⟨he,m,Z,h0,C,hk⟩|⟨he,ho⟩
   rotate_left
   ·exact⟨.fin E D, .inr ⟨he,rfl⟩,fun _ _ _=> .inr ⟨he,ho⟩⟩
   obtain⟨Y,rfl⟩: ∃Y,m=Y+1:=by
    cases m with
    |zero=>simp [Ek]at C
    |succ Y=>exact⟨Y,rfl⟩
   simp only[Ek]at C
   obtain⟨B,c⟩: ∃B,kR cx Y G ow a D=some B:=by
    cases c:kR cx Y G ow a D with
    |none=>rw[c]at C;cases C
    |some B=>exact⟨B,rfl⟩
   rw[c]at C;refine⟨B, .inl ⟨he,Yn (by omega) c⟩,fun w c5 c2=>?_⟩
   cases B with
   |fin e s=>
    obtain rfl:=Option.some.inj (show some (Rz.fin e s)=some Z from C);exact .inr ⟨c2 _ _ rfl,(Option.some.inj (show some (Rz.fin e s)=some o from hk)).symm⟩
   |val x1 J=>
    obtain rfl:=c5 _ _ rfl;simp only[bindR]at C
    obtain⟨r',t⟩: ∃r',Ek cx Y G ow (l.drop (k+1)) J=some r':=by
     cases t:Ek cx Y G ow (l.drop (k+1)) J with
     |none=>rw[t]at C;cases C
     |some r'=>exact⟨r',rfl⟩
    rw[t]at C;refine .inl ⟨rfl,Y,r',by omega,t, ?_⟩
    cases r' with
    |fin e s=>
     obtain rfl:=Option.some.inj (show some (Rz.fin e s)=some Z from C);exact hk
    |val b3 s=>
     obtain rfl:=Option.some.inj (show some (Rz.val (w::b3) s)=some Z from C);simpa [bindR]using hk
  have b7:=aW c0;have hV:=ih.V i G ow a D L E M2 x wv bk vl B (hl.all _ b7) (fun u hu=>d u ((fZ b7).1 u hu)) (fun u hu=>d u ((fZ b7).2 u hu)) a0 c7 hu hx e7;rw[a.row_eq]at hV;refine aL ?_;simp only[RR];refine aI ?_;refine aQ ?_;refine aH ?_;simp only[T,f1,f3,a5,a4,e9,RR,seval];refine mR hV (fun _=>trivial) fun w d9 H1 uw c5 c2 U Q=>?_;have b4:=a8.keep a0 Q;have c8:=c7.keep a0 Q;have d8:=a0.keep hx (by decide) (by decide) Q;simp only[RR,seval];refine dO ?_;simp only[RR,seval];refine iZ b4.h (by simp only[aG,aM,aU];omega) (fun _ _=>trivial) fun v' H2 f5 b6 b9=>?_;simp only[RR,seval];have e4:=U.grow b4 b6;have e5:=b4.grow U f5 b9;have e3:=c8.other c9 b6;have f7:=b6 x _ d8 (b4.h.offsz d8 (by decide) _ _);have e6: ∀s b n,wv= .osl s b n→Al.off v' b:=fun s b n e=>b9 b (c9 s b n e) (c8.h.there _ _ _ e)
  have f2: ∀b o,HX b=some o→b≠r→Al.off vv b→b∉abs→Al.off vo b→H2 b=some o∧Al.off d9 b∧Al.off v' b:=fun b o O c t A N=>by
   obtain⟨R,S,q3⟩:=a2 b o O c t A N;obtain⟨q4,q5⟩:=Q b o R c t A S;exact⟨b6 b o q4 (q3 _ _),q5,b9 b q3 (by rw[q4];exact bZ _)⟩
  refine aH ?_;simp only[a5,RR,seval];rw[aS _ (by omega)];refine e2 _ _ c1 ⟨by rfl,B.st,d9,nE B,v',vs++[w],rfl,(by simp [d7]),(fun y hy=>by rcases eU.1 hy with hy|hy;exact c4 y hy;rw[bE.1 hy];exact uw),e5,e4,e3,e6,f7,f2,f4 w c5 c2⟩ (by repeat (first|exact e0|refine bB.upd rfl ?_))
 have d6:k=l.length:=by have:=aE hc;omega
 clear hc;rw[d6,dB]at a1;rw[d6]at d7
 have a1:(E=0∧Pi cx n f l.length vs D=some o)∨(E≠0∧o= .fin E D):=by
  rcases a1 with⟨he,m,Z,_,C,hk⟩|hc
  ·refine .inl ⟨he, ?_⟩
   cases m with
   |zero=>simp [Ek]at C
   |succ Y=>
    simp only[Ek,Option.some.injEq]at C;subst C;simpa [bindR]using hk
  exact .inr hc
 refine cG ?_;simp only[RR,seval];refine aI ?_;refine aA fun K d=>?_;simp only[T,W,RR,seval];apply d;clear d K;refine aV ?_ ?_<;>intro d0
 ·have b5:E=0:=by simpa using d0
  subst b5
  have I:Pi cx n f l.length vs D=some o:=by
   rcases a1 with⟨_,h⟩|⟨h,_⟩
   ·exact h
   exact absurd rfl h
  have hT:=Ci hj.cx a0;unfold Pi at I;generalize g0:nK cx D=F at I hT
  have b0:(∃e s,F= .fin e s∧o= .fin e s)∨ ∃s z,F= .val () s∧nZ cx n f.res (vs++List.replicate (f.words-l.length) 0) f.body s=some z∧bindR (some z) (fun r st=>some (Rz.val (r.1.getD 0) st))=some o:=by
   cases F with
   |fin e s=>exact .inl ⟨e,s,rfl,(Option.some.inj (show some (Rz.fin e s)=some o from I)).symm⟩
   |val q s=>
    simp only[bindR]at I
    cases hL:nZ cx n f.res (vs++List.replicate (f.words-l.length) 0) f.body s with
    |none=>rw[hL]at I;cases I
    |some z=>rw[hL]at I;exact .inr ⟨s,z,rfl,hL,I⟩
  refine aH ?_;simp only[T,RR,seval];refine Dj hT (fun _=>trivial) fun H1 b1 U Q=>?_;have W:=U.r;have a8:=a8.keep a0 Q
  have a2: ∀b o,HX b=some o→b≠r→Al.off vv b→b∉abs→Al.off vo b→H1 b=some o∧Al.off L b∧Al.off wk b:=fun b o O c t A N=>by
   obtain⟨R,S,q3⟩:=a2 b o O c t A N;obtain⟨q4,q5⟩:=Q b o R c t A S;exact⟨q4,q5,q3⟩
  simp only[RR,seval];refine aI ?_;refine aA fun K d=>?_;simp only[T,W,RR,seval];apply d;clear d K;refine aV ?_ ?_<;>intro a9
  ·obtain⟨e1,J,rfl⟩:=sO (o:=F) (by simpa using a9)
   obtain ho:o= .fin e1 J:=by
    rcases b0 with⟨e,s,c,t⟩|⟨_,_,c,_⟩
    ·cases c;exact t
    cases c
   subst ho;refine aA fun K d=>?_;simp only[RR,seval];apply d;clear d K;refine aP ?_;simp only[aY,aK,bR,RR,seval];exact aZ.run ⟨0,L,rfl,by simp [dR],(fun _ _ e=>by cases e),(fun e s h=>by cases h;exact b1 _ _ rfl),U,fun b o O c t A N=>by obtain⟨R,S,_⟩:=a2 b o (by rw[a7];exact O) c t A N;exact⟨R,S⟩⟩
  obtain⟨_,J,rfl⟩:=sN (o:=F) b1 (by simpa using a9)
  obtain⟨z,hL,b2⟩: ∃z,nZ cx n f.res (vs++List.replicate (f.words-l.length) 0) f.body J=some z∧bindR (some z) (fun r st=>some (Rz.val (r.1.getD 0) st))=some o:=by
   rcases b0 with⟨e,s,c,t⟩|⟨s,z,c,t,A⟩
   ·cases c
   cases c;exact⟨z,t,A⟩
  rw[P,d3,d4,←d5,gY]at hL;have hB:=Da ih hj j g hg vs J L _ wk z U a8 c4 (by omega) (by omega) hL;refine aL ?_;simp only[RR];refine aA fun K d=>?_;simp only[T,a6,a4,RR,seval];refine jT hB (fun _=>trivial) fun ae H2 ⟨w,c6,g1,g2,g3,g4,g5,g6⟩=>?_;subst g1
  have b8:(∀v s,o= .val v s→w=v)∧(∀e s,o= .fin e s→e≠0)∧nE o=nE z∧o.st=z.st:=by
   cases z with
   |fin e s=>
    obtain rfl:=Option.some.inj (show some (Rz.fin e s)=some o from b2);exact⟨(fun _ _ e=>by cases e),(fun e' s' h=>by cases h;exact g4 _ _ rfl),rfl,rfl⟩
   |val q s=>
    obtain rfl:=Option.some.inj (show some (Rz.val (q.1.getD 0) s)=some o from b2);exact⟨(fun v s' h=>by cases h;exact g3 _ _ rfl),(fun _ _ e=>by cases e),rfl,rfl⟩
  obtain⟨R,S,q3,q4⟩:=b8;rw[←q3,←q4]at g5;simp only[RR,seval];apply d;clear d K;refine aP ?_;simp only[aY,aK,bR,RR,seval];refine aZ.run ⟨w,c6,rfl,g2,R,S,g5,fun b o O c t A N=>?_⟩;obtain⟨p1,p2,p3⟩:=a2 b o (by rw[a7];exact O) c t A N;exact g6 b o p1 c t A p2 c p3
 have b5: ¬E=0:=by simpa using d0
 obtain⟨F,c3⟩: ∃F:Rz Unit,F= .fin E D:=⟨_,rfl⟩
 have b0:(∃e s,F= .fin e s∧o= .fin e s)∨ ∃s z,F= .val () s∧nZ cx n f.res (vs++List.replicate (f.words-l.length) 0) f.body s=some z∧bindR (some z) (fun r st=>some (Rz.val (r.1.getD 0) st))=some o:=by
  rcases a1 with⟨h,_⟩|⟨_,h⟩
  ·exact absurd h b5
  exact .inl ⟨E,D,c3,h⟩
 have b1: ∀e s,F= .fin e s→e≠0:=fun e s h=>by rw[c3]at h;cases h;exact b5
 have U:fQ p cx r vv abs F.st L (nE F) M2:=by rw[c3];exact a0
 have W:=U.r;refine aL ?_;simp only[RR];refine aI ?_;refine aA fun K d=>?_;simp only[T,W,RR,seval];apply d;clear d K;refine aV ?_ ?_<;>intro a9
 ·obtain⟨e1,J,rfl⟩:=sO (o:=F) (by simpa using a9)
  obtain ho:o= .fin e1 J:=by
   rcases b0 with⟨e,s,c,t⟩|⟨_,_,c,_⟩
   ·cases c;exact t
   cases c
  subst ho;refine aA fun K d=>?_;simp only[RR,seval];apply d;clear d K;refine aP ?_;simp only[aY,aK,bR,RR,seval];exact aZ.run ⟨0,L,rfl,by simp [dR],(fun _ _ e=>by cases e),(fun e s h=>by cases h;exact b1 _ _ rfl),U,fun b o O c t A N=>by obtain⟨R,S,_⟩:=a2 b o (by rw[a7];exact O) c t A N;exact⟨R,S⟩⟩
 obtain⟨_,J,rfl⟩:=sN (o:=F) b1 (by simpa using a9)
 obtain⟨z,hL,b2⟩: ∃z,nZ cx n f.res (vs++List.replicate (f.words-l.length) 0) f.body J=some z∧bindR (some z) (fun r st=>some (Rz.val (r.1.getD 0) st))=some o:=by
  rcases b0 with⟨e,s,c,t⟩|⟨s,z,c,t,A⟩
  ·cases c
  cases c;exact⟨z,t,A⟩
 rw[P,d3,d4,←d5,gY]at hL;have hB:=Da ih hj j g hg vs J L _ wk z U a8 c4 (by omega) (by omega) hL;refine aL ?_;simp only[RR];refine aA fun K d=>?_;simp only[T,a6,a4,RR,seval];refine jT hB (fun _=>trivial) fun ae H2 ⟨w,c6,g1,g2,g3,g4,g5,g6⟩=>?_;subst g1
 have b8:(∀v s,o= .val v s→w=v)∧(∀e s,o= .fin e s→e≠0)∧nE o=nE z∧o.st=z.st:=by
  cases z with
  |fin e s=>
   obtain rfl:=Option.some.inj (show some (Rz.fin e s)=some o from b2);exact⟨(fun _ _ e=>by cases e),(fun e' s' h=>by cases h;exact g4 _ _ rfl),rfl,rfl⟩
  |val q s=>
   obtain rfl:=Option.some.inj (show some (Rz.val (q.1.getD 0) s)=some o from b2);exact⟨(fun v s' h=>by cases h;exact g3 _ _ rfl),(fun _ _ e=>by cases e),rfl,rfl⟩
 obtain⟨R,S,q3,q4⟩:=b8;rw[←q3,←q4]at g5;simp only[RR,seval];apply d;clear d K;refine aP ?_;simp only[aY,aK,bR,RR,seval];refine aZ.run ⟨w,c6,rfl,g2,R,S,g5,fun b o O c t A N=>?_⟩;obtain⟨p1,p2,p3⟩:=a2 b o (by rw[a7];exact O) c t A N;exact g6 b o p1 c t A p2 c p3
end
section
variable {p : Pg} {cx : Cx} {r : Nat} {vv : AV} {abs : List Nat} {n : Nat}
theorem Ec {en:Int} (ih:en=0→Bd p cx r vv abs n) (i:Nat) (E:dD→Bool×Int) (ow:List Int) (l:List Sm) (st:RS) (vo:AV) (H:Hp) (x:Nat) (wv:AV) (O:Bool) (Z:Int) (o:Rz (Option Int×List Int)) (hl:yZ l) (T: ∀u∈eG l,UJ p i E u) (hR:fQ p cx r vv abs st vo en H) (hW:iH vv abs vo wv ow H) (A: ∀y∈ow,dR y) (C:H x=some (.rows 4 [[.int .i64 i,wv, .bool O, .int .u32 Z]])) (a5:dR Z) (J:O=false→Z=0) (b0:en=0→O=false) (h:vL en st (nZ cx (n+1) E ow l st) o):
  oM dP 67 [.ptr 11 r 0 0, .ptr 4 x 0 0, .isl 5 (l.map Sm.row)] H (tK p cx r vv abs vo x i wv ow.length H o):=by
 have W:=hR.r;have c2:=hl.fit;simp only[fK]at c2;have c7:x≠r:=fun e=>by rw[e,W]at C;cases C
 have d2:=c7.symm;obtain⟨HX,a6⟩: ∃X,X=H:=⟨_,rfl⟩;obtain⟨w,hw⟩: ∃w,w=ow.length:=⟨_,rfl⟩;rw[←hw];refine bY 34 [] func67 ?_;refine aA fun K hK=>?_;simp only[RR,seval];refine hK _ _ (bQ fun F1 M1 V hH=>?_);have f0:=V 0;have f1:=V 1;have f2:=V 2;have P:=V 6;have gr:=hH r;have gx:=hH x;simp only[W,C,RR,seval]at f0 f1 f2 P gr gx;have hM:=funext hH;have W:=gr;have C:=gx;refine aQ ?_;refine iQ [0,1,2] (l.length) (fun m fr M=> ∃k z I j g B F,m+k=l.length∧fr 6= .int .i64 (k:Nat)∧g.length=w∧(∀y∈g,dR y)∧dR F∧(B=false→F=0)∧fQ p cx r vv abs z I j M∧iH vv abs I wv g M∧M x=some (.rows 4 [[.int .i64 i,wv, .bool B, .int .u32 F]])∧kQ r vv abs vo I x wv HX M∧(¬en=0→ ¬j=0)∧((j=0∧B=false∧ ∃f,f≤n+1∧nZ cx f E g (l.drop k) z=some o)∨(j=0∧B=true∧o= .val (some F,g) z)∨(j≠0∧o= .fin j z))) ⟨0,st,vo,en,ow,O,Z,rfl,P,hw.symm,A,a5,J,(by rw[hM];exact hR),(by rw[hM];exact hW),C,(by rw[hM,a6];exact(eA.refl _ _ _ _ _).w _ _),(fun h=>h),(by rcases h with⟨b,c⟩|⟨b,c⟩;exact .inl ⟨b,b0 b,n+1,bH _,c⟩;exact .inr (.inr ⟨b,c⟩))⟩ ?_;rintro m F2 M2 ⟨k,z,I,j,g,B,F,d0,P,b4,b3,a5,J,R,a7,C,a3,U,a1⟩ N K0 b9;have f0:=(N 0 rfl).trans f0;have f1:=(N 1 rfl).trans f1;have f2:=(N 2 rfl).trans f2;have b7:=bB.refl [0,1,2] F2;clear N;have W:=R.r;clear h b0;have hen:j=0∨ ¬j=0:=by by_cases h:j=0;exact .inl h;exact .inr h
 have c6:(k:Int)<(l.length:Int)∨ ¬(k:Int)<(l.length:Int):=by omega
 rcases hen with hen|hen<;>rcases c6 with zk|zk<;>rcases Bool.eq_false_or_eq_true B with hbk|hbk
 all_goals
  refine aI (aA fun K hK=>?_);simp only[*,aG,zk,RR,seval]
  repeat' ((refine cT (fun h=>?_) (fun h=>?_))<;>simp only[*,aG,zk,RR,seval])
  all_goals
   refine hK _ _ (aV ?_ ?_)<;>intro L
   ·try (cases L;done)
    all_goals
     have c5:=L;clear L;have b2:k<l.length:=by omega
     have U:en=0:=by
      by_cases he:en=0
      ·exact he
      exact absurd hen (U he)
     have ih:=ih U
     have t: ∃f,f≤n+1∧nZ cx f E g (l.drop k) z=some o:=by
      rcases a1 with⟨_,_,h⟩|⟨_,h,_⟩|⟨h,_⟩
      ·exact h
      ·rw[hbk]at h;cases h
      exact absurd hen h
     clear a1;have b5:=C;obtain⟨f,d1,t⟩:=t;rw[hbk,J hbk]at b5;have a8:=R;rw[hen]at a8;have a2:=aF b2;have b1:l.drop k=l[k]::l.drop (k+1):=bJ b2;generalize l[k]=a at a2 b1;have c9:=Ns a2;rw[b1]at t
     obtain⟨D,rfl⟩: ∃D,f=D+1:=by
      cases f with
      |zero=>simp [nZ]at t
      |succ D=>exact⟨D,rfl⟩
     simp only[nZ]at t
     obtain⟨d,b⟩: ∃d,pQ cx D E g a z=some d:=by
      cases b:pQ cx D E g a z with
      |none=>rw[b]at t;cases t
      |some d=>exact⟨d,rfl⟩
     rw[b]at t;have a9:=aW a2;have Y:=Of a9;have hS:=ih.S i E g a z I _ x wv d (hl.all _ a9) (fun u A=>T u (Y.1 u A)) (fun u A=>T u (Y.2.1 u A)) (fun u A=>T u (Y.2.2.1 u A)) (fun u A=>T u (Y.2.2.2 u A)) a8 a7 b3 b5 (JQ (by omega) b);rw[b4,a.row_eq]at hS;refine aL ?_;simp only[RR];refine aI (aQ (aH ?_));simp only[*,RR,seval];refine Ks hS (fun _=>trivial) fun a4 a0 b6 c8 H1 g1 g2 g3 g4 g5 g6 g7 g8 g9 b8=>?_;have c3:=a3.trans b8
     have c0:(nE d=0∧a0=false∧ ∃f,f≤n+1∧nZ cx f E a4 (l.drop (k+1)) d.st=some o)∨(nE d=0∧a0=true∧o= .val (some b6,a4) d.st)∨(nE d≠0∧o= .fin (nE d) d.st):=by
      cases d with
      |fin e s=>exact .inr (.inr ⟨g6 _ _ rfl,(Option.some.inj (show some (Rz.fin e s)=some o from t)).symm⟩)
      |val q s=>
       obtain⟨q1,q2⟩:=q;obtain⟨b,c,G⟩:=g5 _ _ rfl;simp only at b c G;subst b
       cases q1 with
       |none=>exact .inl ⟨rfl,c,D,by omega,t⟩
       |some v=>
        simp only[jI]at G;subst G;exact .inr (.inl ⟨rfl,c,(Option.some.inj t).symm⟩)
     have ek:IntKind.wrap .i64 ((k:Int)+1)=((k+1:Nat):Int):=by rw[aS _ (by omega)];omega
     simp only[RR,seval];refine aH ?_;simp only[P,ek,RR,seval];refine b9 (m- 1) _ _ (by omega) ⟨k+1,d.st,c8,nE d,a4,a0,b6,(by omega),rfl,g1,g2,g3,g4,g9,g8,g7,c3,(fun h=>absurd U h),c0⟩ (by repeat (first|exact b7|refine bB.upd rfl ?_))
   try (cases L;done)
   all_goals
    have c5:=L
    have c1:(∀q s,o= .val q s→g=q.2∧B=q.1.isSome∧F=q.1.getD 0)∧(∀e s,o= .fin e s→e≠0)∧o.st=z∧nE o=j:=by
     rcases a1 with⟨b,c,f,G,Q⟩|⟨b,c,G⟩|⟨b,c⟩
     ·obtain c4:k=l.length:=by first|omega|(exfalso;exact hen b)|(exfalso;rw[hbk]at c;cases c)
      rw[c4,dB]at Q
      cases f with
      |zero=>simp [nZ]at Q
      |succ D=>
       simp only[nZ,Option.some.injEq]at Q;subst Q;exact⟨(fun q s e=>by cases e;exact⟨rfl,c,J c⟩),(fun _ _ e=>by cases e),rfl,b.symm⟩
     ·subst G
      exact⟨(fun q s e=>by cases e;exact⟨rfl,c,rfl⟩),(fun _ _ e=>by cases e),rfl,b.symm⟩
     subst c;exact⟨(fun _ _ e=>by cases e),(fun _ _ e=>by cases e;exact b),rfl,rfl⟩
    obtain⟨e1,e2,e3,e4⟩:=c1;rw[←e3,←e4]at R;rw[a6]at a3;refine cG ?_;simp only[RR,seval];simp only[aY,aK,bR,seval];exact aZ.run ⟨g,B,F,I,rfl,b4,b3,a5,J,e1,e2,C,a7,R,a3⟩
end
end Go.Proofs.YtaecpjgmcffliaaGreatDoor
