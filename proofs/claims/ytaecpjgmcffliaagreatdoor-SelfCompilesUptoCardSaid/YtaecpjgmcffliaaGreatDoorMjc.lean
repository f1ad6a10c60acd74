/- Mjc -/
import Derived.Test.YtaecpjgmcffliaaGreatDoorMx
import Derived.Test.YtaecpjgmcffliaaGreatDoorQd
set_option linter.unusedSimpArgs false
set_option linter.unusedVariables false
set_option maxRecDepth 10000
set_option maxHeartbeats 4000000
namespace Go.Al
structure fQ (p:Pg) (cx:Cx) (r:Nat) (vv:AV) (abs:List Nat) (st:RS) (vo:AV) (en:Int) (H:Hp):Prop where
 r:H r=some (.rows 11 [[.isl 1 (p.vars.map bT), .isl 2 (p.arrs.map Ar.row), .isl 5 (p.funs.map Fu.row), .str cx.inp, .int .i64 cx.fuel,vv, .isl 1 (fR abs st.arrs),vo, .int .i64 st.read, .int .i64 st.ticks, .int .i64 en]])
 v:dZ 1 vv (st.vars.map gI) H
 al:abs.length=st.arrs.length
 a: ∀(i:Nat) b l,abs[i]?=some b→st.arrs[i]?=some l→H b=some (.rows 1 (l.map gI))
 nd:abs.Nodup
 va: ∀b∈abs,off vv b
 o:dZ 1 vo (st.out.map rJ) H
 ov: ∀s b n,vv= .osl s b n→off vo b
 oa: ∀b∈abs,off vo b
 uv: ∀x∈st.vars,dQ x
 ua: ∀l∈st.arrs,l.length≤4096∧ ∀x∈l,dQ x
 ub:st.out.length≤65536
 rd:st.read≤cx.inp.length
 tk:st.ticks≤cx.fuel
def dY (r:Nat) (vv:AV) (abs:List Nat) (vo vo':AV) (H H':Hp):Prop:= ∀b o,H b=some o→b≠r→off vv b→b∉abs→off vo b→H' b=some o∧off vo' b
structure iH (vv:AV) (abs:List Nat) (vo:AV) (wv:AV) (ow:List Int) (H:Hp):Prop where
 h:dZ 1 wv (ow.map gI) H
 nv: ∀s b n,wv= .osl s b n→off vv b
 na: ∀s b n,wv= .osl s b n→b∉abs
 nf: ∀s b n,wv= .osl s b n→off vo b
def kP (r:Nat) (vv:AV) (abs:List Nat) (vo vo':AV) (x:Nat) (wv:AV) (H H':Hp):Prop:= ∀b o,H b=some o→b≠r→off vv b→b∉abs→off vo b→b≠x→off wv b→H' b=some o∧off vo' b
section
variable {p : Pg} {cx : Cx} {r : Nat} {vv vo vo' vo2 wv : AV} {abs : List Nat} {st : RS} {en : Int} {ow : List Int} {H H' H2 : Hp} {x : Nat}
theorem dY.refl (r:Nat) (vv:AV) (abs:List Nat) (vo:AV) (H:Hp):dY r vv abs vo vo H H:=fun _ _ h _ _ _ a=>⟨h,a⟩
theorem dY.trans (h:dY r vv abs vo vo' H H') (g:dY r vv abs vo' vo2 H' H2):dY r vv abs vo vo2 H H2:=fun b o j a c d i=>by
 obtain⟨e,f⟩:=h b o j a c d i;exact g b o e a c d f
theorem dY.w (h:dY r vv abs vo vo' H H') (x:Nat) (wv:AV):kP r vv abs vo vo' x wv H H':=fun b o f a c d e _ _=>h b o f a c d e
theorem kP.trans (h:kP r vv abs vo vo' x wv H H') (j:kP r vv abs vo' vo2 x wv H' H2):kP r vv abs vo vo2 x wv H H2:=fun b o l a c d k e f=>by
 obtain⟨g,i⟩:=h b o l a c d k e f;exact j b o g a c d i e f
theorem kP.new {b:Nat} {o:Option iG} (l:H b=none) (h:kP r vv abs vo vo' x wv (Al.upd H b o) H'):kP r vv abs vo vo' x wv H H':=fun c n a d f g i j k=>by
 have :c≠b:=fun e=>by rw[e,l]at a;cases a
 exact h c n (by rw[cG _ _ this];exact a) d f g i j k
theorem dY.new {b:Nat} {o:Option iG} (j:H b=none) (h:dY r vv abs vo vo' (Al.upd H b o) H'):dY r vv abs vo vo' H H':=fun c k a d f g i=>by
 have :c≠b:=fun e=>by rw[e,j]at a;cases a
 exact h c k (by rw[cG _ _ this];exact a) d f g i
theorem dY.updN (h:dY r vv abs vo vo' H H') {b:Nat} (l:H b=none) (o:Option iG):dY r vv abs vo vo' H (Al.upd H' b o):=fun c n a g i j k=>by
 obtain⟨d,f⟩:=h c n a g i j k;have :c≠b:=fun e=>by rw[e,l]at a;cases a
 exact⟨by rw[cG _ _ this];exact d,f⟩
theorem fQ.same (h:fQ p cx r vv abs st vo en H) (a: ∀b,H' b=H b):fQ p cx r vv abs st vo en H':=by
 have :H'=H:=funext a;rw[this];exact h
theorem iH.same (h:iH vv abs vo wv ow H) (a: ∀b,H' b=H b):iH vv abs vo wv ow H':=by
 have :H'=H:=funext a;rw[this];exact h
theorem fQ.abs_some (h:fQ p cx r vv abs st vo en H) {b:Nat} (d:b∈abs): ∃l,H b=some (.rows 1 l):=by
 obtain⟨i,c⟩:=gO d;have e:i<st.arrs.length:=by have:=(bD.1 c).1;rw[←h.al];exact this
 exact⟨_,h.a i b _ c (aC e)⟩
theorem fQ.apart (h:fQ p cx r vv abs st vo en H) {b sz:Nat} {l:List (List AV)} (a:H b=some (.rows sz l)) (c:sz≠1) (d:sz≠11):b≠r∧off vv b∧b∉abs∧off vo b:=
 ⟨fun e=>by rw[e,h.r]at a;cases a;exact d rfl,h.v.offsz a c,fun e=>by obtain⟨g,f⟩:=h.abs_some e;rw[f]at a;cases a;exact c rfl,h.o.offsz a c⟩
theorem fQ.keep (h:fQ p cx r vv abs st vo en H) {b sz:Nat} {l:List (List AV)} (a:H b=some (.rows sz l)) (g:sz≠1) (i:sz≠11) (j:dY r vv abs vo vo' H H'):H' b=some (.rows sz l):=by
 obtain⟨c,d,e,f⟩:=h.apart a g i;exact(j b _ a c d e f).1
theorem fQ.keepW (h:fQ p cx r vv abs st vo en H) (k:iH vv abs vo wv ow H) {b sz:Nat} {l:List (List AV)} (a:H b=some (.rows sz l)) (c:sz≠1) (i:sz≠11) (n:b≠x) (j:kP r vv abs vo vo' x wv H H'):H' b=some (.rows sz l):=by
 obtain⟨d,e,f,g⟩:=h.apart a c i;exact(j b _ a d e f g n (k.h.offsz a c)).1
theorem fQ.nr (h:fQ p cx r vv abs st vo en H) {b:Nat} {l:List (List AV)} (a:H b=some (.rows 1 l)):b≠r:=fun e=>by rw[e,h.r]at a;cases a
theorem iH.keep (h:iH vv abs vo wv ow H) (g:fQ p cx r vv abs st vo en H) (f:dY r vv abs vo vo' H H'):iH vv abs vo' wv ow H':=by
 rcases h.h with⟨rfl,e⟩|⟨b,rfl,a⟩
 ·exact⟨.inl ⟨rfl,e⟩,(fun _ _ _ e=>by cases e),(fun _ _ _ e=>by cases e),(fun _ _ _ e=>by cases e)⟩
 obtain⟨c,d⟩:=f b _ a (g.nr a) (h.nv _ _ _ rfl) (h.na _ _ _ rfl) (h.nf _ _ _ rfl);exact⟨.inr ⟨b,rfl,c⟩,h.nv,h.na,fun s i n e=>by cases e;exact d⟩
theorem fQ.new (h:fQ p cx r vv abs st vo en H) {b:Nat} (c:H b=none) (o:Option iG):fQ p cx r vv abs st vo en (upd H b o):=by
 have k:r≠b:=fun e=>by have:=h.r;rw[e,c]at this;cases this
 refine {h with r:=by rw[cG _ _ k];exact h.r,v:=h.v.upd c o,a:=fun i d l f j=>?_,o:=h.o.upd c o};have n:d≠b:=fun e=>by obtain⟨l,g⟩:=h.abs_some (aW f);rw[e,c]at g;cases g
 rw[cG _ _ n];exact h.a i d l f j
theorem iH.new (h:iH vv abs vo wv ow H) {b:Nat} (a:H b=none) (o:Option iG):iH vv abs vo wv ow (upd H b o):=⟨h.h.upd a o,h.nv,h.na,h.nf⟩
theorem iH.off (h:iH vv abs vo wv ow H) {b:Nat} (a:Al.off wv b) (o:Option iG):iH vv abs vo wv ow (upd H b o):=⟨h.h.off a o,h.nv,h.na,h.nf⟩
theorem fQ.other (h:fQ p cx r vv abs st vo en H) {b:Nat} (g:b≠r) (j:Al.off vv b) (k:b∉abs) (n:Al.off vo b) (o:Option iG):fQ p cx r vv abs st vo en (upd H b o):=by
 refine {h with r:=by rw[cG _ _ (Ne.symm g)];exact h.r,v:=h.v.off j o,a:=fun i d l c f=>?_,o:=h.o.off n o};rw[cG _ _ (fun e=>k (by rw[←e];exact aW c))];exact h.a i d l c f
theorem fQ.turn (h:fQ p cx r vv abs st vo en H) {st':RS} (en':Int) (f:st'.vars=st.vars) (b:st'.arrs=st.arrs) (e:st'.out=st.out) (n:st'.read≤cx.inp.length) (t:st'.ticks≤cx.fuel):
  fQ p cx r vv abs st' vo en' (upd H r (some (.rows 11 [[.isl 1 (p.vars.map bT), .isl 2 (p.arrs.map Ar.row), .isl 5 (p.funs.map Fu.row), .str cx.inp, .int .i64 cx.fuel,vv, .isl 1 (fR abs st.arrs),vo, .int .i64 st'.read, .int .i64 st'.ticks, .int .i64 en']]))):=by
 have k:off vo r:=h.o.offsz h.r (by decide);have u:off vv r:=h.v.offsz h.r (by decide);refine⟨by rw[bO,b],by rw[f];exact h.v.off u _,by rw[b];exact h.al,fun i g l j c=>?_,h.nd,h.va,by rw[e];exact h.o.off k _,h.ov,h.oa,by rw[f];exact h.uv,by rw[b];exact h.ua,by rw[e];exact h.ub,n,t⟩;rw[b]at c;have d:=h.a i g l j c;rw[cG _ _ (h.nr d)];exact d
theorem dY.run (o:Option iG):dY r vv abs vo vo H (upd H r o):=fun d e c a _ _ b=>⟨by rw[cG _ _ a];exact c,b⟩
theorem dY.vars {s b n:Nat} (f:vv= .osl s b n) (o:Option iG):dY r vv abs vo vo H (upd H b o):=fun g i d _ a _ c=>⟨by rw[cG _ _ (fun e=>a _ _ (by rw[f,e]))];exact d,c⟩
theorem dY.arr {b:Nat} (d:b∈abs) (o:Option iG):dY r vv abs vo vo H (upd H b o):=fun g i f _ _ a c=>⟨by rw[cG _ _ (fun e=>a (by rw[e];exact d))];exact f,c⟩
theorem fQ.setV {b:Nat} (h:fQ p cx r (.osl 1 b st.vars.length) abs st vo en H) (i:Nat) (v:Int) (k:dQ v):fQ p cx r (.osl 1 b st.vars.length) abs {st with vars:=st.vars.set i v} vo en (upd H b (some (.rows 1 ((st.vars.map gI).set i [.int .u32 v])))):=by
 have d:H b=some (.rows 1 (st.vars.map gI)):=by
  rcases h.v with⟨e,_⟩|⟨c,e,d⟩
  ·cases e
  simp only[AV.osl.injEq]at e;obtain⟨_,rfl,_⟩:=e;exact d
 have n:r≠b:=fun e=>h.nr d e.symm;refine⟨?_, ?_,h.al,fun i c l g j=>?_,h.nd,h.va,h.o.off (h.ov _ _ _ rfl) _,h.ov,h.oa,fun x f=>?_,h.ua,h.ub,h.rd,h.tk⟩
 ·rw[cG _ _ n];exact h.r
 ·exact .inr ⟨b,by simp,by rw[bO,rE]⟩
 ·rw[cG _ _ (fun e=>h.va c (aW g) _ _ (by rw[e]))];exact h.a i c l g j
 rcases pR f with f|rfl
 ·exact h.uv x f
 exact k
theorem fQ.setA (h:fQ p cx r vv abs st vo en H) {i:Nat} {b:Nat} {l:List Int} (g:abs[i]?=some b) (A:st.arrs[i]?=some l) (j:Nat) (v:Int) (E:dQ v):fQ p cx r vv abs {st with arrs:=st.arrs.modify i fun l=>l.set j v} vo en (upd H b (some (.rows 1 ((l.map gI).set j [.int .u32 v])))):=by
 have B:=aW g;have F:r≠b:=fun e=>h.nr (h.a i b l g A) e.symm;refine⟨?_,h.v.off (h.va b B) _,by simp only[List.length_modify];exact h.al,fun d z n t c=>?_,h.nd,h.va,h.o.off (h.oa b B) _,h.ov,h.oa,h.uv,fun n C=>?_,h.ub,h.rd,h.tk⟩
 ·rw[cG _ _ F]
  simp only;rw[wW abs st.arrs i _ (fun l=>by simp)];exact h.r
 ·simp only[Vf]at c
  by_cases u:i=d
  ·subst u
   rw[g]at t;cases t;rw[A]at c;have c:l.set j v=n:=by simpa using c
   subst c;rw[bO,rE]
  have c:st.arrs[d]?=some n:=by simpa [aO u]using c
  have :z≠b:=fun e=>by
   subst e;exact u ((List.getElem?_inj (bD.1 g).1 h.nd).1 (g.trans t.symm))
  rw[cG _ _ this];exact h.a d z n t c
 obtain⟨d,k⟩:=gO C;rw[Vf]at k
 obtain⟨f,D,rfl⟩: ∃f,st.arrs[d]?=some f∧(if i=d then f.set j v else f)=n:=by
  cases hq:st.arrs[d]? with
  |none=>rw[hq]at k;simp at k
  |some f=>rw[hq]at k;exact⟨f,rfl,by simpa using k⟩
 have:=h.ua f (aW D);split
 ·refine⟨by simpa using this.1,fun x y=>?_⟩
  rcases pR y with y|rfl
  ·exact this.2 x y
  exact E
 exact this
theorem fQ.put {v':AV} (h:fQ p cx r vv abs st vo en H) {c:UInt8} (A:st.out.length<65536) (B:dZ 1 v' (st.out.map rJ++[rJ c]) H')
  (u: ∀b o,H b=some o→vo≠ .osl 1 b (st.out.map rJ).length→H' b=some o) (j: ∀b,off vo b→H b≠none→off v' b):
  fQ p cx r vv abs {st with out:=st.out++[c]} v' en (upd H' r (some (.rows 11 [[.isl 1 (p.vars.map bT), .isl 2 (p.arrs.map Ar.row), .isl 5 (p.funs.map Fu.row), .str cx.inp, .int .i64 cx.fuel,vv, .isl 1 (fR abs st.arrs),v', .int .i64 st.read, .int .i64 st.ticks, .int .i64 en]])))∧
  dY r vv abs vo v' H (upd H' r (some (.rows 11 [[.isl 1 (p.vars.map bT), .isl 2 (p.arrs.map Ar.row), .isl 5 (p.funs.map Fu.row), .str cx.inp, .int .i64 cx.fuel,vv, .isl 1 (fR abs st.arrs),v', .int .i64 st.read, .int .i64 st.ticks, .int .i64 en]]))):=by
 have C:off vo r:=h.o.offsz h.r (by decide);have G:off vv r:=h.v.offsz h.r (by decide);have D:off v' r:=j r C (by rw[h.r];exact bY _)
 have E: ∀s b n,vv= .osl s b n→H b=some (.rows 1 (st.vars.map gI)):=fun s b n e=>by
  rcases h.v with⟨t,_⟩|⟨k,t,d⟩
  ·rw[t]at e;cases e
  rw[t]at e;cases e;exact d
 refine⟨⟨bO _ _ _, ?_,h.al,fun i k l f y=>?_,h.nd,h.va, ?_,fun s b n e=>j b (h.ov s b n e) (by rw[E s b n e];exact bY _),fun b d=>j b (h.oa b d) (by obtain⟨l,A⟩:=h.abs_some d;rw[A];exact bY _),h.uv,h.ua, ?_,h.rd,h.tk⟩,fun b o d f y F z=>⟨?_,j b z (by rw[d];exact bY _)⟩⟩
 ·rcases h.v with g|⟨b,e,d⟩
  ·exact .inl g
  exact .inr ⟨b,e,by rw[cG _ _ (h.nr d)];exact u _ _ d (h.ov _ _ _ e _ _)⟩
 ·have d:=h.a i k l f y
  rw[cG _ _ (h.nr d)];exact u _ _ d (h.oa k (aW f) _ _)
 ·rw[cP]
  exact B.off D _
 ·simp only[aB,bW];omega
 rw[cG _ _ f];exact u _ _ d (z _ _)
theorem iH.osl (h:iH vv abs vo wv ow H) {i:Nat} {y:Int} (c:ow[i]?=some y): ∃b,wv= .osl 1 b ow.length∧H b=some (.rows 1 (ow.map gI)):=by
 rcases h.h with⟨_,e⟩|⟨b,e,a⟩
 ·have:=congrArg List.length e
  have:=(bD.1 c).1;simp only[aF,aT]at *;omega
 exact⟨b,by rw[e,aF],a⟩
theorem fQ.osl (h:fQ p cx r vv abs st vo en H) {i:Nat} {y:Int} (c:st.vars[i]?=some y): ∃b,vv= .osl 1 b st.vars.length∧H b=some (.rows 1 (st.vars.map gI)):=by
 rcases h.v with⟨_,e⟩|⟨b,e,a⟩
 ·have:=congrArg List.length e
  have:=(bD.1 c).1;simp only[aF,aT]at *;omega
 exact⟨b,by rw[e,aF],a⟩
end
def nC {α:Type}:Rz α→Int| .val _ _=>0| .fin e _=>e
def vJ {α:Type} (en:Int) (st:RS) (f:Option (Rz α)) (o:Rz α):Prop:=(en=0∧f=some o)∨(en≠0∧o= .fin en st)
def Xn (p:Pg) (cx:Cx) (r:Nat) (vv:AV) (abs:List Nat) (vo:AV) (H:Hp) (o:Rz Int):sJ→Hp→Prop:=fun ae H'=>
 ∃w vo',ae= .ret (.int .u32 w)∧dQ w∧(∀v s,o= .val v s→w=v)∧(∀e s,o= .fin e s→e≠0)∧fQ p cx r vv abs o.st vo' (nC o) H'∧dY r vv abs vo vo' H H'
def tK (p:Pg) (cx:Cx) (r:Nat) (vv:AV) (abs:List Nat) (vo:AV) (x i:Nat) (wv:AV) (n:Nat) (H:Hp) (o:Rz (Option Int×List Int)):sJ→Hp→Prop:=fun ae H'=>
 ∃ow bk vl vo',ae= .ret (.tup [])∧ow.length=n∧(∀y∈ow,dQ y)∧dQ vl∧(bk=false→vl=0)∧(∀q s,o= .val q s→ow=q.2∧bk=q.1.isSome∧vl=q.1.getD 0)∧(∀e s,o= .fin e s→e≠0)∧H' x=some (.rows 4 [[.int .i64 i,wv, .bool bk, .int .u32 vl]])∧iH vv abs vo' wv ow H'∧fQ p cx r vv abs o.st vo' (nC o) H'∧kP r vv abs vo vo' x wv H H'
theorem sQ {b:Type} {o:Rz b} (a: ∀e s,o= .fin e s→e≠0) (h:nC o=0): ∃v s,o= .val v s:=by
 cases o with
 |val v s=>exact⟨v,s,rfl⟩
 |fin e s=>exact absurd h (a e s rfl)
theorem sR {a:Type} {o:Rz a} (h: ¬nC o=0): ∃e s,o= .fin e s:=by
 cases o with
 |val v s=>exact absurd rfl h
 |fin e s=>exact⟨e,s,rfl⟩
theorem RD {d g i:Type} {a:Rz d} {f:RS→Option (Rz g)} {K:d→g→RS→Option (Rz i)} {o:Rz i} (j: ∀e s,a= .fin e s→e≠0) (h:bindR (some a) (fun x s=>bindR (f s) (K x))=some o):
  ∃b,vJ (nC a) a.st (f a.st) b∧((∃x c,a= .val x c∧f c=some b∧bindR (some b) (K x)=some o)∨(∃e s,a= .fin e s∧b= .fin e s∧o= .fin e s)):=by
 cases a with
 |fin e s=>exact⟨.fin e s, .inr ⟨j e s rfl,rfl⟩, .inr ⟨e,s,rfl,rfl,(Option.some.inj (show some (Rz.fin e s)=some o from h)).symm⟩⟩
 |val x s=>
  simp only[bindR]at h
  cases h2:f s with
  |none=>rw[h2]at h;cases h
  |some b=>rw[h2]at h;exact⟨b, .inl ⟨rfl,h2⟩, .inl ⟨x,s,rfl,h2,h⟩⟩
theorem fY {a:Ex}: ∀{l:List Ex},a∈l→(∀u∈pI a,u∈fO l)∧ ∀u∈fO a.kids,u∈fO l
 |x::l,h=>by
  rw[jN];rcases bJ.1 h with rfl|h
  ·exact⟨fun u b=>by simp [b],fun u b=>by simp [b]⟩
  have:=fY h;exact⟨fun u b=>by simp [this.1 u b],fun u b=>by simp [this.2 u b]⟩
theorem Oj {a:Sm}: ∀{l:List Sm},a∈l→(∀u∈nD a,u∈eN l)∧(∀u∈fO a.es,u∈eN l)∧(∀u∈eN a.thn,u∈eN l)∧ ∀u∈eN a.els,u∈eN l
 |x::l,h=>by
  rw[jA];rcases bJ.1 h with rfl|h
  ·exact⟨fun u b=>by simp [b],fun u b=>by simp [b],fun u b=>by simp [b],fun u b=>by simp [b]⟩
  have:=Oj h;exact⟨fun u b=>by simp [this.1 u b],fun u b=>by simp [this.2.1 u b],fun u b=>by simp [this.2.2.1 u b],fun u b=>by simp [this.2.2.2 u b]⟩
section
variable {p : Pg} {cx : Cx} {r : Nat} {vv vo wv wv' : AV} {abs : List Nat} {st : RS} {en : Int} {ow : List Int} {ys : List (List AV)} {H H' : Hp}
theorem fQ.grow (h:fQ p cx r vv abs st vo en H) (c:iH vv abs vo wv ow H) (f: ∀b o,H b=some o→wv≠ .osl 1 b (ow.map gI).length→H' b=some o):fQ p cx r vv abs st vo en H':=by
 have own: ∀{v:AV} {rows:List (List AV)},dZ 1 v rows H→(∀s b n,v= .osl s b n→Al.off wv b)→dZ 1 v rows H':=fun h u=>by
  rcases h with g|⟨b,e,t⟩
  ·exact .inl g
  exact .inr ⟨b,e,f b _ t (u _ _ _ e _ _)⟩
 refine {h with r:=f _ _ h.r (c.h.offsz h.r (by decide) _ _),v:=own h.v fun s b n e y x d=>c.nv _ _ _ d _ _ e,a:=fun i b l j k=>f _ _ (h.a i b l j k) fun e=>c.na _ _ _ e (aW j),o:=own h.o fun s b n e y x d=>c.nf _ _ _ d _ _ e}
theorem iH.grow (f:iH vv abs vo wv ow H) (h:fQ p cx r vv abs st vo en H) {x:Int} (u:dZ 1 wv' (ow.map gI++[[.int .u32 x]]) H') (d: ∀b,Al.off wv b→H b≠none→Al.off wv' b):iH vv abs vo wv' (ow++[x]) H':=by
 have k: ∀{v:AV} {rows:List (List AV)} {s b n:Nat},dZ 1 v rows H→v= .osl s b n→H b≠none:=fun h e=>h.there _ _ _ e;refine⟨by rw[cP];exact u,fun s b n e z y a=>?_,fun s b n e g=>?_,fun s b n e z y a=>?_⟩
 ·exact d b (fun j i c=>f.nv _ _ _ c _ _ a) (k h.v a) _ _ e
 ·obtain⟨l,t⟩:=h.abs_some g
  exact d b (fun j i c=>f.na _ _ _ c g) (by rw[t];exact bY _) _ _ e
 exact d b (fun j i c=>f.nf _ _ _ c _ _ a) (k h.o a) _ _ e
theorem iH.nil:iH vv abs vo .nsl [] H:=⟨.inl ⟨rfl,rfl⟩,(fun _ _ _ e=>by cases e),(fun _ _ _ e=>by cases e),(fun _ _ _ e=>by cases e)⟩
theorem iH.other {a:AV} {c:List Int} (h:iH vv abs vo a c H) (d: ∀s b n,a= .osl s b n→Al.off wv b) (i: ∀b o,H b=some o→wv≠ .osl 1 b (ow.map gI).length→H' b=some o):iH vv abs vo a c H':=by
 refine {h with h:=?_};rcases h.h with g|⟨b,e,f⟩
 ·exact .inl g
 exact .inr ⟨b,e,i b _ f (d _ _ _ e _ _)⟩
end
end Go.Al
namespace Go.Proofs.YtaecpjgmcffliaaGreatDoor
open Go.Al Go.Proofs.Tryz
structure UJ (p:Pg) (i:Nat) (rs:dE→Bool×Int) (u:Us):Prop where
 f:eG dR 142 [p.av, .int .i64 i, .str u.name] (.tup [.int .i64 (eZ p i u.name).1, .int .i64 (eZ p i u.name).2])
 r:rs u.name=(decide ((eZ p i u.name).1=1),if(eZ p i u.name).1=0 then 0 else(eZ p i u.name).2)
 o:iQ p i u=true
 n:tL p i u=true
theorem UJ.k1 {p:Pg} {i:Nat} {b:dE→Bool×Int} {s:dE} {n:Int} (h:UJ p i b ⟨s,1,n⟩):((eZ p i s).1=1∧b s=(true,(eZ p i s).2))∨((eZ p i s).1=2∧b s=(false,(eZ p i s).2)):=by
 have a:=h.r;have c:=h.o;simp only[iQ,eI,vS,uB,eQ,pG,bH]at c;rcases c.1.1 with(h1|h1)|h1
 ·exact absurd trivial h1
 ·simp only[h1]at a;exact .inl ⟨h1,a⟩
 simp only[h1]at a;exact .inr ⟨h1,a⟩
theorem UJ.k3 {p:Pg} {i:Nat} {c:dE→Bool×Int} {s:dE} {n:Int} (h:UJ p i c ⟨s,3,n⟩):(eZ p i s).1=3∧c s=(false,(eZ p i s).2):=by
 have b:=h.r;have a:=h.o;simp only[iQ,eI,vS,uB,eQ,pG,bH]at a;rcases a.1.2 with h1|h1
 ·exact absurd trivial h1
 simp only[h1]at b;exact⟨h1,b⟩
theorem UJ.k4 {p:Pg} {i:Nat} {e:dE→Bool×Int} {s:dE} {n:Int} (h:UJ p i e ⟨s,4,n⟩):(eZ p i s).1=4∧e s=(false,(eZ p i s).2)∧ ∃g,p.funs[(eZ p i s).2.toNat]?=some g∧(g.params.length:Int)=n:=by
 have d:=h.r;have c:=h.o;have a:=h.n;simp only[iQ,eI,vS,uB,eQ,pG,bH]at c;rcases c.2 with b|⟨b,_⟩
 ·exact absurd trivial b
 simp only[b]at d;refine⟨b,d, ?_⟩;simp only[tL,rZ,Rq,PE]at a
 cases hg:p.funs[(eZ p i s).2.toNat]? with
 |none=>rw[hg]at a;cases a
 |some g=>rw[hg]at a;exact⟨g,rfl,aD a⟩
theorem mR {F:Nat→Prop} {c:List (Option Nat)} {Q:fF} {d:Option Nat} {f:List Oper} {fr:Fr} {H:Hp} {g:FuncId} {a:List AV} {p:Pg} {cx:Cx} {r:Nat} {vv:AV} {abs:List Nat} {vo:AV} {o:Rz Int}
  (y:pP dR g a H (Xn p cx r vv abs vo H o)) (u: ∀b,F b)
  (h: ∀w vo' H',dQ w→(∀v s,o= .val v s→w=v)→(∀e s,o= .fin e s→e≠0)→fQ p cx r vv abs o.st vo' (nC o) H'→dY r vv abs vo vo' H H'→eC dR F c Q f (fH fr d (.int .u32 w)) H'):pC dR F c Q d f fr H g a:=by
 refine jS y u fun z H' ⟨w,vo',i,j,k,l,n,t⟩=>?_;subst i;exact h w vo' H' j k l n t
theorem La {F:Nat→Prop} {j:List (Option Nat)} {Q:fF} {d:Option Nat} {k:List Oper} {fr:Fr} {H:Hp} {g:FuncId} {f:List AV} {p:Pg} {cx:Cx} {r:Nat} {vv:AV} {abs:List Nat} {vo:AV} {x i:Nat} {wv:AV} {n:Nat} {o:Rz (Option Int×List Int)}
  (J:pP dR g f H (tK p cx r vv abs vo x i wv n H o)) (I: ∀b,F b)
  (h: ∀ow c a vo' H',ow.length=n→(∀y∈ow,dQ y)→dQ a→(c=false→a=0)→(∀q s,o= .val q s→ow=q.2∧c=q.1.isSome∧a=q.1.getD 0)→(∀e s,o= .fin e s→e≠0)→H' x=some (.rows 4 [[.int .i64 i,wv, .bool c, .int .u32 a]])→iH vv abs vo' wv ow H'→fQ p cx r vv abs o.st vo' (nC o) H'→kP r vv abs vo vo' x wv H H'→eC dR F j Q k (fH fr d (.tup [])) H'):pC dR F j Q d k fr H g f:=by
 refine jS J I fun K H' ⟨ow,c,a,vo',l,v,z,A,B,C,D,E,G,t,u⟩=>?_;subst l;exact h ow c a vo' H' v z A B C D E G t u
theorem Dn {F:Nat→Prop} {f:List (Option Nat)} {Q:fF} {d:Option Nat} {i:List Oper} {fr:Fr} {H:Hp} {g:FuncId} {c:List AV} {p:Pg} {cx:Cx} {r:Nat} {vv:AV} {abs:List Nat} {vo:AV} {o:Rz Unit}
  (u:pP dR g c H (fun a H'=>a= .ret (.tup [])∧(∀e s,o= .fin e s→e≠0)∧fQ p cx r vv abs o.st vo (nC o) H'∧dY r vv abs vo vo H H')) (t: ∀b,F b)
  (h: ∀H',(∀e s,o= .fin e s→e≠0)→fQ p cx r vv abs o.st vo (nC o) H'→dY r vv abs vo vo H H'→eC dR F f Q i (fH fr d (.tup [])) H'):pC dR F f Q d i fr H g c:=by
 refine jS u t fun a H' ⟨j,k,l,n⟩=>?_;subst j;exact h H' k l n
theorem V6 (b:Bool):eG dR 197 [.bool b] (.int .u32 (if b=true then 1 else 0)):=by
 cases b
 ·skip
  refine bU 4 [.tmp 2] func197 ?_;refine aA fun K a=>?_;simp only[RR,seval];refine a _ _ (aH (aA fun K a=>?_));simp only[RR,seval];refine a _ _ (bK ?_);refine aL ?_;simp only[RR];refine aA fun K a=>?_;simp only[RR,seval];apply a;refine aP ?_;simp only[aY,aK,bP,RR,seval];refine bB.pure ?_;rfl
 skip;refine bU 4 [.tmp 2] func197 ?_;refine aA fun K a=>?_;simp only[RR,seval];refine a _ _ (aH (aA fun K a=>?_));simp only[RR,seval];refine a _ _ (cM (aA fun K a=>?_));simp only[RR,seval];apply a;refine aP ?_;simp only[aY,aK,bP,RR,seval];refine bB.pure ?_;rfl
structure Bi (p:Pg) (cx:Cx) (r:Nat) (vv:AV) (abs:List Nat) (n:Nat):Prop where
 V: ∀(i:Nat) (rs:dE→Bool×Int) (ow:List Int) (e:Ex) (st:RS) (vo:AV) (en:Int) (H:Hp) (x:Nat) (wv:AV) (bk:Bool) (vl:Int) (o:Rz Int),e.ok→(∀u∈pI e,UJ p i rs u)→(∀u∈fO e.kids,UJ p i rs u)→fQ p cx r vv abs st vo en H→iH vv abs vo wv ow H→(∀y∈ow,dQ y)→H x=some (.rows 4 [[.int .i64 i,wv, .bool bk, .int .u32 vl]])→vJ en st (jZ cx n rs ow e st) o→
  pP dR 153 [.ptr 11 r 0 0, .ptr 4 x 0 0, .agg e.row] H (Xn p cx r vv abs vo H o)
 C: ∀(i:Nat) (rs:dE→Bool×Int) (ow:List Int) (s:dE) (l:List Ex) (st:RS) (vo:AV) (H:Hp) (x:Nat) (wv:AV) (bk:Bool) (vl:Int) (o:Rz Int),By l→UJ p i rs ⟨s,4,l.length⟩→(∀u∈fO l,UJ p i rs u)→fQ p cx r vv abs st vo 0 H→iH vv abs vo wv ow H→(∀y∈ow,dQ y)→H x=some (.rows 4 [[.int .i64 i,wv, .bool bk, .int .u32 vl]])→Gi cx n rs ow (rs s).2 l st=some o→
  pP dR 155 [.ptr 11 r 0 0, .ptr 4 x 0 0, .str s, .isl 5 (l.map Ex.row)] H (Xn p cx r vv abs vo H o)
 S: ∀(i:Nat) (rs:dE→Bool×Int) (ow:List Int) (e:Sm) (st:RS) (vo:AV) (H:Hp) (x:Nat) (wv:AV) (o:Rz (Option Int×List Int)),e.ok→(∀u∈nD e,UJ p i rs u)→(∀u∈fO e.es,UJ p i rs u)→(∀u∈eN e.thn,UJ p i rs u)→(∀u∈eN e.els,UJ p i rs u)→fQ p cx r vv abs st vo 0 H→iH vv abs vo wv ow H→(∀y∈ow,dQ y)→H x=some (.rows 4 [[.int .i64 i,wv, .bool false, .int .u32 0]])→oW cx n rs ow e st=some o→
  pP dR 104 [.ptr 11 r 0 0, .ptr 4 x 0 0, .agg e.row] H (tK p cx r vv abs vo x i wv ow.length H o)
 L: ∀(i:Nat) (rs:dE→Bool×Int) (ow:List Int) (l:List Sm) (st:RS) (vo:AV) (en:Int) (H:Hp) (x:Nat) (wv:AV) (bk:Bool) (vl:Int) (o:Rz (Option Int×List Int)),zG l→(∀u∈eN l,UJ p i rs u)→fQ p cx r vv abs st vo en H→iH vv abs vo wv ow H→(∀y∈ow,dQ y)→H x=some (.rows 4 [[.int .i64 i,wv, .bool bk, .int .u32 vl]])→dQ vl→(bk=false→vl=0)→(en=0→bk=false)→vJ en st (nK cx n rs ow l st) o→
  pP dR 67 [.ptr 11 r 0 0, .ptr 4 x 0 0, .isl 5 (l.map Sm.row)] H (tK p cx r vv abs vo x i wv ow.length H o)
section
variable {p : Pg} {cx : Cx} {r : Nat} {vv : AV} {abs : List Nat} {st : RS} {vo : AV} {H : Hp}
theorem Da (j:PD cx) (a:fQ p cx r vv abs st vo 0 H):pP dR 154 [.ptr 11 r 0 0] H (fun g H'=>g= .ret (.tup [])∧(∀e s,lP cx st= .fin e s→e≠0)∧fQ p cx r vv abs (lP cx st).st vo (nC (lP cx st)) H'∧dY r vv abs vo vo H H'):=by
 have c:=a.r;by_cases f:cx.fuel≤st.ticks
 ·have d:(cx.fuel:Int)≤(st.ticks:Int):=by omega
  have e:lP cx st= .fin 5 st:=by unfold lP;rw[bF f]
  rw[e];refine bU 21 [] func154 ?_;refine aH (aG fun K b=>?_);refine bA (fun x=>x≠r) [(0,3),(1,3),(2,3),(3,1),(4,3),(5,3),(6,3),(7,1),(8,3)] [] eB (by kernel_rfl) rfl rfl ?_;simp only[dI,c,d,RR,seval];refine b _ _ (cM (aA fun K b=>?_));simp only[c,RR,seval];apply b;refine aP ?_;simp only[aY,aK,bP,RR,seval];exact bB.run ⟨rfl,(fun e s h=>by cases h;decide),a.turn 5 rfl rfl rfl a.rd a.tk,dY.run _⟩
 have d: ¬(cx.fuel:Int)≤(st.ticks:Int):=by omega
 have e:lP cx st= .val () {st with ticks:=st.ticks+1}:=by unfold lP;rw[aO f]
 rw[e];have k:=j.fuel;have i:IntKind.wrap .i64 ((st.ticks:Int)+1)=((st.ticks+1:Nat):Int):=by rw[aU _ (by omega)];omega
 refine bU 21 [] func154 ?_;refine aH (aG fun K b=>?_);refine bA (fun x=>x≠r) [(0,3),(1,3),(2,3),(3,1),(4,3),(5,3),(6,3),(7,1),(8,3)] [] eB (by kernel_rfl) rfl rfl ?_;simp only[dI,c,d,RR,seval];refine b _ _ (bK ?_);refine aL ?_;simp only[RR];refine aM ?_;simp only[c,i,RR,seval];simp only[aY,aK,bP,seval];exact bB.run ⟨rfl,(fun e s h=>by cases h),a.turn (st':={st with ticks:=st.ticks+1}) 0 rfl rfl rfl a.rd (by show st.ticks+1≤_;omega),dY.run _⟩
end
structure BS (p:Pg) (cx:Cx):Prop where
 funs:cx.funs=p.funs.map (Gz (kI p))
 cx:PD cx
 uses: ∀(j:Nat) g,p.funs[j]?=some g→ ∀u∈eN g.body,UJ p j (Ij (kI p) (Gv g)) u
 f:p.funs.length≤10000
section
variable {p : Pg} {cx : Cx} {r : Nat} {vv : AV} {abs : List Nat} {n : Nat}
theorem Df (ih:Bi p cx r vv abs n) (V:BS p cx) (j:Nat) (g:Fu) (N:p.funs[j]?=some g) (ws:List Int) (st:RS) (vo:AV) (H:Hp) (wv:AV) (x:Rz (Option Int×List Int)) (hR:fQ p cx r vv abs st vo 0 H) (hW:iH vv abs vo wv ws H) (hu: ∀y∈ws,dQ y) (hl:ws.length≤3000000) (c9:g.locs.length≤3000000) (h:nK cx n (Ij (kI p) (Gv g)) (ws++List.replicate g.locs.length 0) g.body st=some x):
  pP dR 39 [.ptr 11 r 0 0, .int .i64 j,wv] H (fun ae H'=> ∃w P,ae= .ret (.int .u32 w)∧dQ w∧(∀q s,x= .val q s→w=q.1.getD 0)∧(∀e s,x= .fin e s→e≠0)∧fQ p cx r vv abs x.st P (nC x) H'∧kP r vv abs vo P r wv H H'):=by
 have d:=hR.r;have a8:=tP N;have c6:=(bD.1 N).1
 have b3:zG g.body:=by
  have:=V.cx.body (Gz (kI p) g) (by rw[V.funs];exact lI.2 ⟨g,aW N,rfl⟩);exact this
 have c0:=V.uses j g N;obtain⟨Y,a0⟩: ∃X,X=H:=⟨_,rfl⟩;refine bU 46 [.tmp 6] func39 ?_;refine aA fun K a=>?_;simp only[RR,seval];refine a _ _ (aH (aA fun K a=>?_));simp only[RR,seval];refine a _ _ (bN fun F1 M1 c v=>?_);have i:=c 0;have f:=c 1;have z:=c 2;have A:=c 6;have B:=c 7;have C:=v r;simp only[d,RR,seval]at i f z A B C;have T:=funext v;have d:=C;refine aQ (eT [0,1,6] (g.locs.length) (fun k Z M=>Z 7= .int .i64 (k:Nat)∧ ∃t,Z 2=t∧iH vv abs vo t (ws++List.replicate k 0) M∧fQ p cx r vv abs st vo 0 M∧(∀b o,Y b=some o→Al.off wv b→M b=some o∧Al.off t b)) ⟨B,wv,z,(by rw[T,List.replicate_zero,eF];exact hW),(by rw[T];exact hR),(fun b o D E=>⟨by rw[T,←a0];exact D,E⟩)⟩ ?_);rintro k F2 M2 c7 ⟨fx,t,z,l,I,a7⟩ F K0 b2;have i:=(F 0 rfl).trans i;have f:=(F 1 rfl).trans f;have A:=(F 6 rfl).trans A;have B:=fx;clear fx;have b0:=bC.refl [0,1,6] F2;clear F;have d:=I.r;refine aH (aA fun K a=>?_);simp only[i,f,B,d,a8,aF,RR,seval];refine a _ _ (aX ?_ ?_)<;>intro U
 ·have b7:k<g.locs.length:=by have:=aD U;omega
  clear U;have b9:List.replicate (k+1) (0:Int)=List.replicate k 0++[0]:=List.replicate_succ';have c8:(ws++List.replicate k (0:Int)).length≤6000000:=by rw[aB,fG];omega
  refine aL ?_;simp only[RR];refine aH (aQ (aM ?_));simp only[z,RR,seval];refine dG ?_;simp only[RR,seval];refine jC l.h (by simp only[aF,aJ,aT];omega) (fun _ _=>trivial) fun v' H' b8 a9 a6=>?_;simp only[RR,seval];have a2:=I.grow l a9;have a4:=l.grow I b8 a6;have d:=a2.r;rw[bV,←b9]at a4
  have b5: ∀b o,Y b=some o→Al.off wv b→H' b=some o∧Al.off v' b:=fun b o D E=>by
   obtain⟨u,S⟩:=a7 b o D E;exact⟨a9 b _ u (S _ _),a6 b S (by rw[u];exact bY _)⟩
  refine aM ?_;simp only[B,RR,seval];rw[aU _ (by omega)];refine b2 _ _ b7 ⟨by rfl,v',rfl,a4,a2,b5⟩ (by repeat (first|exact b0|refine bC.upd rfl ?_))
 have b6:k=g.locs.length:=by have:=aE U;omega
 rw[b6]at l;have b4:=l.h.cells;have d0:=l.h.one1;refine cH ?_;simp only[RR,seval];refine aA fun K a=>?_;simp only[f,z,b4,bX,List.drop,RR,seval];refine aN fun Q O=>?_;have c2:=cR O d;have c3:=c2.symm;simp only[RR,seval];refine a _ _ (bN fun F3 M3 c v=>?_);have g0:=c 0;have u:=c 1;have G:=c 6;have R:=c 8;have C:=v r;have J:=v Q;simp only[i,f,A,d,c3,RR,seval]at g0 u G R C J;have a1:=funext v;have i:=g0;have f:=u;have A:=G;have d:=C;have a3:=(I.new O (some (.rows 4 [[.int .i64 j,t, .bool false, .int .u32 0]])));have a5:=(l.new O (some (.rows 4 [[.int .i64 j,t, .bool false, .int .u32 0]])));rw[←a1]at a3 a5
 have c1: ∀y∈ws++List.replicate g.locs.length 0,dQ y:=fun y hy=>by
  rcases eV.1 hy with hy|hy
  ·exact hu y hy
  rw[(Bl.1 hy).2];simp [dQ]
 have hL:=ih.L j (Ij (kI p) (Gv g)) (ws++List.replicate g.locs.length 0) g.body st vo 0 M3 Q t false 0 x b3 c0 a3 a5 c1 J (by simp [dQ]) (fun _=>rfl) (fun _=>rfl) (.inl ⟨rfl,h⟩);refine aA fun K a=>?_;simp only[i,f,R,d,a8,bX,List.drop,RR,seval];refine La hL (fun _=>trivial) fun d1 c5 c4 P H' u S g3 g4 g5 G g7 g8 g9 b1=>?_;have J:=g7;simp only[RR,seval];refine a _ _ (aA fun K a=>?_);simp only[R,J,bX,List.drop,RR,seval];apply a;refine aP ?_;simp only[aY,aK,bP,RR,seval];refine bB.run ⟨c4,P,rfl,g3,(fun q s e=>(g5 q s e).2.2),G,g9,fun b o hb D E h3 h4 _ h5=>?_⟩;rw[←a0]at hb;obtain⟨W,q2⟩:=a7 b o hb h5;have q3:b≠Q:=fun e=>by rw[e,O]at W;cases W
 exact b1 b o (by rw[a1,cG _ _ q3];exact W) D E h3 h4 q3 q2
end
section
variable {p : Pg} {cx : Cx} {r : Nat} {vv : AV} {abs : List Nat} {n : Nat}
theorem G2 (ih:Bi p cx r vv abs n) (hj:BS p cx) (i:Nat) (G:dE→Bool×Int) (ow:List Int) (s:dE) (l:List Ex) (st:RS) (vo:AV) (H:Hp) (x:Nat) (wv:AV) (bk:Bool) (vl:Int) (o:Rz Int) (hl:By l) (hU:UJ p i G ⟨s,4,l.length⟩) (d: ∀u∈fO l,UJ p i G u) (hR:fQ p cx r vv abs st vo 0 H) (hW:iH vv abs vo wv ow H) (hu: ∀y∈ow,dQ y) (hx:H x=some (.rows 4 [[.int .i64 i,wv, .bool bk, .int .u32 vl]])) (h:Gi cx (n+1) G ow (G s).2 l st=some o):
  pP dR 155 [.ptr 11 r 0 0, .ptr 4 x 0 0, .str s, .isl 5 (l.map Ex.row)] H (Xn p cx r vv abs vo H o):=by
 have W:=hR.r;have e8:=hl.fit;simp only[eY]at e8;have f9:x≠r:=fun e=>by rw[e,W]at hx;cases hx
 have h6:=f9.symm;have f6:p.av= .agg [.isl 1 (p.vars.map bT), .isl 2 (p.arrs.map Ar.row), .isl 5 (p.funs.map Fu.row)]:=rfl;have hF:=hU.f;rw[f6]at hF;simp only at hF;obtain⟨Q,I,g,hg,g8⟩:=hU.k4;generalize eZ p i s=fi at hF Q I hg;obtain⟨kk,ii⟩:=fi;simp only at hF Q I hg;subst Q;rw[I]at h;simp only[Gi]at h;by_cases z0:ii<0
 ·rw[bF z0]at h;cases h
 rw[aO z0]at h;obtain⟨j,rfl⟩:=iY (show 0≤ii by omega);rw[cA]at h hg;have d1:cx.funs[j]?=some (Gz (kI p) g):=by rw[hj.funs,cT,hg];rfl
 rw[d1]at h;simp only at h;have d4:(Gz (kI p) g).words=g.params.length+g.locs.length:=rfl;have P:(Gz (kI p) g).res=Ij (kI p) (Gv g):=rfl;have d3:(Gz (kI p) g).body=g.body:=rfl;have h5:=hj.cx.words (Gz (kI p) g) (aW d1);have d5:g.params.length=l.length:=by omega
 by_cases hw:(Gz (kI p) g).words<l.length
 ·rw[bF hw]at h;cases h
 rw[aO hw]at h
 obtain⟨ra,hA,h⟩: ∃ra,wO cx n G ow l st=some ra∧bindR (some ra) (fun vs s=>Po cx n (Gz (kI p) g) l.length vs s)=some o:=by
  cases hA:wO cx n G ow l st with
  |none=>rw[hA]at h;cases h
  |some ra=>rw[hA]at h;exact⟨ra,rfl,h⟩
 obtain⟨HX,a7⟩: ∃X,X=H:=⟨_,rfl⟩;generalize g7:Gz (kI p) g=f at *;refine bU 58 [.tmp 8] func155 ?_;refine aA fun K d=>?_;simp only[RR,seval];apply d;clear d K;refine aG fun K d=>?_;refine bA (fun x=>x≠r∧x≠x) [(0,3),(1,3),(2,3),(3,1),(4,3),(5,3),(6,3),(7,1),(8,3),(9,1),(10,3),(11,3),(12,3),(13,3),(14,3)] [] eB (by kernel_rfl) rfl rfl ?_;simp only[dI,W,hx,RR,seval];refine aI (hF) ?_;simp only[RR,seval];apply d;clear d K;refine aA fun K d=>?_;simp only[RR,seval];apply d;clear d K;refine aH ?_;refine aA fun K d=>?_;simp only[RR,seval];apply d;clear d K;refine bN fun F1 M1 P hH=>?_;have T:=P 0;have f1:=P 1;have f3:=P 3;have f8:=P 8;have a6:=P 10;have a4:=P 11;have a5:=P 12;have gr:=hH r;have gx:=hH x;simp only[W,hx,RR,seval]at T f1 f3 f8 a6 a4 a5 gr gx;have hM:=funext hH;have W:=gr;clear gr;have hx:=gx;clear gx;clear P hH;refine aQ ?_;refine eT [0,1,3,8,10] (l.length) (fun k fr M=>fr 12= .int .i64 (k:Nat)∧ ∃D L E wk vs,fr 11=wk∧vs.length=k∧(∀y∈vs,dQ y)∧iH vv abs L wk vs M∧fQ p cx r vv abs D L E M∧iH vv abs L wv ow M∧(∀s b n,wv= .osl s b n→Al.off wk b)∧M x=some (.rows 4 [[.int .i64 i,wv, .bool bk, .int .u32 vl]])∧(∀b o,HX b=some o→b≠r→Al.off vv b→b∉abs→Al.off vo b→M b=some o∧Al.off L b∧Al.off wk b)∧((E=0∧ ∃m Z,m≤n∧wO cx m G ow (l.drop k) D=some Z∧bindR (some Z) (fun b3 s=>Po cx n f l.length (vs++b3) s)=some o)∨(E≠0∧o= .fin E D))) ⟨a5,st,vo,0, .nsl,[],a4,rfl,(fun y hy=>by cases hy),iH.nil,(by rw[hM];exact hR),(by rw[hM];exact hW),(fun _ _ _ _ _ _ e=>by cases e),hx,(fun b o c _ _ _ t=>⟨by rw[hM,←a7];exact c,t,fun _ _ e=>by cases e⟩), .inl ⟨rfl,n,ra,aZ _,hA,by simpa using h⟩⟩ ?_;rintro k F2 M2 g9 ⟨fx,D,L,E,wk,vs,a4,d7,c4,a8,a0,c7,c9,hx,a2,a1⟩ a3 K0 e2;have T:=(a3 0 rfl).trans T;have f1:=(a3 1 rfl).trans f1;have f3:=(a3 3 rfl).trans f3;have f8:=(a3 8 rfl).trans f8;have a6:=(a3 10 rfl).trans a6;have a5:=fx;clear fx;have e0:=bC.refl [0,1,3,8,10] F2;clear a3;have W:=a0.r;clear h hA;refine aH ?_;refine aA fun K d=>?_;simp only[f3,a5,aF,RR,seval];apply d;clear d K;refine aX ?_ ?_<;>intro hc
 ·have c1:k<l.length:=by have:=aD hc;omega
  clear hc;have c0:=aC c1;have d2:l.drop k=l[k]::l.drop (k+1):=bM c1;generalize l[k]=a at c0 d2;have e9:=qO c0;rw[d2]at a1
  obtain⟨B,e7,f4⟩: ∃B,vJ E D (jZ cx n G ow a D) B∧ ∀w,(∀v s,B= .val v s→w=v)→(∀e s,B= .fin e s→e≠0)→((nC B=0∧ ∃m Z,m≤n∧wO cx m G ow (l.drop (k+1)) B.st=some Z∧bindR (some Z) (fun b3 s=>Po cx n f l.length ((vs++[w])++b3) s)=some o)∨(nC B≠0∧o= .fin (nC B) B.st)):=by
   rcases a1 with⟨he,m,Z,h0,C,hk⟩|⟨he,ho⟩
   rotate_left
   ·exact⟨.fin E D, .inr ⟨he,rfl⟩,fun _ _ _=> .inr ⟨he,ho⟩⟩
   obtain⟨Y,rfl⟩: ∃Y,m=Y+1:=by
    cases m with
    |zero=>simp [wO]at C
    |succ Y=>exact⟨Y,rfl⟩
   simp only[wO]at C
   obtain⟨B,c⟩: ∃B,jZ cx Y G ow a D=some B:=by
    cases c:jZ cx Y G ow a D with
    |none=>rw[c]at C;cases C
    |some B=>exact⟨B,rfl⟩
   rw[c]at C;refine⟨B, .inl ⟨he,Yn (by omega) c⟩,fun w c5 c2=>?_⟩
   cases B with
   |fin e s=>
    obtain rfl:=Option.some.inj (show some (Rz.fin e s)=some Z from C);exact .inr ⟨c2 _ _ rfl,(Option.some.inj (show some (Rz.fin e s)=some o from hk)).symm⟩
   |val x1 J=>
    obtain rfl:=c5 _ _ rfl;simp only[bindR]at C
    obtain⟨r',t⟩: ∃r',wO cx Y G ow (l.drop (k+1)) J=some r':=by
     cases t:wO cx Y G ow (l.drop (k+1)) J with
     |none=>rw[t]at C;cases C
     |some r'=>exact⟨r',rfl⟩
    rw[t]at C;refine .inl ⟨rfl,Y,r',by omega,t, ?_⟩
    cases r' with
    |fin e s=>
     obtain rfl:=Option.some.inj (show some (Rz.fin e s)=some Z from C);exact hk
    |val b3 s=>
     obtain rfl:=Option.some.inj (show some (Rz.val (w::b3) s)=some Z from C);simpa [bindR]using hk
  have b7:=aW c0;have hV:=ih.V i G ow a D L E M2 x wv bk vl B (hl.all _ b7) (fun u hu=>d u ((fY b7).1 u hu)) (fun u hu=>d u ((fY b7).2 u hu)) a0 c7 hu hx e7;rw[a.row_eq]at hV;refine aL ?_;simp only[RR];refine aH ?_;refine aQ ?_;refine aM ?_;simp only[T,f1,f3,a5,a4,e9,RR,seval];refine mR hV (fun _=>trivial) fun w d9 H1 uw c5 c2 U Q=>?_;have b4:=a8.keep a0 Q;have c8:=c7.keep a0 Q;have d8:=a0.keep hx (by decide) (by decide) Q;simp only[RR,seval];refine dG ?_;simp only[RR,seval];refine jC b4.h (by simp only[aF,aJ,aT];omega) (fun _ _=>trivial) fun v' H2 f5 b6 b9=>?_;simp only[RR,seval];have e4:=U.grow b4 b6;have e5:=b4.grow U f5 b9;have e3:=c8.other c9 b6;have f7:=b6 x _ d8 (b4.h.offsz d8 (by decide) _ _);have e6: ∀s b n,wv= .osl s b n→Al.off v' b:=fun s b n e=>b9 b (c9 s b n e) (c8.h.there _ _ _ e)
  have f2: ∀b o,HX b=some o→b≠r→Al.off vv b→b∉abs→Al.off vo b→H2 b=some o∧Al.off d9 b∧Al.off v' b:=fun b o O c t A N=>by
   obtain⟨R,S,q3⟩:=a2 b o O c t A N;obtain⟨q4,q5⟩:=Q b o R c t A S;exact⟨b6 b o q4 (q3 _ _),q5,b9 b q3 (by rw[q4];exact bY _)⟩
  refine aM ?_;simp only[a5,RR,seval];rw[aU _ (by omega)];refine e2 _ _ c1 ⟨by rfl,B.st,d9,nC B,v',vs++[w],rfl,(by simp [d7]),(fun y hy=>by rcases eV.1 hy with hy|hy;exact c4 y hy;rw[bE.1 hy];exact uw),e5,e4,e3,e6,f7,f2,f4 w c5 c2⟩ (by repeat (first|exact e0|refine bC.upd rfl ?_))
 have d6:k=l.length:=by have:=aE hc;omega
 clear hc;rw[d6,dF]at a1;rw[d6]at d7
 have a1:(E=0∧Po cx n f l.length vs D=some o)∨(E≠0∧o= .fin E D):=by
  rcases a1 with⟨he,m,Z,_,C,hk⟩|hc
  ·refine .inl ⟨he, ?_⟩
   cases m with
   |zero=>simp [wO]at C
   |succ Y=>
    simp only[wO,Option.some.injEq]at C;subst C;simpa [bindR]using hk
  exact .inr hc
 refine cH ?_;simp only[RR,seval];refine aH ?_;refine aA fun K d=>?_;simp only[T,W,RR,seval];apply d;clear d K;refine aX ?_ ?_<;>intro d0
 ·have b5:E=0:=by simpa using d0
  subst b5
  have I:Po cx n f l.length vs D=some o:=by
   rcases a1 with⟨_,h⟩|⟨h,_⟩
   ·exact h
   exact absurd rfl h
  have hT:=Da hj.cx a0;unfold Po at I;generalize g0:lP cx D=F at I hT
  have b0:(∃e s,F= .fin e s∧o= .fin e s)∨ ∃s z,F= .val () s∧nK cx n f.res (vs++List.replicate (f.words-l.length) 0) f.body s=some z∧bindR (some z) (fun r st=>some (Rz.val (r.1.getD 0) st))=some o:=by
   cases F with
   |fin e s=>exact .inl ⟨e,s,rfl,(Option.some.inj (show some (Rz.fin e s)=some o from I)).symm⟩
   |val q s=>
    simp only[bindR]at I
    cases hL:nK cx n f.res (vs++List.replicate (f.words-l.length) 0) f.body s with
    |none=>rw[hL]at I;cases I
    |some z=>rw[hL]at I;exact .inr ⟨s,z,rfl,hL,I⟩
  refine aM ?_;simp only[T,RR,seval];refine Dn hT (fun _=>trivial) fun H1 b1 U Q=>?_;have W:=U.r;have a8:=a8.keep a0 Q
  have a2: ∀b o,HX b=some o→b≠r→Al.off vv b→b∉abs→Al.off vo b→H1 b=some o∧Al.off L b∧Al.off wk b:=fun b o O c t A N=>by
   obtain⟨R,S,q3⟩:=a2 b o O c t A N;obtain⟨q4,q5⟩:=Q b o R c t A S;exact⟨q4,q5,q3⟩
  simp only[RR,seval];refine aH ?_;refine aA fun K d=>?_;simp only[T,W,RR,seval];apply d;clear d K;refine aX ?_ ?_<;>intro a9
  ·obtain⟨e1,J,rfl⟩:=sR (o:=F) (by simpa using a9)
   obtain ho:o= .fin e1 J:=by
    rcases b0 with⟨e,s,c,t⟩|⟨_,_,c,_⟩
    ·cases c;exact t
    cases c
   subst ho;refine aA fun K d=>?_;simp only[RR,seval];apply d;clear d K;refine aP ?_;simp only[aY,aK,bP,RR,seval];exact bB.run ⟨0,L,rfl,by simp [dQ],(fun _ _ e=>by cases e),(fun e s h=>by cases h;exact b1 _ _ rfl),U,fun b o O c t A N=>by obtain⟨R,S,_⟩:=a2 b o (by rw[a7];exact O) c t A N;exact⟨R,S⟩⟩
  obtain⟨_,J,rfl⟩:=sQ (o:=F) b1 (by simpa using a9)
  obtain⟨z,hL,b2⟩: ∃z,nK cx n f.res (vs++List.replicate (f.words-l.length) 0) f.body J=some z∧bindR (some z) (fun r st=>some (Rz.val (r.1.getD 0) st))=some o:=by
   rcases b0 with⟨e,s,c,t⟩|⟨s,z,c,t,A⟩
   ·cases c
   cases c;exact⟨z,t,A⟩
  rw[P,d3,d4,←d5,gY]at hL;have hB:=Df ih hj j g hg vs J L _ wk z U a8 c4 (by omega) (by omega) hL;refine aL ?_;simp only[RR];refine aA fun K d=>?_;simp only[T,a6,a4,RR,seval];refine jS hB (fun _=>trivial) fun ae H2 ⟨w,c6,g1,g2,g3,g4,g5,g6⟩=>?_;subst g1
  have b8:(∀v s,o= .val v s→w=v)∧(∀e s,o= .fin e s→e≠0)∧nC o=nC z∧o.st=z.st:=by
   cases z with
   |fin e s=>
    obtain rfl:=Option.some.inj (show some (Rz.fin e s)=some o from b2);exact⟨(fun _ _ e=>by cases e),(fun e' s' h=>by cases h;exact g4 _ _ rfl),rfl,rfl⟩
   |val q s=>
    obtain rfl:=Option.some.inj (show some (Rz.val (q.1.getD 0) s)=some o from b2);exact⟨(fun v s' h=>by cases h;exact g3 _ _ rfl),(fun _ _ e=>by cases e),rfl,rfl⟩
  obtain⟨R,S,q3,q4⟩:=b8;rw[←q3,←q4]at g5;simp only[RR,seval];apply d;clear d K;refine aP ?_;simp only[aY,aK,bP,RR,seval];refine bB.run ⟨w,c6,rfl,g2,R,S,g5,fun b o O c t A N=>?_⟩;obtain⟨p1,p2,p3⟩:=a2 b o (by rw[a7];exact O) c t A N;exact g6 b o p1 c t A p2 c p3
 have b5: ¬E=0:=by simpa using d0
 obtain⟨F,c3⟩: ∃F:Rz Unit,F= .fin E D:=⟨_,rfl⟩
 have b0:(∃e s,F= .fin e s∧o= .fin e s)∨ ∃s z,F= .val () s∧nK cx n f.res (vs++List.replicate (f.words-l.length) 0) f.body s=some z∧bindR (some z) (fun r st=>some (Rz.val (r.1.getD 0) st))=some o:=by
  rcases a1 with⟨h,_⟩|⟨_,h⟩
  ·exact absurd h b5
  exact .inl ⟨E,D,c3,h⟩
 have b1: ∀e s,F= .fin e s→e≠0:=fun e s h=>by rw[c3]at h;cases h;exact b5
 have U:fQ p cx r vv abs F.st L (nC F) M2:=by rw[c3];exact a0
 have W:=U.r;refine aL ?_;simp only[RR];refine aH ?_;refine aA fun K d=>?_;simp only[T,W,RR,seval];apply d;clear d K;refine aX ?_ ?_<;>intro a9
 ·obtain⟨e1,J,rfl⟩:=sR (o:=F) (by simpa using a9)
  obtain ho:o= .fin e1 J:=by
   rcases b0 with⟨e,s,c,t⟩|⟨_,_,c,_⟩
   ·cases c;exact t
   cases c
  subst ho;refine aA fun K d=>?_;simp only[RR,seval];apply d;clear d K;refine aP ?_;simp only[aY,aK,bP,RR,seval];exact bB.run ⟨0,L,rfl,by simp [dQ],(fun _ _ e=>by cases e),(fun e s h=>by cases h;exact b1 _ _ rfl),U,fun b o O c t A N=>by obtain⟨R,S,_⟩:=a2 b o (by rw[a7];exact O) c t A N;exact⟨R,S⟩⟩
 obtain⟨_,J,rfl⟩:=sQ (o:=F) b1 (by simpa using a9)
 obtain⟨z,hL,b2⟩: ∃z,nK cx n f.res (vs++List.replicate (f.words-l.length) 0) f.body J=some z∧bindR (some z) (fun r st=>some (Rz.val (r.1.getD 0) st))=some o:=by
  rcases b0 with⟨e,s,c,t⟩|⟨s,z,c,t,A⟩
  ·cases c
  cases c;exact⟨z,t,A⟩
 rw[P,d3,d4,←d5,gY]at hL;have hB:=Df ih hj j g hg vs J L _ wk z U a8 c4 (by omega) (by omega) hL;refine aL ?_;simp only[RR];refine aA fun K d=>?_;simp only[T,a6,a4,RR,seval];refine jS hB (fun _=>trivial) fun ae H2 ⟨w,c6,g1,g2,g3,g4,g5,g6⟩=>?_;subst g1
 have b8:(∀v s,o= .val v s→w=v)∧(∀e s,o= .fin e s→e≠0)∧nC o=nC z∧o.st=z.st:=by
  cases z with
  |fin e s=>
   obtain rfl:=Option.some.inj (show some (Rz.fin e s)=some o from b2);exact⟨(fun _ _ e=>by cases e),(fun e' s' h=>by cases h;exact g4 _ _ rfl),rfl,rfl⟩
  |val q s=>
   obtain rfl:=Option.some.inj (show some (Rz.val (q.1.getD 0) s)=some o from b2);exact⟨(fun v s' h=>by cases h;exact g3 _ _ rfl),(fun _ _ e=>by cases e),rfl,rfl⟩
 obtain⟨R,S,q3,q4⟩:=b8;rw[←q3,←q4]at g5;simp only[RR,seval];apply d;clear d K;refine aP ?_;simp only[aY,aK,bP,RR,seval];refine bB.run ⟨w,c6,rfl,g2,R,S,g5,fun b o O c t A N=>?_⟩;obtain⟨p1,p2,p3⟩:=a2 b o (by rw[a7];exact O) c t A N;exact g6 b o p1 c t A p2 c p3
end
section
variable {p : Pg} {cx : Cx} {r : Nat} {vv : AV} {abs : List Nat} {n : Nat}
theorem Ei {en:Int} (ih:en=0→Bi p cx r vv abs n) (i:Nat) (E:dE→Bool×Int) (ow:List Int) (l:List Sm) (st:RS) (vo:AV) (H:Hp) (x:Nat) (wv:AV) (O:Bool) (Z:Int) (o:Rz (Option Int×List Int)) (hl:zG l) (T: ∀u∈eN l,UJ p i E u) (hR:fQ p cx r vv abs st vo en H) (hW:iH vv abs vo wv ow H) (A: ∀y∈ow,dQ y) (C:H x=some (.rows 4 [[.int .i64 i,wv, .bool O, .int .u32 Z]])) (a5:dQ Z) (J:O=false→Z=0) (b0:en=0→O=false) (h:vJ en st (nK cx (n+1) E ow l st) o):
  pP dR 67 [.ptr 11 r 0 0, .ptr 4 x 0 0, .isl 5 (l.map Sm.row)] H (tK p cx r vv abs vo x i wv ow.length H o):=by
 have W:=hR.r;have c2:=hl.fit;simp only[eY]at c2;have c7:x≠r:=fun e=>by rw[e,W]at C;cases C
 have d2:=c7.symm;obtain⟨HX,a6⟩: ∃X,X=H:=⟨_,rfl⟩;obtain⟨w,hw⟩: ∃w,w=ow.length:=⟨_,rfl⟩;rw[←hw];refine bU 34 [] func67 ?_;refine aA fun K hK=>?_;simp only[RR,seval];refine hK _ _ (bN fun F1 M1 V hH=>?_);have f0:=V 0;have f1:=V 1;have f2:=V 2;have P:=V 6;have gr:=hH r;have gx:=hH x;simp only[W,C,RR,seval]at f0 f1 f2 P gr gx;have hM:=funext hH;have W:=gr;have C:=gx;refine aQ ?_;refine iP [0,1,2] (l.length) (fun m fr M=> ∃k z I j g B F,m+k=l.length∧fr 6= .int .i64 (k:Nat)∧g.length=w∧(∀y∈g,dQ y)∧dQ F∧(B=false→F=0)∧fQ p cx r vv abs z I j M∧iH vv abs I wv g M∧M x=some (.rows 4 [[.int .i64 i,wv, .bool B, .int .u32 F]])∧kP r vv abs vo I x wv HX M∧(¬en=0→ ¬j=0)∧((j=0∧B=false∧ ∃f,f≤n+1∧nK cx f E g (l.drop k) z=some o)∨(j=0∧B=true∧o= .val (some F,g) z)∨(j≠0∧o= .fin j z))) ⟨0,st,vo,en,ow,O,Z,rfl,P,hw.symm,A,a5,J,(by rw[hM];exact hR),(by rw[hM];exact hW),C,(by rw[hM,a6];exact(dY.refl _ _ _ _ _).w _ _),(fun h=>h),(by rcases h with⟨b,c⟩|⟨b,c⟩;exact .inl ⟨b,b0 b,n+1,aZ _,c⟩;exact .inr (.inr ⟨b,c⟩))⟩ ?_;rintro m F2 M2 ⟨k,z,I,j,g,B,F,d0,P,b4,b3,a5,J,R,a7,C,a3,U,a1⟩ N K0 b9;have f0:=(N 0 rfl).trans f0;have f1:=(N 1 rfl).trans f1;have f2:=(N 2 rfl).trans f2;have b7:=bC.refl [0,1,2] F2;clear N;have W:=R.r;clear h b0;have hen:j=0∨ ¬j=0:=by by_cases h:j=0;exact .inl h;exact .inr h
 have c6:(k:Int)<(l.length:Int)∨ ¬(k:Int)<(l.length:Int):=by omega
 rcases hen with hen|hen<;>rcases c6 with zk|zk<;>rcases Bool.eq_false_or_eq_true B with hbk|hbk
 all_goals
  refine aH (aA fun K hK=>?_);simp only[*,aF,zk,RR,seval]
  repeat' ((refine cL (fun h=>?_) (fun h=>?_))<;>simp only[*,aF,zk,RR,seval])
  all_goals
   refine hK _ _ (aX ?_ ?_)<;>intro L
   ·try (cases L;done)
    all_goals
     have c5:=L;clear L;have b2:k<l.length:=by omega
     have U:en=0:=by
      by_cases he:en=0
      ·exact he
      exact absurd hen (U he)
     have ih:=ih U
     have t: ∃f,f≤n+1∧nK cx f E g (l.drop k) z=some o:=by
      rcases a1 with⟨_,_,h⟩|⟨_,h,_⟩|⟨h,_⟩
      ·exact h
      ·rw[hbk]at h;cases h
      exact absurd hen h
     clear a1;have b5:=C;obtain⟨f,d1,t⟩:=t;rw[hbk,J hbk]at b5;have a8:=R;rw[hen]at a8;have a2:=aC b2;have b1:l.drop k=l[k]::l.drop (k+1):=bM b2;generalize l[k]=a at a2 b1;have c9:=Oa a2;rw[b1]at t
     obtain⟨D,rfl⟩: ∃D,f=D+1:=by
      cases f with
      |zero=>simp [nK]at t
      |succ D=>exact⟨D,rfl⟩
     simp only[nK]at t
     obtain⟨d,b⟩: ∃d,oW cx D E g a z=some d:=by
      cases b:oW cx D E g a z with
      |none=>rw[b]at t;cases t
      |some d=>exact⟨d,rfl⟩
     rw[b]at t;have a9:=aW a2;have Y:=Oj a9;have hS:=ih.S i E g a z I _ x wv d (hl.all _ a9) (fun u A=>T u (Y.1 u A)) (fun u A=>T u (Y.2.1 u A)) (fun u A=>T u (Y.2.2.1 u A)) (fun u A=>T u (Y.2.2.2 u A)) a8 a7 b3 b5 (KB (by omega) b);rw[b4,a.row_eq]at hS;refine aL ?_;simp only[RR];refine aH (aQ (aM ?_));simp only[*,RR,seval];refine La hS (fun _=>trivial) fun a4 a0 b6 c8 H1 g1 g2 g3 g4 g5 g6 g7 g8 g9 b8=>?_;have c3:=a3.trans b8
     have c0:(nC d=0∧a0=false∧ ∃f,f≤n+1∧nK cx f E a4 (l.drop (k+1)) d.st=some o)∨(nC d=0∧a0=true∧o= .val (some b6,a4) d.st)∨(nC d≠0∧o= .fin (nC d) d.st):=by
      cases d with
      |fin e s=>exact .inr (.inr ⟨g6 _ _ rfl,(Option.some.inj (show some (Rz.fin e s)=some o from t)).symm⟩)
      |val q s=>
       obtain⟨q1,q2⟩:=q;obtain⟨b,c,G⟩:=g5 _ _ rfl;simp only at b c G;subst b
       cases q1 with
       |none=>exact .inl ⟨rfl,c,D,by omega,t⟩
       |some v=>
        simp only[mK]at G;subst G;exact .inr (.inl ⟨rfl,c,(Option.some.inj t).symm⟩)
     have ek:IntKind.wrap .i64 ((k:Int)+1)=((k+1:Nat):Int):=by rw[aU _ (by omega)];omega
     simp only[RR,seval];refine aM ?_;simp only[P,ek,RR,seval];refine b9 (m- 1) _ _ (by omega) ⟨k+1,d.st,c8,nC d,a4,a0,b6,(by omega),rfl,g1,g2,g3,g4,g9,g8,g7,c3,(fun h=>absurd U h),c0⟩ (by repeat (first|exact b7|refine bC.upd rfl ?_))
   try (cases L;done)
   all_goals
    have c5:=L
    have c1:(∀q s,o= .val q s→g=q.2∧B=q.1.isSome∧F=q.1.getD 0)∧(∀e s,o= .fin e s→e≠0)∧o.st=z∧nC o=j:=by
     rcases a1 with⟨b,c,f,G,Q⟩|⟨b,c,G⟩|⟨b,c⟩
     ·obtain c4:k=l.length:=by first|omega|(exfalso;exact hen b)|(exfalso;rw[hbk]at c;cases c)
      rw[c4,dF]at Q
      cases f with
      |zero=>simp [nK]at Q
      |succ D=>
       simp only[nK,Option.some.injEq]at Q;subst Q;exact⟨(fun q s e=>by cases e;exact⟨rfl,c,J c⟩),(fun _ _ e=>by cases e),rfl,b.symm⟩
     ·subst G
      exact⟨(fun q s e=>by cases e;exact⟨rfl,c,rfl⟩),(fun _ _ e=>by cases e),rfl,b.symm⟩
     subst c;exact⟨(fun _ _ e=>by cases e),(fun _ _ e=>by cases e;exact b),rfl,rfl⟩
    obtain⟨e1,e2,e3,e4⟩:=c1;rw[←e3,←e4]at R;rw[a6]at a3;refine cH ?_;simp only[RR,seval];simp only[aY,aK,bP,seval];exact bB.run ⟨g,B,F,I,rfl,b4,b3,a5,J,e1,e2,C,a7,R,a3⟩
end
end Go.Proofs.YtaecpjgmcffliaaGreatDoor
