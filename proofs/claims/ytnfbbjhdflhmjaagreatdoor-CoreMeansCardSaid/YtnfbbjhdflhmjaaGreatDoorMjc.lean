/- Chapter 18: how the judge's run in the midst lies in memory. Chapter 18, the judge's: a tick; what is asked of its functions at a depth. -/
import Derived.Test.YtnfbbjhdflhmjaaGreatDoorGJa
import Derived.Test.YtnfbbjhdflhmjaaGreatDoorMx
set_option linter.unusedSimpArgs false
set_option linter.unusedVariables false
set_option maxRecDepth 10000
namespace Go.Al
structure dK (p:Pg) (cx:Cx) (r:Nat) (vv:AV) (abs:List Nat) (st:RS) (vo:AV) (en:Int) (H:Hp):Prop where
 r:H r=some (.rows 11 [[.isl 1 (p.vars.map bK), .isl 2 (p.arrs.map Ar.row), .isl 5 (p.funs.map Fu.row), .str cx.inp, .int .i64 cx.fuel,vv, .isl 1 (dL abs st.arrs),vo, .int .i64 st.read, .int .i64 st.ticks, .int .i64 en]])
 v:dS 1 vv (st.vars.map cZ) H
 al:abs.length=st.arrs.length
 a: ∀(i:Nat) b l,abs[i]?=some b→st.arrs[i]?=some l→H b=some (.rows 1 (l.map cZ))
 nd:abs.Nodup
 va: ∀b∈abs,off vv b
 o:dS 1 vo (st.out.map jX) H
 ov: ∀s b n,vv= .osl s b n→off vo b
 oa: ∀b∈abs,off vo b
 uv: ∀x∈st.vars,cC x
 ua: ∀l∈st.arrs,l.length≤4096∧ ∀x∈l,cC x
 ub:st.out.length≤65536
 rd:st.read≤cx.inp.length
 tk:st.ticks≤cx.fuel
def cM (r:Nat) (vv:AV) (abs:List Nat) (vo vo':AV) (H H':Hp):Prop:= ∀b o,H b=some o→b≠r→off vv b→b∉abs→off vo b→H' b=some o∧off vo' b
structure eO (vv:AV) (abs:List Nat) (vo:AV) (wv:AV) (ow:List Int) (H:Hp):Prop where
 h:dS 1 wv (ow.map cZ) H
 nv: ∀s b n,wv= .osl s b n→off vv b
 na: ∀s b n,wv= .osl s b n→b∉abs
 nf: ∀s b n,wv= .osl s b n→off vo b
def fO (r:Nat) (vv:AV) (abs:List Nat) (vo vo':AV) (x:Nat) (wv:AV) (H H':Hp):Prop:= ∀b o,H b=some o→b≠r→off vv b→b∉abs→off vo b→b≠x→off wv b→H' b=some o∧off vo' b
section
variable {p : Pg} {cx : Cx} {r : Nat} {vv vo vo' vo2 wv : AV} {abs : List Nat} {st : RS} {en : Int} {ow : List Int} {H H' H2 : Hp} {x : Nat}
theorem cM.refl (r:Nat) (vv:AV) (abs:List Nat) (vo:AV) (H:Hp):cM r vv abs vo vo H H:=fun _ _ h _ _ _ ho=>⟨h,ho⟩
theorem cM.trans (h:cM r vv abs vo vo' H H') (h':cM r vv abs vo' vo2 H' H2):cM r vv abs vo vo2 H H2:=fun b o hb h1 h2 h3 h4=>by
 obtain⟨g1,g2⟩:=h b o hb h1 h2 h3 h4;exact h' b o g1 h1 h2 h3 g2
theorem cM.w (h:cM r vv abs vo vo' H H') (x:Nat) (wv:AV):fO r vv abs vo vo' x wv H H':=fun b o hb h1 h2 h3 h4 _ _=>h b o hb h1 h2 h3 h4
theorem fO.trans (h:fO r vv abs vo vo' x wv H H') (h':fO r vv abs vo' vo2 x wv H' H2):fO r vv abs vo vo2 x wv H H2:=fun b o hb h1 h2 h3 h4 h5 h6=>by
 obtain⟨g1,g2⟩:=h b o hb h1 h2 h3 h4 h5 h6;exact h' b o g1 h1 h2 h3 g2 h5 h6
theorem fO.new {b:Nat} {o:Option eS} (hn:H b=none) (h:fO r vv abs vo vo' x wv (Al.upd H b o) H'):fO r vv abs vo vo' x wv H H':=fun b' o' hb h1 h2 h3 h4 h5 h6=>by
 have :b'≠b:=fun e=>by rw[e,hn]at hb;cases hb
 exact h b' o' (by rw[bY _ _ this];exact hb) h1 h2 h3 h4 h5 h6
theorem cM.new {b:Nat} {o:Option eS} (hn:H b=none) (h:cM r vv abs vo vo' (Al.upd H b o) H'):cM r vv abs vo vo' H H':=fun b' o' hb h1 h2 h3 h4=>by
 have :b'≠b:=fun e=>by rw[e,hn]at hb;cases hb
 exact h b' o' (by rw[bY _ _ this];exact hb) h1 h2 h3 h4
theorem cM.updN (h:cM r vv abs vo vo' H H') {b:Nat} (hb:H b=none) (o:Option eS):cM r vv abs vo vo' H (Al.upd H' b o):=fun b' o' hb' h1 h2 h3 h4=>by
 obtain⟨g1,g2⟩:=h b' o' hb' h1 h2 h3 h4;have :b'≠b:=fun e=>by rw[e,hb]at hb';cases hb'
 exact⟨by rw[bY _ _ this];exact g1,g2⟩
theorem dK.same (h:dK p cx r vv abs st vo en H) (he: ∀b,H' b=H b):dK p cx r vv abs st vo en H':=by
 have :H'=H:=funext he;rw[this];exact h
theorem eO.same (h:eO vv abs vo wv ow H) (he: ∀b,H' b=H b):eO vv abs vo wv ow H':=by
 have :H'=H:=funext he;rw[this];exact h
theorem dK.abs_some (h:dK p cx r vv abs st vo en H) {b:Nat} (hb:b∈abs): ∃l,H b=some (.rows 1 l):=by
 obtain⟨i,hi⟩:=List.getElem?_of_mem hb;have hl:i<st.arrs.length:=by have:=(aZ.1 hi).1;rw[←h.al];exact this
 exact⟨_,h.a i b _ hi (aG hl)⟩
theorem dK.apart (h:dK p cx r vv abs st vo en H) {b sz:Nat} {l:List (List AV)} (hb:H b=some (.rows sz l)) (h1:sz≠1) (h2:sz≠11):b≠r∧off vv b∧b∉abs∧off vo b:=
 ⟨fun e=>by rw[e,h.r]at hb;cases hb;exact h2 rfl,h.v.offsz hb h1,fun e=>by obtain⟨l',hl⟩:=h.abs_some e;rw[hl]at hb;cases hb;exact h1 rfl,h.o.offsz hb h1⟩
theorem dK.keep (h:dK p cx r vv abs st vo en H) {b sz:Nat} {l:List (List AV)} (hb:H b=some (.rows sz l)) (h1:sz≠1) (h2:sz≠11) (hk:cM r vv abs vo vo' H H'):H' b=some (.rows sz l):=by
 obtain⟨g1,g2,g3,g4⟩:=h.apart hb h1 h2;exact(hk b _ hb g1 g2 g3 g4).1
theorem dK.keepW (h:dK p cx r vv abs st vo en H) (hw:eO vv abs vo wv ow H) {b sz:Nat} {l:List (List AV)} (hb:H b=some (.rows sz l)) (h1:sz≠1) (h2:sz≠11) (hx:b≠x) (hk:fO r vv abs vo vo' x wv H H'):H' b=some (.rows sz l):=by
 obtain⟨g1,g2,g3,g4⟩:=h.apart hb h1 h2;exact(hk b _ hb g1 g2 g3 g4 hx (hw.h.offsz hb h1)).1
theorem dK.nr (h:dK p cx r vv abs st vo en H) {b:Nat} {l:List (List AV)} (hb:H b=some (.rows 1 l)):b≠r:=fun e=>by rw[e,h.r]at hb;cases hb
theorem eO.keep (h:eO vv abs vo wv ow H) (hr:dK p cx r vv abs st vo en H) (hk:cM r vv abs vo vo' H H'):eO vv abs vo' wv ow H':=by
 rcases h.h with⟨rfl,e⟩|⟨b,rfl,hb⟩
 ·exact⟨.inl ⟨rfl,e⟩,(fun _ _ _ e=>by cases e),(fun _ _ _ e=>by cases e),(fun _ _ _ e=>by cases e)⟩
 obtain⟨g1,g2⟩:=hk b _ hb (hr.nr hb) (h.nv _ _ _ rfl) (h.na _ _ _ rfl) (h.nf _ _ _ rfl);exact⟨.inr ⟨b,rfl,g1⟩,h.nv,h.na,fun s b' n e=>by cases e;exact g2⟩
theorem dK.new (h:dK p cx r vv abs st vo en H) {b:Nat} (hb:H b=none) (o:Option eS):dK p cx r vv abs st vo en (upd H b o):=by
 have n1:r≠b:=fun e=>by have:=h.r;rw[e,hb]at this;cases this
 refine {h with r:=by rw[bY _ _ n1];exact h.r,v:=h.v.upd hb o,a:=fun i b' l h1 h2=>?_,o:=h.o.upd hb o};have n3:b'≠b:=fun e=>by obtain⟨l,hl⟩:=h.abs_some (aL h1);rw[e,hb]at hl;cases hl
 rw[bY _ _ n3];exact h.a i b' l h1 h2
theorem eO.new (h:eO vv abs vo wv ow H) {b:Nat} (hb:H b=none) (o:Option eS):eO vv abs vo wv ow (upd H b o):=⟨h.h.upd hb o,h.nv,h.na,h.nf⟩
theorem eO.off (h:eO vv abs vo wv ow H) {b:Nat} (hb:Al.off wv b) (o:Option eS):eO vv abs vo wv ow (upd H b o):=⟨h.h.off hb o,h.nv,h.na,h.nf⟩
theorem dK.other (h:dK p cx r vv abs st vo en H) {b:Nat} (n1:b≠r) (n2:Al.off vv b) (n3:b∉abs) (n4:Al.off vo b) (o:Option eS):dK p cx r vv abs st vo en (upd H b o):=by
 refine {h with r:=by rw[bY _ _ (Ne.symm n1)];exact h.r,v:=h.v.off n2 o,a:=fun i b' l h1 h2=>?_,o:=h.o.off n4 o};rw[bY _ _ (fun e=>n3 (by rw[←e];exact aL h1))];exact h.a i b' l h1 h2
theorem dK.turn (h:dK p cx r vv abs st vo en H) {st':RS} (en':Int) (hv:st'.vars=st.vars) (ha:st'.arrs=st.arrs) (ho:st'.out=st.out) (hrd:st'.read≤cx.inp.length) (htk:st'.ticks≤cx.fuel):
  dK p cx r vv abs st' vo en' (upd H r (some (.rows 11 [[.isl 1 (p.vars.map bK), .isl 2 (p.arrs.map Ar.row), .isl 5 (p.funs.map Fu.row), .str cx.inp, .int .i64 cx.fuel,vv, .isl 1 (dL abs st.arrs),vo, .int .i64 st'.read, .int .i64 st'.ticks, .int .i64 en']]))):=by
 have hob:off vo r:=h.o.offsz h.r (by decide);have hvb:off vv r:=h.v.offsz h.r (by decide);refine⟨by rw[bO,ha],by rw[hv];exact h.v.off hvb _,by rw[ha];exact h.al,fun i b' l h1 h2=>?_,h.nd,h.va,by rw[ho];exact h.o.off hob _,h.ov,h.oa,by rw[hv];exact h.uv,by rw[ha];exact h.ua,by rw[ho];exact h.ub,hrd,htk⟩;rw[ha]at h2;have hb':=h.a i b' l h1 h2;rw[bY _ _ (h.nr hb')];exact hb'
theorem cM.run (o:Option eS):cM r vv abs vo vo H (upd H r o):=fun b' o' hb h1 _ _ h4=>⟨by rw[bY _ _ h1];exact hb,h4⟩
theorem cM.vars {s b n:Nat} (hv:vv= .osl s b n) (o:Option eS):cM r vv abs vo vo H (upd H b o):=fun b' o' hb _ h2 _ h4=>⟨by rw[bY _ _ (fun e=>h2 _ _ (by rw[hv,e]))];exact hb,h4⟩
theorem cM.arr {b:Nat} (hb:b∈abs) (o:Option eS):cM r vv abs vo vo H (upd H b o):=fun b' o' hb' _ _ h3 h4=>⟨by rw[bY _ _ (fun e=>h3 (by rw[e];exact hb))];exact hb',h4⟩
theorem dK.setV {b:Nat} (h:dK p cx r (.osl 1 b st.vars.length) abs st vo en H) (i:Nat) (v:Int) (hv:cC v):dK p cx r (.osl 1 b st.vars.length) abs {st with vars:=st.vars.set i v} vo en (upd H b (some (.rows 1 ((st.vars.map cZ).set i [.int .u32 v])))):=by
 have hb:H b=some (.rows 1 (st.vars.map cZ)):=by
  rcases h.v with⟨e,_⟩|⟨b',e,hb⟩
  ·cases e
  simp only[AV.osl.injEq]at e;obtain⟨_,rfl,_⟩:=e;exact hb
 have n2:r≠b:=fun e=>h.nr hb e.symm;refine⟨?_, ?_,h.al,fun i b' l h1 h2=>?_,h.nd,h.va,h.o.off (h.ov _ _ _ rfl) _,h.ov,h.oa,fun x hx=>?_,h.ua,h.ub,h.rd,h.tk⟩
 ·rw[bY _ _ n2];exact h.r
 ·exact .inr ⟨b,by simp,by rw[bO,iZ]⟩
 ·rw[bY _ _ (fun e=>h.va b' (aL h1) _ _ (by rw[e]))];exact h.a i b' l h1 h2
 rcases List.mem_or_eq_of_mem_set hx with hx|rfl
 ·exact h.uv x hx
 exact hv
theorem dK.setA (h:dK p cx r vv abs st vo en H) {i:Nat} {b:Nat} {l:List Int} (h1:abs[i]?=some b) (h2:st.arrs[i]?=some l) (j:Nat) (v:Int) (hv:cC v):dK p cx r vv abs {st with arrs:=st.arrs.modify i fun l=>l.set j v} vo en (upd H b (some (.rows 1 ((l.map cZ).set j [.int .u32 v])))):=by
 have hm:=aL h1;have n1:r≠b:=fun e=>h.nr (h.a i b l h1 h2) e.symm;refine⟨?_,h.v.off (h.va b hm) _,by simp only[List.length_modify];exact h.al,fun i' b' l' h1' h2'=>?_,h.nd,h.va,h.o.off (h.oa b hm) _,h.ov,h.oa,h.uv,fun l' hl'=>?_,h.ub,h.rd,h.tk⟩
 ·rw[bY _ _ n1]
  simp only;rw[pR abs st.arrs i _ (fun l=>by simp)];exact h.r
 ·simp only[List.getElem?_modify]at h2'
  by_cases hi:i=i'
  ·subst hi
   rw[h1]at h1';cases h1';rw[h2]at h2';have h2':l.set j v=l':=by simpa using h2'
   subst h2';rw[bO,iZ]
  have h2':st.arrs[i']?=some l':=by simpa [if_neg hi]using h2'
  have :b'≠b:=fun e=>by
   subst e;exact hi ((List.getElem?_inj (aZ.1 h1).1 h.nd).1 (h1.trans h1'.symm))
  rw[bY _ _ this];exact h.a i' b' l' h1' h2'
 obtain⟨i',hi'⟩:=List.getElem?_of_mem hl';rw[List.getElem?_modify]at hi'
 obtain⟨l0,hl0,rfl⟩: ∃l0,st.arrs[i']?=some l0∧(if i=i' then l0.set j v else l0)=l':=by
  cases hq:st.arrs[i']? with
  |none=>rw[hq]at hi';simp at hi'
  |some l0=>rw[hq]at hi';exact⟨l0,rfl,by simpa using hi'⟩
 have:=h.ua l0 (aL hl0);split
 ·refine⟨by simpa using this.1,fun x hx=>?_⟩
  rcases List.mem_or_eq_of_mem_set hx with hx|rfl
  ·exact this.2 x hx
  exact hv
 exact this
theorem dK.put {v':AV} (h:dK p cx r vv abs st vo en H) {c:UInt8} (hl:st.out.length<65536) (ho:dS 1 v' (st.out.map jX++[jX c]) H')
  (hk: ∀b o,H b=some o→vo≠ .osl 1 b (st.out.map jX).length→H' b=some o) (hg: ∀b,off vo b→H b≠none→off v' b):
  dK p cx r vv abs {st with out:=st.out++[c]} v' en (upd H' r (some (.rows 11 [[.isl 1 (p.vars.map bK), .isl 2 (p.arrs.map Ar.row), .isl 5 (p.funs.map Fu.row), .str cx.inp, .int .i64 cx.fuel,vv, .isl 1 (dL abs st.arrs),v', .int .i64 st.read, .int .i64 st.ticks, .int .i64 en]])))∧
  cM r vv abs vo v' H (upd H' r (some (.rows 11 [[.isl 1 (p.vars.map bK), .isl 2 (p.arrs.map Ar.row), .isl 5 (p.funs.map Fu.row), .str cx.inp, .int .i64 cx.fuel,vv, .isl 1 (dL abs st.arrs),v', .int .i64 st.read, .int .i64 st.ticks, .int .i64 en]]))):=by
 have hob:off vo r:=h.o.offsz h.r (by decide);have hvb:off vv r:=h.v.offsz h.r (by decide);have hob':off v' r:=hg r hob (by rw[h.r];exact bS _)
 have hvv: ∀s b n,vv= .osl s b n→H b=some (.rows 1 (st.vars.map cZ)):=fun s b n e=>by
  rcases h.v with⟨e',_⟩|⟨b',e',hb⟩
  ·rw[e']at e;cases e
  rw[e']at e;cases e;exact hb
 refine⟨⟨bO _ _ _, ?_,h.al,fun i b' l h1 h2=>?_,h.nd,h.va, ?_,fun s b n e=>hg b (h.ov s b n e) (by rw[hvv s b n e];exact bS _),fun b hb=>hg b (h.oa b hb) (by obtain⟨l,hl⟩:=h.abs_some hb;rw[hl];exact bS _),h.uv,h.ua, ?_,h.rd,h.tk⟩,fun b o hb h1 h2 h3 h4=>⟨?_,hg b h4 (by rw[hb];exact bS _)⟩⟩
 ·rcases h.v with g|⟨b,e,hb⟩
  ·exact .inl g
  exact .inr ⟨b,e,by rw[bY _ _ (h.nr hb)];exact hk _ _ hb (h.ov _ _ _ e _ _)⟩
 ·have hb:=h.a i b' l h1 h2
  rw[bY _ _ (h.nr hb)];exact hk _ _ hb (h.oa b' (aL h1) _ _)
 ·rw[List.map_append]
  exact ho.off hob' _
 ·simp only[bU,List.length_singleton];omega
 rw[bY _ _ h1];exact hk _ _ hb (h4 _ _)
theorem eO.osl (h:eO vv abs vo wv ow H) {i:Nat} {y:Int} (hi:ow[i]?=some y): ∃b,wv= .osl 1 b ow.length∧H b=some (.rows 1 (ow.map cZ)):=by
 rcases h.h with⟨_,e⟩|⟨b,e,hb⟩
 ·have:=congrArg List.length e
  have:=(aZ.1 hi).1;simp only[aD,List.length_nil]at *;omega
 exact⟨b,by rw[e,aD],hb⟩
theorem dK.osl (h:dK p cx r vv abs st vo en H) {i:Nat} {y:Int} (hi:st.vars[i]?=some y): ∃b,vv= .osl 1 b st.vars.length∧H b=some (.rows 1 (st.vars.map cZ)):=by
 rcases h.v with⟨_,e⟩|⟨b,e,hb⟩
 ·have:=congrArg List.length e
  have:=(aZ.1 hi).1;simp only[aD,List.length_nil]at *;omega
 exact⟨b,by rw[e,aD],hb⟩
end
def gZ {α:Type}:Rz α→Int| .val _ _=>0| .fin e _=>e
def oQ {α:Type} (en:Int) (st:RS) (f:Option (Rz α)) (o:Rz α):Prop:=(en=0∧f=some o)∨(en≠0∧o= .fin en st)
def Ep (p:Pg) (cx:Cx) (r:Nat) (vv:AV) (abs:List Nat) (vo:AV) (H:Hp) (o:Rz Int):kD→Hp→Prop:=fun ae H'=>
 ∃w vo',ae= .ret (.int .u32 w)∧cC w∧(∀v s,o= .val v s→w=v)∧(∀e s,o= .fin e s→e≠0)∧dK p cx r vv abs o.st vo' (gZ o) H'∧cM r vv abs vo vo' H H'
def mX (p:Pg) (cx:Cx) (r:Nat) (vv:AV) (abs:List Nat) (vo:AV) (x i:Nat) (wv:AV) (n:Nat) (H:Hp) (o:Rz (Option Int×List Int)):kD→Hp→Prop:=fun ae H'=>
 ∃ow bk vl vo',ae= .ret (.tup [])∧ow.length=n∧(∀y∈ow,cC y)∧cC vl∧(bk=false→vl=0)∧(∀q s,o= .val q s→ow=q.2∧bk=q.1.isSome∧vl=q.1.getD 0)∧(∀e s,o= .fin e s→e≠0)∧H' x=some (.rows 4 [[.int .i64 i,wv, .bool bk, .int .u32 vl]])∧eO vv abs vo' wv ow H'∧dK p cx r vv abs o.st vo' (gZ o) H'∧fO r vv abs vo vo' x wv H H'
end Go.Al
namespace Go.Al
theorem mH {α:Type} {o:Rz α} (he: ∀e s,o= .fin e s→e≠0) (h:gZ o=0): ∃v s,o= .val v s:=by
 cases o with
 |val v s=>exact⟨v,s,rfl⟩
 |fin e s=>exact absurd h (he e s rfl)
theorem mJ {α:Type} {o:Rz α} (h: ¬gZ o=0): ∃e s,o= .fin e s:=by
 cases o with
 |val v s=>exact absurd rfl h
 |fin e s=>exact⟨e,s,rfl⟩
theorem Xt {α β γ:Type} {r1:Rz α} {f:RS→Option (Rz β)} {K:α→β→RS→Option (Rz γ)} {o:Rz γ} (he: ∀e s,r1= .fin e s→e≠0) (h:bindR (some r1) (fun x s=>bindR (f s) (K x))=some o):
  ∃r2,oQ (gZ r1) r1.st (f r1.st) r2∧((∃x s1,r1= .val x s1∧f s1=some r2∧bindR (some r2) (K x)=some o)∨(∃e s,r1= .fin e s∧r2= .fin e s∧o= .fin e s)):=by
 cases r1 with
 |fin e s=>exact⟨.fin e s, .inr ⟨he e s rfl,rfl⟩, .inr ⟨e,s,rfl,rfl,(Option.some.inj (show some (Rz.fin e s)=some o from h)).symm⟩⟩
 |val x s=>
  simp only[bindR]at h
  cases h2:f s with
  |none=>rw[h2]at h;cases h
  |some r2=>rw[h2]at h;exact⟨r2, .inl ⟨rfl,h2⟩, .inl ⟨x,s,rfl,h2,h⟩⟩
theorem dP {a:Ex}: ∀{l:List Ex},a∈l→(∀u∈jL a,u∈dG l)∧ ∀u∈dG a.kids,u∈dG l
 |x::l,h=>by
  rw[eB];rcases List.mem_cons.1 h with rfl|h
  ·exact⟨fun u hu=>by simp [hu],fun u hu=>by simp [hu]⟩
  have:=dP h;exact⟨fun u hu=>by simp [this.1 u hu],fun u hu=>by simp [this.2 u hu]⟩
theorem zL {a:Sm}: ∀{l:List Sm},a∈l→(∀u∈hJ a,u∈cT l)∧(∀u∈dG a.es,u∈cT l)∧(∀u∈cT a.thn,u∈cT l)∧ ∀u∈cT a.els,u∈cT l
 |x::l,h=>by
  rw[dB];rcases List.mem_cons.1 h with rfl|h
  ·exact⟨fun u hu=>by simp [hu],fun u hu=>by simp [hu],fun u hu=>by simp [hu],fun u hu=>by simp [hu]⟩
  have:=zL h;exact⟨fun u hu=>by simp [this.1 u hu],fun u hu=>by simp [this.2.1 u hu],fun u hu=>by simp [this.2.2.1 u hu],fun u hu=>by simp [this.2.2.2 u hu]⟩
end Go.Al
namespace Go.Proofs.YtnfbbjhdflhmjaaGreatDoor
open Go.Al
structure UJ (p:Pg) (i:Nat) (rs:cR→Bool×Int) (u:Us):Prop where
 f:dD cN 75 [p.av, .int .i64 i, .str u.name] (.tup [.int .i64 (cK p i u.name).1, .int .i64 (cK p i u.name).2])
 r:rs u.name=(decide ((cK p i u.name).1=1),if(cK p i u.name).1=0 then 0 else(cK p i u.name).2)
 o:dN p i u=true
 n:fH p i u=true
theorem UJ.k1 {p:Pg} {i:Nat} {rs:cR→Bool×Int} {s:cR} {n:Int} (h:UJ p i rs ⟨s,1,n⟩):((cK p i s).1=1∧rs s=(true,(cK p i s).2))∨((cK p i s).1=2∧rs s=(false,(cK p i s).2)):=by
 have hr:=h.r;have ho:=h.o;simp only[dN,Bool.not_eq_true',Bool.or_eq_false_iff,Bool.and_eq_false_iff,decide_eq_false_iff_not,Bool.not_eq_false',aP]at ho;rcases ho.1.1 with(h1|h1)|h1
 ·exact absurd trivial h1
 ·simp only[h1]at hr;exact .inl ⟨h1,hr⟩
 simp only[h1]at hr;exact .inr ⟨h1,hr⟩
theorem UJ.k3 {p:Pg} {i:Nat} {rs:cR→Bool×Int} {s:cR} {n:Int} (h:UJ p i rs ⟨s,3,n⟩):(cK p i s).1=3∧rs s=(false,(cK p i s).2):=by
 have hr:=h.r;have ho:=h.o;simp only[dN,Bool.not_eq_true',Bool.or_eq_false_iff,Bool.and_eq_false_iff,decide_eq_false_iff_not,Bool.not_eq_false',aP]at ho;rcases ho.1.2 with h1|h1
 ·exact absurd trivial h1
 simp only[h1]at hr;exact⟨h1,hr⟩
theorem UJ.k4 {p:Pg} {i:Nat} {rs:cR→Bool×Int} {s:cR} {n:Int} (h:UJ p i rs ⟨s,4,n⟩):(cK p i s).1=4∧rs s=(false,(cK p i s).2)∧ ∃g,p.funs[(cK p i s).2.toNat]?=some g∧(g.params.length:Int)=n:=by
 have hr:=h.r;have ho:=h.o;have hn:=h.n;simp only[dN,Bool.not_eq_true',Bool.or_eq_false_iff,Bool.and_eq_false_iff,decide_eq_false_iff_not,Bool.not_eq_false',aP]at ho;rcases ho.2 with h1|⟨h1,_⟩
 ·exact absurd trivial h1
 simp only[h1]at hr;refine⟨h1,hr, ?_⟩;simp only[fH,decide_true,Bool.not_true,Bool.false_or]at hn
 cases hg:p.funs[(cK p i s).2.toNat]? with
 |none=>rw[hg]at hn;cases hn
 |some g=>rw[hg]at hn;exact⟨g,rfl,aC hn⟩
theorem gV {F:Nat→Prop} {ds:List (Option Nat)} {Q:dI} {d:Option Nat} {rest:List Oper} {fr:Fr} {H:Hp} {g:FuncId} {args:List AV} {p:Pg} {cx:Cx} {r:Nat} {vv:AV} {abs:List Nat} {vo:AV} {o:Rz Int}
  (hc:gK cN g args H (Ep p cx r vv abs vo H o)) (hF: ∀b,F b)
  (h: ∀w vo' H',cC w→(∀v s,o= .val v s→w=v)→(∀e s,o= .fin e s→e≠0)→dK p cx r vv abs o.st vo' (gZ o) H'→cM r vv abs vo vo' H H'→cQ cN F ds Q rest (dR fr d (.int .u32 w)) H'):nQ cN F ds Q d rest fr H g args:=by
 refine jK hc hF fun ae H' ⟨w,vo',h1,h2,h3,h4,h5,h6⟩=>?_;subst h1;exact h w vo' H' h2 h3 h4 h5 h6
theorem yG {F:Nat→Prop} {ds:List (Option Nat)} {Q:dI} {d:Option Nat} {rest:List Oper} {fr:Fr} {H:Hp} {g:FuncId} {args:List AV} {p:Pg} {cx:Cx} {r:Nat} {vv:AV} {abs:List Nat} {vo:AV} {x i:Nat} {wv:AV} {n:Nat} {o:Rz (Option Int×List Int)}
  (hc:gK cN g args H (mX p cx r vv abs vo x i wv n H o)) (hF: ∀b,F b)
  (h: ∀ow bk vl vo' H',ow.length=n→(∀y∈ow,cC y)→cC vl→(bk=false→vl=0)→(∀q s,o= .val q s→ow=q.2∧bk=q.1.isSome∧vl=q.1.getD 0)→(∀e s,o= .fin e s→e≠0)→H' x=some (.rows 4 [[.int .i64 i,wv, .bool bk, .int .u32 vl]])→eO vv abs vo' wv ow H'→dK p cx r vv abs o.st vo' (gZ o) H'→fO r vv abs vo vo' x wv H H'→cQ cN F ds Q rest (dR fr d (.tup [])) H'):nQ cN F ds Q d rest fr H g args:=by
 refine jK hc hF fun ae H' ⟨ow,bk,vl,vo',h1,h2,h3,h4,h5,h6,h7,h8,h9,h10,h11⟩=>?_;subst h1;exact h ow bk vl vo' H' h2 h3 h4 h5 h6 h7 h8 h9 h10 h11
theorem tU {F:Nat→Prop} {ds:List (Option Nat)} {Q:dI} {d:Option Nat} {rest:List Oper} {fr:Fr} {H:Hp} {g:FuncId} {args:List AV} {p:Pg} {cx:Cx} {r:Nat} {vv:AV} {abs:List Nat} {vo:AV} {o:Rz Unit}
  (hc:gK cN g args H (fun ae H'=>ae= .ret (.tup [])∧(∀e s,o= .fin e s→e≠0)∧dK p cx r vv abs o.st vo (gZ o) H'∧cM r vv abs vo vo H H')) (hF: ∀b,F b)
  (h: ∀H',(∀e s,o= .fin e s→e≠0)→dK p cx r vv abs o.st vo (gZ o) H'→cM r vv abs vo vo H H'→cQ cN F ds Q rest (dR fr d (.tup [])) H'):nQ cN F ds Q d rest fr H g args:=by
 refine jK hc hF fun ae H' ⟨h1,h2,h3,h4⟩=>?_;subst h1;exact h H' h2 h3 h4
theorem If (b:Bool):dD cN 151 [.bool b] (.int .u32 (if b=true then 1 else 0)):=by
 cases b
 ·skip
  refine bD 4 [.tmp 2] Tryz.func151 rfl rfl rfl rfl ?_;refine aB fun _ z=>aA rfl ?_;simp only[RR,seval];apply z;clear z;refine aH ?_;refine aB fun _ z=>aA rfl ?_;simp only[RR,seval];apply z;clear z;refine aF false rfl (fun hc=>by cases hc) (fun _=>?_);refine aM ?_;try simp only[RR]
  refine aB fun _ z=>aA rfl ?_;simp only[RR,seval];apply z;clear z;refine aQ ?_;simp only[aX,aN,bI,RR,seval];refine aW.pure ?_;rfl
 skip;refine bD 4 [.tmp 2] Tryz.func151 rfl rfl rfl rfl ?_;refine aB fun _ z=>aA rfl ?_;simp only[RR,seval];apply z;clear z;refine aH ?_;refine aB fun _ z=>aA rfl ?_;simp only[RR,seval];apply z;clear z;refine aF true rfl (fun _=>?_) (fun hc=>by cases hc);refine aB fun _ z=>aA rfl ?_;simp only[RR,seval];apply z;clear z;refine aQ ?_;simp only[aX,aN,bI,RR,seval];refine aW.pure ?_;rfl
structure sS (p:Pg) (cx:Cx) (r:Nat) (vv:AV) (abs:List Nat) (n:Nat):Prop where
 V: ∀(i:Nat) (rs:cR→Bool×Int) (ow:List Int) (e:Ex) (st:RS) (vo:AV) (en:Int) (H:Hp) (x:Nat) (wv:AV) (bk:Bool) (vl:Int) (o:Rz Int),e.ok→(∀u∈jL e,UJ p i rs u)→(∀u∈dG e.kids,UJ p i rs u)→dK p cx r vv abs st vo en H→eO vv abs vo wv ow H→(∀y∈ow,cC y)→H x=some (.rows 4 [[.int .i64 i,wv, .bool bk, .int .u32 vl]])→oQ en st (gB cx n rs ow e st) o→
  gK cN 136 [.ptr 11 r 0 0, .ptr 4 x 0 0, .agg e.row] H (Ep p cx r vv abs vo H o)
 C: ∀(i:Nat) (rs:cR→Bool×Int) (ow:List Int) (s:cR) (l:List Ex) (st:RS) (vo:AV) (H:Hp) (x:Nat) (wv:AV) (bk:Bool) (vl:Int) (o:Rz Int),Cw l→UJ p i rs ⟨s,4,l.length⟩→(∀u∈dG l,UJ p i rs u)→dK p cx r vv abs st vo 0 H→eO vv abs vo wv ow H→(∀y∈ow,cC y)→H x=some (.rows 4 [[.int .i64 i,wv, .bool bk, .int .u32 vl]])→qI cx n rs ow (rs s).2 l st=some o→
  gK cN 138 [.ptr 11 r 0 0, .ptr 4 x 0 0, .str s, .isl 5 (l.map Ex.row)] H (Ep p cx r vv abs vo H o)
 S: ∀(i:Nat) (rs:cR→Bool×Int) (ow:List Int) (e:Sm) (st:RS) (vo:AV) (H:Hp) (x:Nat) (wv:AV) (o:Rz (Option Int×List Int)),e.ok→(∀u∈hJ e,UJ p i rs u)→(∀u∈dG e.es,UJ p i rs u)→(∀u∈cT e.thn,UJ p i rs u)→(∀u∈cT e.els,UJ p i rs u)→dK p cx r vv abs st vo 0 H→eO vv abs vo wv ow H→(∀y∈ow,cC y)→H x=some (.rows 4 [[.int .i64 i,wv, .bool false, .int .u32 0]])→kQ cx n rs ow e st=some o→
  gK cN 107 [.ptr 11 r 0 0, .ptr 4 x 0 0, .agg e.row] H (mX p cx r vv abs vo x i wv ow.length H o)
 L: ∀(i:Nat) (rs:cR→Bool×Int) (ow:List Int) (l:List Sm) (st:RS) (vo:AV) (en:Int) (H:Hp) (x:Nat) (wv:AV) (bk:Bool) (vl:Int) (o:Rz (Option Int×List Int)),Af l→(∀u∈cT l,UJ p i rs u)→dK p cx r vv abs st vo en H→eO vv abs vo wv ow H→(∀y∈ow,cC y)→H x=some (.rows 4 [[.int .i64 i,wv, .bool bk, .int .u32 vl]])→cC vl→(bk=false→vl=0)→(en=0→bk=false)→oQ en st (iH cx n rs ow l st) o→
  gK cN 66 [.ptr 11 r 0 0, .ptr 4 x 0 0, .isl 5 (l.map Sm.row)] H (mX p cx r vv abs vo x i wv ow.length H o)
section
variable {p : Pg} {cx : Cx} {r : Nat} {vv : AV} {abs : List Nat} {st : RS} {vo : AV} {H : Hp}
theorem tN (hx:yP cx) (hR:dK p cx r vv abs st vo 0 H):gK cN 137 [.ptr 11 r 0 0] H (fun ae H'=>ae= .ret (.tup [])∧(∀e s,eQ cx st= .fin e s→e≠0)∧dK p cx r vv abs (eQ cx st).st vo (gZ (eQ cx st)) H'∧cM r vv abs vo vo H H'):=by
 have hr:=hR.r;by_cases hf:cx.fuel≤st.ticks
 ·have zf:(cx.fuel:Int)≤(st.ticks:Int):=by omega
  have e:eQ cx st= .fin 5 st:=by unfold eQ;rw[if_pos hf]
  rw[e];refine bD 21 [] Tryz.func137 rfl rfl rfl rfl ?_;refine aH ?_;refine aB fun K z=>?_;refine bB (fun x=>x≠r) [(0,3),(1,3),(2,3),(3,1),(4,3),(5,3),(6,3),(7,1),(8,3)] [] cX (by kernel_rfl) rfl rfl ?_;simp only[cH,hr,zf,RR,seval];apply z;clear z;refine aF true rfl (fun _=>?_) (fun hc=>by cases hc);refine aB fun _ z=>aA rfl ?_;simp only[hr,RR,seval];apply z;clear z;refine aQ ?_;simp only[aX,aN,bI,RR,seval];exact aW.run ⟨rfl,(fun e s h=>by cases h;decide),hR.turn 5 rfl rfl rfl hR.rd hR.tk,cM.run _⟩;skip
 have zf: ¬(cx.fuel:Int)≤(st.ticks:Int):=by omega
 have e:eQ cx st= .val () {st with ticks:=st.ticks+1}:=by unfold eQ;rw[if_neg hf]
 rw[e];have hfu:=hx.fuel;have e1:IntKind.wrap .i64 ((st.ticks:Int)+1)=((st.ticks+1:Nat):Int):=by rw[aR _ (by omega)];omega
 refine bD 21 [] Tryz.func137 rfl rfl rfl rfl ?_;refine aH ?_;refine aB fun K z=>?_;refine bB (fun x=>x≠r) [(0,3),(1,3),(2,3),(3,1),(4,3),(5,3),(6,3),(7,1),(8,3)] [] cX (by kernel_rfl) rfl rfl ?_;simp only[cH,hr,zf,RR,seval];apply z;clear z;refine aF false rfl (fun hc=>by cases hc) (fun _=>?_);refine aM ?_;try simp only[RR]
 refine aA rfl ?_;simp only[hr,e1,RR,seval]
 try simp only[aX,aN,bI,seval]
 exact aW.run ⟨rfl,(fun e s h=>by cases h),hR.turn (st':={st with ticks:=st.ticks+1}) 0 rfl rfl rfl hR.rd (by show st.ticks+1≤_;omega),cM.run _⟩
end
end Go.Proofs.YtnfbbjhdflhmjaaGreatDoor
