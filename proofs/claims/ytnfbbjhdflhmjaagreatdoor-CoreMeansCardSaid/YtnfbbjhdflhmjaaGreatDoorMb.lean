/- Chapter 18: how a run in the midst lies in memory. Chapter 18, the program's: what two words make by an operation. -/
import Derived.Test.YtnfbbjhdflhmjaaGreatDoorMa
import Derived.Test.YtnfbbjhdflhmjaaGreatDoorGDf
import Derived.Test.YtnfbbjhdflhmjaaGreatDoorSy2
set_option linter.unusedSimpArgs false
set_option linter.unusedVariables false
set_option maxRecDepth 10000
namespace Go.Al
mutual
def cE (rs:cR→Bool×Int):Ex→List AV
 | .mk k o n s l=>[.int .i64 k, .int .i64 o, .int .u32 n, .bool (rs s).1, .int .i64 (rs s).2, .isl 6 (E4 rs l)]
def E4 (rs:cR→Bool×Int):List Ex→List (List AV)
 |[]=>[]
 |e::l=>cE rs e::E4 rs l
end
theorem Cm (rs:cR→Bool×Int): ∀l:List Ex,E4 rs l=l.map (cE rs)
 |[]=>by simp only[E4,List.map_nil]
 |e::l=>by simp only[E4,List.map_cons,Cm rs l]
theorem E5 (rs:cR→Bool×Int) (e:Ex):cE rs e=[.int .i64 e.kind, .int .i64 e.op, .int .u32 e.num, .bool (rs e.name).1, .int .i64 (rs e.name).2, .isl 6 (e.kids.map (cE rs))]:=by
 cases e;simp only[cE,Cm,Ex.kind,Ex.op,Ex.num,Ex.name,Ex.kids]
mutual
def cS (rs:cR→Bool×Int):Sm→List AV
 | .mk k s l t u=>[.int .i64 k, .bool (rs s).1, .int .i64 (rs s).2, .isl 6 (l.map (cE rs)), .isl 6 (Zz rs t), .isl 6 (Zz rs u)]
def Zz (rs:cR→Bool×Int):List Sm→List (List AV)
 |[]=>[]
 |e::l=>cS rs e::Zz rs l
end
theorem Lr (rs:cR→Bool×Int): ∀l:List Sm,Zz rs l=l.map (cS rs)
 |[]=>by simp only[Zz,List.map_nil]
 |e::l=>by simp only[Zz,List.map_cons,Lr rs l]
theorem Te (rs:cR→Bool×Int) (e:Sm):cS rs e=[.int .i64 e.kind, .bool (rs e.name).1, .int .i64 (rs e.name).2, .isl 6 (e.es.map (cE rs)), .isl 6 (e.thn.map (cS rs)), .isl 6 (e.els.map (cS rs))]:=by
 cases e;simp only[cS,Lr,Sm.kind,Sm.name,Sm.es,Sm.thn,Sm.els]
def Cf.row (f:Cf):List AV:=[.int .i64 f.words, .isl 6 (f.body.map (cS f.res))]
def cZ (n:Int):List AV:=[.int .u32 n]
def jX (c:UInt8):List AV:=[.int .u8 c.toNat]
def dL:List Nat→List (List Int)→List (List AV)
 |b::bs,l::ls=>[.osl 1 b l.length]::dL bs ls
 |_,_=>[]
theorem mK: ∀(bs:List Nat) (ls:List (List Int)) (i:Nat) b l,bs[i]?=some b→ls[i]?=some l→(dL bs ls)[i]?=some [.osl 1 b l.length]
 |[],_,i,b,l,h,_=>by simp at h
 |b0::bs,[],i,b,l,_,h=>by simp at h
 |b0::bs,l0::ls,0,b,l,h,h'=>by
  simp only[List.getElem?_cons_zero,Option.some.injEq]at h h';subst h;subst h';simp [dL]
 |b0::bs,l0::ls,i+1,b,l,h,h'=>by
  simp only[List.getElem?_cons_succ]at h h';simp only[dL,List.getElem?_cons_succ];exact mK bs ls i b l h h'
theorem pR: ∀(bs:List Nat) (ls:List (List Int)) (i:Nat) (f:List Int→List Int),(∀l,(f l).length=l.length)→dL bs (ls.modify i f)=dL bs ls
 |[],ls,i,f,_=>by simp [dL]
 |b::bs,[],i,f,_=>by simp [dL]
 |b::bs,l::ls,0,f,h=>by simp [dL,h]
 |b::bs,l::ls,i+1,f,h=>by simp [dL,pR bs ls i f h]
theorem pS: ∀(bs:List Nat) (ls:List (List Int)),bs.length=ls.length→(dL bs ls).length=ls.length
 |[],[],_=>rfl
 |b::bs,l::ls,h=>by simp [dL,pS bs ls (by simpa using h)]
 |[],_::_,h=>by simp at h
 |_::_,[],h=>by simp at h
structure eJ (cx:Cx) (br bv:Nat) (abs:List Nat) (st:RS) (vo:AV) (H:Hp):Prop where
 r:H br=some (.rows 8 [[.isl 2 (cx.funs.map Cf.row), .osl 1 bv st.vars.length, .isl 1 (dL abs st.arrs), .str cx.inp, .int .i64 st.read,vo, .int .i64 st.ticks, .int .i64 cx.fuel]])
 v:H bv=some (.rows 1 (st.vars.map cZ))
 al:abs.length=st.arrs.length
 a: ∀(i:Nat) b l,abs[i]?=some b→st.arrs[i]?=some l→H b=some (.rows 1 (l.map cZ))
 nd:abs.Nodup
 va:bv∉abs
 o:dS 1 vo (st.out.map jX) H
 ov:off vo bv
 oa: ∀b∈abs,off vo b
 uv: ∀x∈st.vars,cC x
 ua: ∀l∈st.arrs,l.length≤4096∧ ∀x∈l,cC x
 ub:st.out.length≤65536
 rd:st.read≤cx.inp.length
 tk:st.ticks≤cx.fuel
def dJ (br bv:Nat) (abs:List Nat) (vo vo':AV) (H H':Hp):Prop:= ∀b o,H b=some o→b≠br→b≠bv→b∉abs→off vo b→H' b=some o∧off vo' b
def fP (br bv:Nat) (abs:List Nat) (vo vo':AV) (bo:Nat) (H H':Hp):Prop:= ∀b o,H b=some o→b≠br→b≠bv→b∉abs→off vo b→b≠bo→H' b=some o∧off vo' b
structure iQ (bv:Nat) (abs:List Nat) (vo:AV) (b:Nat) (rows:List (List AV)) (H:Hp):Prop where
 h:H b=some (.rows 1 rows)
 nv:b≠bv
 na:b∉abs
 nf:off vo b
theorem dJ.refl (br bv:Nat) (abs:List Nat) (vo:AV) (H:Hp):dJ br bv abs vo vo H H:=fun _ _ h _ _ _ ho=>⟨h,ho⟩
theorem dJ.trans {br bv:Nat} {abs:List Nat} {vo vo1 vo2:AV} {H H1 H2:Hp} (h:dJ br bv abs vo vo1 H H1) (h':dJ br bv abs vo1 vo2 H1 H2):dJ br bv abs vo vo2 H H2:=fun b o hb h1 h2 h3 h4=>by
 obtain⟨g1,g2⟩:=h b o hb h1 h2 h3 h4;exact h' b o g1 h1 h2 h3 g2
theorem dJ.s {br bv:Nat} {abs:List Nat} {vo vo1:AV} {H H1:Hp} (h:dJ br bv abs vo vo1 H H1) (bo:Nat):fP br bv abs vo vo1 bo H H1:=fun b o hb h1 h2 h3 h4 _=>h b o hb h1 h2 h3 h4
theorem fP.trans {br bv bo:Nat} {abs:List Nat} {vo vo1 vo2:AV} {H H1 H2:Hp} (h:fP br bv abs vo vo1 bo H H1) (h':fP br bv abs vo1 vo2 bo H1 H2):fP br bv abs vo vo2 bo H H2:=fun b o hb h1 h2 h3 h4 h5=>by
 obtain⟨g1,g2⟩:=h b o hb h1 h2 h3 h4 h5;exact h' b o g1 h1 h2 h3 g2 h5
theorem dJ.updN {br bv:Nat} {abs:List Nat} {vo vo1:AV} {H H1:Hp} (h:dJ br bv abs vo vo1 H H1) {b:Nat} (hb:H b=none) (o:Option eS):dJ br bv abs vo vo1 H (Go.Al.upd H1 b o):=fun b' o' hb' h1 h2 h3 h4=>by
 obtain⟨g1,g2⟩:=h b' o' hb' h1 h2 h3 h4;have :b'≠b:=fun e=>by rw[e,hb]at hb';cases hb'
 exact⟨by rw[bY _ _ this];exact g1,g2⟩
theorem fP.new {br bv bo:Nat} {abs:List Nat} {vo vo1:AV} {H H1:Hp} {o:Option eS} (hn:H bo=none) (h:fP br bv abs vo vo1 bo (Go.Al.upd H bo o) H1):dJ br bv abs vo vo1 H H1:=fun b o' hb h1 h2 h3 h4=>by
 have :b≠bo:=fun e=>by rw[e,hn]at hb;cases hb
 exact h b o' (by rw[bY _ _ this];exact hb) h1 h2 h3 h4 this
theorem dJ.new {br bv bo:Nat} {abs:List Nat} {vo vo1:AV} {H H1:Hp} {o:Option eS} (hn:H bo=none) (h:dJ br bv abs vo vo1 (Go.Al.upd H bo o) H1):dJ br bv abs vo vo1 H H1:=fP.new hn (h.s bo)
section
variable {cx : Cx} {br bv : Nat} {abs : List Nat} {st : RS} {vo : AV} {H : Hp}
theorem eJ.nbr (h:eJ cx br bv abs st vo H) {b:Nat} {l:List (List AV)} (hb:H b=some (.rows 1 l)):b≠br:=fun e=>by rw[e,h.r]at hb;cases hb
theorem iQ.keep {b:Nat} {rows:List (List AV)} (h:iQ bv abs vo b rows H) (hr:eJ cx br bv abs st vo H) {vo':AV} {H':Hp} (hk:dJ br bv abs vo vo' H H'):iQ bv abs vo' b rows H':=by
 obtain⟨g1,g2⟩:=hk b _ h.h (hr.nbr h.h) h.nv h.na h.nf;exact⟨g1,h.nv,h.na,g2⟩
theorem eJ.abs_some (h:eJ cx br bv abs st vo H) {b:Nat} (hb:b∈abs):H b≠none:=by
 obtain⟨i,hi⟩:=List.getElem?_of_mem hb;have hl:i<st.arrs.length:=by have:=(aZ.1 hi).1;rw[←h.al];exact this
 rw[h.a i b _ hi (aG hl)];exact bS _
theorem eJ.new (h:eJ cx br bv abs st vo H) {b:Nat} (hb:H b=none) (o:Option eS):eJ cx br bv abs st vo (upd H b o):=by
 have n1:br≠b:=fun e=>by have:=h.r;rw[e,hb]at this;cases this
 have n2:bv≠b:=fun e=>by have:=h.v;rw[e,hb]at this;cases this
 refine {h with r:=by rw[bY _ _ n1];exact h.r,v:=by rw[bY _ _ n2];exact h.v,a:=fun i b' l h1 h2=>?_,o:=h.o.upd hb o};have n3:b'≠b:=fun e=>h.abs_some (aL h1) (by rw[e,hb]);rw[bY _ _ n3];exact h.a i b' l h1 h2
theorem eJ.fresh (h:eJ cx br bv abs st vo H) {b:Nat} (hb:H b=none) (rows:List (List AV)):iQ bv abs vo b rows (upd H b (some (.rows 1 rows))):=
 ⟨bO _ _ _,(fun e=>by have:=h.v;rw[←e,hb]at this;cases this),(fun e=>h.abs_some e hb),h.o.new hb⟩
theorem iQ.new {b b':Nat} {rows:List (List AV)} (h:iQ bv abs vo b rows H) (hb:H b'=none) (o:Option eS):iQ bv abs vo b rows (upd H b' o):=
 ⟨by rw[bY _ _ (fun e=>by have:=h.h;rw[e,hb]at this;cases this)];exact h.h,h.nv,h.na,h.nf⟩
theorem eJ.own (h:eJ cx br bv abs st vo H) {b:Nat} {rows:List (List AV)} (hb:iQ bv abs vo b rows H) (o:Option eS):eJ cx br bv abs st vo (upd H b o):=by
 have n1:br≠b:=fun e=>h.nbr hb.h e.symm;have n2:bv≠b:=fun e=>hb.nv e.symm;refine {h with r:=by rw[bY _ _ n1];exact h.r,v:=by rw[bY _ _ n2];exact h.v,a:=fun i b' l h1 h2=>?_,o:=h.o.off hb.nf o};have n3:b'≠b:=fun e=>hb.na (e▸aL h1);rw[bY _ _ n3];exact h.a i b' l h1 h2
theorem iQ.set {b:Nat} {rows rows':List (List AV)} (h:iQ bv abs vo b rows H):iQ bv abs vo b rows' (upd H b (some (.rows 1 rows'))):=⟨bO _ _ _,h.nv,h.na,h.nf⟩
theorem fP.set {vo':AV} {b:Nat} {H':Hp} (h:fP br bv abs vo vo' b H H') (o:Option eS):fP br bv abs vo vo' b H (upd H' b o):=fun b' o' hb h1 h2 h3 h4 h5=>by
 obtain⟨g1,g2⟩:=h b' o' hb h1 h2 h3 h4 h5;exact⟨by rw[bY _ _ h5];exact g1,g2⟩
theorem eJ.same {H':Hp} (h:eJ cx br bv abs st vo H) (he: ∀b,H' b=H b):eJ cx br bv abs st vo H':=by
 have :H'=H:=funext he;rw[this];exact h
theorem eJ.turn (h:eJ cx br bv abs st vo H) {st':RS} (hv:st'.vars=st.vars) (ha:st'.arrs=st.arrs) (ho:st'.out=st.out) (hrd:st'.read≤cx.inp.length) (htk:st'.ticks≤cx.fuel):
  eJ cx br bv abs st' vo (upd H br (some (.rows 8 [[.isl 2 (cx.funs.map Cf.row), .osl 1 bv st'.vars.length, .isl 1 (dL abs st'.arrs), .str cx.inp, .int .i64 st'.read,vo, .int .i64 st'.ticks, .int .i64 cx.fuel]]))):=by
 have n2:bv≠br:=h.nbr h.v;have hob:off vo br:=h.o.offsz h.r (by decide);refine⟨bO _ _ _,by rw[bY _ _ n2,hv];exact h.v,by rw[ha];exact h.al,fun i b' l h1 h2=>?_,h.nd,h.va,by rw[ho];exact h.o.off hob _,h.ov,h.oa,by rw[hv];exact h.uv,by rw[ha];exact h.ua,by rw[ho];exact h.ub,hrd,htk⟩;rw[ha]at h2;have hb':=h.a i b' l h1 h2;rw[bY _ _ (h.nbr hb')];exact hb'
theorem dJ.run (o:Option eS):dJ br bv abs vo vo H (upd H br o):=fun b' o' hb h1 _ _ h4=>⟨by rw[bY _ _ h1];exact hb,h4⟩
theorem dJ.vars (o:Option eS):dJ br bv abs vo vo H (upd H bv o):=fun b' o' hb _ h2 _ h4=>⟨by rw[bY _ _ h2];exact hb,h4⟩
theorem dJ.arr {b:Nat} (hb:b∈abs) (o:Option eS):dJ br bv abs vo vo H (upd H b o):=fun b' o' hb' _ _ h3 h4=>⟨by rw[bY _ _ (fun e=>h3 (by rw[e];exact hb))];exact hb',h4⟩
theorem iZ (l:List Int) (i:Nat) (v:Int):(l.map cZ).set i [.int .u32 v]=(l.set i v).map cZ:=by rw[List.map_set];rfl
theorem eJ.setV (h:eJ cx br bv abs st vo H) (i:Nat) (v:Int) (hv:cC v):eJ cx br bv abs {st with vars:=st.vars.set i v} vo (upd H bv (some (.rows 1 ((st.vars.map cZ).set i [.int .u32 v])))):=by
 have n2:br≠bv:=fun e=>h.nbr h.v e.symm;refine⟨?_,by rw[bO,iZ],h.al,fun i b' l h1 h2=>?_,h.nd,h.va,h.o.off h.ov _,h.ov,h.oa,fun x hx=>?_,h.ua,h.ub,h.rd,h.tk⟩
 ·rw[bY _ _ n2,List.length_set];exact h.r
 ·rw[bY _ _ (fun e=>h.va (by rw[←e];exact aL h1))];exact h.a i b' l h1 h2
 rcases List.mem_or_eq_of_mem_set hx with hx|rfl
 ·exact h.uv x hx
 exact hv
theorem eJ.setA (h:eJ cx br bv abs st vo H) {i:Nat} {b:Nat} {l:List Int} (h1:abs[i]?=some b) (h2:st.arrs[i]?=some l) (j:Nat) (v:Int) (hv:cC v):eJ cx br bv abs {st with arrs:=st.arrs.modify i fun l=>l.set j v} vo (upd H b (some (.rows 1 ((l.map cZ).set j [.int .u32 v])))):=by
 have hm:=aL h1;have n1:br≠b:=fun e=>h.nbr (h.a i b l h1 h2) e.symm;have n2:bv≠b:=fun e=>h.va (e▸hm);refine⟨?_,by rw[bY _ _ n2];exact h.v,by simp only[List.length_modify];exact h.al,fun i' b' l' h1' h2'=>?_,h.nd,h.va,h.o.off (h.oa b hm) _,h.ov,h.oa,h.uv,fun l' hl'=>?_,h.ub,h.rd,h.tk⟩
 ·rw[bY _ _ n1]
  simp only;rw[pR abs st.arrs i _ (fun l=>by simp)];exact h.r
 ·simp only[List.getElem?_modify]at h2'
  by_cases hi:i=i'
  ·subst hi
   rw[h1]at h1';cases h1';rw[h2]at h2';have h2':l.set j v=l':=by simpa using h2'
   subst h2';rw[bO,iZ]
  have h2':st.arrs[i']?=some l':=by simpa [if_neg hi]using h2'
  have :b'≠b:=fun e=>by
   subst e;exact hi ((List.getElem?_inj (aZ.1 h1).1 h.nd).1 (h1.trans h1'.symm))
  rw[bY _ _ this];exact h.a i' b' l' h1' h2'
 obtain⟨i',hi'⟩:=List.getElem?_of_mem hl';rw[List.getElem?_modify]at hi'
 obtain⟨l0,hl0,rfl⟩: ∃l0,st.arrs[i']?=some l0∧(if i=i' then l0.set j v else l0)=l':=by
  cases hq:st.arrs[i']? with
  |none=>rw[hq]at hi';simp at hi'
  |some l0=>rw[hq]at hi';exact⟨l0,rfl,by simpa using hi'⟩
 have:=h.ua l0 (aL hl0);split
 ·refine⟨by simpa using this.1,fun x hx=>?_⟩
  rcases List.mem_or_eq_of_mem_set hx with hx|rfl
  ·exact this.2 x hx
  exact hv
 exact this
end
structure yP (cx:Cx):Prop where
 inp:cx.inp.length≤2000000
 fuel:cx.fuel<9223372036854775808
 words: ∀f∈cx.funs,f.words≤3000000
 body: ∀f∈cx.funs,Af f.body
end Go.Al
namespace Go.Al
theorem Yg {a b:Int} (ha:cC a) (hb:cC b) (h0: ¬b=0):cC (a.tmod b):=by
 obtain⟨a1,a2⟩:=ha;obtain⟨b1,b2⟩:=hb;have:=Int.tmod_nonneg b a1;have:=Int.tmod_lt_of_pos a (show 0<b by omega);exact⟨by omega,by omega⟩
theorem Xy (n:Int):cC (IntKind.wrap .u32 n):=by
 have h:IntKind.wrap .u32 n=n % 4294967296:=by simp [IntKind.wrap,IntKind.signed,IntKind.bits]
 rw[h];exact⟨Int.emod_nonneg _ (by decide),Int.emod_lt_of_pos _ (by decide)⟩
theorem C0 {a:Int} (ha:cC a) (k:Nat):cC (a.fdiv (2^k)):=by
 obtain⟨a1,a2⟩:=ha;have hp:(0:Int)<2^k:=Int.pow_pos (by decide);rw[Int.fdiv_eq_ediv_of_nonneg _ (by omega)];have h1:=Int.ediv_nonneg a1 (Int.le_of_lt hp);have h2:=Int.ediv_le_self (2^k) a1;exact⟨h1,by omega⟩
theorem A6 {c:Prop} [Decidable c] {x y:Int} (h:c→cC x) (h': ¬c→cC y):cC (if c then x else y):=by
 by_cases hc:c
 ·rw[if_pos hc];exact h hc
 rw[if_neg hc];exact h' hc
theorem sM (op:Int) {a b:Int} (ha:cC a) (hb:cC b):cC (cU op a b).1:=by
 unfold cU;generalize min b.toNat 32=k;have z:cC 0:=by simp [cC]
 have o:cC 1:=by simp [cC]
 simp only[apply_ite Prod.fst]
 repeat' refine A6 (fun _=>?_) fun _=>?_
 all_goals first|exact Xy _|exact z|exact o|exact Yg ha hb ‹_› |exact C0 ha _
end Go.Al
namespace Go.Proofs.YtnfbbjhdflhmjaaGreatDoor
open Go.Al
theorem Jg (op a b:Int):dD cN 147 [.int .i64 op, .int .u32 a, .int .u32 b] (.tup (if b=0 then [.int .u32 0, .int .i64 14]else if op=7 then [.int .u32 (IntKind.wrap .u32 (a.tdiv b)), .int .i64 0]else [.int .u32 (a.tmod b), .int .i64 0])):=by
 by_cases h:b=0
 ·subst h
  rw[if_pos rfl];refine bD 18 [.tmp 6, .tmp 7] Tryz.func147 rfl rfl rfl rfl ?_;refine aB fun _ g=>aA rfl ?_;simp only[RR,seval];apply g;clear g;refine aH ?_;refine aB fun _ g=>aA rfl ?_;simp only[RR,seval];apply g;clear g;refine aF true rfl (fun _=>?_) (fun hc=>by cases hc);refine aB fun _ g=>aA rfl ?_;simp only[RR,seval];apply g;clear g;refine aQ ?_;simp only[aX,aN,bI,RR,seval];refine aW.pure ?_;rfl
 rw[if_neg h];by_cases h7:op=7
 ·subst h7
  rw[if_pos rfl];refine bD 18 [.tmp 6, .tmp 7] Tryz.func147 rfl rfl rfl rfl ?_;refine aB fun _ g=>aA rfl ?_;simp only[RR,seval];apply g;clear g;refine aH ?_;refine aB fun _ g=>aA rfl ?_;simp only[h,RR,seval];apply g;clear g;refine aF false rfl (fun hc=>by cases hc) (fun _=>?_);refine aM ?_;try simp only[RR]
  refine aH ?_;refine aB fun _ g=>aA rfl ?_;simp only[RR,seval];apply g;clear g;refine aF true rfl (fun _=>?_) (fun hc=>by cases hc);refine aB fun _ g=>aA rfl ?_;simp only[h,RR,seval];apply g;clear g;refine aQ ?_;simp only[aX,aN,bI,RR,seval];refine aW.pure ?_;rfl
 rw[if_neg h7];refine bD 18 [.tmp 6, .tmp 7] Tryz.func147 rfl rfl rfl rfl ?_;refine aB fun _ g=>aA rfl ?_;simp only[RR,seval];apply g;clear g;refine aH ?_;refine aB fun _ g=>aA rfl ?_;simp only[h,RR,seval];apply g;clear g;refine aF false rfl (fun hc=>by cases hc) (fun _=>?_);refine aM ?_;try simp only[RR]
 refine aH ?_;refine aB fun _ g=>aA rfl ?_;simp only[h7,RR,seval];apply g;clear g;refine aF false rfl (fun hc=>by cases hc) (fun _=>?_);refine aM ?_;try simp only[RR]
 refine aB fun _ g=>aA rfl ?_;simp only[h,RR,seval];apply g;clear g;refine aQ ?_;simp only[aX,aN,bI,RR,seval];refine aW.pure ?_;rfl
theorem Mn (op a b:Int) (hb:cC b):dD cN 148 [.int .i64 op, .int .u32 a, .int .u32 b] (.int .u32 (if 31<b then 0 else if op=12 then IntKind.wrap .u32 (a *2^(min b.toNat 32))else a.fdiv (2^(min b.toNat 32)))):=by
 have h0:0≤b:=hb.1;have hbits:IntKind.bits .u32=32:=rfl;by_cases h:31<b
 ·rw[if_pos h]
  refine bD 19 [.tmp 6] Tryz.func148 rfl rfl rfl rfl ?_;refine aB fun _ g=>aA rfl ?_;simp only[RR,seval];apply g;clear g;refine aH ?_;refine aI ?_;refine aB fun _ g=>aA rfl ?_;simp only[h,RR,seval];apply g;clear g;refine aF true rfl (fun _=>?_) (fun hc=>by cases hc);refine aB fun _ g=>aA rfl ?_;simp only[RR,seval];apply g;clear g;refine aQ ?_;simp only[aX,aN,bI,RR,seval];refine aW.pure ?_;rfl
 rw[if_neg h];by_cases h7:op=12
 ·subst h7
  rw[if_pos rfl];refine bD 19 [.tmp 6] Tryz.func148 rfl rfl rfl rfl ?_;refine aB fun _ g=>aA rfl ?_;simp only[RR,seval];apply g;clear g;refine aH ?_;refine aI ?_;refine aB fun _ g=>aA rfl ?_;simp only[h,RR,seval];apply g;clear g;refine aF false rfl (fun hc=>by cases hc) (fun _=>?_);refine aB fun _ g=>aA rfl ?_;simp only[RR,seval];apply g;clear g;refine aF true rfl (fun _=>?_) (fun hc=>by cases hc);refine aB fun _ g=>aA rfl ?_;simp only[h0,hbits,RR,seval];apply g;clear g;refine aQ ?_;simp only[aX,aN,bI,RR,seval];refine aW.pure ?_;rfl
 rw[if_neg h7];refine bD 19 [.tmp 6] Tryz.func148 rfl rfl rfl rfl ?_;refine aB fun _ g=>aA rfl ?_;simp only[RR,seval];apply g;clear g;refine aH ?_;refine aI ?_;refine aB fun _ g=>aA rfl ?_;simp only[h,RR,seval];apply g;clear g;refine aF false rfl (fun hc=>by cases hc) (fun _=>?_);refine aB fun _ g=>aA rfl ?_;simp only[h7,RR,seval];apply g;clear g;refine aF false rfl (fun hc=>by cases hc) (fun _=>?_);refine aM ?_;try simp only[RR]
 refine aB fun _ g=>aA rfl ?_;simp only[h0,hbits,RR,seval];apply g;clear g;refine aQ ?_;simp only[aX,aN,bI,RR,seval];refine aW.pure ?_;rfl
theorem Fx (op a b:Int) (hop:op=14∨op=15):dD cN 149 [.int .i64 op, .int .u32 a, .int .u32 b] (.int .u32 (if op=14 then(if a<b then 1 else 0)else(if a=b then 1 else 0))):=by
 rcases hop with rfl|rfl
 ·rw[if_pos rfl]
  by_cases h:a<b
  ·rw[if_pos h]
   refine bD 23 [.tmp 6] Tryz.func149 rfl rfl rfl rfl ?_;refine aB fun _ g=>aA rfl ?_;simp only[RR,seval];apply g;clear g;refine aH ?_;refine aI ?_;refine aH ?_;refine aI ?_;refine aI ?_;refine aH ?_;refine aH ?_;refine aB fun _ g=>aA rfl ?_;simp only[h,RR,seval]
   repeat' ((first|refine bA (fun h=>?_) (fun h=>?_)|refine bG (fun h=>?_) (fun h=>?_))<;>simp only[h,h,RR,seval])
   all_goals
    apply g;clear g;refine aF _ rfl (fun hc1=>?_) (fun hc1=>?_)
    ·try (cases hc1;done)
     all_goals
      refine bH ?_;simp only[RR,seval];refine aH ?_;refine aB fun _ g=>aA rfl ?_;simp only[RR,seval];apply g;clear g;refine aQ ?_;simp only[aX,aN,bI,RR,seval];refine aW.pure ?_;rfl
    try (cases hc1;done)
    all_goals
     refine aM ?_;try simp only[RR]
     refine aB fun _ g=>aA rfl ?_;simp only[h,RR,seval]
     repeat' ((first|refine bA (fun h=>?_) (fun h=>?_)|refine bG (fun h=>?_) (fun h=>?_))<;>simp only[h,h,RR,seval])
     all_goals
      apply g;clear g;refine aF _ rfl (fun hc2=>?_) (fun hc2=>?_)
      ·try (cases hc2;done)
       all_goals
        refine bH ?_;simp only[RR,seval];refine aH ?_;refine aB fun _ g=>aA rfl ?_;simp only[h,RR,seval];apply g;clear g;refine aQ ?_;simp only[aX,aN,bI,h,RR,seval];refine aW.pure ?_;rfl
      try (cases hc2;done)
      all_goals
       refine aM ?_;try simp only[RR]
       refine bH ?_;simp only[RR,seval];refine aB fun _ g=>aA rfl ?_;simp only[h,RR,seval];apply g;clear g;refine aQ ?_;simp only[aX,aN,bI,h,RR,seval];refine aW.pure ?_;rfl
  rw[if_neg h];refine bD 23 [.tmp 6] Tryz.func149 rfl rfl rfl rfl ?_;refine aB fun _ g=>aA rfl ?_;simp only[RR,seval];apply g;clear g;refine aH ?_;refine aI ?_;refine aH ?_;refine aI ?_;refine aI ?_;refine aH ?_;refine aH ?_;refine aB fun _ g=>aA rfl ?_;simp only[h,RR,seval]
  repeat' ((first|refine bA (fun h=>?_) (fun h=>?_)|refine bG (fun h=>?_) (fun h=>?_))<;>simp only[h,h,RR,seval])
  all_goals
   apply g;clear g;refine aF _ rfl (fun hc1=>?_) (fun hc1=>?_)
   ·try (cases hc1;done)
    all_goals
     refine bH ?_;simp only[RR,seval];refine aH ?_;refine aB fun _ g=>aA rfl ?_;simp only[h,RR,seval];apply g;clear g;refine aQ ?_;simp only[aX,aN,bI,h,RR,seval];refine aW.pure ?_;rfl
   try (cases hc1;done)
   all_goals
    refine aM ?_;try simp only[RR]
    refine aB fun _ g=>aA rfl ?_;simp only[RR,seval]
    repeat' ((first|refine bA (fun h=>?_) (fun h=>?_)|refine bG (fun h=>?_) (fun h=>?_))<;>simp only[h,h,RR,seval])
    all_goals
     apply g;clear g;refine aF _ rfl (fun hc2=>?_) (fun hc2=>?_)
     ·try (cases hc2;done)
      all_goals
       refine bH ?_;simp only[RR,seval];refine aH ?_;refine aB fun _ g=>aA rfl ?_;simp only[h,RR,seval];apply g;clear g;refine aQ ?_;simp only[aX,aN,bI,h,RR,seval];refine aW.pure ?_;rfl
     try (cases hc2;done)
     all_goals
      refine aM ?_;try simp only[RR]
      refine bH ?_;simp only[RR,seval];refine aB fun _ g=>aA rfl ?_;simp only[RR,seval];apply g;clear g;refine aQ ?_;simp only[aX,aN,bI,RR,seval];refine aW.pure ?_;rfl
 rw[if_neg (by decide)];by_cases h:a=b
 ·rw[if_pos h]
  refine bD 23 [.tmp 6] Tryz.func149 rfl rfl rfl rfl ?_;refine aB fun _ g=>aA rfl ?_;simp only[h,RR,seval];apply g;clear g;refine aH ?_;refine aI ?_;refine aH ?_;refine aI ?_;refine aI ?_;refine aH ?_;refine aH ?_;refine aB fun _ g=>aA rfl ?_;simp only[RR,seval]
  repeat' ((first|refine bA (fun h=>?_) (fun h=>?_)|refine bG (fun h=>?_) (fun h=>?_))<;>simp only[h,h,RR,seval])
  all_goals
   apply g;clear g;refine aF _ rfl (fun hc1=>?_) (fun hc1=>?_)
   ·try (cases hc1;done)
    all_goals
     refine bH ?_;simp only[RR,seval];refine aH ?_;refine aB fun _ g=>aA rfl ?_;simp only[h,RR,seval];apply g;clear g;refine aQ ?_;simp only[aX,aN,bI,h,RR,seval];refine aW.pure ?_;rfl
   try (cases hc1;done)
   all_goals
    refine aM ?_;try simp only[RR]
    refine aB fun _ g=>aA rfl ?_;simp only[RR,seval]
    repeat' ((first|refine bA (fun h=>?_) (fun h=>?_)|refine bG (fun h=>?_) (fun h=>?_))<;>simp only[h,h,RR,seval])
    all_goals
     apply g;clear g;refine aF _ rfl (fun hc2=>?_) (fun hc2=>?_)
     ·try (cases hc2;done)
      all_goals
       refine bH ?_;simp only[RR,seval];refine aH ?_;refine aB fun _ g=>aA rfl ?_;simp only[RR,seval];apply g;clear g;refine aQ ?_;simp only[aX,aN,bI,RR,seval];refine aW.pure ?_;rfl
     try (cases hc2;done)
     all_goals
      refine aM ?_;try simp only[RR]
      refine bH ?_;simp only[RR,seval];refine aB fun _ g=>aA rfl ?_;simp only[h,RR,seval];apply g;clear g;refine aQ ?_;simp only[aX,aN,bI,h,RR,seval];refine aW.pure ?_;rfl
 rw[if_neg h];refine bD 23 [.tmp 6] Tryz.func149 rfl rfl rfl rfl ?_;refine aB fun _ g=>aA rfl ?_;simp only[RR,seval];apply g;clear g;refine aH ?_;refine aI ?_;refine aH ?_;refine aI ?_;refine aI ?_;refine aH ?_;refine aH ?_;refine aB fun _ g=>aA rfl ?_;simp only[RR,seval]
 repeat' ((first|refine bA (fun h=>?_) (fun h=>?_)|refine bG (fun h=>?_) (fun h=>?_))<;>simp only[h,h,RR,seval])
 all_goals
  apply g;clear g;refine aF _ rfl (fun hc1=>?_) (fun hc1=>?_)
  ·try (cases hc1;done)
   all_goals
    refine bH ?_;simp only[RR,seval];refine aH ?_;refine aB fun _ g=>aA rfl ?_;simp only[h,RR,seval];apply g;clear g;refine aQ ?_;simp only[aX,aN,bI,h,RR,seval];refine aW.pure ?_;rfl
  try (cases hc1;done)
  all_goals
   refine aM ?_;try simp only[RR]
   refine aB fun _ g=>aA rfl ?_;simp only[h,RR,seval]
   repeat' ((first|refine bA (fun h=>?_) (fun h=>?_)|refine bG (fun h=>?_) (fun h=>?_))<;>simp only[h,h,RR,seval])
   all_goals
    apply g;clear g;refine aF _ rfl (fun hc2=>?_) (fun hc2=>?_)
    ·try (cases hc2;done)
     all_goals
      refine bH ?_;simp only[RR,seval];refine aH ?_;refine aB fun _ g=>aA rfl ?_;simp only[h,RR,seval];apply g;clear g;refine aQ ?_;simp only[aX,aN,bI,h,RR,seval];refine aW.pure ?_;rfl
    try (cases hc2;done)
    all_goals
     refine aM ?_;try simp only[RR]
     refine bH ?_;simp only[RR,seval];refine aB fun _ g=>aA rfl ?_;simp only[RR,seval];apply g;clear g;refine aQ ?_;simp only[aX,aN,bI,RR,seval];refine aW.pure ?_;rfl
set_option maxHeartbeats 2000000 in
theorem Bj (op a b:Int) (hb:cC b):dD cN 131 [.int .i64 op, .int .u32 a, .int .u32 b] (.tup [.int .u32 (cU op a b).1, .int .i64 (cU op a b).2]):=by
 by_cases h:op=4∨op=5∨op=6∨op=7∨op=8∨op=9∨op=10∨op=11∨op=12∨op=13∨op=14∨op=15
 ·have hd:=Jg op a b
  have hs:=Mn op a b hb;have hk:=fun h=>Fx op a b h;have hbits:IntKind.bits .u32=32:=rfl;have e7:b=0→cU 7 a b=(0,14):=fun h=>by simp [cU,h]
  have e7': ¬b=0→cU 7 a b=(IntKind.wrap .u32 (a.tdiv b),0):=fun h=>by simp [cU,h]
  have e8:b=0→cU 8 a b=(0,14):=fun h=>by simp [cU,h]
  have e8': ¬b=0→cU 8 a b=(a.tmod b,0):=fun h=>by simp [cU,h]
  have e12:cU 12 a b=(if 31<b then 0 else IntKind.wrap .u32 (a *2^(min b.toNat 32)),0):=by
   show(if 31<b then((0:Int),(0:Int))else(IntKind.wrap .u32 (a *2^(min b.toNat 32)),0))=_;by_cases h:31<b<;>simp only[h,if_true,if_false]
  have e13:cU 13 a b=(if 31<b then 0 else a.fdiv (2^(min b.toNat 32)),0):=by
   show(if 31<b then((0:Int),(0:Int))else(a.fdiv (2^(min b.toNat 32)),0))=_;by_cases h:31<b<;>simp only[h,if_true,if_false]
  have e14:cU 14 a b=(if a<b then 1 else 0,0):=by simp [cU]
  have e15:cU 15 a b=(if a=b then 1 else 0,0):=by simp [cU]
  have a4:cU 4 a b=(IntKind.wrap .u32 (a+b),0):=rfl;have a5:cU 5 a b=(IntKind.wrap .u32 (a-b),0):=rfl;have a6:cU 6 a b=(IntKind.wrap .u32 (a *b),0):=rfl;have a9:cU 9 a b=(IntKind.wrap .u32 (BitVec.ofInt 32 a&&&BitVec.ofInt 32 b).toNat,0):=rfl;have a10:cU 10 a b=(IntKind.wrap .u32 (BitVec.ofInt 32 a|||BitVec.ofInt 32 b).toNat,0):=rfl;have a11:cU 11 a b=(IntKind.wrap .u32 (BitVec.ofInt 32 a^^^BitVec.ofInt 32 b).toNat,0):=rfl;rcases h with rfl|rfl|rfl|rfl|rfl|rfl|rfl|rfl|rfl|rfl|rfl|rfl
  case inr.inr.inr.inl=>
   by_cases h0:b=0
   ·rw[e7 h0]
    rw[if_pos h0]at hd;refine bD 62 [.tmp 6, .tmp 7] Tryz.func131 rfl rfl rfl rfl ?_
    repeat' (first|(refine aB fun K g=>?_;refine aA rfl ?_;simp only[RR,seval];apply g;clear g)|(refine aH ?_)|(refine aI ?_)|(refine aF true rfl (fun _=>?_) (fun hc=>by cases hc))|(refine aF false rfl (fun hc=>by cases hc) (fun _=>?_))|(refine aM ?_;simp only[aS])|(refine bH ?_;simp only[aS,aT,reduceIte,Nat.reduceEqDiff])|(refine aA rfl ?_;simp only[RR,seval])|(refine bA (fun h=>?_) (fun h=>?_)<;>simp only[h,hbits,aS,aT,RR,seval])|(refine bG (fun h=>?_) (fun h=>?_)<;>simp only[h,hbits,aS,aT,RR,seval])|(refine aF _ rfl (fun h=>?_) (fun h=>?_))|(refine aQ ?_;simp only[aS,aT,aX,aN,bI,RR,seval];refine aW.pure ?_)|(refine aU (hd) ?_;simp only[aS,RR,seval]))
    all_goals rfl
   rw[e7' h0];rw[if_neg h0,if_pos rfl]at hd;refine bD 62 [.tmp 6, .tmp 7] Tryz.func131 rfl rfl rfl rfl ?_
   repeat' (first|(refine aB fun K g=>?_;refine aA rfl ?_;simp only[RR,seval];apply g;clear g)|(refine aH ?_)|(refine aI ?_)|(refine aF true rfl (fun _=>?_) (fun hc=>by cases hc))|(refine aF false rfl (fun hc=>by cases hc) (fun _=>?_))|(refine aM ?_;simp only[aS])|(refine bH ?_;simp only[aS,aT,reduceIte,Nat.reduceEqDiff])|(refine aA rfl ?_;simp only[RR,seval])|(refine bA (fun h=>?_) (fun h=>?_)<;>simp only[h,hbits,aS,aT,RR,seval])|(refine bG (fun h=>?_) (fun h=>?_)<;>simp only[h,hbits,aS,aT,RR,seval])|(refine aF _ rfl (fun h=>?_) (fun h=>?_))|(refine aQ ?_;simp only[aS,aT,aX,aN,bI,RR,seval];refine aW.pure ?_)|(refine aU (hd) ?_;simp only[aS,RR,seval]))
   all_goals rfl
  case inr.inr.inr.inr.inl=>
   by_cases h0:b=0
   ·rw[e8 h0]
    rw[if_pos h0]at hd;refine bD 62 [.tmp 6, .tmp 7] Tryz.func131 rfl rfl rfl rfl ?_
    repeat' (first|(refine aB fun K g=>?_;refine aA rfl ?_;simp only[RR,seval];apply g;clear g)|(refine aH ?_)|(refine aI ?_)|(refine aF true rfl (fun _=>?_) (fun hc=>by cases hc))|(refine aF false rfl (fun hc=>by cases hc) (fun _=>?_))|(refine aM ?_;simp only[aS,aT])|(refine bH ?_;simp only[aS,aT,reduceIte,Nat.reduceEqDiff])|(refine aA rfl ?_;simp only[aS,RR,seval])|(refine bA (fun h=>?_) (fun h=>?_)<;>simp only[h,hbits,aS,aT,RR,seval])|(refine bG (fun h=>?_) (fun h=>?_)<;>simp only[h,hbits,aS,aT,RR,seval])|(refine aF _ rfl (fun h=>?_) (fun h=>?_))|(refine aQ ?_;simp only[aS,aT,aX,aN,bI,RR,seval];refine aW.pure ?_)|(refine aU (hd) ?_;simp only[aS,RR,seval]))
    all_goals rfl
   rw[e8' h0];rw[if_neg h0,if_neg (by decide)]at hd;refine bD 62 [.tmp 6, .tmp 7] Tryz.func131 rfl rfl rfl rfl ?_
   repeat' (first|(refine aB fun K g=>?_;refine aA rfl ?_;simp only[RR,seval];apply g;clear g)|(refine aH ?_)|(refine aI ?_)|(refine aF true rfl (fun _=>?_) (fun hc=>by cases hc))|(refine aF false rfl (fun hc=>by cases hc) (fun _=>?_))|(refine aM ?_;simp only[aS,aT])|(refine bH ?_;simp only[aS,aT,reduceIte,Nat.reduceEqDiff])|(refine aA rfl ?_;simp only[aS,RR,seval])|(refine bA (fun h=>?_) (fun h=>?_)<;>simp only[h,hbits,aS,aT,RR,seval])|(refine bG (fun h=>?_) (fun h=>?_)<;>simp only[h,hbits,aS,aT,RR,seval])|(refine aF _ rfl (fun h=>?_) (fun h=>?_))|(refine aQ ?_;simp only[aS,aT,aX,aN,bI,RR,seval];refine aW.pure ?_)|(refine aU (hd) ?_;simp only[aS,RR,seval]))
   all_goals rfl
  all_goals first|(rw[a4];have hcl:=hd)|(rw[a5];have hcl:=hd)|(rw[a6];have hcl:=hd)|(rw[a9];have hcl:=hd)|(rw[a10];have hcl:=hd)|(rw[a11];have hcl:=hd)|(rw[e12];have hcl:=hs)|(rw[e13];have hcl:=hs)|(rw[e14];have hcl:=hk (.inl rfl))|(rw[e15];have hcl:=hk (.inr rfl))
  all_goals
   try simp only[Int.reduceEq,if_true,if_false]at hcl
   refine bD 62 [.tmp 6, .tmp 7] Tryz.func131 rfl rfl rfl rfl ?_
   repeat' (first|(refine aB fun K g=>?_;refine aA rfl ?_;simp only[RR,seval];apply g;clear g)|(refine aH ?_)|(refine aI ?_)|(refine aF true rfl (fun _=>?_) (fun hc=>by cases hc))|(refine aF false rfl (fun hc=>by cases hc) (fun _=>?_))|(refine aM ?_;simp only[aS])|(refine bH ?_;simp only[aS,aT,reduceIte,Nat.reduceEqDiff])|(refine aA rfl ?_;simp only[aS,RR,seval])|(refine bA (fun h=>?_) (fun h=>?_)<;>simp only[h,hbits,aS,aT,RR,seval])|(refine bG (fun h=>?_) (fun h=>?_)<;>simp only[h,hbits,aS,aT,RR,seval])|(refine aF _ rfl (fun h=>?_) (fun h=>?_))|(refine aQ ?_;simp only[aS,aT,aX,aN,bI,RR,seval];refine aW.pure ?_)|(refine aU (hcl) ?_;simp only[aS,RR,seval]))
   all_goals rfl
 have n4: ¬op=4:=fun e=>h (by simp [e]);have n5: ¬op=5:=fun e=>h (by simp [e]);have n6: ¬op=6:=fun e=>h (by simp [e]);have n7: ¬op=7:=fun e=>h (by simp [e]);have n8: ¬op=8:=fun e=>h (by simp [e]);have n9: ¬op=9:=fun e=>h (by simp [e]);have n10: ¬op=10:=fun e=>h (by simp [e]);have n11: ¬op=11:=fun e=>h (by simp [e]);have n12: ¬op=12:=fun e=>h (by simp [e]);have n13: ¬op=13:=fun e=>h (by simp [e]);have n14: ¬op=14:=fun e=>h (by simp [e]);have n15: ¬op=15:=fun e=>h (by simp [e]);have e:cU op a b=(0,1):=by simp [cU,n4,n5,n6,n7,n8,n9,n10,n11,n12,n13,n14,n15]
 rw[e];refine bD 62 [.tmp 6, .tmp 7] Tryz.func131 rfl rfl rfl rfl ?_
 repeat' (first|(refine aB fun K g=>?_;refine aA rfl ?_;simp only[n4,n5,n6,n7,n9,n10,n11,n12,n14,RR,seval];apply g;clear g)|(refine aH ?_)|(refine aI ?_)|(refine aF true rfl (fun _=>?_) (fun hc=>by cases hc))|(refine aF false rfl (fun hc=>by cases hc) (fun _=>?_))|(refine aM ?_;simp only[aS,aT])|(refine bH ?_;simp only[aS,aT,reduceIte,Nat.reduceEqDiff])|(refine aA rfl ?_;simp only[n8,n13,n15,aS,RR,seval])|(refine bA (fun h=>?_) (fun h=>?_)<;>simp only[h,n4,n5,n6,n7,n8,n9,n10,n11,n12,n13,n14,n15,aS,aT,RR,seval])|(refine bG (fun h=>?_) (fun h=>?_)<;>simp only[h,n4,n5,n6,n7,n8,n9,n10,n11,n12,n13,n14,n15,aS,aT,RR,seval])|(refine aF _ rfl (fun h=>?_) (fun h=>?_))|(refine aQ ?_;simp only[aX,aN,bI,RR,seval];refine aW.pure ?_))
 all_goals rfl
end Go.Proofs.YtnfbbjhdflhmjaaGreatDoor
