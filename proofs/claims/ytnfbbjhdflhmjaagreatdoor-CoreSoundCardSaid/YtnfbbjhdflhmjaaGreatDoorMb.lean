/- Chapter 18: how a run in the midst lies in memory. Chapter 18, the program's: what two words make by an operation. -/
import Derived.Test.YtnfbbjhdflhmjaaGreatDoorMa
import Derived.Test.YtnfbbjhdflhmjaaGreatDoorGDf
import Derived.Test.YtnfbbjhdflhmjaaGreatDoorSy2
set_option linter.unusedSimpArgs false
set_option linter.unusedVariables false
set_option maxRecDepth 10000
namespace Go.Al
mutual
def cE (rs:dD→Bool×Int):Ex→List AV
 | .mk k o n s l=>[.int .i64 k, .int .i64 o, .int .u32 n, .bool (rs s).1, .int .i64 (rs s).2, .isl 6 (J1 rs l)]
def J1 (rs:dD→Bool×Int):List Ex→List (List AV)
 |[]=>[]
 |e::l=>cE rs e::J1 rs l
end
theorem Nr (rs:dD→Bool×Int): ∀l:List Ex,J1 rs l=l.map (cE rs)
 |[]=>by simp only[J1,List.map_nil]
 |e::l=>by simp only[J1,List.map_cons,Nr rs l]
theorem R6 (rs:dD→Bool×Int) (e:Ex):cE rs e=[.int .i64 e.kind, .int .i64 e.op, .int .u32 e.num, .bool (rs e.name).1, .int .i64 (rs e.name).2, .isl 6 (e.kids.map (cE rs))]:=by
 cases e;simp only[cE,Nr,Ex.kind,Ex.op,Ex.num,Ex.name,Ex.kids]
mutual
def cS (rs:dD→Bool×Int):Sm→List AV
 | .mk k s l t u=>[.int .i64 k, .bool (rs s).1, .int .i64 (rs s).2, .isl 6 (l.map (cE rs)), .isl 6 (B0 rs t), .isl 6 (B0 rs u)]
def B0 (rs:dD→Bool×Int):List Sm→List (List AV)
 |[]=>[]
 |e::l=>cS rs e::B0 rs l
end
theorem Nq (rs:dD→Bool×Int): ∀l:List Sm,B0 rs l=l.map (cS rs)
 |[]=>by simp only[B0,List.map_nil]
 |e::l=>by simp only[B0,List.map_cons,Nq rs l]
theorem R5 (rs:dD→Bool×Int) (e:Sm):cS rs e=[.int .i64 e.kind, .bool (rs e.name).1, .int .i64 (rs e.name).2, .isl 6 (e.es.map (cE rs)), .isl 6 (e.thn.map (cS rs)), .isl 6 (e.els.map (cS rs))]:=by
 cases e;simp only[cS,Nq,Sm.kind,Sm.name,Sm.es,Sm.thn,Sm.els]
def Cf.row (f:Cf):List AV:=[.int .i64 f.words, .isl 6 (f.body.map (cS f.res))]
def jV (n:Int):List AV:=[.int .u32 n]
def xG (c:UInt8):List AV:=[.int .u8 c.toNat]
def gZ:List Nat→List (List Int)→List (List AV)
 |b::bs,l::ls=>[.osl 1 b l.length]::gZ bs ls
 |_,_=>[]
theorem Ik: ∀(bs:List Nat) (ls:List (List Int)) (i:Nat) b l,bs[i]?=some b→ls[i]?=some l→(gZ bs ls)[i]?=some [.osl 1 b l.length]
 |[],_,i,b,l,h,_=>by simp at h
 |b0::bs,[],i,b,l,_,h=>by simp at h
 |b0::bs,l0::ls,0,b,l,h,h'=>by
  simp only[List.getElem?_cons_zero,Option.some.injEq]at h h';subst h;subst h';simp [gZ]
 |b0::bs,l0::ls,i+1,b,l,h,h'=>by
  simp only[List.getElem?_cons_succ]at h h';simp only[gZ,List.getElem?_cons_succ];exact Ik bs ls i b l h h'
theorem vU: ∀(bs:List Nat) (ls:List (List Int)) (i:Nat) (f:List Int→List Int),(∀l,(f l).length=l.length)→gZ bs (ls.modify i f)=gZ bs ls
 |[],ls,i,f,_=>by simp [gZ]
 |b::bs,[],i,f,_=>by simp [gZ]
 |b::bs,l::ls,0,f,h=>by simp [gZ,h]
 |b::bs,l::ls,i+1,f,h=>by simp [gZ,vU bs ls i f h]
theorem Ij: ∀(bs:List Nat) (ls:List (List Int)),bs.length=ls.length→(gZ bs ls).length=ls.length
 |[],[],_=>rfl
 |b::bs,l::ls,h=>by simp [gZ,Ij bs ls (by simpa using h)]
 |[],_::_,h=>by simp at h
 |_::_,[],h=>by simp at h
structure kM (cx:Cx) (br bv:Nat) (abs:List Nat) (st:RS) (vo:AV) (H:Hp):Prop where
 r:H br=some (.rows 8 [[.isl 2 (cx.funs.map Cf.row), .osl 1 bv st.vars.length, .isl 1 (gZ abs st.arrs), .str cx.inp, .int .i64 st.read,vo, .int .i64 st.ticks, .int .i64 cx.fuel]])
 v:H bv=some (.rows 1 (st.vars.map jV))
 al:abs.length=st.arrs.length
 a: ∀(i:Nat) b l,abs[i]?=some b→st.arrs[i]?=some l→H b=some (.rows 1 (l.map jV))
 nd:abs.Nodup
 va:bv∉abs
 o:dJ 1 vo (st.out.map xG) H
 ov:off vo bv
 oa: ∀b∈abs,off vo b
 uv: ∀x∈st.vars,dI x
 ua: ∀l∈st.arrs,l.length≤4096∧ ∀x∈l,dI x
 ub:st.out.length≤65536
 rd:st.read≤cx.inp.length
 tk:st.ticks≤cx.fuel
def fQ (br bv:Nat) (abs:List Nat) (vo vo':AV) (H H':Hp):Prop:= ∀b o,H b=some o→b≠br→b≠bv→b∉abs→off vo b→H' b=some o∧off vo' b
def lG (br bv:Nat) (abs:List Nat) (vo vo':AV) (bo:Nat) (H H':Hp):Prop:= ∀b o,H b=some o→b≠br→b≠bv→b∉abs→off vo b→b≠bo→H' b=some o∧off vo' b
structure zU (bv:Nat) (abs:List Nat) (vo:AV) (b:Nat) (rows:List (List AV)) (H:Hp):Prop where
 h:H b=some (.rows 1 rows)
 nv:b≠bv
 na:b∉abs
 nf:off vo b
theorem fQ.refl (br bv:Nat) (abs:List Nat) (vo:AV) (H:Hp):fQ br bv abs vo vo H H:=fun _ _ h _ _ _ ho=>⟨h,ho⟩
theorem fQ.trans {br bv:Nat} {abs:List Nat} {vo vo1 vo2:AV} {H H1 H2:Hp} (h:fQ br bv abs vo vo1 H H1) (h':fQ br bv abs vo1 vo2 H1 H2):fQ br bv abs vo vo2 H H2:=fun b o hb h1 h2 h3 h4=>by
 obtain⟨g1,g2⟩:=h b o hb h1 h2 h3 h4;exact h' b o g1 h1 h2 h3 g2
theorem fQ.s {br bv:Nat} {abs:List Nat} {vo vo1:AV} {H H1:Hp} (h:fQ br bv abs vo vo1 H H1) (bo:Nat):lG br bv abs vo vo1 bo H H1:=fun b o hb h1 h2 h3 h4 _=>h b o hb h1 h2 h3 h4
theorem lG.trans {br bv bo:Nat} {abs:List Nat} {vo vo1 vo2:AV} {H H1 H2:Hp} (h:lG br bv abs vo vo1 bo H H1) (h':lG br bv abs vo1 vo2 bo H1 H2):lG br bv abs vo vo2 bo H H2:=fun b o hb h1 h2 h3 h4 h5=>by
 obtain⟨g1,g2⟩:=h b o hb h1 h2 h3 h4 h5;exact h' b o g1 h1 h2 h3 g2 h5
theorem fQ.updN {br bv:Nat} {abs:List Nat} {vo vo1:AV} {H H1:Hp} (h:fQ br bv abs vo vo1 H H1) {b:Nat} (hb:H b=none) (o:Option fC):fQ br bv abs vo vo1 H (Go.Al.upd H1 b o):=fun b' o' hb' h1 h2 h3 h4=>by
 obtain⟨g1,g2⟩:=h b' o' hb' h1 h2 h3 h4;have :b'≠b:=fun e=>by rw[e,hb]at hb';cases hb'
 exact⟨by rw[cH _ _ this];exact g1,g2⟩
theorem lG.new {br bv bo:Nat} {abs:List Nat} {vo vo1:AV} {H H1:Hp} {o:Option fC} (hn:H bo=none) (h:lG br bv abs vo vo1 bo (Go.Al.upd H bo o) H1):fQ br bv abs vo vo1 H H1:=fun b o' hb h1 h2 h3 h4=>by
 have :b≠bo:=fun e=>by rw[e,hn]at hb;cases hb
 exact h b o' (by rw[cH _ _ this];exact hb) h1 h2 h3 h4 this
theorem fQ.new {br bv bo:Nat} {abs:List Nat} {vo vo1:AV} {H H1:Hp} {o:Option fC} (hn:H bo=none) (h:fQ br bv abs vo vo1 (Go.Al.upd H bo o) H1):fQ br bv abs vo vo1 H H1:=lG.new hn (h.s bo)
section
variable {cx : Cx} {br bv : Nat} {abs : List Nat} {st : RS} {vo : AV} {H : Hp}
theorem kM.nbr (h:kM cx br bv abs st vo H) {b:Nat} {l:List (List AV)} (hb:H b=some (.rows 1 l)):b≠br:=fun e=>by rw[e,h.r]at hb;cases hb
theorem zU.keep {b:Nat} {rows:List (List AV)} (h:zU bv abs vo b rows H) (hr:kM cx br bv abs st vo H) {vo':AV} {H':Hp} (hk:fQ br bv abs vo vo' H H'):zU bv abs vo' b rows H':=by
 obtain⟨g1,g2⟩:=hk b _ h.h (hr.nbr h.h) h.nv h.na h.nf;exact⟨g1,h.nv,h.na,g2⟩
theorem kM.abs_some (h:kM cx br bv abs st vo H) {b:Nat} (hb:b∈abs):H b≠none:=by
 obtain⟨i,hi⟩:=List.getElem?_of_mem hb;have hl:i<st.arrs.length:=by have:=(bW.1 hi).1;rw[←h.al];exact this
 rw[h.a i b _ hi (aG hl)];exact cL _
theorem kM.new (h:kM cx br bv abs st vo H) {b:Nat} (hb:H b=none) (o:Option fC):kM cx br bv abs st vo (upd H b o):=by
 have n1:br≠b:=fun e=>by have:=h.r;rw[e,hb]at this;cases this
 have n2:bv≠b:=fun e=>by have:=h.v;rw[e,hb]at this;cases this
 refine {h with r:=by rw[cH _ _ n1];exact h.r,v:=by rw[cH _ _ n2];exact h.v,a:=fun i b' l h1 h2=>?_,o:=h.o.upd hb o};have n3:b'≠b:=fun e=>h.abs_some (bN h1) (by rw[e,hb]);rw[cH _ _ n3];exact h.a i b' l h1 h2
theorem kM.fresh (h:kM cx br bv abs st vo H) {b:Nat} (hb:H b=none) (rows:List (List AV)):zU bv abs vo b rows (upd H b (some (.rows 1 rows))):=
 ⟨bO _ _ _,(fun e=>by have:=h.v;rw[←e,hb]at this;cases this),(fun e=>h.abs_some e hb),h.o.new hb⟩
theorem zU.new {b b':Nat} {rows:List (List AV)} (h:zU bv abs vo b rows H) (hb:H b'=none) (o:Option fC):zU bv abs vo b rows (upd H b' o):=
 ⟨by rw[cH _ _ (fun e=>by have:=h.h;rw[e,hb]at this;cases this)];exact h.h,h.nv,h.na,h.nf⟩
theorem kM.own (h:kM cx br bv abs st vo H) {b:Nat} {rows:List (List AV)} (hb:zU bv abs vo b rows H) (o:Option fC):kM cx br bv abs st vo (upd H b o):=by
 have n1:br≠b:=fun e=>h.nbr hb.h e.symm;have n2:bv≠b:=fun e=>hb.nv e.symm;refine {h with r:=by rw[cH _ _ n1];exact h.r,v:=by rw[cH _ _ n2];exact h.v,a:=fun i b' l h1 h2=>?_,o:=h.o.off hb.nf o};have n3:b'≠b:=fun e=>hb.na (e▸bN h1);rw[cH _ _ n3];exact h.a i b' l h1 h2
theorem zU.set {b:Nat} {rows rows':List (List AV)} (h:zU bv abs vo b rows H):zU bv abs vo b rows' (upd H b (some (.rows 1 rows'))):=⟨bO _ _ _,h.nv,h.na,h.nf⟩
theorem lG.set {vo':AV} {b:Nat} {H':Hp} (h:lG br bv abs vo vo' b H H') (o:Option fC):lG br bv abs vo vo' b H (upd H' b o):=fun b' o' hb h1 h2 h3 h4 h5=>by
 obtain⟨g1,g2⟩:=h b' o' hb h1 h2 h3 h4 h5;exact⟨by rw[cH _ _ h5];exact g1,g2⟩
theorem kM.same {H':Hp} (h:kM cx br bv abs st vo H) (he: ∀b,H' b=H b):kM cx br bv abs st vo H':=by
 have :H'=H:=funext he;rw[this];exact h
theorem kM.turn (h:kM cx br bv abs st vo H) {st':RS} (hv:st'.vars=st.vars) (ha:st'.arrs=st.arrs) (ho:st'.out=st.out) (hrd:st'.read≤cx.inp.length) (htk:st'.ticks≤cx.fuel):
  kM cx br bv abs st' vo (upd H br (some (.rows 8 [[.isl 2 (cx.funs.map Cf.row), .osl 1 bv st'.vars.length, .isl 1 (gZ abs st'.arrs), .str cx.inp, .int .i64 st'.read,vo, .int .i64 st'.ticks, .int .i64 cx.fuel]]))):=by
 have n2:bv≠br:=h.nbr h.v;have hob:off vo br:=h.o.offsz h.r (by decide);refine⟨bO _ _ _,by rw[cH _ _ n2,hv];exact h.v,by rw[ha];exact h.al,fun i b' l h1 h2=>?_,h.nd,h.va,by rw[ho];exact h.o.off hob _,h.ov,h.oa,by rw[hv];exact h.uv,by rw[ha];exact h.ua,by rw[ho];exact h.ub,hrd,htk⟩;rw[ha]at h2;have hb':=h.a i b' l h1 h2;rw[cH _ _ (h.nbr hb')];exact hb'
theorem fQ.run (o:Option fC):fQ br bv abs vo vo H (upd H br o):=fun b' o' hb h1 _ _ h4=>⟨by rw[cH _ _ h1];exact hb,h4⟩
theorem fQ.vars (o:Option fC):fQ br bv abs vo vo H (upd H bv o):=fun b' o' hb _ h2 _ h4=>⟨by rw[cH _ _ h2];exact hb,h4⟩
theorem fQ.arr {b:Nat} (hb:b∈abs) (o:Option fC):fQ br bv abs vo vo H (upd H b o):=fun b' o' hb' _ _ h3 h4=>⟨by rw[cH _ _ (fun e=>h3 (by rw[e];exact hb))];exact hb',h4⟩
theorem uF (l:List Int) (i:Nat) (v:Int):(l.map jV).set i [.int .u32 v]=(l.set i v).map jV:=by rw[List.map_set];rfl
theorem kM.setV (h:kM cx br bv abs st vo H) (i:Nat) (v:Int) (hv:dI v):kM cx br bv abs {st with vars:=st.vars.set i v} vo (upd H bv (some (.rows 1 ((st.vars.map jV).set i [.int .u32 v])))):=by
 have n2:br≠bv:=fun e=>h.nbr h.v e.symm;refine⟨?_,by rw[bO,uF],h.al,fun i b' l h1 h2=>?_,h.nd,h.va,h.o.off h.ov _,h.ov,h.oa,fun x hx=>?_,h.ua,h.ub,h.rd,h.tk⟩
 ·rw[cH _ _ n2,List.length_set];exact h.r
 ·rw[cH _ _ (fun e=>h.va (by rw[←e];exact bN h1))];exact h.a i b' l h1 h2
 rcases List.mem_or_eq_of_mem_set hx with hx|rfl
 ·exact h.uv x hx
 exact hv
theorem kM.setA (h:kM cx br bv abs st vo H) {i:Nat} {b:Nat} {l:List Int} (h1:abs[i]?=some b) (h2:st.arrs[i]?=some l) (j:Nat) (v:Int) (hv:dI v):kM cx br bv abs {st with arrs:=st.arrs.modify i fun l=>l.set j v} vo (upd H b (some (.rows 1 ((l.map jV).set j [.int .u32 v])))):=by
 have hm:=bN h1;have n1:br≠b:=fun e=>h.nbr (h.a i b l h1 h2) e.symm;have n2:bv≠b:=fun e=>h.va (e▸hm);refine⟨?_,by rw[cH _ _ n2];exact h.v,by simp only[List.length_modify];exact h.al,fun i' b' l' h1' h2'=>?_,h.nd,h.va,h.o.off (h.oa b hm) _,h.ov,h.oa,h.uv,fun l' hl'=>?_,h.ub,h.rd,h.tk⟩
 ·rw[cH _ _ n1]
  simp only;rw[vU abs st.arrs i _ (fun l=>by simp)];exact h.r
 ·simp only[List.getElem?_modify]at h2'
  by_cases hi:i=i'
  ·subst hi
   rw[h1]at h1';cases h1';rw[h2]at h2';have h2':l.set j v=l':=by simpa using h2'
   subst h2';rw[bO,uF]
  have h2':st.arrs[i']?=some l':=by simpa [if_neg hi]using h2'
  have :b'≠b:=fun e=>by
   subst e;exact hi ((List.getElem?_inj (bW.1 h1).1 h.nd).1 (h1.trans h1'.symm))
  rw[cH _ _ this];exact h.a i' b' l' h1' h2'
 obtain⟨i',hi'⟩:=List.getElem?_of_mem hl';rw[List.getElem?_modify]at hi'
 obtain⟨l0,hl0,rfl⟩: ∃l0,st.arrs[i']?=some l0∧(if i=i' then l0.set j v else l0)=l':=by
  cases hq:st.arrs[i']? with
  |none=>rw[hq]at hi';simp at hi'
  |some l0=>rw[hq]at hi';exact⟨l0,rfl,by simpa using hi'⟩
 have:=h.ua l0 (bN hl0);split
 ·refine⟨by simpa using this.1,fun x hx=>?_⟩
  rcases List.mem_or_eq_of_mem_set hx with hx|rfl
  ·exact this.2 x hx
  exact hv
 exact this
end
structure T3 (cx:Cx):Prop where
 inp:cx.inp.length≤2000000
 fuel:cx.fuel<9223372036854775808
 words: ∀f∈cx.funs,f.words≤3000000
 body: ∀f∈cx.funs,Bq f.body
end Go.Al
namespace Go.Al
theorem Yu {a b:Int} (ha:dI a) (hb:dI b) (h0: ¬b=0):dI (a.tmod b):=by
 obtain⟨a1,a2⟩:=ha;obtain⟨b1,b2⟩:=hb;have:=Int.tmod_nonneg b a1;have:=Int.tmod_lt_of_pos a (show 0<b by omega);exact⟨by omega,by omega⟩
theorem Yo (n:Int):dI (IntKind.wrap .u32 n):=by
 have h:IntKind.wrap .u32 n=n % 4294967296:=by simp [IntKind.wrap,IntKind.signed,IntKind.bits]
 rw[h];exact⟨Int.emod_nonneg _ (by decide),Int.emod_lt_of_pos _ (by decide)⟩
theorem E1 {a:Int} (ha:dI a) (k:Nat):dI (a.fdiv (2^k)):=by
 obtain⟨a1,a2⟩:=ha;have hp:(0:Int)<2^k:=Int.pow_pos (by decide);rw[Int.fdiv_eq_ediv_of_nonneg _ (by omega)];have h1:=Int.ediv_nonneg a1 (Int.le_of_lt hp);have h2:=Int.ediv_le_self (2^k) a1;exact⟨h1,by omega⟩
theorem C8 {c:Prop} [Decidable c] {x y:Int} (h:c→dI x) (h': ¬c→dI y):dI (if c then x else y):=by
 by_cases hc:c
 ·rw[if_pos hc];exact h hc
 rw[if_neg hc];exact h' hc
theorem Im (op:Int) {a b:Int} (ha:dI a) (hb:dI b):dI (eI op a b).1:=by
 unfold eI;generalize min b.toNat 32=k;have z:dI 0:=by simp [dI]
 have o:dI 1:=by simp [dI]
 simp only[apply_ite Prod.fst]
 repeat' refine C8 (fun _=>?_) fun _=>?_
 all_goals first|exact Yo _|exact z|exact o|exact Yu ha hb ‹_› |exact E1 ha _
end Go.Al
namespace Go.Proofs.YtnfbbjhdflhmjaaGreatDoor
open Go.Al
theorem La (op a b:Int):cJ cK 147 [.int .i64 op, .int .u32 a, .int .u32 b] (.tup (if b=0 then [.int .u32 0, .int .i64 14]else if op=7 then [.int .u32 (IntKind.wrap .u32 (a.tdiv b)), .int .i64 0]else [.int .u32 (a.tmod b), .int .i64 0])):=by
 by_cases h:b=0
 ·subst h
  rw[if_pos rfl];refine bI 18 [.tmp 6, .tmp 7] Tryz.func147 rfl rfl rfl rfl ?_;refine aB fun _ g=>aA rfl ?_;simp only[RR,seval];apply g;clear g;refine aI ?_;refine aB fun _ g=>aA rfl ?_;simp only[RR,seval];apply g;clear g;refine aH true rfl (fun _=>?_) (fun hc=>by cases hc);refine aB fun _ g=>aA rfl ?_;simp only[RR,seval];apply g;clear g;refine aO ?_;simp only[bB,aL,bH,RR,seval];refine aZ.pure ?_;rfl
 rw[if_neg h];by_cases h7:op=7
 ·subst h7
  rw[if_pos rfl];refine bI 18 [.tmp 6, .tmp 7] Tryz.func147 rfl rfl rfl rfl ?_;refine aB fun _ g=>aA rfl ?_;simp only[RR,seval];apply g;clear g;refine aI ?_;refine aB fun _ g=>aA rfl ?_;simp only[h,RR,seval];apply g;clear g;refine aH false rfl (fun hc=>by cases hc) (fun _=>?_);refine aK ?_;try simp only[RR]
  refine aI ?_;refine aB fun _ g=>aA rfl ?_;simp only[RR,seval];apply g;clear g;refine aH true rfl (fun _=>?_) (fun hc=>by cases hc);refine aB fun _ g=>aA rfl ?_;simp only[h,RR,seval];apply g;clear g;refine aO ?_;simp only[bB,aL,bH,RR,seval];refine aZ.pure ?_;rfl
 rw[if_neg h7];refine bI 18 [.tmp 6, .tmp 7] Tryz.func147 rfl rfl rfl rfl ?_;refine aB fun _ g=>aA rfl ?_;simp only[RR,seval];apply g;clear g;refine aI ?_;refine aB fun _ g=>aA rfl ?_;simp only[h,RR,seval];apply g;clear g;refine aH false rfl (fun hc=>by cases hc) (fun _=>?_);refine aK ?_;try simp only[RR]
 refine aI ?_;refine aB fun _ g=>aA rfl ?_;simp only[h7,RR,seval];apply g;clear g;refine aH false rfl (fun hc=>by cases hc) (fun _=>?_);refine aK ?_;try simp only[RR]
 refine aB fun _ g=>aA rfl ?_;simp only[h,RR,seval];apply g;clear g;refine aO ?_;simp only[bB,aL,bH,RR,seval];refine aZ.pure ?_;rfl
theorem Om (op a b:Int) (hb:dI b):cJ cK 148 [.int .i64 op, .int .u32 a, .int .u32 b] (.int .u32 (if 31<b then 0 else if op=12 then IntKind.wrap .u32 (a *2^(min b.toNat 32))else a.fdiv (2^(min b.toNat 32)))):=by
 have h0:0≤b:=hb.1;have hbits:IntKind.bits .u32=32:=rfl;by_cases h:31<b
 ·rw[if_pos h]
  refine bI 19 [.tmp 6] Tryz.func148 rfl rfl rfl rfl ?_;refine aB fun _ g=>aA rfl ?_;simp only[RR,seval];apply g;clear g;refine aI ?_;refine aM ?_;refine aB fun _ g=>aA rfl ?_;simp only[h,RR,seval];apply g;clear g;refine aH true rfl (fun _=>?_) (fun hc=>by cases hc);refine aB fun _ g=>aA rfl ?_;simp only[RR,seval];apply g;clear g;refine aO ?_;simp only[bB,aL,bH,RR,seval];refine aZ.pure ?_;rfl
 rw[if_neg h];by_cases h7:op=12
 ·subst h7
  rw[if_pos rfl];refine bI 19 [.tmp 6] Tryz.func148 rfl rfl rfl rfl ?_;refine aB fun _ g=>aA rfl ?_;simp only[RR,seval];apply g;clear g;refine aI ?_;refine aM ?_;refine aB fun _ g=>aA rfl ?_;simp only[h,RR,seval];apply g;clear g;refine aH false rfl (fun hc=>by cases hc) (fun _=>?_);refine aB fun _ g=>aA rfl ?_;simp only[RR,seval];apply g;clear g;refine aH true rfl (fun _=>?_) (fun hc=>by cases hc);refine aB fun _ g=>aA rfl ?_;simp only[h0,hbits,RR,seval];apply g;clear g;refine aO ?_;simp only[bB,aL,bH,RR,seval];refine aZ.pure ?_;rfl
 rw[if_neg h7];refine bI 19 [.tmp 6] Tryz.func148 rfl rfl rfl rfl ?_;refine aB fun _ g=>aA rfl ?_;simp only[RR,seval];apply g;clear g;refine aI ?_;refine aM ?_;refine aB fun _ g=>aA rfl ?_;simp only[h,RR,seval];apply g;clear g;refine aH false rfl (fun hc=>by cases hc) (fun _=>?_);refine aB fun _ g=>aA rfl ?_;simp only[h7,RR,seval];apply g;clear g;refine aH false rfl (fun hc=>by cases hc) (fun _=>?_);refine aK ?_;try simp only[RR]
 refine aB fun _ g=>aA rfl ?_;simp only[h0,hbits,RR,seval];apply g;clear g;refine aO ?_;simp only[bB,aL,bH,RR,seval];refine aZ.pure ?_;rfl
theorem Hm (op a b:Int) (hop:op=14∨op=15):cJ cK 149 [.int .i64 op, .int .u32 a, .int .u32 b] (.int .u32 (if op=14 then(if a<b then 1 else 0)else(if a=b then 1 else 0))):=by
 rcases hop with rfl|rfl
 ·rw[if_pos rfl]
  by_cases h:a<b
  ·rw[if_pos h]
   refine bI 23 [.tmp 6] Tryz.func149 rfl rfl rfl rfl ?_;refine aB fun _ g=>aA rfl ?_;simp only[RR,seval];apply g;clear g;refine aI ?_;refine aM ?_;refine aI ?_;refine aM ?_;refine aM ?_;refine aI ?_;refine aI ?_;refine aB fun _ g=>aA rfl ?_;simp only[h,RR,seval]
   repeat' ((first|refine aR (fun h=>?_) (fun h=>?_)|refine aV (fun h=>?_) (fun h=>?_))<;>simp only[h,h,RR,seval])
   all_goals
    apply g;clear g;refine aH _ rfl (fun hc1=>?_) (fun hc1=>?_)
    ·try (cases hc1;done)
     all_goals
      refine bF ?_;simp only[RR,seval];refine aI ?_;refine aB fun _ g=>aA rfl ?_;simp only[RR,seval];apply g;clear g;refine aO ?_;simp only[bB,aL,bH,RR,seval];refine aZ.pure ?_;rfl
    try (cases hc1;done)
    all_goals
     refine aK ?_;try simp only[RR]
     refine aB fun _ g=>aA rfl ?_;simp only[h,RR,seval]
     repeat' ((first|refine aR (fun h=>?_) (fun h=>?_)|refine aV (fun h=>?_) (fun h=>?_))<;>simp only[h,h,RR,seval])
     all_goals
      apply g;clear g;refine aH _ rfl (fun hc2=>?_) (fun hc2=>?_)
      ·try (cases hc2;done)
       all_goals
        refine bF ?_;simp only[RR,seval];refine aI ?_;refine aB fun _ g=>aA rfl ?_;simp only[h,RR,seval];apply g;clear g;refine aO ?_;simp only[bB,aL,bH,h,RR,seval];refine aZ.pure ?_;rfl
      try (cases hc2;done)
      all_goals
       refine aK ?_;try simp only[RR]
       refine bF ?_;simp only[RR,seval];refine aB fun _ g=>aA rfl ?_;simp only[h,RR,seval];apply g;clear g;refine aO ?_;simp only[bB,aL,bH,h,RR,seval];refine aZ.pure ?_;rfl
  rw[if_neg h];refine bI 23 [.tmp 6] Tryz.func149 rfl rfl rfl rfl ?_;refine aB fun _ g=>aA rfl ?_;simp only[RR,seval];apply g;clear g;refine aI ?_;refine aM ?_;refine aI ?_;refine aM ?_;refine aM ?_;refine aI ?_;refine aI ?_;refine aB fun _ g=>aA rfl ?_;simp only[h,RR,seval]
  repeat' ((first|refine aR (fun h=>?_) (fun h=>?_)|refine aV (fun h=>?_) (fun h=>?_))<;>simp only[h,h,RR,seval])
  all_goals
   apply g;clear g;refine aH _ rfl (fun hc1=>?_) (fun hc1=>?_)
   ·try (cases hc1;done)
    all_goals
     refine bF ?_;simp only[RR,seval];refine aI ?_;refine aB fun _ g=>aA rfl ?_;simp only[h,RR,seval];apply g;clear g;refine aO ?_;simp only[bB,aL,bH,h,RR,seval];refine aZ.pure ?_;rfl
   try (cases hc1;done)
   all_goals
    refine aK ?_;try simp only[RR]
    refine aB fun _ g=>aA rfl ?_;simp only[RR,seval]
    repeat' ((first|refine aR (fun h=>?_) (fun h=>?_)|refine aV (fun h=>?_) (fun h=>?_))<;>simp only[h,h,RR,seval])
    all_goals
     apply g;clear g;refine aH _ rfl (fun hc2=>?_) (fun hc2=>?_)
     ·try (cases hc2;done)
      all_goals
       refine bF ?_;simp only[RR,seval];refine aI ?_;refine aB fun _ g=>aA rfl ?_;simp only[h,RR,seval];apply g;clear g;refine aO ?_;simp only[bB,aL,bH,h,RR,seval];refine aZ.pure ?_;rfl
     try (cases hc2;done)
     all_goals
      refine aK ?_;try simp only[RR]
      refine bF ?_;simp only[RR,seval];refine aB fun _ g=>aA rfl ?_;simp only[RR,seval];apply g;clear g;refine aO ?_;simp only[bB,aL,bH,RR,seval];refine aZ.pure ?_;rfl
 rw[if_neg (by decide)];by_cases h:a=b
 ·rw[if_pos h]
  refine bI 23 [.tmp 6] Tryz.func149 rfl rfl rfl rfl ?_;refine aB fun _ g=>aA rfl ?_;simp only[h,RR,seval];apply g;clear g;refine aI ?_;refine aM ?_;refine aI ?_;refine aM ?_;refine aM ?_;refine aI ?_;refine aI ?_;refine aB fun _ g=>aA rfl ?_;simp only[RR,seval]
  repeat' ((first|refine aR (fun h=>?_) (fun h=>?_)|refine aV (fun h=>?_) (fun h=>?_))<;>simp only[h,h,RR,seval])
  all_goals
   apply g;clear g;refine aH _ rfl (fun hc1=>?_) (fun hc1=>?_)
   ·try (cases hc1;done)
    all_goals
     refine bF ?_;simp only[RR,seval];refine aI ?_;refine aB fun _ g=>aA rfl ?_;simp only[h,RR,seval];apply g;clear g;refine aO ?_;simp only[bB,aL,bH,h,RR,seval];refine aZ.pure ?_;rfl
   try (cases hc1;done)
   all_goals
    refine aK ?_;try simp only[RR]
    refine aB fun _ g=>aA rfl ?_;simp only[RR,seval]
    repeat' ((first|refine aR (fun h=>?_) (fun h=>?_)|refine aV (fun h=>?_) (fun h=>?_))<;>simp only[h,h,RR,seval])
    all_goals
     apply g;clear g;refine aH _ rfl (fun hc2=>?_) (fun hc2=>?_)
     ·try (cases hc2;done)
      all_goals
       refine bF ?_;simp only[RR,seval];refine aI ?_;refine aB fun _ g=>aA rfl ?_;simp only[RR,seval];apply g;clear g;refine aO ?_;simp only[bB,aL,bH,RR,seval];refine aZ.pure ?_;rfl
     try (cases hc2;done)
     all_goals
      refine aK ?_;try simp only[RR]
      refine bF ?_;simp only[RR,seval];refine aB fun _ g=>aA rfl ?_;simp only[h,RR,seval];apply g;clear g;refine aO ?_;simp only[bB,aL,bH,h,RR,seval];refine aZ.pure ?_;rfl
 rw[if_neg h];refine bI 23 [.tmp 6] Tryz.func149 rfl rfl rfl rfl ?_;refine aB fun _ g=>aA rfl ?_;simp only[RR,seval];apply g;clear g;refine aI ?_;refine aM ?_;refine aI ?_;refine aM ?_;refine aM ?_;refine aI ?_;refine aI ?_;refine aB fun _ g=>aA rfl ?_;simp only[RR,seval]
 repeat' ((first|refine aR (fun h=>?_) (fun h=>?_)|refine aV (fun h=>?_) (fun h=>?_))<;>simp only[h,h,RR,seval])
 all_goals
  apply g;clear g;refine aH _ rfl (fun hc1=>?_) (fun hc1=>?_)
  ·try (cases hc1;done)
   all_goals
    refine bF ?_;simp only[RR,seval];refine aI ?_;refine aB fun _ g=>aA rfl ?_;simp only[h,RR,seval];apply g;clear g;refine aO ?_;simp only[bB,aL,bH,h,RR,seval];refine aZ.pure ?_;rfl
  try (cases hc1;done)
  all_goals
   refine aK ?_;try simp only[RR]
   refine aB fun _ g=>aA rfl ?_;simp only[h,RR,seval]
   repeat' ((first|refine aR (fun h=>?_) (fun h=>?_)|refine aV (fun h=>?_) (fun h=>?_))<;>simp only[h,h,RR,seval])
   all_goals
    apply g;clear g;refine aH _ rfl (fun hc2=>?_) (fun hc2=>?_)
    ·try (cases hc2;done)
     all_goals
      refine bF ?_;simp only[RR,seval];refine aI ?_;refine aB fun _ g=>aA rfl ?_;simp only[h,RR,seval];apply g;clear g;refine aO ?_;simp only[bB,aL,bH,h,RR,seval];refine aZ.pure ?_;rfl
    try (cases hc2;done)
    all_goals
     refine aK ?_;try simp only[RR]
     refine bF ?_;simp only[RR,seval];refine aB fun _ g=>aA rfl ?_;simp only[RR,seval];apply g;clear g;refine aO ?_;simp only[bB,aL,bH,RR,seval];refine aZ.pure ?_;rfl
set_option maxHeartbeats 2000000 in
theorem Qm (op a b:Int) (hb:dI b):cJ cK 131 [.int .i64 op, .int .u32 a, .int .u32 b] (.tup [.int .u32 (eI op a b).1, .int .i64 (eI op a b).2]):=by
 by_cases h:op=4∨op=5∨op=6∨op=7∨op=8∨op=9∨op=10∨op=11∨op=12∨op=13∨op=14∨op=15
 ·have hd:=La op a b
  have hs:=Om op a b hb;have hk:=fun h=>Hm op a b h;have hbits:IntKind.bits .u32=32:=rfl;have e7:b=0→eI 7 a b=(0,14):=fun h=>by simp [eI,h]
  have e7': ¬b=0→eI 7 a b=(IntKind.wrap .u32 (a.tdiv b),0):=fun h=>by simp [eI,h]
  have e8:b=0→eI 8 a b=(0,14):=fun h=>by simp [eI,h]
  have e8': ¬b=0→eI 8 a b=(a.tmod b,0):=fun h=>by simp [eI,h]
  have e12:eI 12 a b=(if 31<b then 0 else IntKind.wrap .u32 (a *2^(min b.toNat 32)),0):=by
   show(if 31<b then((0:Int),(0:Int))else(IntKind.wrap .u32 (a *2^(min b.toNat 32)),0))=_;by_cases h:31<b<;>simp only[h,if_true,if_false]
  have e13:eI 13 a b=(if 31<b then 0 else a.fdiv (2^(min b.toNat 32)),0):=by
   show(if 31<b then((0:Int),(0:Int))else(a.fdiv (2^(min b.toNat 32)),0))=_;by_cases h:31<b<;>simp only[h,if_true,if_false]
  have e14:eI 14 a b=(if a<b then 1 else 0,0):=by simp [eI]
  have e15:eI 15 a b=(if a=b then 1 else 0,0):=by simp [eI]
  have a4:eI 4 a b=(IntKind.wrap .u32 (a+b),0):=rfl;have a5:eI 5 a b=(IntKind.wrap .u32 (a-b),0):=rfl;have a6:eI 6 a b=(IntKind.wrap .u32 (a *b),0):=rfl;have a9:eI 9 a b=(IntKind.wrap .u32 (BitVec.ofInt 32 a&&&BitVec.ofInt 32 b).toNat,0):=rfl;have a10:eI 10 a b=(IntKind.wrap .u32 (BitVec.ofInt 32 a|||BitVec.ofInt 32 b).toNat,0):=rfl;have a11:eI 11 a b=(IntKind.wrap .u32 (BitVec.ofInt 32 a^^^BitVec.ofInt 32 b).toNat,0):=rfl;rcases h with rfl|rfl|rfl|rfl|rfl|rfl|rfl|rfl|rfl|rfl|rfl|rfl
  case inr.inr.inr.inl=>
   by_cases h0:b=0
   ·rw[e7 h0]
    rw[if_pos h0]at hd;refine bI 62 [.tmp 6, .tmp 7] Tryz.func131 rfl rfl rfl rfl ?_
    repeat' (first|(refine aB fun K g=>?_;refine aA rfl ?_;simp only[RR,seval];apply g;clear g)|(refine aI ?_)|(refine aM ?_)|(refine aH true rfl (fun _=>?_) (fun hc=>by cases hc))|(refine aH false rfl (fun hc=>by cases hc) (fun _=>?_))|(refine aK ?_;simp only[aT])|(refine bF ?_;simp only[aT,aX,reduceIte,Nat.reduceEqDiff])|(refine aA rfl ?_;simp only[RR,seval])|(refine aR (fun h=>?_) (fun h=>?_)<;>simp only[h,hbits,aT,aX,RR,seval])|(refine aV (fun h=>?_) (fun h=>?_)<;>simp only[h,hbits,aT,aX,RR,seval])|(refine aH _ rfl (fun h=>?_) (fun h=>?_))|(refine aO ?_;simp only[aT,aX,bB,aL,bH,RR,seval];refine aZ.pure ?_)|(refine aN (hd) ?_;simp only[aT,RR,seval]))
    all_goals rfl
   rw[e7' h0];rw[if_neg h0,if_pos rfl]at hd;refine bI 62 [.tmp 6, .tmp 7] Tryz.func131 rfl rfl rfl rfl ?_
   repeat' (first|(refine aB fun K g=>?_;refine aA rfl ?_;simp only[RR,seval];apply g;clear g)|(refine aI ?_)|(refine aM ?_)|(refine aH true rfl (fun _=>?_) (fun hc=>by cases hc))|(refine aH false rfl (fun hc=>by cases hc) (fun _=>?_))|(refine aK ?_;simp only[aT])|(refine bF ?_;simp only[aT,aX,reduceIte,Nat.reduceEqDiff])|(refine aA rfl ?_;simp only[RR,seval])|(refine aR (fun h=>?_) (fun h=>?_)<;>simp only[h,hbits,aT,aX,RR,seval])|(refine aV (fun h=>?_) (fun h=>?_)<;>simp only[h,hbits,aT,aX,RR,seval])|(refine aH _ rfl (fun h=>?_) (fun h=>?_))|(refine aO ?_;simp only[aT,aX,bB,aL,bH,RR,seval];refine aZ.pure ?_)|(refine aN (hd) ?_;simp only[aT,RR,seval]))
   all_goals rfl
  case inr.inr.inr.inr.inl=>
   by_cases h0:b=0
   ·rw[e8 h0]
    rw[if_pos h0]at hd;refine bI 62 [.tmp 6, .tmp 7] Tryz.func131 rfl rfl rfl rfl ?_
    repeat' (first|(refine aB fun K g=>?_;refine aA rfl ?_;simp only[RR,seval];apply g;clear g)|(refine aI ?_)|(refine aM ?_)|(refine aH true rfl (fun _=>?_) (fun hc=>by cases hc))|(refine aH false rfl (fun hc=>by cases hc) (fun _=>?_))|(refine aK ?_;simp only[aT,aX])|(refine bF ?_;simp only[aT,aX,reduceIte,Nat.reduceEqDiff])|(refine aA rfl ?_;simp only[aT,RR,seval])|(refine aR (fun h=>?_) (fun h=>?_)<;>simp only[h,hbits,aT,aX,RR,seval])|(refine aV (fun h=>?_) (fun h=>?_)<;>simp only[h,hbits,aT,aX,RR,seval])|(refine aH _ rfl (fun h=>?_) (fun h=>?_))|(refine aO ?_;simp only[aT,aX,bB,aL,bH,RR,seval];refine aZ.pure ?_)|(refine aN (hd) ?_;simp only[aT,RR,seval]))
    all_goals rfl
   rw[e8' h0];rw[if_neg h0,if_neg (by decide)]at hd;refine bI 62 [.tmp 6, .tmp 7] Tryz.func131 rfl rfl rfl rfl ?_
   repeat' (first|(refine aB fun K g=>?_;refine aA rfl ?_;simp only[RR,seval];apply g;clear g)|(refine aI ?_)|(refine aM ?_)|(refine aH true rfl (fun _=>?_) (fun hc=>by cases hc))|(refine aH false rfl (fun hc=>by cases hc) (fun _=>?_))|(refine aK ?_;simp only[aT,aX])|(refine bF ?_;simp only[aT,aX,reduceIte,Nat.reduceEqDiff])|(refine aA rfl ?_;simp only[aT,RR,seval])|(refine aR (fun h=>?_) (fun h=>?_)<;>simp only[h,hbits,aT,aX,RR,seval])|(refine aV (fun h=>?_) (fun h=>?_)<;>simp only[h,hbits,aT,aX,RR,seval])|(refine aH _ rfl (fun h=>?_) (fun h=>?_))|(refine aO ?_;simp only[aT,aX,bB,aL,bH,RR,seval];refine aZ.pure ?_)|(refine aN (hd) ?_;simp only[aT,RR,seval]))
   all_goals rfl
  all_goals first|(rw[a4];have hcl:=hd)|(rw[a5];have hcl:=hd)|(rw[a6];have hcl:=hd)|(rw[a9];have hcl:=hd)|(rw[a10];have hcl:=hd)|(rw[a11];have hcl:=hd)|(rw[e12];have hcl:=hs)|(rw[e13];have hcl:=hs)|(rw[e14];have hcl:=hk (.inl rfl))|(rw[e15];have hcl:=hk (.inr rfl))
  all_goals
   try simp only[Int.reduceEq,if_true,if_false]at hcl
   refine bI 62 [.tmp 6, .tmp 7] Tryz.func131 rfl rfl rfl rfl ?_
   repeat' (first|(refine aB fun K g=>?_;refine aA rfl ?_;simp only[RR,seval];apply g;clear g)|(refine aI ?_)|(refine aM ?_)|(refine aH true rfl (fun _=>?_) (fun hc=>by cases hc))|(refine aH false rfl (fun hc=>by cases hc) (fun _=>?_))|(refine aK ?_;simp only[aT])|(refine bF ?_;simp only[aT,aX,reduceIte,Nat.reduceEqDiff])|(refine aA rfl ?_;simp only[aT,RR,seval])|(refine aR (fun h=>?_) (fun h=>?_)<;>simp only[h,hbits,aT,aX,RR,seval])|(refine aV (fun h=>?_) (fun h=>?_)<;>simp only[h,hbits,aT,aX,RR,seval])|(refine aH _ rfl (fun h=>?_) (fun h=>?_))|(refine aO ?_;simp only[aT,aX,bB,aL,bH,RR,seval];refine aZ.pure ?_)|(refine aN (hcl) ?_;simp only[aT,RR,seval]))
   all_goals rfl
 have n4: ¬op=4:=fun e=>h (by simp [e]);have n5: ¬op=5:=fun e=>h (by simp [e]);have n6: ¬op=6:=fun e=>h (by simp [e]);have n7: ¬op=7:=fun e=>h (by simp [e]);have n8: ¬op=8:=fun e=>h (by simp [e]);have n9: ¬op=9:=fun e=>h (by simp [e]);have n10: ¬op=10:=fun e=>h (by simp [e]);have n11: ¬op=11:=fun e=>h (by simp [e]);have n12: ¬op=12:=fun e=>h (by simp [e]);have n13: ¬op=13:=fun e=>h (by simp [e]);have n14: ¬op=14:=fun e=>h (by simp [e]);have n15: ¬op=15:=fun e=>h (by simp [e]);have e:eI op a b=(0,1):=by simp [eI,n4,n5,n6,n7,n8,n9,n10,n11,n12,n13,n14,n15]
 rw[e];refine bI 62 [.tmp 6, .tmp 7] Tryz.func131 rfl rfl rfl rfl ?_
 repeat' (first|(refine aB fun K g=>?_;refine aA rfl ?_;simp only[n4,n5,n6,n7,n9,n10,n11,n12,n14,RR,seval];apply g;clear g)|(refine aI ?_)|(refine aM ?_)|(refine aH true rfl (fun _=>?_) (fun hc=>by cases hc))|(refine aH false rfl (fun hc=>by cases hc) (fun _=>?_))|(refine aK ?_;simp only[aT,aX])|(refine bF ?_;simp only[aT,aX,reduceIte,Nat.reduceEqDiff])|(refine aA rfl ?_;simp only[n8,n13,n15,aT,RR,seval])|(refine aR (fun h=>?_) (fun h=>?_)<;>simp only[h,n4,n5,n6,n7,n8,n9,n10,n11,n12,n13,n14,n15,aT,aX,RR,seval])|(refine aV (fun h=>?_) (fun h=>?_)<;>simp only[h,n4,n5,n6,n7,n8,n9,n10,n11,n12,n13,n14,n15,aT,aX,RR,seval])|(refine aH _ rfl (fun h=>?_) (fun h=>?_))|(refine aO ?_;simp only[bB,aL,bH,RR,seval];refine aZ.pure ?_))
 all_goals rfl
end Go.Proofs.YtnfbbjhdflhmjaaGreatDoor
