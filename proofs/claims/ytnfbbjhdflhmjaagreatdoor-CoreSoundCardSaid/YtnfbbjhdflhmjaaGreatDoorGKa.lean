/- Chapter 19: how a core's run in the midst lies in memory. -/
import Derived.Test.YtnfbbjhdflhmjaaGreatDoorCx
import Derived.Test.YtnfbbjhdflhmjaaGreatDoorMb
set_option linter.unusedSimpArgs false
set_option linter.unusedVariables false
set_option maxRecDepth 10000
namespace Go.Al
structure eX (cx:Kx) (W br bw:Nat) (st:RS) (vo:AV) (H:Hp):Prop where
 r:H br=some (.rows 7 [[.isl 5 (cx.funs.map CF.row), .osl 1 bw st.vars.length, .str cx.inp, .int .i64 st.read,vo, .int .i64 st.ticks, .int .i64 cx.fuel]])
 v:H bw=some (.rows 1 (st.vars.map jV))
 o:dJ 1 vo (st.out.map xG) H
 ov:off vo bw
 uv: ∀x∈st.vars,dI x
 ub:st.out.length≤65536
 rd:st.read≤cx.inp.length
 tk:st.ticks≤cx.fuel
 lw:st.vars.length=W
def dP (br bw:Nat) (vo vo':AV) (H H':Hp):Prop:= ∀b o,H b=some o→b≠br→b≠bw→off vo b→H' b=some o∧off vo' b
theorem dP.refl (br bw:Nat) (vo:AV) (H:Hp):dP br bw vo vo H H:=fun _ _ h _ _ ho=>⟨h,ho⟩
theorem dP.trans {br bw:Nat} {vo vo1 vo2:AV} {H H1 H2:Hp} (h:dP br bw vo vo1 H H1) (h':dP br bw vo1 vo2 H1 H2):dP br bw vo vo2 H H2:=fun b o hb h1 h2 h4=>by
 obtain⟨g1,g2⟩:=h b o hb h1 h2 h4;exact h' b o g1 h1 h2 g2
theorem dP.new {br bw bo:Nat} {vo vo1:AV} {H H1:Hp} {o:Option fC} (hn:H bo=none) (h:dP br bw vo vo1 (upd H bo o) H1):dP br bw vo vo1 H H1:=fun b o' hb h1 h2 h4=>by
 have :b≠bo:=fun e=>by rw[e,hn]at hb;cases hb
 exact h b o' (by rw[cH _ _ this];exact hb) h1 h2 h4
theorem dP.updN {br bw b:Nat} {vo vo1:AV} {H H1:Hp} (h:dP br bw vo vo1 H H1) (hb:H b=none) (o:Option fC):dP br bw vo vo1 H (upd H1 b o):=fun b' o' hb' h1 h2 h4=>by
 obtain⟨g1,g2⟩:=h b' o' hb' h1 h2 h4;have :b'≠b:=fun e=>by rw[e,hb]at hb';cases hb'
 exact⟨by rw[cH _ _ this];exact g1,g2⟩
section
variable {cx : Kx} {W br bw : Nat} {st : RS} {vo : AV} {H : Hp}
theorem eX.nbr (h:eX cx W br bw st vo H) {b s:Nat} {l:List (List AV)} (hb:H b=some (.rows s l)) (hs:s≠7):b≠br:=fun e=>by rw[e,h.r]at hb;cases hb;exact hs rfl
theorem eX.bwr (h:eX cx W br bw st vo H):bw≠br:=h.nbr h.v (by decide)
theorem eX.new (h:eX cx W br bw st vo H) {b:Nat} (hb:H b=none) (o:Option fC):eX cx W br bw st vo (upd H b o):=by
 have n1:br≠b:=fun e=>by have:=h.r;rw[e,hb]at this;cases this
 have n2:bw≠b:=fun e=>by have:=h.v;rw[e,hb]at this;cases this
 exact {h with r:=by rw[cH _ _ n1];exact h.r,v:=by rw[cH _ _ n2];exact h.v,o:=h.o.upd hb o}
theorem eX.other (h:eX cx W br bw st vo H) {b:Nat} (h1:b≠br) (h2:b≠bw) (h3:off vo b) (o:Option fC):eX cx W br bw st vo (upd H b o):=
 {h with r:=by rw[cH _ _ (Ne.symm h1)];exact h.r,v:=by rw[cH _ _ (Ne.symm h2)];exact h.v,o:=h.o.off h3 o}
theorem eX.turn (h:eX cx W br bw st vo H) {st':RS} (hv:st'.vars=st.vars) (ho:st'.out=st.out) (hrd:st'.read≤cx.inp.length) (htk:st'.ticks≤cx.fuel):
  eX cx W br bw st' vo (upd H br (some (.rows 7 [[.isl 5 (cx.funs.map CF.row), .osl 1 bw st'.vars.length, .str cx.inp, .int .i64 st'.read,vo, .int .i64 st'.ticks, .int .i64 cx.fuel]]))):=
 ⟨bO _ _ _,by rw[cH _ _ h.bwr,hv];exact h.v,by rw[ho];exact h.o.off (h.o.offsz h.r (by decide)) _,h.ov,by rw[hv];exact h.uv,by rw[ho];exact h.ub,hrd,htk,by rw[hv];exact h.lw⟩
theorem dP.run (o:Option fC):dP br bw vo vo H (upd H br o):=fun b' o' hb h1 _ h4=>⟨by rw[cH _ _ h1];exact hb,h4⟩
theorem dP.vars (o:Option fC):dP br bw vo vo H (upd H bw o):=fun b' o' hb _ h2 h4=>⟨by rw[cH _ _ h2];exact hb,h4⟩
theorem eX.setAll (h:eX cx W br bw st vo H) {l:List Int} (hl:l.length=st.vars.length) (hu: ∀x∈l,dI x):eX cx W br bw {st with vars:=l} vo (upd H bw (some (.rows 1 (l.map jV)))):=by
 have n2:br≠bw:=Ne.symm h.bwr;refine⟨?_,bO _ _ _,h.o.off h.ov _,h.ov,hu,h.ub,h.rd,h.tk,hl.trans h.lw⟩;rw[cH _ _ n2];show H br=some (.rows 7 [[_, .osl 1 bw l.length,_,_,_,_,_]]);rw[hl];exact h.r
theorem eX.setV (h:eX cx W br bw st vo H) (i:Nat) (v:Int) (hv:dI v):eX cx W br bw {st with vars:=st.vars.set i v} vo (upd H bw (some (.rows 1 ((st.vars.map jV).set i [.int .u32 v])))):=by
 rw[uF];refine h.setAll (by simp) fun x hx=>?_;rcases List.mem_or_eq_of_mem_set hx with hx|rfl
 ·exact h.uv x hx
 exact hv
theorem eX.sub {H':Hp} (h:eX cx W br bw st vo H) (hk: ∀b o,H b=some o→H' b=some o):eX cx W br bw st vo H':=by
 have ho:dJ 1 vo (st.out.map xG) H':=by
  rcases h.o with g|⟨b,g1,g2⟩
  ·exact .inl g
  exact .inr ⟨b,g1,hk _ _ g2⟩
 exact {h with r:=hk _ _ h.r,v:=hk _ _ h.v,o:=ho}
theorem eX.put {v':AV} {H':Hp} (h:eX cx W br bw st vo H) {c:UInt8} (hl:st.out.length<65536) (ho:dJ 1 v' (st.out.map xG++[xG c]) H')
  (hk: ∀b o,H b=some o→vo≠ .osl 1 b (st.out.map xG).length→H' b=some o) (hg: ∀b,off vo b→H b≠none→off v' b):
  eX cx W br bw {st with out:=st.out++[c]} v' (upd H' br (some (.rows 7 [[.isl 5 (cx.funs.map CF.row), .osl 1 bw st.vars.length, .str cx.inp, .int .i64 st.read,v', .int .i64 st.ticks, .int .i64 cx.fuel]])))∧
  dP br bw vo v' H (upd H' br (some (.rows 7 [[.isl 5 (cx.funs.map CF.row), .osl 1 bw st.vars.length, .str cx.inp, .int .i64 st.read,v', .int .i64 st.ticks, .int .i64 cx.fuel]]))):=by
 have n2:=h.bwr;have hob:off vo br:=h.o.offsz h.r (by decide);have hob':off v' br:=hg br hob (by rw[h.r];exact cL _);refine⟨⟨bO _ _ _, ?_, ?_,hg bw h.ov (by rw[h.v];exact cL _),h.uv, ?_,h.rd,h.tk,h.lw⟩,fun b o hb h1 h2 h4=>⟨?_,hg b h4 (by rw[hb];exact cL _)⟩⟩
 ·rw[cH _ _ n2];exact hk _ _ h.v (h.ov _ _)
 ·rw[List.map_append]
  exact ho.off hob' _
 ·simp only[bP,List.length_singleton];omega
 rw[cH _ _ h1];exact hk _ _ hb (h4 _ _)
theorem Ky (vars vs:List Int) (a n:Nat) (h:a+n≤vars.length) (hp:vs.length≤n) (z:List AV):
  (((vars.map jV).take a++List.replicate n [AV.int .u32 0]++(vars.map jV).drop (a+n)).take a++(((vs.map (AV.int .u32))++z).take vs.length).map (fun x=>[x])++((vars.map jV).take a++List.replicate n [AV.int .u32 0]++(vars.map jV).drop (a+n)).drop (a+vs.length))=
  (vars.take a++(vs++List.replicate (n-vs.length) 0)++vars.drop (a+n)).map jV:=by
 have e1:((vars.map jV).take a).length=a:=by rw[cU,aD];omega
 have e2:((vs.map (AV.int .u32))++z).take vs.length=vs.map (AV.int .u32):=by rw[List.take_left' (by rw[aD])]
 have e3:(vs.map (AV.int .u32)).map (fun x=>[x])=vs.map jV:=by rw[List.map_map];rfl
 rw[List.append_assoc ((vars.map jV).take a),List.take_left' e1,e2,e3]
 have e4:((vars.map jV).take a++(List.replicate n [AV.int .u32 0]++(vars.map jV).drop (a+n))).drop (a+vs.length)=(List.replicate n [AV.int .u32 0]++(vars.map jV).drop (a+n)).drop vs.length:=by
  rw[List.drop_append,e1,List.drop_eq_nil_of_le (by rw[e1];omega),List.nil_append,Nat.add_sub_cancel_left]
 rw[e4,List.drop_append_of_le_length (by rw[fB];exact hp),List.drop_replicate];simp only[List.map_append,List.map_take,List.map_drop,List.map_replicate,List.append_assoc];rfl
end
structure Ay (cx:Kx) (W:Nat):Prop where
 inp:cx.inp.length≤2000000
 fuel:cx.fuel<9223372036854775808
 wl:W≤32768
 funs:vD (W:Int) cx.funs
 body: ∀f∈cx.funs,uE f.body
end Go.Al
