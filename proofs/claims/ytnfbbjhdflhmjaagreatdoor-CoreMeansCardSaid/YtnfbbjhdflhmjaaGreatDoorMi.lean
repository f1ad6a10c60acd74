/- Chapter 18, the program's: a tick, a byte that comes in, one that goes out, an array's word. Chapter 18, the program's: a byte that goes out, an array's word. Chapter 18, the program's: an expression's value. Chapter 18, the program's: a call. Chapter 18, the program's: statements one behind the other; a loop. Chapter 18, the program's: a statement. -/
import Derived.Test.YtnfbbjhdflhmjaaGreatDoorMb
set_option linter.unusedSimpArgs false
set_option linter.unusedVariables false
set_option maxRecDepth 10000
namespace Go.Proofs.YtnfbbjhdflhmjaaGreatDoor
open Go.Al
def wL (e:Int):AV:= .ifc 89 (.agg [.int .i64 e])
def nZ {α:Type} (cx:Cx) (br bv:Nat) (abs:List Nat) (vo:AV) (H:Hp) (f:α→AV) (P:α→Prop) (r:Rz α):kD→Hp→Prop:=fun ae H'=>
 ∃vo',(match r with | .val v _=>ae= .ret (f v)∧P v| .fin e _=>ae= .pan (wL e))∧eJ cx br bv abs r.st vo' H'∧dJ br bv abs vo vo' H H'
theorem eL {α:Type} {F:Nat→Prop} {ds:List (Option Nat)} {Q:dI} {d:Option Nat} {rest:List Oper} {fr:Fr} {H:Hp} {g:FuncId} {args:List AV} {cx:Cx} {br bv:Nat} {abs:List Nat} {vo:AV} {f:α→AV} {P:α→Prop} {r:Rz α}
  (hc:gK cN g args H (nZ cx br bv abs vo H f P r)) (hF: ∀b,F b)
  (hp: ∀e s vo' H',r= .fin e s→eJ cx br bv abs s vo' H'→dJ br bv abs vo vo' H H'→Q (.pan (wL e)) An H')
  (hv: ∀v s vo' H',r= .val v s→P v→eJ cx br bv abs s vo' H'→dJ br bv abs vo vo' H H'→cQ cN F ds Q rest (dR fr d (f v)) H'):nQ cN F ds Q d rest fr H g args:=by
 refine jK hc hF fun ae H' ⟨vo',h1,h2,h3⟩=>?_
 cases r with
 |val v s=>
  obtain⟨h1,h4⟩:=h1;subst h1;exact hv v s vo' H' rfl h4 h2 h3
 |fin e s=>
  subst h1;exact hp e s vo' H' rfl h2 h3
section
variable {cx : Cx} {r v : Nat} {abs : List Nat} {st : RS} {vo : AV} {H : Hp}
theorem Ag (hx:yP cx) (hR:eJ cx r v abs st vo H):gK cN 135 [.ptr 8 r 0 0] H (nZ cx r v abs vo H (fun _=> .tup []) (fun _=>True) (eQ cx st)):=by
 have hr:=hR.r;by_cases hf:cx.fuel≤st.ticks
 ·have zf:(cx.fuel:Int)≤(st.ticks:Int):=by omega
  have e:eQ cx st= .fin 5 st:=by unfold eQ;rw[if_pos hf]
  rw[e];refine bD 20 [] Tryz.func135 rfl rfl rfl rfl ?_;refine aH ?_;refine aB fun K Y=>?_;refine bB (fun x=>x≠r) [(0,3),(1,3),(2,3),(3,1),(4,3),(5,3),(6,3),(7,1),(8,3)] [] cX (by kernel_rfl) rfl rfl ?_;simp only[cH,hr,zf,RR,seval];apply Y;clear Y;refine aF true rfl (fun _=>?_) (fun hc=>by cases hc);refine aA rfl ?_;simp only[RR,seval];simp only[bR,bT];exact⟨vo,rfl,hR,dJ.refl _ _ _ _ _⟩
 have zf: ¬(cx.fuel:Int)≤(st.ticks:Int):=by omega
 have e:eQ cx st= .val () {st with ticks:=st.ticks+1}:=by unfold eQ;rw[if_neg hf]
 rw[e];have hfu:=hx.fuel;have e1:IntKind.wrap .i64 ((st.ticks:Int)+1)=((st.ticks+1:Nat):Int):=by rw[aR _ (by omega)];omega
 refine bD 20 [] Tryz.func135 rfl rfl rfl rfl ?_;refine aH ?_;refine aB fun K Y=>?_;refine bB (fun x=>x≠r) [(0,3),(1,3),(2,3),(3,1),(4,3),(5,3),(6,3),(7,1),(8,3)] [] cX (by kernel_rfl) rfl rfl ?_;simp only[cH,hr,zf,RR,seval];apply Y;clear Y;refine aF false rfl (fun hc=>by cases hc) (fun _=>?_);refine aM ?_;try simp only[RR]
 refine aA rfl ?_;simp only[hr,e1,RR,seval]
 try simp only[aX,aN,bI,seval]
 exact aW.run ⟨vo,⟨rfl,trivial⟩,hR.turn (st':={st with ticks:=st.ticks+1}) rfl rfl rfl hR.rd (by show st.ticks+1≤_;omega),dJ.run _⟩
theorem Ri (hx:yP cx) (hR:eJ cx r v abs st vo H):gK cN 134 [.ptr 8 r 0 0] H (nZ cx r v abs vo H (fun n=> .int .u32 n) cC (lW cx st)):=by
 have hr:=hR.r;have hrd:=hR.rd;have hin:=hx.inp;by_cases hf:cx.inp.length≤st.read
 ·have zf:(cx.inp.length:Int)≤(st.read:Int):=by omega
  have e:lW cx st= .val 256 st:=by unfold lW;rw[List.getElem?_eq_none hf]
  rw[e];refine bD 32 [.tmp 2] Tryz.func134 rfl rfl rfl rfl ?_;refine aB fun _ Y=>aA rfl ?_;simp only[RR,seval];apply Y;clear Y;refine aH ?_;refine aB fun K Y=>?_;refine bB (fun x=>x≠r) [(0,3),(1,3),(2,3),(3,1),(4,3),(5,3),(6,3),(7,1),(8,3),(9,3)] [] cX (by kernel_rfl) rfl rfl ?_;simp only[cH,hr,zf,RR,seval];apply Y;clear Y;refine aF true rfl (fun _=>?_) (fun hc=>by cases hc);refine aB fun _ Y=>aA rfl ?_;simp only[RR,seval];apply Y;clear Y;refine aQ ?_;simp only[aX,aN,bI,RR,seval];exact aW.run ⟨vo,⟨rfl,by simp [cC]⟩,hR,dJ.refl _ _ _ _ _⟩;skip
 have zf: ¬(cx.inp.length:Int)≤(st.read:Int):=by omega
 have hg:=aG (show st.read<cx.inp.length by omega);generalize cx.inp[st.read]=c at hg;have e:lW cx st= .val c.toNat {st with read:=st.read+1}:=by unfold lW;rw[hg]
 rw[e];have e1:IntKind.wrap .i64 ((st.read:Int)+1)=((st.read+1:Nat):Int):=by rw[aR _ (by omega)];omega
 have hc:=UInt8.toNat_lt c;have hu:cC (c.toNat:Int):=⟨by omega,by omega⟩;have e2:IntKind.wrap .u32 (c.toNat:Int)=(c.toNat:Int):=by simp [IntKind.wrap,IntKind.signed,IntKind.bits];omega
 refine bD 32 [.tmp 2] Tryz.func134 rfl rfl rfl rfl ?_;refine aB fun _ Y=>aA rfl ?_;simp only[RR,seval];apply Y;clear Y;refine aH ?_;refine aB fun K Y=>?_;refine bB (fun x=>x≠r) [(0,3),(1,3),(2,3),(3,1),(4,3),(5,3),(6,3),(7,1),(8,3),(9,3)] [] cX (by kernel_rfl) rfl rfl ?_;simp only[cH,hr,zf,RR,seval];apply Y;clear Y;refine aF false rfl (fun hc=>by cases hc) (fun _=>?_);refine aM ?_;try simp only[RR]
 refine aB fun K Y=>?_;refine bB (fun x=>x≠r) [(0,3),(1,3),(2,3),(3,1),(4,3),(5,3),(6,3),(7,1),(8,3),(9,3)] [] cX (by kernel_rfl) rfl rfl ?_;simp only[cH,hr,hg,RR,seval];apply Y;clear Y;refine aB fun _ Y=>aA rfl ?_;simp only[hr,e1,RR,seval];apply Y;clear Y;refine aB fun _ Y=>aA rfl ?_;simp only[e2,RR,seval];apply Y;clear Y;refine aQ ?_;simp only[aX,aN,bI,RR,seval];exact aW.run ⟨vo,⟨rfl,hu⟩,hR.turn (st':={st with read:=st.read+1}) rfl rfl rfl (by show st.read+1≤_;omega) hR.tk,dJ.run _⟩;skip
end
end Go.Proofs.YtnfbbjhdflhmjaaGreatDoor
namespace Go.Al
theorem eJ.put {cx:Cx} {br bv:Nat} {abs:List Nat} {st:RS} {vo v':AV} {H H':Hp} (h:eJ cx br bv abs st vo H) {c:UInt8} (hl:st.out.length<65536) (ho:dS 1 v' (st.out.map jX++[jX c]) H')
  (hk: ∀b o,H b=some o→vo≠ .osl 1 b (st.out.map jX).length→H' b=some o) (hg: ∀b,off vo b→H b≠none→off v' b):
  eJ cx br bv abs {st with out:=st.out++[c]} v' (upd H' br (some (.rows 8 [[.isl 2 (cx.funs.map Cf.row), .osl 1 bv st.vars.length, .isl 1 (dL abs st.arrs), .str cx.inp, .int .i64 st.read,v', .int .i64 st.ticks, .int .i64 cx.fuel]])))∧
  dJ br bv abs vo v' H (upd H' br (some (.rows 8 [[.isl 2 (cx.funs.map Cf.row), .osl 1 bv st.vars.length, .isl 1 (dL abs st.arrs), .str cx.inp, .int .i64 st.read,v', .int .i64 st.ticks, .int .i64 cx.fuel]]))):=by
 have n2:bv≠br:=h.nbr h.v;have hob:off vo br:=h.o.offsz h.r (by decide);have hob':off v' br:=hg br hob (by rw[h.r];exact bS _);refine⟨⟨bO _ _ _, ?_,h.al,fun i b' l h1 h2=>?_,h.nd,h.va, ?_,hg bv h.ov (by rw[h.v];exact bS _),fun b hb=>hg b (h.oa b hb) (h.abs_some hb),h.uv,h.ua, ?_,h.rd,h.tk⟩,fun b o hb h1 h2 h3 h4=>⟨?_,hg b h4 (by rw[hb];exact bS _)⟩⟩
 ·rw[bY _ _ n2];exact hk _ _ h.v (h.ov _ _)
 ·have hb:=h.a i b' l h1 h2
  rw[bY _ _ (h.nbr hb)];exact hk _ _ hb (h.oa b' (aL h1) _ _)
 ·rw[List.map_append]
  exact ho.off hob' _
 ·simp only[bU,List.length_singleton];omega
 rw[bY _ _ h1];exact hk _ _ hb (h4 _ _)
end Go.Al
namespace Go.Proofs.YtnfbbjhdflhmjaaGreatDoor
open Go.Al
section
variable {cx : Cx} {r v : Nat} {abs : List Nat} {st : RS} {vo : AV} {H : Hp}
theorem Rh (hR:eJ cx r v abs st vo H) (n:Int):gK cN 104 [.ptr 8 r 0 0, .int .u32 n] H (nZ cx r v abs vo H (fun _=> .tup []) (fun _=>True) (kX n st)):=by
 have hr:=hR.r;have hown:=hR.o;have hub:=hR.ub
 have hlen: ∃m,st.out.length=m∧(vo= .nsl∧m=0∨ ∃b,vo= .osl 1 b m):=⟨_,rfl,by
  rcases hown with⟨h1,h2⟩|⟨b,h1,h2⟩
  ·exact .inl ⟨h1,by simpa using h2⟩
  exact .inr ⟨b,by simpa using h1⟩⟩
 obtain⟨m,hm,hvo⟩:=hlen;by_cases hf:65536≤st.out.length
 ·have zf:(65536:Int)≤(m:Int):=by omega
  have e:kX n st= .fin 4 st:=by unfold kX;rw[if_pos hf]
  rw[e];rcases hvo with⟨rfl,rfl⟩|⟨b,rfl⟩
  ·omega
  skip;refine bD 23 [] Tryz.func104 rfl rfl rfl rfl ?_;refine aH ?_;refine aB fun _ Y=>aA rfl ?_;simp only[hr,zf,RR,seval];apply Y;clear Y;refine aF true rfl (fun _=>?_) (fun hc=>by cases hc);refine aA rfl ?_;simp only[RR,seval];simp only[bR,bT];exact⟨_,rfl,hR,dJ.refl _ _ _ _ _⟩
 have zf: ¬(65536:Int)≤(m:Int):=by omega
 have e:kX n st= .val () {st with out:=st.out++[UInt8.ofNat (IntKind.wrap .u8 n).toNat]}:=by unfold kX;rw[if_neg hf]
 rw[e]
 have hc:((UInt8.ofNat (IntKind.wrap .u8 n).toNat).toNat:Int)=IntKind.wrap .u8 n:=by
  have h1:IntKind.wrap .u8 n=n % 256:=by simp [IntKind.wrap,IntKind.signed,IntKind.bits]
  rw[h1];have:=Int.emod_nonneg n (show(256:Int)≠0 by decide);have:=Int.emod_lt_of_pos n (show(0:Int)<256 by decide);simp only[UInt8.toNat_ofNat'];omega
 have hrow:[AV.int .u8 (IntKind.wrap .u8 n)]=jX (UInt8.ofNat (IntKind.wrap .u8 n).toNat):=by unfold jX;rw[hc]
 generalize UInt8.ofNat (IntKind.wrap .u8 n).toNat=c at hrow;clear hc e;rcases hvo with⟨rfl,rfl⟩|⟨b,rfl⟩
 all_goals
  have zg: ¬(65536:Int)≤0:=by decide
  refine bD 23 [] Tryz.func104 rfl rfl rfl rfl ?_;refine aH ?_;refine aB fun _ Y=>aA rfl ?_;simp only[hr,zf,zg,RR,seval];apply Y;clear Y;refine aF false rfl (fun hc=>by cases hc) (fun _=>?_);refine aM ?_;try simp only[RR]
  refine aA rfl ?_;simp only[hr,RR,seval];refine dH ?_;simp only[RR,seval];refine gT hown (by simp only[aD,bP,List.length_nil];omega) (fun _ _=>trivial) fun v' H' ho' hk' hg'=>?_;have hce:=ho'.cells;have hoe:=ho'.one1;have hr:=hk' r _ hr (hown.offsz hr (by decide) _ _);simp only[hce,hoe,Option.bind_some,List.drop,hr,RR,seval];simp only[aX,aN,bI];rw[hrow]at ho';obtain⟨g1,g2⟩:=hR.put (by omega) ho' hk' hg';exact aW.run ⟨v',⟨rfl,trivial⟩,g1,g2⟩
theorem To (hR:eJ cx r v abs st vo H) {i:Nat} {x:Int} (hx:cC x) {b:Nat} {l:List Int} (hb:abs[i]?=some b) (hl:st.arrs[i]?=some l):
  gK cN 103 [.ptr 8 r 0 0, .int .i64 i, .int .u32 x] H (nZ cx r v abs vo H (fun j:Nat=> .ptr 1 b j 0) (fun j=>j<l.length) (if x.toNat<l.length then .val x.toNat st else .fin 3 st)):=by
 have hr:=hR.r;have hg:=mK abs st.arrs i b l hb hl;have hlen:=(hR.ua l (aL hl)).1;obtain⟨m,rfl⟩:=Int.eq_ofNat_of_zero_le hx.1;have hx2:=hx.2;have e1:IntKind.wrap .u64 (m:Int)=(m:Int):=by simp [IntKind.wrap,IntKind.signed,IntKind.bits];omega
 have e2:IntKind.wrap .u64 (l.length:Int)=(l.length:Int):=by simp [IntKind.wrap,IntKind.signed,IntKind.bits];omega
 rw[Int.toNat_natCast];by_cases hf:m<l.length
 ·have zf: ¬(l.length:Int)≤(m:Int):=by omega
  have zg:(m:Int)<(l.length:Int):=by omega
  rw[if_pos hf];refine bD 26 [.tmp 6] Tryz.func103 rfl rfl rfl rfl ?_;refine aB fun _ Y=>aA rfl ?_;simp only[RR,seval];apply Y;clear Y;refine aB fun _ Y=>aA rfl ?_;simp only[hr,hg,RR,seval];apply Y;clear Y;refine aH ?_;refine aB fun _ Y=>aA rfl ?_;simp only[zf,e1,e2,RR,seval];apply Y;clear Y;refine aF false rfl (fun hc=>by cases hc) (fun _=>?_);refine aM ?_;try simp only[RR]
  refine aB fun _ Y=>aA rfl ?_;simp only[zg,RR,seval];apply Y;clear Y;refine aQ ?_;simp only[aX,aN,bI,RR,seval];exact aW.run ⟨vo,⟨rfl,hf⟩,hR,dJ.refl _ _ _ _ _⟩;skip
 have zf:(l.length:Int)≤(m:Int):=by omega
 rw[if_neg hf];refine bD 26 [.tmp 6] Tryz.func103 rfl rfl rfl rfl ?_;refine aB fun _ Y=>aA rfl ?_;simp only[RR,seval];apply Y;clear Y;refine aB fun _ Y=>aA rfl ?_;simp only[hr,hg,RR,seval];apply Y;clear Y;refine aH ?_;refine aB fun _ Y=>aA rfl ?_;simp only[zf,e1,e2,RR,seval];apply Y;clear Y;refine aF true rfl (fun _=>?_) (fun hc=>by cases hc);refine aA rfl ?_;simp only[RR,seval];simp only[bR,bT];exact⟨vo,rfl,hR,dJ.refl _ _ _ _ _⟩
end
end Go.Proofs.YtnfbbjhdflhmjaaGreatDoor
namespace Go.Al
theorem fQ {l:List Int} {i:Nat} {x:Int} (h:l[i]?=some x):(l.map cZ)[i]?=some [.int .u32 x]:=by rw[bN,h];rfl
theorem lI {rs:cR→Bool×Int} {l:List Ex} {i:Nat} {x:Ex} (h:l[i]?=some x):(l.map (cE rs))[i]?=some (cE rs x):=by rw[bN,h];rfl
theorem Zk {rs:cR→Bool×Int} {l:List Sm} {i:Nat} {x:Sm} (h:l[i]?=some x):(l.map (cS rs))[i]?=some (cS rs x):=by rw[bN,h];rfl
end Go.Al
namespace Go.Proofs.YtnfbbjhdflhmjaaGreatDoor
open Go.Al
def uI (cx:Cx) (br bv:Nat) (abs:List Nat) (vo:AV) (bo n:Nat) (H:Hp) (r:Rz (Option Int×List Int)):kD→Hp→Prop:=fun ae H'=>
 ∃vo',(match r with
  | .val p _=>ae= .ret (.tup [.int .u32 (p.1.getD 0), .bool p.1.isSome])∧cC (p.1.getD 0)∧p.2.length=n∧(∀x∈p.2,cC x)∧iQ bv abs vo' bo (p.2.map cZ) H'
  | .fin e _=>ae= .pan (wL e))∧eJ cx br bv abs r.st vo' H'∧fP br bv abs vo vo' bo H H'
structure Oj (cx:Cx) (r v:Nat) (abs:List Nat) (n:Nat):Prop where
 V: ∀(rs:cR→Bool×Int) (ow:List Int) (e:Ex) (st:RS) (vo:AV) (H:Hp) (bo:Nat) (o:Rz Int),e.ok→eJ cx r v abs st vo H→iQ v abs vo bo (ow.map cZ) H→(∀x∈ow,cC x)→gB cx n rs ow e st=some o→
  gK cN 102 [.ptr 8 r 0 0, .ipt (cE rs e) 0, .osl 1 bo ow.length] H (nZ cx r v abs vo H (fun x=> .int .u32 x) cC o)
 C: ∀(rs:cR→Bool×Int) (ow:List Int) (i:Int) (f:Cf) (l:List Ex) (st:RS) (vo:AV) (H:Hp) (bo:Nat) (o:Rz Int),Cw l→0≤i→cx.funs[i.toNat]?=some f→eJ cx r v abs st vo H→iQ v abs vo bo (ow.map cZ) H→(∀x∈ow,cC x)→qI cx n rs ow i l st=some o→
  gK cN 106 [.ptr 8 r 0 0, .ipt f.row 0, .isl 6 (l.map (cE rs)), .osl 1 bo ow.length] H (nZ cx r v abs vo H (fun x=> .int .u32 x) cC o)
 S: ∀(rs:cR→Bool×Int) (ow:List Int) (e:Sm) (st:RS) (vo:AV) (H:Hp) (bo:Nat) (o:Rz (Option Int×List Int)),e.ok→eJ cx r v abs st vo H→iQ v abs vo bo (ow.map cZ) H→(∀x∈ow,cC x)→kQ cx n rs ow e st=some o→
  gK cN 65 [.ptr 8 r 0 0, .ipt (cS rs e) 0, .osl 1 bo ow.length] H (uI cx r v abs vo bo ow.length H o)
 L: ∀(rs:cR→Bool×Int) (ow:List Int) (l:List Sm) (st:RS) (vo:AV) (H:Hp) (bo:Nat) (o:Rz (Option Int×List Int)),Af l→eJ cx r v abs st vo H→iQ v abs vo bo (ow.map cZ) H→(∀x∈ow,cC x)→iH cx n rs ow l st=some o→
  gK cN 39 [.ptr 8 r 0 0, .isl 6 (l.map (cS rs)), .osl 1 bo ow.length] H (uI cx r v abs vo bo ow.length H o)
 W: ∀(rs:cR→Bool×Int) (ow:List Int) (e:Sm) (c:Ex) (st:RS) (vo:AV) (H:Hp) (bo:Nat) (o:Rz (Option Int×List Int)),e.ok→e.es[0]?=some c→eJ cx r v abs st vo H→iQ v abs vo bo (ow.map cZ) H→(∀x∈ow,cC x)→rL cx n rs ow c e.thn st=some o→
  gK cN 105 [.ptr 8 r 0 0, .ipt (cS rs e) 0, .osl 1 bo ow.length] H (uI cx r v abs vo bo ow.length H o)
section
variable {cx : Cx} {r v : Nat} {abs : List Nat} {n : Nat}
set_option maxHeartbeats 2000000 in
theorem Eu (ih:Oj cx r v abs n) (hx:yP cx) (rs:cR→Bool×Int) (ow:List Int) (e:Ex) (st:RS) (vo:AV) (H:Hp) (bo:Nat) (o:Rz Int) (he:e.ok) (hR:eJ cx r v abs st vo H) (hO:iQ v abs vo bo (ow.map cZ) H) (hu: ∀x∈ow,cC x) (h:gB cx (n+1) rs ow e st=some o):
  gK cN 102 [.ptr 8 r 0 0, .ipt (cE rs e) 0, .osl 1 bo ow.length] H (nZ cx r v abs vo H (fun x=> .int .u32 x) cC o):=by
 obtain⟨k,op,m,s,l⟩:=e;have hr:=hR.r;have hv:=hR.v;have hbo:=hO.h;have hnum:=he.num;have hkids:=he.kids;simp only[Ex.num,Ex.kids]at hnum hkids;simp only[gB]at h;simp only[cE,Cm];have hV:=fun a st vo H o h1 h2 h3 h4=>ih.V rs ow a st vo H bo o h1 h2 h3 hu h4;have kidok: ∀{j:Nat} {a:Ex},l[j]?=some a→a.ok:=fun hj=>hkids.all _ (aL hj);generalize rs s=p at h⊢;obtain⟨pl,pn⟩:=p;by_cases k1:k=1
 ·subst k1
  simp only[if_true]at h;cases h;refine bD 154 [.tmp 6] Tryz.func102 rfl rfl rfl rfl ?_;refine aB fun _ Y=>aA rfl ?_;simp only[RR,seval];apply Y;clear Y;refine aH ?_;refine aB fun _ Y=>aA rfl ?_;simp only[RR,seval];apply Y;clear Y;refine aI ?_;refine aB fun _ Y=>aA rfl ?_;simp only[RR,seval];apply Y;clear Y;refine aF true rfl (fun _=>?_) (fun hc=>by cases hc);refine aB fun _ Y=>aA rfl ?_;simp only[RR,seval];apply Y;clear Y;refine aQ ?_;simp only[aX,aN,bI,RR,seval];exact aW.run ⟨vo,⟨rfl,hnum⟩,hR,dJ.refl _ _ _ _ _⟩;skip
 by_cases k2:k=2
 ·subst k2
  simp only[show ¬(2:Int)=1 by decide,if_false,if_true,uM]at h;by_cases z0:0≤pn
  ·rw[if_pos z0]at h
   cases pl with
   |true=>
    simp only[if_true,aV]at h;obtain⟨x,hg,rfl⟩:=h;have hl:=(aZ.1 hg).1;have zl:pn<(ow.length:Int):=by omega
    have hgx:=fQ hg;have hux:=hu x (aL hg);refine bD 154 [.tmp 6] Tryz.func102 rfl rfl rfl rfl ?_;refine aB fun _ Y=>aA rfl ?_;simp only[RR,seval];apply Y;clear Y;refine aH ?_;refine aB fun _ Y=>aA rfl ?_;simp only[RR,seval];apply Y;clear Y;refine aI ?_;refine aB fun _ Y=>aA rfl ?_;simp only[RR,seval];apply Y;clear Y;refine aF false rfl (fun hc=>by cases hc) (fun _=>?_);refine aB fun _ Y=>aA rfl ?_;simp only[RR,seval];apply Y;clear Y;refine aF true rfl (fun _=>?_) (fun hc=>by cases hc);refine aH ?_;refine aB fun _ Y=>aA rfl ?_;simp only[RR,seval];apply Y;clear Y;refine aF true rfl (fun _=>?_) (fun hc=>by cases hc);refine aB fun _ Y=>aA rfl ?_;simp only[hbo,z0,zl,hgx,RR,seval];apply Y;clear Y;refine aQ ?_;simp only[aX,aN,bI,RR,seval];exact aW.run ⟨vo,⟨rfl,hux⟩,hR,dJ.refl _ _ _ _ _⟩;skip
   |false=>
    simp only[Bool.false_eq_true,if_false,aV]at h;obtain⟨x,hg,rfl⟩:=h;have hl:=(aZ.1 hg).1;have zl:pn<(st.vars.length:Int):=by omega
    have hgx:=fQ hg;have hux:=hR.uv x (aL hg);refine bD 154 [.tmp 6] Tryz.func102 rfl rfl rfl rfl ?_;refine aB fun _ Y=>aA rfl ?_;simp only[RR,seval];apply Y;clear Y;refine aH ?_;refine aB fun _ Y=>aA rfl ?_;simp only[RR,seval];apply Y;clear Y;refine aI ?_;refine aB fun _ Y=>aA rfl ?_;simp only[RR,seval];apply Y;clear Y;refine aF false rfl (fun hc=>by cases hc) (fun _=>?_);refine aB fun _ Y=>aA rfl ?_;simp only[RR,seval];apply Y;clear Y;refine aF true rfl (fun _=>?_) (fun hc=>by cases hc);refine aH ?_;refine aB fun _ Y=>aA rfl ?_;simp only[RR,seval];apply Y;clear Y;refine aF false rfl (fun hc=>by cases hc) (fun _=>?_);refine aM ?_;try simp only[RR]
    refine aB fun K Y=>?_;refine bB (fun x=>x≠r∧x≠v) [(0,3),(1,3),(2,3),(3,1),(4,3),(5,3),(6,3),(7,1),(8,3),(9,1),(10,3)] [] cX (by kernel_rfl) rfl rfl ?_;simp only[cH,hr,hv,z0,zl,hgx,RR,seval];apply Y;clear Y;refine aQ ?_;simp only[aX,aN,bI,RR,seval];exact aW.run ⟨vo,⟨rfl,hux⟩,hR,dJ.refl _ _ _ _ _⟩;skip
  rw[if_neg z0]at h;cases h
 by_cases k3:k=3
 ·subst k3
  simp only[show ¬(3:Int)=1 by decide,show ¬(3:Int)=2 by decide,if_false,if_true]at h
  cases hl0:l[0]? with
  |none=>rw[hl0]at h;cases h
  |some a=>
   simp only[hl0]at h;have hg0:=lI (rs:=rs) hl0
   cases h1:gB cx n rs ow a st with
   |none=>rw[h1]at h;cases h
   |some r1=>
    rw[h1]at h;refine bD 154 [.tmp 6] Tryz.func102 rfl rfl rfl rfl ?_;refine aB fun _ Y=>aA rfl ?_;simp only[RR,seval];apply Y;clear Y;refine aH ?_;refine aB fun _ Y=>aA rfl ?_;simp only[RR,seval];apply Y;clear Y;refine aI ?_;refine aB fun _ Y=>aA rfl ?_;simp only[RR,seval];apply Y;clear Y;refine aF false rfl (fun hc=>by cases hc) (fun _=>?_);refine aB fun _ Y=>aA rfl ?_;simp only[RR,seval];apply Y;clear Y;refine aF false rfl (fun hc=>by cases hc) (fun _=>?_);refine aB fun _ Y=>aA rfl ?_;simp only[RR,seval];apply Y;clear Y;refine aF true rfl (fun _=>?_) (fun hc=>by cases hc);refine aB fun K Y=>?_;refine bB (fun _=>True) [(0,3),(1,3),(2,3),(3,3),(4,0),(5,3),(6,3),(7,3),(8,3),(9,1),(10,3),(11,3),(12,1),(13,1),(14,3),(15,1),(16,3)] [] cX (by kernel_rfl) rfl rfl ?_;simp only[cH,dY,hg0,RR,seval];refine⟨fun _ hh=>by simp [iV]at hh, ?_⟩;refine eL (hV a st vo H r1 (kidok hl0) hR hO h1) (fun _=>trivial) ?_ ?_
    ·rintro e s vo1 H1 e1 hR1 hk1
     subst e1;obtain rfl:=Option.some.inj (show some (Rz.fin e s)=some o from h);simp only[bR,bZ,bT];exact⟨vo1,rfl,hR1,hk1⟩
    intro x s1 vo1 H1 e1 ux hR1 hk1;subst e1;simp only[bindR]at h;by_cases z0:0≤pn
    rotate_left
    ·rw[if_neg z0]at h;cases h
    rw[if_pos z0]at h;obtain⟨i,rfl⟩:=Int.eq_ofNat_of_zero_le z0;simp only[Int.toNat_natCast,Oe]at h
    obtain⟨la,hla⟩: ∃la,s1.arrs[i]?=some la:=by
     cases hla:s1.arrs[i]? with
     |none=>rw[hla]at h;cases h
     |some la=>exact⟨la,rfl⟩
    rw[hla]at h;simp only at h;have hl:i<abs.length:=by rw[hR1.al];exact(aZ.1 hla).1
    have hb:=aG hl;generalize abs[i]=ba at hb;have hc:=To hR1 ux hb hla;simp only[RR,seval];by_cases hxl:x.toNat<la.length
    rotate_left
    ·rw[if_neg hxl]at hc h
     cases h;refine eL hc (fun _=>trivial) (fun e s vo2 H2 e2 hR2 hk2=>?_) (fun _ _ _ _ e2=>by cases e2);cases e2;simp only[bR,bZ,bT];exact⟨vo2,rfl,hR2,hk1.trans hk2⟩
    rw[if_pos hxl]at hc h;refine eL hc (fun _=>trivial) (fun _ _ _ _ e2=>by cases e2) fun j s2 vo2 H2 e2 hj hR2 hk2=>?_;cases e2;simp only[hla,Option.bind_some,aV]at h;obtain⟨y,hy,rfl⟩:=h;have hbb:=hR2.a i ba la hb hla;have hgy:=fQ hy;have uy:=(hR2.ua la (aL hla)).2 y (aL hy);simp only[hbb,hgy,RR,seval];apply Y;clear Y;refine aQ ?_;simp only[aX,aN,bI,RR,seval];exact aW.run ⟨vo2,⟨rfl,uy⟩,hR2,hk1.trans hk2⟩;skip
 by_cases k4:k=4
 ·subst k4
  simp only[show ¬(4:Int)=1 by decide,show ¬(4:Int)=2 by decide,show ¬(4:Int)=3 by decide,if_false,if_true]at h
  obtain⟨f,z0,hf⟩: ∃f,0≤pn∧cx.funs[pn.toNat]?=some f:=by
   cases n with
   |zero=>simp [qI]at h
   |succ n=>
    simp only[qI]at h;by_cases z:pn<0
    ·rw[if_pos z]at h;cases h
    rw[if_neg z]at h
    cases hf:cx.funs[pn.toNat]? with
    |none=>rw[hf]at h;cases h
    |some f=>exact⟨f,by omega,rfl⟩
  have hfr:(cx.funs.map Cf.row)[pn.toNat]?=some f.row:=by rw[bN,hf];rfl
  have hcall:=ih.C rs ow pn f l st vo H bo o hkids z0 hf hR hO hu h;refine bD 154 [.tmp 6] Tryz.func102 rfl rfl rfl rfl ?_;refine aB fun _ Y=>aA rfl ?_;simp only[RR,seval];apply Y;clear Y;refine aH ?_;refine aB fun _ Y=>aA rfl ?_;simp only[RR,seval];apply Y;clear Y;refine aI ?_;refine aB fun _ Y=>aA rfl ?_;simp only[RR,seval];apply Y;clear Y;refine aF false rfl (fun hc=>by cases hc) (fun _=>?_);refine aB fun _ Y=>aA rfl ?_;simp only[RR,seval];apply Y;clear Y;refine aF false rfl (fun hc=>by cases hc) (fun _=>?_);refine aB fun _ Y=>aA rfl ?_;simp only[RR,seval];apply Y;clear Y;refine aF false rfl (fun hc=>by cases hc) (fun _=>?_);refine aB fun _ Y=>aA rfl ?_;simp only[RR,seval];apply Y;clear Y;refine aF true rfl (fun _=>?_) (fun hc=>by cases hc);refine aB fun K Y=>?_;refine bB (fun _=>True) [(0,3),(1,3),(2,3),(3,3),(4,1),(5,3),(6,3),(7,3),(8,1),(9,3),(10,3),(11,3),(12,3),(13,1),(14,3),(15,1),(16,3)] [] cX (by kernel_rfl) rfl rfl ?_;simp only[cH,hr,z0,hfr,RR,seval];refine eL hcall (fun _=>trivial) (fun e s vo1 H1 e1 hR1 hk1=>by subst e1;simp only[bR,bZ,bT];exact⟨vo1,rfl,hR1,hk1⟩) fun x s1 vo1 H1 e1 ux hR1 hk1=>?_;subst e1;simp only[RR,seval];apply Y;clear Y;refine aQ ?_;simp only[aX,aN,bI,RR,seval];exact aW.run ⟨vo1,⟨rfl,ux⟩,hR1,hk1⟩;skip
 by_cases k5:k=5
 ·subst k5
  simp only[show ¬(5:Int)=1 by decide,show ¬(5:Int)=2 by decide,show ¬(5:Int)=3 by decide,show ¬(5:Int)=4 by decide,if_false,if_true,Option.some.injEq]at h;have hget:=Ri hx hR;rw[h]at hget;refine bD 154 [.tmp 6] Tryz.func102 rfl rfl rfl rfl ?_;refine aB fun _ Y=>aA rfl ?_;simp only[RR,seval];apply Y;clear Y;refine aH ?_;refine aB fun _ Y=>aA rfl ?_;simp only[RR,seval];apply Y;clear Y;refine aI ?_;refine aB fun _ Y=>aA rfl ?_;simp only[RR,seval];apply Y;clear Y;refine aF false rfl (fun hc=>by cases hc) (fun _=>?_);refine aB fun _ Y=>aA rfl ?_;simp only[RR,seval];apply Y;clear Y;refine aF false rfl (fun hc=>by cases hc) (fun _=>?_);refine aB fun _ Y=>aA rfl ?_;simp only[RR,seval];apply Y;clear Y;refine aF false rfl (fun hc=>by cases hc) (fun _=>?_);refine aB fun _ Y=>aA rfl ?_;simp only[RR,seval];apply Y;clear Y;refine aF false rfl (fun hc=>by cases hc) (fun _=>?_);refine aB fun _ Y=>aA rfl ?_;simp only[RR,seval];apply Y;clear Y;refine aF true rfl (fun _=>?_) (fun hc=>by cases hc);refine aB fun _ Y=>aA rfl ?_;simp only[RR,seval];refine eL hget (fun _=>trivial) (fun e s vo1 H1 e1 hR1 hk1=>by subst e1;simp only[bR,bZ,bT];exact⟨vo1,rfl,hR1,hk1⟩) fun x s1 vo1 H1 e1 ux hR1 hk1=>?_;subst e1;simp only[RR,seval];apply Y;clear Y;refine aQ ?_;simp only[aX,aN,bI,RR,seval];exact aW.run ⟨vo1,⟨rfl,ux⟩,hR1,hk1⟩;skip
 simp only[if_neg k1,if_neg k2,if_neg k3,if_neg k4,if_neg k5]at h
 cases hl0:l[0]? with
 |none=>rw[hl0]at h;cases h
 |some a=>
  simp only[hl0]at h;have hg0:=lI (rs:=rs) hl0;by_cases k7:k=7
  ·subst k7
   simp only[if_true]at h
   cases h1:gB cx n rs ow a st with
   |none=>rw[h1]at h;cases h
   |some r1=>
    rw[h1]at h;refine bD 154 [.tmp 6] Tryz.func102 rfl rfl rfl rfl ?_;refine aB fun _ Y=>aA rfl ?_;simp only[RR,seval];apply Y;clear Y;refine aH ?_;refine aB fun _ Y=>aA rfl ?_;simp only[RR,seval];apply Y;clear Y;refine aI ?_;refine aB fun _ Y=>aA rfl ?_;simp only[RR,seval];apply Y;clear Y;refine aF false rfl (fun hc=>by cases hc) (fun _=>?_);refine aB fun _ Y=>aA rfl ?_;simp only[RR,seval];apply Y;clear Y;refine aF false rfl (fun hc=>by cases hc) (fun _=>?_);refine aB fun _ Y=>aA rfl ?_;simp only[RR,seval];apply Y;clear Y;refine aF false rfl (fun hc=>by cases hc) (fun _=>?_);refine aB fun _ Y=>aA rfl ?_;simp only[RR,seval];apply Y;clear Y;refine aF false rfl (fun hc=>by cases hc) (fun _=>?_);refine aB fun _ Y=>aA rfl ?_;simp only[RR,seval];apply Y;clear Y;refine aF false rfl (fun hc=>by cases hc) (fun _=>?_);refine aB fun _ Y=>aA rfl ?_;simp only[RR,seval];apply Y;clear Y;refine aF false rfl (fun hc=>by cases hc) (fun _=>?_);refine aB fun _ Y=>aA rfl ?_;simp only[RR,seval];apply Y;clear Y;refine aF true rfl (fun _=>?_) (fun hc=>by cases hc);refine aH ?_;refine aB fun _ Y=>aA rfl ?_;simp only[hg0,RR,seval];refine eL (hV a st vo H r1 (kidok hl0) hR hO h1) (fun _=>trivial) (fun e s vo1 H1 e1 hR1 hk1=>by subst e1;obtain rfl:=Option.some.inj (show some (Rz.fin e s)=some o from h);simp only[bR,bZ,bT];exact⟨vo1,rfl,hR1,hk1⟩) fun x s1 vo1 H1 e1 ux hR1 hk1=>?_;subst e1;simp only[bindR]at h;cases h;simp only[RR,seval];apply Y;clear Y;refine aF _ rfl (fun hc22=>?_) (fun hc22=>?_)
    ·rw[if_pos (aC hc22)]
     refine aB fun _ Y=>aA rfl ?_;simp only[RR,seval];apply Y;clear Y;refine aQ ?_;simp only[aX,aN,bI,RR,seval];exact aW.run ⟨vo1,⟨rfl,by simp [cC]⟩,hR1,hk1⟩;skip
    rw[if_neg (aE hc22)];refine aM ?_;try simp only[RR]
    refine aB fun _ Y=>aA rfl ?_;simp only[RR,seval];apply Y;clear Y;refine aQ ?_;simp only[aX,aN,bI,RR,seval];exact aW.run ⟨vo1,⟨rfl,by simp [cC]⟩,hR1,hk1⟩;skip
  rw[if_neg k7]at h
  cases hl1:l[1]? with
  |none=>rw[hl1]at h;cases h
  |some b=>
   simp only[hl1]at h;have hg1:=lI (rs:=rs) hl1;by_cases k6:k=6
   ·subst k6
    simp only[if_true]at h
    cases h1:gB cx n rs ow a st with
    |none=>rw[h1]at h;cases h
    |some r1=>
     rw[h1]at h;refine bD 154 [.tmp 6] Tryz.func102 rfl rfl rfl rfl ?_;refine aB fun _ Y=>aA rfl ?_;simp only[RR,seval];apply Y;clear Y;refine aH ?_;refine aB fun _ Y=>aA rfl ?_;simp only[RR,seval];apply Y;clear Y;refine aI ?_;refine aB fun _ Y=>aA rfl ?_;simp only[RR,seval];apply Y;clear Y;refine aF false rfl (fun hc=>by cases hc) (fun _=>?_);refine aB fun _ Y=>aA rfl ?_;simp only[RR,seval];apply Y;clear Y;refine aF false rfl (fun hc=>by cases hc) (fun _=>?_);refine aB fun _ Y=>aA rfl ?_;simp only[RR,seval];apply Y;clear Y;refine aF false rfl (fun hc=>by cases hc) (fun _=>?_);refine aB fun _ Y=>aA rfl ?_;simp only[RR,seval];apply Y;clear Y;refine aF false rfl (fun hc=>by cases hc) (fun _=>?_);refine aB fun _ Y=>aA rfl ?_;simp only[RR,seval];apply Y;clear Y;refine aF false rfl (fun hc=>by cases hc) (fun _=>?_);refine aB fun _ Y=>aA rfl ?_;simp only[RR,seval];apply Y;clear Y;refine aF true rfl (fun _=>?_) (fun hc=>by cases hc);refine aB fun _ Y=>aA rfl ?_;simp only[hg0,RR,seval];refine eL (hV a st vo H r1 (kidok hl0) hR hO h1) (fun _=>trivial) (fun e s vo1 H1 e1 hR1 hk1=>by subst e1;obtain rfl:=Option.some.inj (show some (Rz.fin e s)=some o from h);simp only[bR,bZ,bT];exact⟨vo1,rfl,hR1,hk1⟩) fun x s1 vo1 H1 e1 ux hR1 hk1=>?_;subst e1;simp only[bindR]at h;have hO1:=hO.keep hR hk1;have hr:=hR1.r
     obtain⟨r2,h2⟩: ∃r2,gB cx n rs ow b s1=some r2:=by
      cases h2:gB cx n rs ow b s1 with
      |none=>rw[h2]at h;cases h
      |some r2=>exact⟨r2,rfl⟩
     rw[h2]at h;simp only[RR,seval];apply Y;clear Y;refine aB fun _ Y=>aA rfl ?_;simp only[hg1,RR,seval];refine eL (hV b s1 vo1 H1 r2 (kidok hl1) hR1 hO1 h2) (fun _=>trivial) (fun e s vo2 H2 e1 hR2 hk2=>by subst e1;obtain rfl:=Option.some.inj (show some (Rz.fin e s)=some o from h);simp only[bR,bZ,bT];exact⟨vo2,rfl,hR2,hk1.trans hk2⟩) fun y s2 vo2 H2 e1 uy hR2 hk2=>?_;subst e1;simp only[]at h;have hr:=hR2.r;have hA:=Bj op x y uy;have uA:=sM op ux uy;generalize cU op x y=q at hA uA h;obtain⟨q1,q2⟩:=q;simp only[RR,seval];apply Y;clear Y;refine aB fun _ Y=>aA rfl ?_;simp only[RR,seval];refine aU (hA) ?_;simp only[RR,seval];apply Y;clear Y;refine aH ?_;refine aB fun _ Y=>aA rfl ?_;simp only[RR,seval];apply Y;clear Y;refine aF _ rfl (fun hc18=>?_) (fun hc18=>?_)
     ·rw[if_neg (show ¬q2=0 by simpa using hc18)]at h
      cases h;refine aA rfl ?_;simp only[RR,seval];simp only[bR,bZ,bT];exact⟨vo2,rfl,hR2,hk1.trans hk2⟩
     rw[if_pos (show q2=0 by simpa using hc18)]at h;cases h;refine aM ?_;try simp only[RR]
     refine aB fun _ Y=>aA rfl ?_;simp only[RR,seval];apply Y;clear Y;refine aQ ?_;simp only[aX,aN,bI,RR,seval];exact aW.run ⟨vo2,⟨rfl,uA⟩,hR2,hk1.trans hk2⟩;skip
   rw[if_neg k6]at h
   cases h1:gB cx n rs ow a st with
   |none=>rw[h1]at h;cases h
   |some r1=>
    rw[h1]at h;refine bD 154 [.tmp 6] Tryz.func102 rfl rfl rfl rfl ?_;refine aB fun _ Y=>aA rfl ?_;simp only[RR,seval];apply Y;clear Y;refine aH ?_;refine aB fun _ Y=>aA rfl ?_;simp only[RR,seval];apply Y;clear Y;refine aI ?_;refine aB fun _ Y=>aA rfl ?_;simp only[k1,RR,seval];apply Y;clear Y;refine aF false rfl (fun hc=>by cases hc) (fun _=>?_);refine aB fun _ Y=>aA rfl ?_;simp only[k2,RR,seval];apply Y;clear Y;refine aF false rfl (fun hc=>by cases hc) (fun _=>?_);refine aB fun _ Y=>aA rfl ?_;simp only[k3,RR,seval];apply Y;clear Y;refine aF false rfl (fun hc=>by cases hc) (fun _=>?_);refine aB fun _ Y=>aA rfl ?_;simp only[k4,RR,seval];apply Y;clear Y;refine aF false rfl (fun hc=>by cases hc) (fun _=>?_);refine aB fun _ Y=>aA rfl ?_;simp only[k5,RR,seval];apply Y;clear Y;refine aF false rfl (fun hc=>by cases hc) (fun _=>?_);refine aB fun _ Y=>aA rfl ?_;simp only[k6,RR,seval];apply Y;clear Y;refine aF false rfl (fun hc=>by cases hc) (fun _=>?_);refine aB fun _ Y=>aA rfl ?_;simp only[k7,RR,seval];apply Y;clear Y;refine aF false rfl (fun hc=>by cases hc) (fun _=>?_);refine aM ?_;try simp only[RR]
    refine aB fun _ Y=>aA rfl ?_;simp only[hg0,RR,seval];refine eL (hV a st vo H r1 (kidok hl0) hR hO h1) (fun _=>trivial) (fun e s vo1 H1 e1 hR1 hk1=>by subst e1;obtain rfl:=Option.some.inj (show some (Rz.fin e s)=some o from h);simp only[bR,bT];exact⟨vo1,rfl,hR1,hk1⟩) fun x s1 vo1 H1 e1 ux hR1 hk1=>?_;subst e1;simp only[bindR]at h;have hO1:=hO.keep hR hk1;have hr:=hR1.r;simp only[RR,seval];apply Y;clear Y;refine aH ?_;refine aB fun _ Y=>aA rfl ?_;simp only[RR,seval];apply Y;clear Y;refine aF _ rfl (fun hc26=>?_) (fun hc26=>?_)
    ·rw[if_pos (aC hc26)]at h
     cases h;refine aB fun _ Y=>aA rfl ?_;simp only[RR,seval];apply Y;clear Y;refine aQ ?_;simp only[aX,aN,bI,RR,seval];exact aW.run ⟨vo1,⟨rfl,ux⟩,hR1,hk1⟩
    rw[if_neg (aE hc26)]at h;refine aM ?_;try simp only[RR]
    refine aB fun _ Y=>aA rfl ?_;simp only[hg1,RR,seval];refine eL (hV b s1 vo1 H1 o (kidok hl1) hR1 hO1 h) (fun _=>trivial) (fun e s vo2 H2 e1 hR2 hk2=>by subst e1;simp only[bR,bT];exact⟨vo2,rfl,hR2,hk1.trans hk2⟩) fun y s2 vo2 H2 e1 uy hR2 hk2=>?_;subst e1;simp only[RR,seval];apply Y;clear Y;refine aQ ?_;simp only[aX,aN,bI,RR,seval];exact aW.run ⟨vo2,⟨rfl,uy⟩,hR2,hk1.trans hk2⟩
end
end Go.Proofs.YtnfbbjhdflhmjaaGreatDoor
namespace Go.Al
theorem iQ.other {bv:Nat} {abs:List Nat} {vo:AV} {H:Hp} {b bo:Nat} {rows:List (List AV)} (h:iQ bv abs vo b rows H) (hne:b≠bo) (o:Option eS):iQ bv abs vo b rows (upd H bo o):=⟨by rw[bY _ _ hne];exact h.h,h.nv,h.na,h.nf⟩
theorem Kq {α:Type} (a:List α) (x y:α) (c:List α):(a++x::c).set a.length y=a++y::c:=by
 induction a with
 |nil=>rfl
 |cons z a ih=>simp [ih]
end Go.Al
namespace Go.Proofs.YtnfbbjhdflhmjaaGreatDoor
open Go.Al
theorem tV {F:Nat→Prop} {ds:List (Option Nat)} {Q:dI} {d:Option Nat} {rest:List Oper} {fr:Fr} {H:Hp} {g:FuncId} {args:List AV} {cx:Cx} {br bv:Nat} {abs:List Nat} {vo:AV} {bo n:Nat} {r:Rz (Option Int×List Int)}
  (hc:gK cN g args H (uI cx br bv abs vo bo n H r)) (hF: ∀b,F b)
  (hp: ∀e s vo' H',r= .fin e s→eJ cx br bv abs s vo' H'→fP br bv abs vo vo' bo H H'→Q (.pan (wL e)) An H')
  (hv: ∀p s vo' H',r= .val p s→cC (p.1.getD 0)→p.2.length=n→(∀x∈p.2,cC x)→iQ bv abs vo' bo (p.2.map cZ) H'→eJ cx br bv abs s vo' H'→fP br bv abs vo vo' bo H H'→cQ cN F ds Q rest (dR fr d (.tup [.int .u32 (p.1.getD 0), .bool p.1.isSome])) H'):nQ cN F ds Q d rest fr H g args:=by
 refine jK hc hF fun ae H' ⟨vo',h1,h2,h3⟩=>?_
 cases r with
 |val p s=>
  obtain⟨h1,h4,h5,h6,h7⟩:=h1;subst h1;exact hv p s vo' H' rfl h4 h5 h6 h7 h2 h3
 |fin e s=>
  subst h1;exact hp e s vo' H' rfl h2 h3
section
variable {cx : Cx} {r v : Nat} {abs : List Nat} {n : Nat}
def pC (cx:Cx) (n:Nat) (f:Cf) (len:Nat) (vs:List Int) (st:RS):Option (Rz Int):=
 bindR (some (eQ cx st)) fun _ st=>bindR (iH cx n f.res (vs++List.replicate (f.words-len) 0) f.body st) fun r st=>some (.val (r.1.getD 0) st)
set_option maxHeartbeats 2000000 in
theorem Ig (ih:Oj cx r v abs n) (hx:yP cx) (rs:cR→Bool×Int) (ow:List Int) (i:Int) (f:Cf) (l:List Ex) (st:RS) (vo:AV) (H:Hp) (bo:Nat) (o:Rz Int) (hl:Cw l) (h0:0≤i) (hf:cx.funs[i.toNat]?=some f) (hR:eJ cx r v abs st vo H) (hO:iQ v abs vo bo (ow.map cZ) H) (hu: ∀x∈ow,cC x) (h:qI cx (n+1) rs ow i l st=some o):
  gK cN 106 [.ptr 8 r 0 0, .ipt f.row 0, .isl 6 (l.map (cE rs)), .osl 1 bo ow.length] H (nZ cx r v abs vo H (fun x=> .int .u32 x) cC o):=by
 simp only[qI,if_neg (show ¬i<0 by omega),hf]at h;by_cases hw:f.words<l.length
 ·rw[if_pos hw]at h;cases h
 rw[if_neg hw]at h;have hwords:=hx.words f (aL hf);have hbody:=hx.body f (aL hf);have hfit:=hl.fit;simp only[cY]at hfit;have hfr:f.row=[.int .i64 f.words, .isl 6 (f.body.map (cS f.res))]:=rfl;rw[hfr];have e1:(4:Int) *(f.words:Int)≤281474976710656:=by omega
 have hA: ∃ra,mF cx n rs ow l st=some ra∧bindR (some ra) (fun vs s=>pC cx n f l.length vs s)=some o:=by
  cases hA:mF cx n rs ow l st with
  |none=>rw[hA]at h;cases h
  |some ra=>rw[hA]at h;exact⟨ra,rfl,h⟩
 clear h;obtain⟨ra,hA,h⟩:=hA;obtain⟨HX,hHX⟩: ∃X,X=H:=⟨_,rfl⟩;have hlen:=fun a b (h:mF cx n rs ow a st=some b)=>h;refine bD 46 [.tmp 8] Tryz.func106 rfl rfl rfl rfl ?_;refine aB fun _ Y=>aA rfl ?_;simp only[RR,seval];apply Y;clear Y;refine aB fun _ Y=>aA rfl ?_;simp only[e1,RR,seval];refine aO fun b17 hn17=>?_;simp only[RR,seval];apply Y;clear Y;refine aH ?_;refine aB fun _ Y=>aA rfl ?_;simp only[aD,RR,seval];apply Y;clear Y;refine bL fun F1 M1 hfr hH=>?_;have g0:=hfr 0;have g1:=hfr 1;have g2:=hfr 2;have g3:=hfr 3;have g8:=hfr 8;have g9:=hfr 9;have g19:=hfr 19;have g20:=hfr 20;have gb17:=hH b17
 try simp only[RR,seval]at g0 g1 g2 g3 g8 g9 g19 g20 gb17
 have hM:=funext hH;have hn:=hn17;have hne:bo≠b17:=fun e=>by have:=hO.h;rw[e,hn]at this;cases this
 have hRM:eJ cx r v abs st vo M1:=by rw[hM];exact hR.new hn17 _
 have hOM:=hO.new hn17 (some (.rows 1 (List.replicate f.words [.int .u32 0])));have hWM:=hR.fresh hn17 (List.replicate f.words [.int .u32 0]);rw[←hM]at hOM hWM;have hkM:fP r v abs vo vo b17 (upd HX b17 (some (.rows 1 (List.replicate f.words [.int .u32 0])))) M1:=by rw[hM,hHX];exact(dJ.refl _ _ _ _ _).s _
 have f0:=g0;clear g0;have f1:=g1;clear g1;have f2:=g2;clear g2;have f3:=g3;clear g3;have f8:=g8;clear g8;have f9:=g9;clear g9;have f19:=g19;clear g19;have f20:=g20;clear g20;have hb17:=gb17;clear gb17;clear hfr hH;refine aI ?_;refine cP [0,1,2,3,8,9,19] (l.length) (fun k fr M=>fr 20= .int .i64 (k:Nat)∧ ∃stk vok vs m rk,m≤n∧vs.length=k∧(∀x∈vs,cC x)∧mF cx m rs ow (l.drop k) stk=some rk∧bindR (some rk) (fun vs' s=>pC cx n f l.length (vs++vs') s)=some o∧eJ cx r v abs stk vok M∧iQ v abs vok b17 ((vs++List.replicate (f.words-k) 0).map cZ) M∧iQ v abs vok bo (ow.map cZ) M∧fP r v abs vo vok b17 (upd HX b17 (some (.rows 1 (List.replicate f.words [.int .u32 0])))) M) ⟨f20,st,vo,[],n,ra,aY _,rfl,(fun x hx=>by simp at hx),hA,(by simpa using h),hRM,(by simpa [cZ]using hWM),hOM,hkM⟩ ?_;rintro k F2 M2 hk0 ⟨fx,⟨stk,vok,vs,m,rk,hmn,hvs,huv,hAk,hk,hRk,hOw,hOo,hkp⟩⟩ agx K0 hK0;have f0:=(agx 0 rfl).trans f0;have f1:=(agx 1 rfl).trans f1;have f2:=(agx 2 rfl).trans f2;have f3:=(agx 3 rfl).trans f3;have f8:=(agx 8 rfl).trans f8;have f9:=(agx 9 rfl).trans f9;have f19:=(agx 19 rfl).trans f19;have f20:=fx;clear fx;have ag0:=bE.refl [0,1,2,3,8,9,19] F2;clear agx;clear h hA;refine aB fun _ Y=>aA rfl ?_;simp only[f19,f20,RR,seval];apply Y;clear Y;refine aH ?_;refine aF _ rfl (fun hc=>?_) (fun hc=>?_)
 ·have hlt0:k<l.length:=by have:=aC hc;omega
  clear hc;have hg0:=aG hlt0;have hdk:l.drop k=l[k]::l.drop (k+1):=bC hlt0;generalize l[k]=a at hg0 hdk;have hg:=lI (rs:=rs) hg0;rw[hdk]at hAk
  obtain⟨m',rfl⟩: ∃m',m=m'+1:=by
   cases m with
   |zero=>simp [mF]at hAk
   |succ m'=>exact⟨m',rfl⟩
  simp only[mF]at hAk
  obtain⟨r1,h1⟩: ∃r1,gB cx m' rs ow a stk=some r1:=by
   cases h1:gB cx m' rs ow a stk with
   |none=>rw[h1]at hAk;cases hAk
   |some r1=>exact⟨r1,rfl⟩
  rw[h1]at hAk;have zk:(k:Int)<(f.words:Int):=by omega
  have hrep:List.replicate (f.words-k) (0:Int)=0::List.replicate (f.words-(k+1)) 0:=by
   rw[show f.words-k=(f.words-(k+1))+1 by omega];rfl
  have hset: ∀x:Int,((vs++List.replicate (f.words-k) 0).map cZ).set k [.int .u32 x]=((vs++[x])++List.replicate (f.words-(k+1)) 0).map cZ:=fun x=>by
   rw[hrep,iZ];have:=Kq vs (0:Int) x (List.replicate (f.words-(k+1)) 0);rw[hvs]at this;rw[this];simp
  have hz:((vs++List.replicate (f.words-k) 0).map cZ)[k]?=some [.int .u32 0]:=by
   rw[hrep,bN,List.getElem?_append_right (by omega),hvs,Nat.sub_self];rfl
  generalize hrw:(vs++List.replicate (f.words-k) 0).map cZ=rws at hset hz hOw;refine aM ?_;try simp only[RR]
  refine aH ?_;refine aI ?_;refine aB fun _ Y=>aA rfl ?_;simp only[f20,RR,seval];apply Y;clear Y;refine aA rfl ?_;simp only[f0,f2,f3,f9,hg,RR,seval];refine eL (ih.V rs ow a stk vok _ bo r1 (hl.all _ (aL hg0)) hRk hOo hu (sE (by omega) h1)) (fun _=>trivial) ?_ ?_
  ·rintro e s vo1 H1 e1 hR1 hk1
   subst e1;obtain rfl:=Option.some.inj (show some (Rz.fin e s)=some rk from hAk);obtain rfl:=Option.some.inj (show some (Rz.fin e s)=some o from hk);simp only[bR,bZ,bT];have hkk:=hkp.trans (hk1.s b17);rw[hHX]at hkk;exact⟨vo1,rfl,hR1,fP.new hn hkk⟩
  intro x s1 vo1 H1 e1 ux hR1 hk1;subst e1;simp only[bindR]at hAk;have hOw1:=hOw.keep hRk hk1;have hOo1:=hOo.keep hRk hk1;have hb17:=hOw1.h
  obtain⟨r',h2⟩: ∃r',mF cx m' rs ow (l.drop (k+1)) s1=some r':=by
   cases h2:mF cx m' rs ow (l.drop (k+1)) s1 with
   |none=>rw[h2]at hAk;cases hAk
   |some r'=>exact⟨r',rfl⟩
  rw[h2]at hAk
  have hk':bindR (some r') (fun vs' s=>pC cx n f l.length ((vs++[x])++vs') s)=some o:=by
   cases r' with
   |fin e s=>
    obtain rfl:=Option.some.inj (show some (Rz.fin e s)=some rk from hAk);exact hk
   |val vs' s=>
    obtain rfl:=Option.some.inj (show some (Rz.val (x::vs') s)=some rk from hAk);simpa [bindR]using hk
  simp only[hb17,zk,hz,RR,seval];have hst:=hset x;refine aA rfl ?_;simp only[f20,RR,seval]
  try rw[aR _ (by omega)]
  refine hK0 _ _ hlt0 ⟨by first|rfl|(simp only[aJ,seval];rfl),s1,vo1,vs++[x],m',r',(by omega),(by simp [hvs]),(fun y hy=>by rcases List.mem_append.1 hy with hy|hy;exact huv y hy;rw[List.mem_singleton.1 hy];exact ux),h2,hk',hR1.own hOw1 _,(by rw[←hst];exact hOw1.set),hOo1.other hne _,(hkp.trans (hk1.s b17)).set _⟩ (by repeat (first|exact ag0|refine bE.upd rfl ?_))
 have hkn0:k=l.length:=by have:=aE hc;omega
 clear hc;rw[hkn0,List.drop_length]at hAk;rw[hkn0]at hvs hOw
 have hk2:pC cx n f l.length vs stk=some o:=by
  cases m with
  |zero=>simp [mF]at hAk
  |succ m'=>
   simp only[mF,Option.some.injEq]at hAk;subst hAk;simpa [bindR]using hk
 clear hk hAk;unfold pC at hk2
 have huw: ∀x∈vs++List.replicate (f.words-l.length) 0,cC x:=fun x hx=>by
  rcases List.mem_append.1 hx with hx|hx
  ·exact huv x hx
  rw[(List.mem_replicate.1 hx).2];simp [cC]
 have hlw:(vs++List.replicate (f.words-l.length) 0).length=f.words:=by simp [hvs];omega
 generalize vs++List.replicate (f.words-l.length) 0=ws at hk2 hOw huw hlw;have hT:=Ag hx hRk;generalize hTT:eQ cx stk=tt at hk2 hT;refine bH ?_;simp only[RR,seval];refine aB fun _ Y=>aA rfl ?_;simp only[f0,RR,seval];refine eL hT (fun _=>trivial) ?_ ?_
 ·rintro e s vo1 H1 e1 hR1 hk1
  subst e1;obtain rfl:=Option.some.inj (show some (Rz.fin e s)=some o from hk2);simp only[bR,bT];have hkk:=hkp.trans (hk1.s b17);rw[hHX]at hkk;exact⟨vo1,rfl,hR1,fP.new hn hkk⟩
 intro _ s1 vo1 H1 e1 _ hR1 hk1;subst e1;simp only[bindR]at hk2;have hOw1:=hOw.keep hRk hk1
 obtain⟨r2,h2⟩: ∃r2,iH cx n f.res ws f.body s1=some r2:=by
  cases h2:iH cx n f.res ws f.body s1 with
  |none=>rw[h2]at hk2;cases hk2
  |some r2=>exact⟨r2,rfl⟩
 rw[h2]at hk2;have hL:=ih.L f.res ws f.body s1 vo1 H1 b17 r2 hbody hR1 hOw1 huw h2;rw[hlw]at hL;simp only[RR,seval];apply Y;clear Y;refine aB fun _ Y=>aA rfl ?_;simp only[f0,f1,f9,RR,seval];refine tV hL (fun _=>trivial) ?_ ?_
 ·rintro e s vo2 H2 e1 hR2 hk2'
  subst e1;obtain rfl:=Option.some.inj (show some (Rz.fin e s)=some o from hk2);simp only[bR,bT];have hkk:=(hkp.trans (hk1.s b17)).trans hk2';rw[hHX]at hkk;exact⟨vo2,rfl,hR2,fP.new hn hkk⟩
 intro p s2 vo2 H2 e1 up _ _ _ hR2 hk2';subst e1;obtain rfl:=Option.some.inj (show some (Rz.val (p.1.getD 0) s2)=some o from hk2);have hkk:=(hkp.trans (hk1.s b17)).trans hk2';rw[hHX]at hkk;simp only[RR,seval];apply Y;clear Y;refine aB fun _ Y=>aA rfl ?_;simp only[RR,seval];apply Y;clear Y;refine aQ ?_;simp only[aX,aN,bI,RR,seval];exact aW.run ⟨vo2,⟨rfl,up⟩,hR2,fP.new hn hkk⟩;skip
end
end Go.Proofs.YtnfbbjhdflhmjaaGreatDoor
namespace Go.Proofs.YtnfbbjhdflhmjaaGreatDoor
open Go.Al
section
variable {cx : Cx} {r v : Nat} {abs : List Nat} {n : Nat}
set_option maxHeartbeats 2000000 in
theorem Rj (ih:Oj cx r v abs n) (rs:cR→Bool×Int) (ow:List Int) (l:List Sm) (st:RS) (vo:AV) (H:Hp) (bo:Nat) (o:Rz (Option Int×List Int)) (hl:Af l) (hR:eJ cx r v abs st vo H) (hO:iQ v abs vo bo (ow.map cZ) H) (hu: ∀x∈ow,cC x) (h:iH cx (n+1) rs ow l st=some o):
  gK cN 39 [.ptr 8 r 0 0, .isl 6 (l.map (cS rs)), .osl 1 bo ow.length] H (uI cx r v abs vo bo ow.length H o):=by
 have hfit:=hl.fit;simp only[cY]at hfit;obtain⟨HX,hHX⟩: ∃X,X=H:=⟨_,rfl⟩;obtain⟨w,hw⟩: ∃w,w=ow.length:=⟨_,rfl⟩;rw[←hw];refine bD 28 [.tmp 6, .tmp 7] Tryz.func39 rfl rfl rfl rfl ?_;refine aB fun _ Y=>aA rfl ?_;simp only[RR,seval];apply Y;clear Y;refine aH ?_;refine aB fun _ Y=>aA rfl ?_;simp only[aD,RR,seval];apply Y;clear Y;refine bL fun F1 M1 hfr hH=>?_;have g0:=hfr 0;have g1:=hfr 1;have g2:=hfr 2;have g6:=hfr 6;have g7:=hfr 7;have g12:=hfr 12;have g13:=hfr 13
 try simp only[RR,seval]at g0 g1 g2 g6 g7 g12 g13
 have hM:=funext hH;have f0:=g0;clear g0;have f1:=g1;clear g1;have f2:=g2;clear g2;have f6:=g6;clear g6;have f7:=g7;clear g7;have f12:=g12;clear g12;have f13:=g13;clear g13;clear hfr hH;refine aI ?_;refine cP [0,1,2,12] (l.length) (fun k fr M=>fr 13= .int .i64 (k:Nat)∧ ∃stk vok owk m,m≤n+1∧iH cx m rs owk (l.drop k) stk=some o∧owk.length=w∧(∀x∈owk,cC x)∧eJ cx r v abs stk vok M∧iQ v abs vok bo (owk.map cZ) M∧fP r v abs vo vok bo HX M) ⟨f13,st,vo,ow,n+1,aY _,h,hw.symm,hu,(by rw[hM];exact hR),(by rw[hM];exact hO),(by rw[hM,hHX];exact(dJ.refl _ _ _ _ _).s _)⟩ ?_;rintro k F2 M2 hk0 ⟨fx,⟨stk,vok,owk,m,hmn,hLk,hwk,huk,hRk,hOk,hkp⟩⟩ agx K0 hK0;have f0:=(agx 0 rfl).trans f0;have f1:=(agx 1 rfl).trans f1;have f2:=(agx 2 rfl).trans f2;have f12:=(agx 12 rfl).trans f12;have f13:=fx;clear fx;have ag0:=bE.refl [0,1,2,12] F2;clear agx;clear h;refine aB fun _ Y=>aA rfl ?_;simp only[f12,f13,RR,seval];apply Y;clear Y;refine aH ?_;refine aF _ rfl (fun hc=>?_) (fun hc=>?_)
 ·have hlt0:k<l.length:=by have:=aC hc;omega
  clear hc;have hg0:=aG hlt0;have hdk:l.drop k=l[k]::l.drop (k+1):=bC hlt0;generalize l[k]=a at hg0 hdk;have hg:=Zk (rs:=rs) hg0;rw[hdk]at hLk
  obtain⟨m',rfl⟩: ∃m',m=m'+1:=by
   cases m with
   |zero=>simp [iH]at hLk
   |succ m'=>exact⟨m',rfl⟩
  simp only[iH]at hLk
  obtain⟨r1,h1⟩: ∃r1,kQ cx m' rs owk a stk=some r1:=by
   cases h1:kQ cx m' rs owk a stk with
   |none=>rw[h1]at hLk;cases hLk
   |some r1=>exact⟨r1,rfl⟩
  rw[h1]at hLk;have hS:=ih.S rs owk a stk vok _ bo r1 (hl.all _ (aL hg0)) hRk hOk huk (Fl (by omega) h1);rw[hwk]at hS;refine aM ?_;try simp only[RR]
  refine aH ?_;refine aI ?_;refine aB fun _ Y=>aA rfl ?_;simp only[f13,RR,seval];apply Y;clear Y;refine aB fun _ Y=>aA rfl ?_;simp only[f0,f1,f2,hg,RR,seval];refine tV hS (fun _=>trivial) ?_ ?_
  ·rintro e s vo1 H1 e1 hR1 hk1
   subst e1;obtain rfl:=Option.some.inj (show some (Rz.fin e s)=some o from hLk);simp only[bR,bZ,bT];have hkk:=hkp.trans hk1;rw[hHX]at hkk;exact⟨vo1,rfl,hR1,hkk⟩
  intro p s1 vo1 H1 e1 up hwp hup hO1 hR1 hk1;subst e1;obtain⟨p1,p2⟩:=p;simp only[bindR]at hLk;simp only at up hwp hup hO1;have hkk:=hkp.trans hk1;simp only[RR,seval];apply Y;clear Y;refine aB fun _ Y=>aA rfl ?_;simp only[RR,seval];apply Y;clear Y;refine aF _ rfl (fun hc5=>?_) (fun hc5=>?_)
  ·obtain⟨x,rfl⟩:=Option.isSome_iff_exists.1 hc5
   obtain rfl:=Option.some.inj hLk;rw[hHX]at hkk;refine aB fun _ Y=>aA rfl ?_;simp only[RR,seval];apply Y;clear Y;refine aQ ?_;simp only[aX,aN,bI,RR,seval];exact aW.run ⟨vo1,⟨rfl,up,hwp,hup,hO1⟩,hR1,hkk⟩
  obtain rfl:p1=none:=by cases p1 with |none=>rfl|some x=>cases hc5
  simp only at hLk;refine aM ?_;try simp only[RR]
  refine aA rfl ?_;simp only[f13,RR,seval]
  try rw[aR _ (by omega)]
  refine hK0 _ _ hlt0 ⟨by first|rfl|(simp only[aJ,seval];rfl),s1,vo1,p2,m',(by omega),hLk,hwp,hup,hR1,hO1,hkk⟩ (by repeat (first|exact ag0|refine bE.upd rfl ?_))
 have hkn0:k=l.length:=by have:=aE hc;omega
 clear hc;rw[hkn0,List.drop_length]at hLk
 obtain rfl:o= .val (none,owk) stk:=by
  cases m with
  |zero=>simp [iH]at hLk
  |succ m'=>
   simp only[iH,Option.some.injEq]at hLk;exact hLk.symm
 rw[hHX]at hkp;refine bH ?_;simp only[RR,seval];refine aB fun _ Y=>aA rfl ?_;simp only[RR,seval];apply Y;clear Y;refine aQ ?_;simp only[aX,aN,bI,RR,seval];exact aW.run ⟨vok,⟨rfl,by simp [cC],hwk,huk,hOk⟩,hRk,hkp⟩
set_option maxHeartbeats 2000000 in
theorem Et (ih:Oj cx r v abs n) (hx:yP cx) (rs:cR→Bool×Int) (ow:List Int) (e:Sm) (c:Ex) (st:RS) (vo:AV) (H:Hp) (bo:Nat) (o:Rz (Option Int×List Int)) (he:e.ok) (hc:e.es[0]?=some c) (hR:eJ cx r v abs st vo H) (hO:iQ v abs vo bo (ow.map cZ) H) (hu: ∀x∈ow,cC x) (h:rL cx (n+1) rs ow c e.thn st=some o):
  gK cN 105 [.ptr 8 r 0 0, .ipt (cS rs e) 0, .osl 1 bo ow.length] H (uI cx r v abs vo bo ow.length H o):=by
 obtain⟨HX,hHX⟩: ∃X,X=H:=⟨_,rfl⟩;obtain⟨w,hw⟩: ∃w,w=ow.length:=⟨_,rfl⟩;rw[←hw];have hg0:=lI (rs:=rs) hc;have hcok:=he.es.all _ (aL hc);have hthn:=he.thn;rw[Te];generalize e.kind=kk at *;generalize(rs e.name).1=pl at *;generalize(rs e.name).2=pn at *;generalize e.es=es at *;generalize e.thn=thn at *;generalize e.els=els at *;refine bD 33 [.tmp 6, .tmp 7] Tryz.func105 rfl rfl rfl rfl ?_;refine aB fun _ Y=>aA rfl ?_;simp only[RR,seval];apply Y;clear Y;refine bL fun F1 M1 hfr hH=>?_;have g0:=hfr 0;have g1:=hfr 1;have g2:=hfr 2;have g6:=hfr 6;have g7:=hfr 7
 try simp only[RR,seval]at g0 g1 g2 g6 g7
 have hM:=funext hH;have f0:=g0;clear g0;have f1:=g1;clear g1;have f2:=g2;clear g2;have f6:=g6;clear g6;have f7:=g7;clear g7;clear hfr hH;refine aI ?_;refine jQ [0,1,2] (n+1) (fun k fr M=> ∃stk vok owk,k≤n+1∧rL cx k rs owk c thn stk=some o∧owk.length=w∧(∀x∈owk,cC x)∧eJ cx r v abs stk vok M∧iQ v abs vok bo (owk.map cZ) M∧fP r v abs vo vok bo HX M) ⟨st,vo,ow,aY _,h,hw.symm,hu,(by rw[hM];exact hR),(by rw[hM];exact hO),(by rw[hM,hHX];exact(dJ.refl _ _ _ _ _).s _)⟩ ?_;rintro k F2 M2 ⟨stk,vok,owk,hmn,hLk,hwk,huk,hRk,hOk,hkp⟩ agx K0 hK0;have f0:=(agx 0 rfl).trans f0;have f1:=(agx 1 rfl).trans f1;have f2:=(agx 2 rfl).trans f2;have ag0:=bE.refl [0,1,2] F2;clear agx;clear h
 obtain⟨m',rfl⟩: ∃m',k=m'+1:=by
  cases k with
  |zero=>simp [rL]at hLk
  |succ m'=>exact⟨m',rfl⟩
 simp only[rL]at hLk;have hT:=Ag hx hRk;generalize hTT:eQ cx stk=tt at hLk hT;refine aI ?_;refine aB fun _ Y=>aA rfl ?_;simp only[f0,RR,seval];refine eL hT (fun _=>trivial) ?_ ?_
 ·rintro e s vo1 H1 e1 hR1 hk1
  subst e1;obtain rfl:=Option.some.inj (show some (Rz.fin e s)=some o from hLk);simp only[bR,bZ,bT];have hkk:=hkp.trans (hk1.s bo);rw[hHX]at hkk;exact⟨vo1,rfl,hR1,hkk⟩
 intro _ s1 vo1 H1 e1 _ hR1 hk1;subst e1;simp only[bindR]at hLk;have hO1:=hOk.keep hRk hk1
 obtain⟨r1,h1⟩: ∃r1,gB cx m' rs owk c s1=some r1:=by
  cases h1:gB cx m' rs owk c s1 with
  |none=>rw[h1]at hLk;cases hLk
  |some r1=>exact⟨r1,rfl⟩
 rw[h1]at hLk;have hE:=ih.V rs owk c s1 vo1 H1 bo r1 hcok hR1 hO1 huk (sE (by omega) h1);rw[hwk]at hE;simp only[RR,seval];apply Y;clear Y;refine aH ?_;refine aB fun _ Y=>aA rfl ?_;simp only[f0,f1,f2,hg0,RR,seval];refine eL hE (fun _=>trivial) ?_ ?_
 ·rintro e s vo2 H2 e1 hR2 hk2
  subst e1;obtain rfl:=Option.some.inj (show some (Rz.fin e s)=some o from hLk);simp only[bR,bZ,bT];have hkk:=hkp.trans ((hk1.trans hk2).s bo);rw[hHX]at hkk;exact⟨vo2,rfl,hR2,hkk⟩
 intro x s2 vo2 H2 e1 ux hR2 hk2;subst e1;simp only[]at hLk;have hO2:=hO1.keep hR1 hk2;simp only[RR,seval];apply Y;clear Y;refine aF _ rfl (fun hc2=>?_) (fun hc2=>?_)
 ·rw[if_pos (aC hc2)]at hLk
  obtain rfl:=Option.some.inj hLk;have hkk:=hkp.trans ((hk1.trans hk2).s bo);rw[hHX]at hkk;refine aB fun _ Y=>aA rfl ?_;simp only[RR,seval];apply Y;clear Y;refine aQ ?_;simp only[aX,aN,bI,RR,seval];exact aW.run ⟨vo2,⟨rfl,by simp [cC],hwk,huk,hO2⟩,hR2,hkk⟩
 rw[if_neg (aE hc2)]at hLk
 obtain⟨r2,h2⟩: ∃r2,iH cx m' rs owk thn s2=some r2:=by
  cases h2:iH cx m' rs owk thn s2 with
  |none=>rw[h2]at hLk;cases hLk
  |some r2=>exact⟨r2,rfl⟩
 rw[h2]at hLk;have hL:=ih.L rs owk thn s2 vo2 H2 bo r2 hthn hR2 hO2 huk (Fo (by omega) h2);rw[hwk]at hL;refine aM ?_;try simp only[RR]
 refine aB fun _ Y=>aA rfl ?_;simp only[f0,f1,f2,RR,seval];refine tV hL (fun _=>trivial) ?_ ?_
 ·rintro e s vo3 H3 e1 hR3 hk3
  subst e1;obtain rfl:=Option.some.inj (show some (Rz.fin e s)=some o from hLk);simp only[bR,bZ,bT];have hkk:=(hkp.trans ((hk1.trans hk2).s bo)).trans hk3;rw[hHX]at hkk;exact⟨vo3,rfl,hR3,hkk⟩
 intro p s3 vo3 H3 e1 up hwp hup hO3 hR3 hk3;subst e1;obtain⟨p1,p2⟩:=p;simp only[]at hLk;simp only at up hwp hup hO3;have hkk:=(hkp.trans ((hk1.trans hk2).s bo)).trans hk3;simp only[RR,seval];apply Y;clear Y;refine aB fun _ Y=>aA rfl ?_;simp only[RR,seval];apply Y;clear Y;refine aF _ rfl (fun hc5=>?_) (fun hc5=>?_)
 ·obtain⟨x,rfl⟩:=Option.isSome_iff_exists.1 hc5
  obtain rfl:=Option.some.inj hLk;rw[hHX]at hkk;refine aB fun _ Y=>aA rfl ?_;simp only[RR,seval];apply Y;clear Y;refine aQ ?_;simp only[aX,aN,bI,RR,seval];exact aW.run ⟨vo3,⟨rfl,up,hwp,hup,hO3⟩,hR3,hkk⟩
 obtain rfl:p1=none:=by cases p1 with |none=>rfl|some x=>cases hc5
 simp only at hLk;refine aM ?_;try simp only[RR]
 refine hK0 (m') _ _ (by omega) ⟨s3,vo3,p2,(by omega),hLk,hwp,hup,hR3,hO3,hkk⟩ (by repeat (first|exact ag0|refine bE.upd rfl ?_))
end
end Go.Proofs.YtnfbbjhdflhmjaaGreatDoor
namespace Go.Proofs.YtnfbbjhdflhmjaaGreatDoor
open Go.Al
section
variable {cx : Cx} {r v : Nat} {abs : List Nat} {n : Nat}
set_option maxHeartbeats 4000000 in
theorem Mw (ih:Oj cx r v abs n) (rs:cR→Bool×Int) (ow:List Int) (e:Sm) (st:RS) (vo:AV) (H:Hp) (bo:Nat) (o:Rz (Option Int×List Int)) (he:e.ok) (hR:eJ cx r v abs st vo H) (hO:iQ v abs vo bo (ow.map cZ) H) (hu: ∀x∈ow,cC x) (h:kQ cx (n+1) rs ow e st=some o):
  gK cN 65 [.ptr 8 r 0 0, .ipt (cS rs e) 0, .osl 1 bo ow.length] H (uI cx r v abs vo bo ow.length H o):=by
 obtain⟨k,s,l,t,u⟩:=e;have hr:=hR.r;have hbo:=hO.h;have hes:=he.es;have hth:=he.thn;have hel:=he.els;simp only[Sm.es,Sm.thn,Sm.els]at hes hth hel;have hV:=fun a st vo H o h1 h2 h3 h4=>ih.V rs ow a st vo H bo o h1 h2 h3 hu h4;have hW:=fun a (hg:l[0]?=some a) (hh:rL cx n rs ow a t st=some o)=>ih.W rs ow (.mk k s l t u) a st vo H bo o he hg hR hO hu hh;simp only[kQ]at h;have hcs:cS rs (.mk k s l t u)=[.int .i64 k, .bool (rs s).1, .int .i64 (rs s).2, .isl 6 (l.map (cE rs)), .isl 6 (t.map (cS rs)), .isl 6 (u.map (cS rs))]:=Te rs (.mk k s l t u);rw[hcs]at hW⊢;have kidok: ∀{j:Nat} {a:Ex},l[j]?=some a→a.ok:=fun hj=>hes.all _ (aL hj);clear hcs he;generalize rs s=p at h hW⊢;obtain⟨pl,pn⟩:=p;simp only at hW⊢;by_cases k1:k=1
 ·subst k1
  simp only[if_true]at h
  cases hl0:l[0]? with
  |none=>rw[hl0]at h;cases h
  |some a=>
   simp only[hl0]at h;have hg0:=lI (rs:=rs) hl0
   cases h1:gB cx n rs ow a st with
   |none=>rw[h1]at h;cases h
   |some r1=>
    rw[h1]at h;clear hW;refine bD 156 [.tmp 6, .tmp 7] Tryz.func65 rfl rfl rfl rfl ?_;refine aB fun _ Y=>aA rfl ?_;simp only[RR,seval];apply Y;clear Y;refine aH ?_;refine aB fun _ Y=>aA rfl ?_;simp only[RR,seval];apply Y;clear Y;refine aI ?_;refine aB fun _ Y=>aA rfl ?_;simp only[RR,seval];apply Y;clear Y;refine aF true rfl (fun _=>?_) (fun hc=>by cases hc);refine aB fun _ Y=>aA rfl ?_;simp only[hg0,RR,seval];refine eL (hV a st vo H r1 (kidok hl0) hR hO h1) (fun _=>trivial) ?_ ?_
    ·rintro e s vo1 H1 e1 hR1 hk1
     subst e1;obtain rfl:=Option.some.inj (show some (Rz.fin e s)=some o from h);simp only[bR,bZ,bT];exact⟨vo1,rfl,hR1,hk1.s bo⟩
    intro x s1 vo1 H1 e1 ux hR1 hk1;subst e1;have h:(yV (pl,pn) x ow s1).map (fun p=>Rz.val ((none:Option Int),p.1) p.2)=some o:=h;have hO1:=hO.keep hR hk1;have hr:=hR1.r;have hbo:=hO1.h;have hv:=hR1.v;unfold yV at h;by_cases z0:0≤pn
    rotate_left
    ·rw[if_neg z0]at h;cases h
    rw[if_pos z0]at h;simp only at h;simp only[RR,seval];apply Y;clear Y;refine aB fun _ Y=>aA rfl ?_;simp only[RR,seval];apply Y;clear Y
    have hcase:(pl=true∧ ∃y,ow[pn.toNat]?=some y∧pn<(ow.length:Int)∧o= .val (none,ow.set pn.toNat x) s1)∨(pl=false∧ ∃y,s1.vars[pn.toNat]?=some y∧pn<(s1.vars.length:Int)∧o= .val (none,ow) {s1 with vars:=s1.vars.set pn.toNat x}):=by
     cases pl with
     |true=>
      rw[if_pos rfl]at h;by_cases hl:pn.toNat<ow.length
      ·rw[if_pos hl]at h
       exact .inl ⟨rfl,_,aG hl,by omega,(Option.some.inj h).symm⟩
      rw[if_neg hl]at h;cases h
     |false=>
      rw[if_neg (by simp)]at h;by_cases hl:pn.toNat<s1.vars.length
      ·rw[if_pos hl]at h
       exact .inr ⟨rfl,_,aG hl,by omega,(Option.some.inj h).symm⟩
      rw[if_neg hl]at h;cases h
    refine aF _ rfl (fun hc4=>?_) (fun hc4=>?_)
    ·rcases hcase with⟨_,y,hy,zl,rfl⟩|⟨hpl,_⟩
     rotate_left
     ·rw[hpl]at hc4;cases hc4
     have hgy:=fQ hy;refine aA rfl ?_;simp only[hbo,z0,zl,hgy,RR,seval];have hw1: ∃w,w=(ow.set pn.toNat x).length:=⟨_,rfl⟩;have g1:=hR1.own hO1 (some (.rows 1 ((ow.map cZ).set pn.toNat [.int .u32 x])));have g2:iQ v abs vo1 bo ((ow.set pn.toNat x).map cZ) (upd H1 bo (some (.rows 1 ((ow.map cZ).set pn.toNat [.int .u32 x])))):=by rw[←iZ];exact hO1.set
     have g3:=(hk1.s bo).set (some (.rows 1 ((ow.map cZ).set pn.toNat [.int .u32 x])));have g4:(ow.set pn.toNat x).length=ow.length:=by simp
     have g5: ∀y∈ow.set pn.toNat x,cC y:=fun y hy=>by
      rcases List.mem_or_eq_of_mem_set hy with hy|rfl
      ·exact hu y hy
      exact ux
     refine aB fun _ Y=>aA rfl ?_;simp only[RR,seval];apply Y;clear Y;refine aQ ?_;simp only[aX,aN,bI,RR,seval];exact aW.run ⟨vo1,⟨rfl,by simp [cC],g4,g5,g2⟩,g1,g3⟩;skip
    rcases hcase with⟨hpl,_⟩|⟨_,y,hy,zl,rfl⟩
    ·rw[hpl]at hc4;cases hc4
    have hgy:=fQ hy;refine bB (fun _=>True) [(0,3),(1,3),(2,3),(3,1),(4,3),(5,3),(6,3),(7,1),(8,3),(9,3)] [(10,1)] cX (by kernel_rfl) rfl rfl ?_;simp only[cH,hr,hv,z0,zl,hgy,RR,seval];have g1:=hR1.setV pn.toNat x ux;have g2:=hO1.other hO1.nv (some (.rows 1 ((s1.vars.map cZ).set pn.toNat [.int .u32 x])));have g3:=(hk1.trans (dJ.vars (some (.rows 1 ((s1.vars.map cZ).set pn.toNat [.int .u32 x]))))).s bo;have g4:ow.length=ow.length:=rfl;have g5:=hu;refine aB fun _ Y=>aA rfl ?_;simp only[RR,seval];apply Y;clear Y;refine aQ ?_;simp only[aX,aN,bI,RR,seval];exact aW.run ⟨vo1,⟨rfl,by simp [cC],g4,g5,g2⟩,g1,g3⟩;skip
 by_cases k2:k=2
 ·subst k2
  simp only[show ¬(2:Int)=1 by decide,if_false,if_true]at h
  cases hl0:l[0]? with
  |none=>rw[hl0]at h;cases h
  |some a=>
  cases hl1:l[1]? with
  |none=>rw[hl0,hl1]at h;cases h
  |some b=>
   simp only[hl0,hl1]at h;have hg0:=lI (rs:=rs) hl0;have hg1:=lI (rs:=rs) hl1
   cases h1:gB cx n rs ow a st with
   |none=>rw[h1]at h;cases h
   |some r1=>
    rw[h1]at h;clear hW;refine bD 156 [.tmp 6, .tmp 7] Tryz.func65 rfl rfl rfl rfl ?_;refine aB fun _ Y=>aA rfl ?_;simp only[RR,seval];apply Y;clear Y;refine aH ?_;refine aB fun _ Y=>aA rfl ?_;simp only[RR,seval];apply Y;clear Y;refine aI ?_;refine aB fun _ Y=>aA rfl ?_;simp only[RR,seval];apply Y;clear Y;refine aF false rfl (fun hc=>by cases hc) (fun _=>?_);refine aB fun _ Y=>aA rfl ?_;simp only[RR,seval];apply Y;clear Y;refine aF true rfl (fun _=>?_) (fun hc=>by cases hc);refine aB fun _ Y=>aA rfl ?_;simp only[hg0,RR,seval];refine eL (hV a st vo H r1 (kidok hl0) hR hO h1) (fun _=>trivial) ?_ ?_
    ·rintro e s vo1 H1 e1 hR1 hk1
     subst e1;obtain rfl:=Option.some.inj (show some (Rz.fin e s)=some o from h);simp only[bR,bZ,bT];exact⟨vo1,rfl,hR1,hk1.s bo⟩
    intro x s1 vo1 H1 e1 ux hR1 hk1;subst e1;simp only[bindR]at h;have hO1:=hO.keep hR hk1;have hr:=hR1.r
    obtain⟨r2,h2⟩: ∃r2,gB cx n rs ow b s1=some r2:=by
     cases h2:gB cx n rs ow b s1 with
     |none=>rw[h2]at h;cases h
     |some r2=>exact⟨r2,rfl⟩
    rw[h2]at h;simp only[RR,seval];apply Y;clear Y;refine aB fun _ Y=>aA rfl ?_;simp only[hg1,RR,seval];refine eL (hV b s1 vo1 H1 r2 (kidok hl1) hR1 hO1 h2) (fun _=>trivial) ?_ ?_
    ·rintro e s vo2 H2 e1 hR2 hk2
     subst e1;obtain rfl:=Option.some.inj (show some (Rz.fin e s)=some o from h);simp only[bR,bZ,bT];exact⟨vo2,rfl,hR2,(hk1.trans hk2).s bo⟩
    intro y s2 vo2 H2 e1 uy hR2 hk2;subst e1;simp only[]at h;have hO2:=hO1.keep hR1 hk2;have hr:=hR2.r;by_cases z0:0≤pn
    rotate_left
    ·rw[if_neg z0]at h;cases h
    rw[if_pos z0]at h;obtain⟨i,rfl⟩:=Int.eq_ofNat_of_zero_le z0;simp only[Int.toNat_natCast,Oe]at h
    obtain⟨la,hla⟩: ∃la,s2.arrs[i]?=some la:=by
     cases hla:s2.arrs[i]? with
     |none=>rw[hla]at h;cases h
     |some la=>exact⟨la,rfl⟩
    rw[hla]at h;simp only at h;have hl:i<abs.length:=by rw[hR2.al];exact(aZ.1 hla).1
    have hb:=aG hl;generalize abs[i]=ba at hb;have hc:=To hR2 ux hb hla;simp only[RR,seval];apply Y;clear Y;refine aA rfl ?_;simp only[RR,seval];by_cases hxl:x.toNat<la.length
    rotate_left
    ·rw[if_neg hxl]at hc h
     obtain rfl:=Option.some.inj (show some (Rz.fin 3 s2)=some o from h);refine eL hc (fun _=>trivial) ?_ ?_
     ·intro e s vo3 H3 e2 hR3 hk3
      cases e2;simp only[bR,bZ,bT];exact⟨vo3,rfl,hR3,((hk1.trans hk2).trans hk3).s bo⟩
     intro _ _ _ _ e2;cases e2
    rw[if_pos hxl]at hc h;refine eL hc (fun _=>trivial) ?_ ?_
    ·intro _ _ _ _ e2
     cases e2
    intro j s3 vo3 H3 e2 hj hR3 hk3;cases e2;obtain rfl:=Option.some.inj (show some (Rz.val ((none:Option Int),ow) (rA i x.toNat y s2))=some o from h);have hO3:=hO2.keep hR2 hk3;have hbb:=hR3.a i ba la hb hla;have hgy:=fQ (aG hj);have hm:=aL hb;have g1:=hR3.setA hb hla x.toNat y uy;have g2:=hO3.other (fun e=>hO3.na (by rw[e];exact hm)) (some (.rows 1 ((la.map cZ).set x.toNat [.int .u32 y])));have g3:=(((hk1.trans hk2).trans hk3).trans (dJ.arr hm (some (.rows 1 ((la.map cZ).set x.toNat [.int .u32 y]))))).s bo;simp only[hbb,hgy,RR,seval];refine aB fun _ Y=>aA rfl ?_;simp only[RR,seval];apply Y;clear Y;refine aQ ?_;simp only[aX,aN,bI,RR,seval];exact aW.run ⟨vo3,⟨rfl,by simp [cC],rfl,hu,g2⟩,g1,g3⟩;skip
 by_cases k3:k=3
 ·subst k3
  simp only[show ¬(3:Int)=1 by decide,show ¬(3:Int)=2 by decide,if_false,if_true]at h
  cases hl0:l[0]? with
  |none=>rw[hl0]at h;cases h
  |some a=>
   simp only[hl0]at h;have hg0:=lI (rs:=rs) hl0
   cases h1:gB cx n rs ow a st with
   |none=>rw[h1]at h;cases h
   |some r1=>
    rw[h1]at h;clear hW;refine bD 156 [.tmp 6, .tmp 7] Tryz.func65 rfl rfl rfl rfl ?_;refine aB fun _ Y=>aA rfl ?_;simp only[RR,seval];apply Y;clear Y;refine aH ?_;refine aB fun _ Y=>aA rfl ?_;simp only[RR,seval];apply Y;clear Y;refine aI ?_;refine aB fun _ Y=>aA rfl ?_;simp only[RR,seval];apply Y;clear Y;refine aF false rfl (fun hc=>by cases hc) (fun _=>?_);refine aB fun _ Y=>aA rfl ?_;simp only[RR,seval];apply Y;clear Y;refine aF false rfl (fun hc=>by cases hc) (fun _=>?_);refine aB fun _ Y=>aA rfl ?_;simp only[RR,seval];apply Y;clear Y;refine aF true rfl (fun _=>?_) (fun hc=>by cases hc);refine aA rfl ?_;simp only[hg0,RR,seval];refine eL (hV a st vo H r1 (kidok hl0) hR hO h1) (fun _=>trivial) ?_ ?_
    ·rintro e s vo1 H1 e1 hR1 hk1
     subst e1;obtain rfl:=Option.some.inj (show some (Rz.fin e s)=some o from h);simp only[bR,bZ,bT];exact⟨vo1,rfl,hR1,hk1.s bo⟩
    intro x s1 vo1 H1 e1 ux hR1 hk1;subst e1;simp only[bindR]at h;have hO1:=hO.keep hR hk1;have hP:=Rh hR1 x;generalize hpp:kX x s1=pp at h hP;simp only[RR,seval];refine eL hP (fun _=>trivial) ?_ ?_
    ·rintro e s vo2 H2 e1 hR2 hk2
     subst e1;obtain rfl:=Option.some.inj (show some (Rz.fin e s)=some o from h);simp only[bR,bZ,bT];exact⟨vo2,rfl,hR2,(hk1.trans hk2).s bo⟩
    intro _ s2 vo2 H2 e1 _ hR2 hk2;subst e1;obtain rfl:=Option.some.inj (show some (Rz.val ((none:Option Int),ow) s2)=some o from h);have hO2:=hO1.keep hR1 hk2;simp only[RR,seval];refine aB fun _ Y=>aA rfl ?_;simp only[RR,seval];apply Y;clear Y;refine aQ ?_;simp only[aX,aN,bI,RR,seval];exact aW.run ⟨vo2,⟨rfl,by simp [cC],rfl,hu,hO2⟩,hR2,(hk1.trans hk2).s bo⟩;skip
 by_cases k4:k=4
 ·subst k4
  simp only[show ¬(4:Int)=1 by decide,show ¬(4:Int)=2 by decide,show ¬(4:Int)=3 by decide,if_false,if_true]at h
  cases hl0:l[0]? with
  |none=>rw[hl0]at h;cases h
  |some a=>
   simp only[hl0]at h;have hg0:=lI (rs:=rs) hl0
   cases h1:gB cx n rs ow a st with
   |none=>rw[h1]at h;cases h
   |some r1=>
    rw[h1]at h;clear hW;refine bD 156 [.tmp 6, .tmp 7] Tryz.func65 rfl rfl rfl rfl ?_;refine aB fun _ Y=>aA rfl ?_;simp only[RR,seval];apply Y;clear Y;refine aH ?_;refine aB fun _ Y=>aA rfl ?_;simp only[RR,seval];apply Y;clear Y;refine aI ?_;refine aB fun _ Y=>aA rfl ?_;simp only[RR,seval];apply Y;clear Y;refine aF false rfl (fun hc=>by cases hc) (fun _=>?_);refine aB fun _ Y=>aA rfl ?_;simp only[RR,seval];apply Y;clear Y;refine aF false rfl (fun hc=>by cases hc) (fun _=>?_);refine aB fun _ Y=>aA rfl ?_;simp only[RR,seval];apply Y;clear Y;refine aF false rfl (fun hc=>by cases hc) (fun _=>?_);refine aB fun _ Y=>aA rfl ?_;simp only[RR,seval];apply Y;clear Y;refine aF true rfl (fun _=>?_) (fun hc=>by cases hc);refine aH ?_;refine aB fun _ Y=>aA rfl ?_;simp only[hg0,RR,seval];refine eL (hV a st vo H r1 (kidok hl0) hR hO h1) (fun _=>trivial) ?_ ?_
    ·rintro e s vo1 H1 e1 hR1 hk1
     subst e1;obtain rfl:=Option.some.inj (show some (Rz.fin e s)=some o from h);simp only[bR,bZ,bT];exact⟨vo1,rfl,hR1,hk1.s bo⟩
    intro x s1 vo1 H1 e1 ux hR1 hk1;subst e1;simp only[bindR]at h;have hO1:=hO.keep hR hk1;have hr:=hR1.r;simp only[RR,seval];apply Y;clear Y;refine aF _ rfl (fun hc14=>?_) (fun hc14=>?_)
    ·rw[if_neg (show ¬x=0 by simpa using hc14)]at h
     have hL:=ih.L rs ow t s1 vo1 H1 bo o hth hR1 hO1 hu h;refine aB fun _ Y=>aA rfl ?_;simp only[RR,seval];refine tV hL (fun _=>trivial) ?_ ?_
     ·rintro e s vo2 H2 e1 hR2 hk2
      subst e1;simp only[bR,bZ,bT];exact⟨vo2,rfl,hR2,(hk1.s bo).trans hk2⟩
     intro p s2 vo2 H2 e1 up hwp hup hO2 hR2 hk2;subst e1;simp only[RR,seval];apply Y;clear Y;refine aQ ?_;simp only[aX,aN,bI,RR,seval];exact aW.run ⟨vo2,⟨rfl,up,hwp,hup,hO2⟩,hR2,(hk1.s bo).trans hk2⟩;skip
    rw[if_pos (show x=0 by simpa using hc14)]at h;have hL:=ih.L rs ow u s1 vo1 H1 bo o hel hR1 hO1 hu h;refine aM ?_;try simp only[RR]
    refine aB fun _ Y=>aA rfl ?_;simp only[RR,seval];refine tV hL (fun _=>trivial) ?_ ?_
    ·rintro e s vo2 H2 e1 hR2 hk2
     subst e1;simp only[bR,bZ,bT];exact⟨vo2,rfl,hR2,(hk1.s bo).trans hk2⟩
    intro p s2 vo2 H2 e1 up hwp hup hO2 hR2 hk2;subst e1;simp only[RR,seval];apply Y;clear Y;refine aQ ?_;simp only[aX,aN,bI,RR,seval];exact aW.run ⟨vo2,⟨rfl,up,hwp,hup,hO2⟩,hR2,(hk1.s bo).trans hk2⟩;skip
 by_cases k5:k=5
 ·subst k5
  simp only[show ¬(5:Int)=1 by decide,show ¬(5:Int)=2 by decide,show ¬(5:Int)=3 by decide,show ¬(5:Int)=4 by decide,if_false,if_true]at h
  cases hl0:l[0]? with
  |none=>rw[hl0]at h;cases h
  |some a=>
   simp only[hl0]at h;have hWW:=hW a hl0 h;clear hW;refine bD 156 [.tmp 6, .tmp 7] Tryz.func65 rfl rfl rfl rfl ?_;refine aB fun _ Y=>aA rfl ?_;simp only[RR,seval];apply Y;clear Y;refine aH ?_;refine aB fun _ Y=>aA rfl ?_;simp only[RR,seval];apply Y;clear Y;refine aI ?_;refine aB fun _ Y=>aA rfl ?_;simp only[RR,seval];apply Y;clear Y;refine aF false rfl (fun hc=>by cases hc) (fun _=>?_);refine aB fun _ Y=>aA rfl ?_;simp only[RR,seval];apply Y;clear Y;refine aF false rfl (fun hc=>by cases hc) (fun _=>?_);refine aB fun _ Y=>aA rfl ?_;simp only[RR,seval];apply Y;clear Y;refine aF false rfl (fun hc=>by cases hc) (fun _=>?_);refine aB fun _ Y=>aA rfl ?_;simp only[RR,seval];apply Y;clear Y;refine aF false rfl (fun hc=>by cases hc) (fun _=>?_);refine aB fun _ Y=>aA rfl ?_;simp only[RR,seval];apply Y;clear Y;refine aF true rfl (fun _=>?_) (fun hc=>by cases hc);refine aB fun _ Y=>aA rfl ?_;simp only[RR,seval];refine tV hWW (fun _=>trivial) ?_ ?_
   ·rintro e s vo2 H2 e1 hR2 hk2
    subst e1;simp only[bR,bZ,bT];exact⟨vo2,rfl,hR2,hk2⟩
   intro p s2 vo2 H2 e1 up hwp hup hO2 hR2 hk2;subst e1;simp only[RR,seval];apply Y;clear Y;refine aQ ?_;simp only[aX,aN,bI,RR,seval];exact aW.run ⟨vo2,⟨rfl,up,hwp,hup,hO2⟩,hR2,hk2⟩;skip
 clear hW;by_cases k6:k=6
 ·subst k6
  simp only[show ¬(6:Int)=1 by decide,show ¬(6:Int)=2 by decide,show ¬(6:Int)=3 by decide,show ¬(6:Int)=4 by decide,show ¬(6:Int)=5 by decide,if_false,if_true]at h
  obtain⟨f,z0,hf⟩: ∃f,0≤pn∧cx.funs[pn.toNat]?=some f:=by
   cases n with
   |zero=>simp [qI,bindR]at h
   |succ n=>
    simp only[qI]at h;by_cases z:pn<0
    ·rw[if_pos z]at h;cases h
    rw[if_neg z]at h
    cases hf:cx.funs[pn.toNat]? with
    |none=>rw[hf]at h;cases h
    |some f=>exact⟨f,by omega,rfl⟩
  have hfr:(cx.funs.map Cf.row)[pn.toNat]?=some f.row:=by rw[bN,hf];rfl
  cases h1:qI cx n rs ow pn l st with
  |none=>rw[h1]at h;cases h
  |some r1=>
   rw[h1]at h;have hcall:=ih.C rs ow pn f l st vo H bo r1 hes z0 hf hR hO hu h1;refine bD 156 [.tmp 6, .tmp 7] Tryz.func65 rfl rfl rfl rfl ?_;refine aB fun _ Y=>aA rfl ?_;simp only[RR,seval];apply Y;clear Y;refine aH ?_;refine aB fun _ Y=>aA rfl ?_;simp only[RR,seval];apply Y;clear Y;refine aI ?_;refine aB fun _ Y=>aA rfl ?_;simp only[RR,seval];apply Y;clear Y;refine aF false rfl (fun hc=>by cases hc) (fun _=>?_);refine aB fun _ Y=>aA rfl ?_;simp only[RR,seval];apply Y;clear Y;refine aF false rfl (fun hc=>by cases hc) (fun _=>?_);refine aB fun _ Y=>aA rfl ?_;simp only[RR,seval];apply Y;clear Y;refine aF false rfl (fun hc=>by cases hc) (fun _=>?_);refine aB fun _ Y=>aA rfl ?_;simp only[RR,seval];apply Y;clear Y;refine aF false rfl (fun hc=>by cases hc) (fun _=>?_);refine aB fun _ Y=>aA rfl ?_;simp only[RR,seval];apply Y;clear Y;refine aF false rfl (fun hc=>by cases hc) (fun _=>?_);refine aB fun _ Y=>aA rfl ?_;simp only[RR,seval];apply Y;clear Y;refine aF true rfl (fun _=>?_) (fun hc=>by cases hc);refine bB (fun _=>True) [(0,3),(1,3),(2,3),(3,3),(4,1),(5,3),(6,3),(7,3),(8,1),(9,3),(10,3),(11,3),(12,3),(13,1),(14,3),(15,1)] [] cX (by kernel_rfl) rfl rfl ?_;simp only[cH,hr,z0,hfr,RR,seval];refine eL hcall (fun _=>trivial) ?_ ?_
   ·rintro e s vo1 H1 e1 hR1 hk1
    subst e1;obtain rfl:=Option.some.inj (show some (Rz.fin e s)=some o from h);simp only[bR,bZ,bT];exact⟨vo1,rfl,hR1,hk1.s bo⟩
   intro x s1 vo1 H1 e1 ux hR1 hk1;subst e1;obtain rfl:=Option.some.inj (show some (Rz.val ((none:Option Int),ow) s1)=some o from h);have hO1:=hO.keep hR hk1;simp only[RR,seval];refine aB fun _ Y=>aA rfl ?_;simp only[RR,seval];apply Y;clear Y;refine aQ ?_;simp only[aX,aN,bI,RR,seval];exact aW.run ⟨vo1,⟨rfl,by simp [cC],rfl,hu,hO1⟩,hR1,hk1.s bo⟩;skip
 by_cases k7:k=7
 ·subst k7
  simp only[show ¬(7:Int)=1 by decide,show ¬(7:Int)=2 by decide,show ¬(7:Int)=3 by decide,show ¬(7:Int)=4 by decide,show ¬(7:Int)=5 by decide,show ¬(7:Int)=6 by decide,if_false,if_true]at h
  cases hl0:l[0]? with
  |none=>
   simp only[hl0]at h;obtain rfl:=Option.some.inj h;have hle:l=[]:=by cases l with |nil=>rfl|cons a l=>simp at hl0
   subst hle;refine bD 156 [.tmp 6, .tmp 7] Tryz.func65 rfl rfl rfl rfl ?_;refine aB fun _ Y=>aA rfl ?_;simp only[List.map_nil,RR,seval];apply Y;clear Y;refine aH ?_;refine aB fun _ Y=>aA rfl ?_;simp only[List.map_nil,RR,seval];apply Y;clear Y;refine aI ?_;refine aB fun _ Y=>aA rfl ?_;simp only[List.map_nil,RR,seval];apply Y;clear Y;refine aF false rfl (fun hc=>by cases hc) (fun _=>?_);refine aB fun _ Y=>aA rfl ?_;simp only[List.map_nil,RR,seval];apply Y;clear Y;refine aF false rfl (fun hc=>by cases hc) (fun _=>?_);refine aB fun _ Y=>aA rfl ?_;simp only[List.map_nil,RR,seval];apply Y;clear Y;refine aF false rfl (fun hc=>by cases hc) (fun _=>?_);refine aB fun _ Y=>aA rfl ?_;simp only[List.map_nil,RR,seval];apply Y;clear Y;refine aF false rfl (fun hc=>by cases hc) (fun _=>?_);refine aB fun _ Y=>aA rfl ?_;simp only[List.map_nil,RR,seval];apply Y;clear Y;refine aF false rfl (fun hc=>by cases hc) (fun _=>?_);refine aB fun _ Y=>aA rfl ?_;simp only[List.map_nil,RR,seval];apply Y;clear Y;refine aF false rfl (fun hc=>by cases hc) (fun _=>?_);refine aB fun _ Y=>aA rfl ?_;simp only[List.map_nil,RR,seval];apply Y;clear Y;refine aF true rfl (fun _=>?_) (fun hc=>by cases hc);refine aH ?_;refine aB fun _ Y=>aA rfl ?_;simp only[List.map_nil,RR,seval];apply Y;clear Y;refine aF false rfl (fun hc=>by cases hc) (fun _=>?_);refine aM ?_;try simp only[RR]
   refine aB fun _ Y=>aA rfl ?_;simp only[List.map_nil,RR,seval];apply Y;clear Y;refine aQ ?_;simp only[aX,aN,bI,RR,seval];exact aW.run ⟨vo,⟨rfl,by simp [cC],rfl,hu,hO⟩,hR,(dJ.refl _ _ _ _ _).s bo⟩;skip
  |some a=>
   simp only[hl0]at h;have hg0:=lI (rs:=rs) hl0;have zl:(0:Int)<(l.length:Int):=by have:=(aZ.1 hl0).1;omega
   cases h1:gB cx n rs ow a st with
   |none=>rw[h1]at h;cases h
   |some r1=>
    rw[h1]at h;refine bD 156 [.tmp 6, .tmp 7] Tryz.func65 rfl rfl rfl rfl ?_;refine aB fun _ Y=>aA rfl ?_;simp only[RR,seval];apply Y;clear Y;refine aH ?_;refine aB fun _ Y=>aA rfl ?_;simp only[RR,seval];apply Y;clear Y;refine aI ?_;refine aB fun _ Y=>aA rfl ?_;simp only[RR,seval];apply Y;clear Y;refine aF false rfl (fun hc=>by cases hc) (fun _=>?_);refine aB fun _ Y=>aA rfl ?_;simp only[RR,seval];apply Y;clear Y;refine aF false rfl (fun hc=>by cases hc) (fun _=>?_);refine aB fun _ Y=>aA rfl ?_;simp only[RR,seval];apply Y;clear Y;refine aF false rfl (fun hc=>by cases hc) (fun _=>?_);refine aB fun _ Y=>aA rfl ?_;simp only[RR,seval];apply Y;clear Y;refine aF false rfl (fun hc=>by cases hc) (fun _=>?_);refine aB fun _ Y=>aA rfl ?_;simp only[RR,seval];apply Y;clear Y;refine aF false rfl (fun hc=>by cases hc) (fun _=>?_);refine aB fun _ Y=>aA rfl ?_;simp only[RR,seval];apply Y;clear Y;refine aF false rfl (fun hc=>by cases hc) (fun _=>?_);refine aB fun _ Y=>aA rfl ?_;simp only[RR,seval];apply Y;clear Y;refine aF true rfl (fun _=>?_) (fun hc=>by cases hc);refine aH ?_;refine aB fun _ Y=>aA rfl ?_;simp only[zl,aD,RR,seval];apply Y;clear Y;refine aF true rfl (fun _=>?_) (fun hc=>by cases hc);refine aB fun _ Y=>aA rfl ?_;simp only[hg0,RR,seval];refine eL (hV a st vo H r1 (kidok hl0) hR hO h1) (fun _=>trivial) ?_ ?_
    ·rintro e s vo1 H1 e1 hR1 hk1
     subst e1;obtain rfl:=Option.some.inj (show some (Rz.fin e s)=some o from h);simp only[bR,bZ,bT];exact⟨vo1,rfl,hR1,hk1.s bo⟩
    intro x s1 vo1 H1 e1 ux hR1 hk1;subst e1;obtain rfl:=Option.some.inj (show some (Rz.val (some x,ow) s1)=some o from h);have hO1:=hO.keep hR hk1;simp only[RR,seval];apply Y;clear Y;refine aQ ?_;simp only[aX,aN,bI,RR,seval];exact aW.run ⟨vo1,⟨rfl,ux,rfl,hu,hO1⟩,hR1,hk1.s bo⟩;skip
 simp only[if_neg k1,if_neg k2,if_neg k3,if_neg k4,if_neg k5,if_neg k6,if_neg k7]at h;obtain rfl:=Option.some.inj h;refine bD 156 [.tmp 6, .tmp 7] Tryz.func65 rfl rfl rfl rfl ?_;refine aB fun _ Y=>aA rfl ?_;simp only[RR,seval];apply Y;clear Y;refine aH ?_;refine aB fun _ Y=>aA rfl ?_;simp only[RR,seval];apply Y;clear Y;refine aI ?_;refine aB fun _ Y=>aA rfl ?_;simp only[k1,RR,seval];apply Y;clear Y;refine aF false rfl (fun hc=>by cases hc) (fun _=>?_);refine aB fun _ Y=>aA rfl ?_;simp only[k2,RR,seval];apply Y;clear Y;refine aF false rfl (fun hc=>by cases hc) (fun _=>?_);refine aB fun _ Y=>aA rfl ?_;simp only[k3,RR,seval];apply Y;clear Y;refine aF false rfl (fun hc=>by cases hc) (fun _=>?_);refine aB fun _ Y=>aA rfl ?_;simp only[k4,RR,seval];apply Y;clear Y;refine aF false rfl (fun hc=>by cases hc) (fun _=>?_);refine aB fun _ Y=>aA rfl ?_;simp only[k5,RR,seval];apply Y;clear Y;refine aF false rfl (fun hc=>by cases hc) (fun _=>?_);refine aB fun _ Y=>aA rfl ?_;simp only[k6,RR,seval];apply Y;clear Y;refine aF false rfl (fun hc=>by cases hc) (fun _=>?_);refine aB fun _ Y=>aA rfl ?_;simp only[k7,RR,seval];apply Y;clear Y;refine aF false rfl (fun hc=>by cases hc) (fun _=>?_);refine aM ?_;try simp only[RR]
 refine aB fun _ Y=>aA rfl ?_;simp only[RR,seval];apply Y;clear Y;refine aQ ?_;simp only[aX,aN,bI,RR,seval];exact aW.run ⟨vo,⟨rfl,by simp [cC],rfl,hu,hO⟩,hR,(dJ.refl _ _ _ _ _).s bo⟩;skip
theorem I6 (hx:yP cx) (r v:Nat) (abs:List Nat) (n:Nat):Oj cx r v abs n:=by
 induction n with
 |zero=>
  constructor
  ·intro rs ow e st vo H bo o _ _ _ _ h;simp [gB]at h
  ·intro rs ow i f l st vo H bo o _ _ _ _ _ _ h;simp [qI]at h
  ·intro rs ow e st vo H bo o _ _ _ _ h;simp [kQ]at h
  ·intro rs ow l st vo H bo o _ _ _ _ h;simp [iH]at h
  intro rs ow e c st vo H bo o _ _ _ _ _ h;simp [rL]at h
 |succ n ih=>
  exact⟨Eu ih hx,Ig ih hx,Mw ih,Rj ih,Et ih hx⟩
end
end Go.Proofs.YtnfbbjhdflhmjaaGreatDoor
