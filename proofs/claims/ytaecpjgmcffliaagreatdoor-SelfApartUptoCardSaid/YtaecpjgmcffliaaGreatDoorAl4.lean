/- The little logic: more rules for lists that grow, and for results. The little logic: functions that are handed all that is owned. The little logic: the rewriting rules and the readings of one operation, all as one. The little logic: regions that draw their order, in two parts: first reads and calls, then what writes. The little logic: what is owned within what is owned: sealed, weakened. The little logic: weaker lists, within sealed lists too. The little logic: loops over what is numbered, with all kept that the loop does not turn. The little logic: a map that is sealed; functions that read a block that they are handed. -/
import Derived.Test.YtaecpjgmcffliaaGreatDoorAl3
set_option linter.unusedSimpArgs false
set_option linter.unusedVariables false
set_option maxRecDepth 10000
namespace Go.Al
theorem Su {E:fR} {g:FuncId} {args:List AV} {v v':AV} (h:cM E g args v) (hs:dQ v v'):cM E g args v':=by
 refine⟨h.1,fun w0 S0 vs h1 h2=>?_⟩;refine(h.2 w0 S0 vs h1 h2).mono fun e w ⟨ae,H',S',a1,a2,a3,a4⟩=>?_;subst a3;subst a4;simp only[nW]at a2;obtain⟨x,rfl,hx⟩:=a2;exact⟨.ret v',_,S',a1,by simp only[nW];exact⟨x,rfl,hs _ _ _ hx⟩,rfl,rfl⟩
theorem E2 (b sz:Nat) (l:List (List AV)):frz b sz l (.osl sz b l.length)= .isl sz l:=by simp [frz]
def oK (sz:Nat) (v:AV) (rows:List (List AV)) (H:Hp):Prop:= ∃b,v= .osl sz b rows.length∧H b=some (.rows sz rows)
section
variable {E : fR} {F : Nat → Prop} {ds : List (Option Nat)} {Q : dN} {d : Option Nat} {rest : List Oper} {fr : Fr} {H : Hp}
theorem mV {sz by':Nat} {v:AV} {rows ys:List (List AV)} (hv:oK sz v rows H) (hb:(rows.length+ys.length) *by'≤140737488355328) (hF: ∀b,v= .osl sz b rows.length→F b)
  (h: ∀v' H',oK sz v' (rows++ys) H'→(∀b o,H b=some o→v≠ .osl sz b rows.length→H' b=some o)→cI E F ds Q rest (dF fr d v') H'):Oh E F ds Q d rest fr H (some (sz,by',v,ys)):=by
 obtain⟨b,rfl,hH⟩:=hv;simp only[Oh,hH];refine⟨trivial,trivial,trivial,hb,hF b rfl,fun b' hb'=>?_⟩;refine h _ _ ⟨b',by simp,by simp [upd]⟩ fun b'' o h1 h2=>?_;have n1:b''≠b:=fun c=>h2 (by rw[c])
 have n2:b''≠b':=fun c=>by
  rcases hb' with e|e
  ·exact n1 (c.trans e)
  rw[←c,h1]at e;cases e
 simp [upd,n1,n2,h1]
theorem rE (x:Operand) {ty:TypeId} {pos:String} {af:Array Edge}:cI E F ds Q (⟨d, .entry x,ty,pos,af,none⟩::rest) fr H=((∀b,jR (ev E.G fr x)=some b→ ¬F b)∧cI E F ds Q rest (dF fr d (.tup [])) H):=Eq.trans rfl rfl
theorem sW (sz b i j:Nat):(∀x,jR (.ptr sz b i j)=some x→ ¬F x)= ¬F b:=by
 simp [jR]
theorem Ac (r:List AV) (j:Nat):(∀x,jR (.ipt r j)=some x→ ¬F x)=True:=by
 simp [jR]
theorem oK.upd {sz:Nat} {v:AV} {rows:List (List AV)} (h:oK sz v rows H) {b:Nat} (hb:H b=none) (o:Option iG):oK sz v rows (upd H b o):=by
 obtain⟨b',rfl,hH⟩:=h;have hne:b'≠b:=fun e=>by rw[e,hb]at hH;cases hH
 exact⟨b',rfl,by simp [Go.Al.upd,hne,hH]⟩
theorem oK.nb' {sz sz':Nat} {v:AV} {rows r2:List (List AV)} (h:oK sz v rows H) {b:Nat} (hb:H b=some (.rows sz' r2)) (hs:sz'≠sz) {n:Nat}:v≠ .osl sz b n:=by
 obtain⟨b',rfl,hH⟩:=h;intro e;cases e;rw[hb]at hH;cases hH;exact hs rfl
theorem oK.own {sz:Nat} {v:AV} {rows:List (List AV)} (h:oK sz v rows H):cH sz v rows H:=by
 obtain⟨b,h1,h2⟩:=h;exact .inr ⟨b,h1,h2⟩
theorem cH.upd {sz:Nat} {v:AV} {rows:List (List AV)} (h:cH sz v rows H) {b:Nat} (hb:H b=none) (o:Option iG):cH sz v rows (upd H b o):=by
 rcases h with h|⟨b',rfl,hH⟩
 ·exact .inl h
 have hne:b'≠b:=fun e=>by rw[e,hb]at hH;cases hH
 exact .inr ⟨b',rfl,by simp [Go.Al.upd,hne,hH]⟩
theorem cH.nb' {sz sz':Nat} {v:AV} {rows r2:List (List AV)} (h:cH sz v rows H) {b:Nat} (hb:H b=some (.rows sz' r2)) (hs:sz'≠sz) {n:Nat}:v≠ .osl sz b n:=by
 rcases h with⟨rfl,_⟩|⟨b',rfl,hH⟩
 ·intro e;cases e
 intro e;cases e;rw[hb]at hH;cases hH;exact hs rfl
theorem oK.far {sz sz':Nat} {v:AV} {rows r2:List (List AV)} (h:oK sz v rows H) {b:Nat} (hb:H b=some (.rows sz' r2)) (hs:sz'≠sz) (x:Nat) {n:Nat} (hx:v= .osl sz x n):x≠b:=fun e=>by
 subst e;exact h.nb' hb hs hx
theorem cH.gives1 {sz:Nat} {v:AV} {rows:List (List AV)} {v':AV} (h:cH sz v rows H) (e:v'= .isl sz rows):bB (fun ae H'=>ae= .ret v'∧H'=lG) v H:=by
 subst e;rcases h with⟨rfl,rfl⟩|⟨b,rfl,hb⟩
 ·exact bB.turn (fZ.sub (dQ.nsl sz)) (bB.pure rfl)
 exact bB.turn (fZ.freeze hb (lC.osl b sz rows)) (bB.pure rfl)
end
end Go.Al
namespace Go.Al
def keeps (M:Nat→Prop) (H H':Hp):Prop:= ∀b o, ¬M b→H b=some o→H' b=some o
theorem keeps.refl (M:Nat→Prop) (H:Hp):keeps M H H:=fun _ _ _ h=>h
theorem keeps.trans {M:Nat→Prop} {H H1 H2:Hp} (h:keeps M H H1) (h':keeps M H1 H2):keeps M H H2:=fun b o hm hb=>h' b o hm (h b o hm hb)
theorem keeps.new {M:Nat→Prop} {H H1:Hp} (h:keeps M H H1) {b:Nat} (hb:H b=none) (o:Option iG):keeps M H (upd H1 b o):=fun b' o' hm hb'=>by
 have :b'≠b:=fun e=>by rw[e,hb]at hb';cases hb'
 simp only[upd,if_neg this];exact h b' o' hm hb'
theorem keeps.set {M:Nat→Prop} {H H1:Hp} (h:keeps M H H1) {b:Nat} (hb:M b) (o:Option iG):keeps M H (upd H1 b o):=fun b' o' hm hb'=>by
 have :b'≠b:=fun e=>hm (e▸hb);simp only[upd,if_neg this];exact h b' o' hm hb'
theorem keeps.mono {M M':Nat→Prop} {H H1:Hp} (h:keeps M H H1) (hm: ∀b,M b→M' b):keeps M' H H1:=fun b o hb h1=>h b o (fun c=>hb (hm b c)) h1
theorem Nq (H' H:Hp):gA H' H H=H':=by
 funext b;unfold gA
 cases h:H' b with
 |some o=>rfl
 |none=>
  cases h2:H b with
  |some o=>simp
  |none=>simp []
theorem dO {E:fR} {F:Nat→Prop} {ds:List (Option Nat)} {Q:dN} {d:Option Nat} {rest:List Oper} {fr:Fr} {H:Hp} {g:FuncId} {args args':List AV} {R:AV→Hp→Prop}
  (hc:rK E g args' H (fun ae H'=> ∃v,ae= .ret v∧R v H')) (hs:cY args args') (hF: ∀b,F b) (h: ∀v H',R v H'→cI E F ds Q rest (dF fr d v) H'):oJ E F ds Q d rest fr H g args:=by
 refine jH hc hs (fun b o h=>h) (fun b _=>hF b) fun ae H' ⟨v,e,hr⟩ _=>?_;subst e;rw[Nq];exact h v H' hr
theorem rF {E:fR} {F:Nat→Prop} {ds:List (Option Nat)} {Q:dN} {d:Option Nat} {rest:List Oper} {fr:Fr} {H:Hp} {g:FuncId} {args args':List AV} {R:AV→Hp→Prop}
  (hc:rK E g args' lG (fun ae H'=> ∃v,ae= .ret v∧R v H')) (hs:cY args args')
  (h: ∀v H' H2,R v H'→keeps (fun _=>False) H H2→(∀b o,H' b=some o→H2 b=some o∧H b=none)→cI E F ds Q rest (dF fr d v) H2):oJ E F ds Q d rest fr H g args:=by
 refine jH hc hs (mP H) (fun b hb=>absurd rfl hb) fun ae H' ⟨v,e,hr⟩ hnew=>?_;subst e
 have fresh: ∀b o,H' b=some o→H b=none:=fun b o hb=>by
  rcases hnew b (by rw[hb];simp)with h|h
  ·exact absurd rfl h
  exact h
 refine h v H' _ hr (fun b o _ hb=>?_) (fun b o hb=>⟨?_,fresh b o hb⟩)
 ·unfold gA
  cases h2:H' b with
  |some o'=>have:=fresh b o' h2;rw[hb]at this;cases this
  |none=>simp [lG,hb]
 simp only[gA,hb]
theorem bB.whole {R:AV→Hp→Prop} {v:AV} {H:Hp} (h:R v H):bB (fun ae H'=> ∃v,ae= .ret v∧R v H') v H:=
 bB.self ⟨v,rfl,h⟩
def apart (v w:AV):Prop:= ∀b s n s' n',v= .osl s b n→w≠ .osl s' b n'
theorem apart.nsl (w:AV):apart .nsl w:=fun _ _ _ _ _ h=>by cases h
theorem apart.symm {v w:AV} (h:apart v w):apart w v:=fun b s n s' n' h1 h2=>h b s' n' s n h2 h1
theorem cH.there {sz:Nat} {v:AV} {rows:List (List AV)} {H:Hp} (h:cH sz v rows H): ∀s b n,v= .osl s b n→H b≠none:=fun s b n e=>by
 rcases h with⟨rfl,_⟩|⟨b',rfl,hb⟩
 ·cases e
 cases e;rw[hb];simp
theorem cH.keep {sz sz':Nat} {v w:AV} {rows r2:List (List AV)} {H H':Hp} (h:cH sz v rows H) (ha:apart w v) (hk: ∀b o,H b=some o→w≠ .osl sz' b r2.length→H' b=some o):cH sz v rows H':=by
 rcases h with h|⟨b,rfl,hb⟩
 ·exact .inl h
 exact .inr ⟨b,rfl,hk b _ hb fun e=>ha b sz' r2.length sz rows.length e rfl⟩
def off (v:AV) (b:Nat):Prop:= ∀s n,v≠ .osl s b n
def J3 (E:fR) (g:FuncId) (args:List AV) (sz:Nat) (rows:List (List AV)):Prop:=rK E g args lG (fun ae H'=> ∃v,ae= .ret v∧cH sz v rows H')
theorem J3.pure {E:fR} {g:FuncId} {args:List AV} {sz:Nat} {rows:List (List AV)} (h:J3 E g args sz rows):cM E g args (.isl sz rows):=by
 refine⟨h.1,fun w0 S0 vs h1 h2=>?_⟩;refine(h.2 w0 S0 vs h1 h2).mono fun e w ⟨ae,H',S',a1,a2,v,a3,a4⟩=>?_;subst a3;simp only[nW]at a2;obtain⟨x,rfl,hx⟩:=a2;obtain⟨v',H2,ht,e1,e2⟩:=a4.gives1 (v':= .isl sz rows) rfl;obtain⟨S2,_,s2,r2⟩:=ht _ _ _ _ _ a1 hx;cases e1;subst e2;exact⟨.ret _,_,S2,s2,by simp only[nW];exact⟨x,rfl,r2⟩,rfl,rfl⟩
theorem J3.gives {sz:Nat} {v:AV} {rows:List (List AV)} {H:Hp} (h:cH sz v rows H):bB (fun ae H'=> ∃v,ae= .ret v∧cH sz v rows H') v H:=bB.whole h
end Go.Al
namespace Go.Al
def CM (op:UnOp) (v:AV):Option AV:=match op,v with
 | .not, .bool b=>some (.bool (!b))
 | .neg, .int k n=>some (.int k (k.wrap (0 -n)))
 |_,_=>none
theorem Jk (E:fR) (F:Nat→Prop) (ds:List (Option Nat)) (Q:dN) (d:Option Nat) (ty:TypeId) (pos:String) (af:Array Edge) (rest:List Oper) (fr:Fr) (H:Hp) (c:Call):
  cI E F ds Q (⟨d, .go c,ty,pos,af,none⟩::rest) fr H=lS E F ds Q d rest fr H (BJ E fr c):=Eq.trans rfl rfl
theorem Qy (E:fR) (fr:Fr) (f:Callee) (l:List Operand) (t:TypeId):BJ E fr ⟨f,l.toArray, #[t]⟩=(zT E fr t l.length (qM 0 l).toArray).map fun p=> .isl p.1 p.2:=by simp [BJ]
theorem Qz (E:fR) (H:Hp) (fr:Fr) (op:UnOp) (t:TypeId) (x:Operand):aq E H fr (.unOp op t x)=CM op (ev E.G fr x):=Eq.trans rfl rfl
theorem Qw (b:Bool):CM .not (.bool b)=some (.bool (!b)):=Eq.trans rfl rfl
theorem Qx (k:IntKind) (n:Int):CM .neg (.int k n)=some (.int k (k.wrap (0 -n))):=Eq.trans rfl rfl
theorem aF {α:Type} (f:Nat→α) (i j:Nat) (v:α):upd f i v j=if j=i then v else f j:=Eq.trans rfl rfl
theorem Ae (K:Fr→Hp→Prop) (Q:dN) (fr:Fr) (H:Hp):aU K Q .ret fr H=Q .ret fr H:=Eq.trans rfl rfl
theorem vX (K:Fr→Hp→Prop) (Q:dN) (id:Nat) (fr:Fr) (H:Hp):aU K Q (.exit id) fr H=Q (.exit id) fr H:=Eq.trans rfl rfl
theorem qN (id:Nat) (Q:dN) (fr:Fr) (H:Hp):aW id Q .normal fr H=Q .normal fr H:=Eq.trans rfl rfl
theorem xX (id:Nat) (Q:dN) (fr:Fr) (H:Hp):aW id Q .ret fr H=Q .ret fr H:=Eq.trans rfl rfl
theorem uS (id id':Nat) (Q:dN) (fr:Fr) (H:Hp):aW id Q (.exit id') fr H=if id'=id then Q .normal fr H else Q (.exit id') fr H:=Eq.trans rfl rfl
theorem AX:type_of% (And.intro AL<|And.intro @aq.eq_1<|And.intro @aq.eq_2<|And.intro @aq.eq_3<|And.intro @aq.eq_4<|And.intro @aq.eq_5<|And.intro @aq.eq_6<|And.intro @Qz<|And.intro @Qw<|And.intro @Qx<|And.intro @aq.eq_10<|And.intro @aq.eq_11<|And.intro @aq.eq_12<|And.intro @aq.eq_13<|And.intro @aq.eq_14<|And.intro @aq.eq_15<|And.intro @aq.eq_16<|And.intro @aq.eq_17<|And.intro @aq.eq_18<|And.intro @aq.eq_19<|And.intro @aq.eq_20<|And.intro @aq.eq_21<|And.intro @aq.eq_22<|And.intro @aq.eq_23<|And.intro @gN.eq_1<|And.intro @gN.eq_2<|And.intro @gN.eq_3<|And.intro @gN.eq_4<|And.intro @gN.eq_5<|And.intro @gN.eq_6<|And.intro @gN.eq_7<|And.intro @gN.eq_8<|And.intro @gN.eq_9<|And.intro @gN.eq_10<|And.intro @gN.eq_11<|And.intro @gN.eq_12<|And.intro @gN.eq_13<|And.intro @gN.eq_14<|And.intro @gN.eq_15<|And.intro @gN.eq_16<|And.intro @gN.eq_17<|And.intro @nQ.eq_1<|And.intro @nQ.eq_2<|And.intro @nQ.eq_3<|And.intro @nQ.eq_4<|And.intro @nQ.eq_5<|And.intro @nQ.eq_6<|And.intro @nQ.eq_7<|And.intro @nQ.eq_8<|And.intro @gI.eq_1<|And.intro @gI.eq_2<|And.intro @uK.eq_1<|And.intro @uK.eq_2<|And.intro @uK.eq_3<|And.intro @Ju.eq_1<|And.intro @R2.eq_1<|And.intro @R2.eq_2<|And.intro @R2.eq_3<|And.intro @R1.eq_1<|And.intro @R1.eq_2<|And.intro @R1.eq_3<|And.intro @oG.eq_1<|And.intro @oG.eq_2<|And.intro @oG.eq_3<|And.intro @rd.eq_1<|And.intro @fF.eq_1<|And.intro @fF.eq_2<|And.intro @fF.eq_3<|And.intro @fF.eq_4<|And.intro @fF.eq_5<|And.intro @zT.eq_1<|And.intro @iQ.eq_1<|And.intro @iQ.eq_2<|And.intro @pK.eq_1<|And.intro @jW.eq_1<|And.intro @cellsOf.eq_1<|And.intro @cellsOf.eq_2<|And.intro @cellsOf.eq_3<|And.intro @ev.eq_1<|And.intro @ev.eq_2<|And.intro @ev.eq_3<|And.intro @ev.eq_4<|And.intro @vJ.eq_1<|And.intro @vJ.eq_2<|And.intro @yN.eq_1<|And.intro @yN.eq_2<|And.intro @yN.eq_3<|And.intro @yN.eq_4<|And.intro @yN.eq_5<|And.intro @yN.eq_6<|And.intro @yN.eq_7<|And.intro @yN.eq_8<|And.intro @yN.eq_9<|And.intro @dF.eq_1<|And.intro @dF.eq_2<|And.intro @aF<|And.intro @tV.eq_1<|And.intro @TK.agg.eq_1<|And.intro @TK.agg.eq_2<|And.intro @TK.agg.eq_3<|And.intro @Fb.eq_1<|And.intro @tU.eq_1<|And.intro @tU.eq_2<|And.intro @tU.eq_3<|And.intro @tU.eq_4<|And.intro @one.eq_1<|And.intro @one.eq_2<|And.intro @one.eq_3<|And.intro @one.eq_4<|And.intro @Jk<|And.intro @Qy<|And.intro @qM.eq_1<|And.intro @qM.eq_2<|And.intro @tZ.eq_1<|And.intro @tZ.eq_2<|And.intro @kV.eq_1<|And.intro @kV.eq_2<|And.intro @Ep.eq_1<|And.intro @aq.abuild.eq_1<|And.intro @aq.abuild.eq_2<|And.intro @if_true.{1}<|And.intro @if_false.{1}<|And.intro @if_true.{1}<|And.intro @rE<|And.intro @sW<|And.intro @Ac<|And.intro @jB<|And.intro Ae<|And.intro vX<|And.intro qN<|And.intro xX<|And.intro uS trivial):=And.intro AL<|And.intro @aq.eq_1<|And.intro @aq.eq_2<|And.intro @aq.eq_3<|And.intro @aq.eq_4<|And.intro @aq.eq_5<|And.intro @aq.eq_6<|And.intro @Qz<|And.intro @Qw<|And.intro @Qx<|And.intro @aq.eq_10<|And.intro @aq.eq_11<|And.intro @aq.eq_12<|And.intro @aq.eq_13<|And.intro @aq.eq_14<|And.intro @aq.eq_15<|And.intro @aq.eq_16<|And.intro @aq.eq_17<|And.intro @aq.eq_18<|And.intro @aq.eq_19<|And.intro @aq.eq_20<|And.intro @aq.eq_21<|And.intro @aq.eq_22<|And.intro @aq.eq_23<|And.intro @gN.eq_1<|And.intro @gN.eq_2<|And.intro @gN.eq_3<|And.intro @gN.eq_4<|And.intro @gN.eq_5<|And.intro @gN.eq_6<|And.intro @gN.eq_7<|And.intro @gN.eq_8<|And.intro @gN.eq_9<|And.intro @gN.eq_10<|And.intro @gN.eq_11<|And.intro @gN.eq_12<|And.intro @gN.eq_13<|And.intro @gN.eq_14<|And.intro @gN.eq_15<|And.intro @gN.eq_16<|And.intro @gN.eq_17<|And.intro @nQ.eq_1<|And.intro @nQ.eq_2<|And.intro @nQ.eq_3<|And.intro @nQ.eq_4<|And.intro @nQ.eq_5<|And.intro @nQ.eq_6<|And.intro @nQ.eq_7<|And.intro @nQ.eq_8<|And.intro @gI.eq_1<|And.intro @gI.eq_2<|And.intro @uK.eq_1<|And.intro @uK.eq_2<|And.intro @uK.eq_3<|And.intro @Ju.eq_1<|And.intro @R2.eq_1<|And.intro @R2.eq_2<|And.intro @R2.eq_3<|And.intro @R1.eq_1<|And.intro @R1.eq_2<|And.intro @R1.eq_3<|And.intro @oG.eq_1<|And.intro @oG.eq_2<|And.intro @oG.eq_3<|And.intro @rd.eq_1<|And.intro @fF.eq_1<|And.intro @fF.eq_2<|And.intro @fF.eq_3<|And.intro @fF.eq_4<|And.intro @fF.eq_5<|And.intro @zT.eq_1<|And.intro @iQ.eq_1<|And.intro @iQ.eq_2<|And.intro @pK.eq_1<|And.intro @jW.eq_1<|And.intro @cellsOf.eq_1<|And.intro @cellsOf.eq_2<|And.intro @cellsOf.eq_3<|And.intro @ev.eq_1<|And.intro @ev.eq_2<|And.intro @ev.eq_3<|And.intro @ev.eq_4<|And.intro @vJ.eq_1<|And.intro @vJ.eq_2<|And.intro @yN.eq_1<|And.intro @yN.eq_2<|And.intro @yN.eq_3<|And.intro @yN.eq_4<|And.intro @yN.eq_5<|And.intro @yN.eq_6<|And.intro @yN.eq_7<|And.intro @yN.eq_8<|And.intro @yN.eq_9<|And.intro @dF.eq_1<|And.intro @dF.eq_2<|And.intro @aF<|And.intro @tV.eq_1<|And.intro @TK.agg.eq_1<|And.intro @TK.agg.eq_2<|And.intro @TK.agg.eq_3<|And.intro @Fb.eq_1<|And.intro @tU.eq_1<|And.intro @tU.eq_2<|And.intro @tU.eq_3<|And.intro @tU.eq_4<|And.intro @one.eq_1<|And.intro @one.eq_2<|And.intro @one.eq_3<|And.intro @one.eq_4<|And.intro @Jk<|And.intro @Qy<|And.intro @qM.eq_1<|And.intro @qM.eq_2<|And.intro @tZ.eq_1<|And.intro @tZ.eq_2<|And.intro @kV.eq_1<|And.intro @kV.eq_2<|And.intro @Ep.eq_1<|And.intro @aq.abuild.eq_1<|And.intro @aq.abuild.eq_2<|And.intro @if_true.{1}<|And.intro @if_false.{1}<|And.intro @if_true.{1}<|And.intro @rE<|And.intro @sW<|And.intro @Ac<|And.intro @jB<|And.intro Ae<|And.intro vX<|And.intro qN<|And.intro xX<|And.intro uS trivial
end Go.Al
namespace Go.Al
def lD (E:fR) (G:Nat→Nat→Prop) (ops:Array Oper) (Q:dN):Nat→Array Bool→Fr→Hp→Prop
 |0,L,fr,H=>Region.ready .any ops L=[]∧Q .normal fr H
 |fuel+1,L,fr,H=>(Region.ready .any ops L=[]→Q .normal fr H)∧
  ∀i∈Region.ready .any ops L, ∀o,ops[i]?=some o→aop E (G i) (ops.toList.map (·.dst)) o fr H (lD E G ops Q fuel (L.setIfInBounds i true)) (fun v H'=>Q (.pan v) Ud H')
def Ob (len:Nat) (ps:Array (Nat×Operand)):Bool:=ps.toList.map (·.1)==List.range len
theorem Qn: ∀(l:List (Nat×Operand)) (k:Nat),l.map (·.1)=List.range' k l.length→qM k (l.map (·.2))=l
 |[],_,_=>rfl
 |(i,x)::l,k,h=>by
  simp only[List.map_cons,aQ,List.range'_succ,List.cons.injEq]at h;simp only[List.map_cons,qM,h.1,Qn l (k+1) h.2]
theorem Oa {len:Nat} {ps:Array (Nat×Operand)} (h:Ob len ps=true):ps.size=len∧(qM 0 (ps.toList.map (·.2))).toArray=ps:=by
 simp only[Ob,beq_iff_eq]at h;have hl:ps.size=len:=by have:=congrArg List.length h;simpa using this
 refine⟨hl, ?_⟩;rw[Qn ps.toList 0 (by rw[h,List.range_eq_range',Array.length_toList,hl])]
def pF (f:Nat) (o:Op):Bool:=if f=2 then(match o with | .buildSlice _ len ps=>Ob len ps|_=>false)else calm o&&(f !=3||(dG o).isNone)
def Pv (E:fR) (H:Hp) (fr:Fr) (o:Op) (f:Nat):Option AV:=if f=2 then(match o with | .buildSlice t len ps=>(zT E fr t len ps).map fun p=> .isl p.1 p.2|_=>none)else aq E H fr o
def Yf (E:fR) (F:Nat→Prop) (ds:List (Option Nat)) (f:Nat) (o:Oper) (v:AV) (fr:Fr) (H:Hp):Prop:=
 (gI ds fr o.guard=some false∧v= .tup [])∨
 (gI ds fr o.guard=some true∧Pv E H fr o.op f=some v∧(f=0→ ∀x,dG o.op=some x→ ∀b,jR (ev E.G fr x)=some b→ ¬F b))
section
variable {E : fR} {F : Nat → Prop} {G : Nat → Nat → Prop} {ops : Array Oper} {Q : dN} {fr : Fr} {H : Hp}
theorem vD {γ:gD} {N:Nat} (hd:ops.toList.all (iI N)=true): ∀(fuel:Nat) (L:Array Bool) (fr:Fr) (H:Hp) (a:Act) (w:World),Ff E γ N fr H a w→lD E G ops Q fuel L fr H→wpAny E.P .any ops (oY E γ N Q) fuel L a w
 |0,_,fr,H,a,w,hs,h=>⟨h.1,fr,H,hs,h.2⟩
 |fuel+1,L,fr,H,a,w,hs,h=>by
  refine⟨fun e=>⟨fr,H,hs,h.1 e⟩,fun i hi=>?_⟩;obtain⟨_,o,ho,_⟩:=mem_ready.1 hi;unfold wpOp;simp only[ho]
  have hdo:iI N o=true:=by
   rw[List.all_eq_true]at hd;exact hd o (Array.mem_toList_iff.2 (Array.mem_of_getElem? ho))
  have h1:=hs.1;exact tX hs hdo (h.2 i hi o ho) (fun fr' H' a' w' hs' z=>vD hd fuel _ fr' H' a' w' hs' z) (fun v v' S' H' w' hst hv z=>⟨h1,v,v',S',H',rfl,hst,hv,z⟩)
theorem Yf.step {f:Nat} {oi oj:Oper} {v u:AV} {H':Hp} (hci:pF f oi.op=true) (hap: ∀d,oj.dst=some d→d∉oi.looksAt ops) (hy:Yf E F (ops.toList.map (·.dst)) f oi v fr H) (hag:f=0→oH F H H') (hcm:f≠0→f≠2→f≠3→H'=H):
  Yf E F (ops.toList.map (·.dst)) f oi v (dF fr oj.dst u) H':=by
 unfold Yf at *;rw[qA hap];rcases hy with hy|⟨h1,h2,h3⟩
 ·exact .inl hy
 refine .inr ⟨h1, ?_, ?_⟩
 ·by_cases e2:f=2
  ·subst e2
   simp only[Pv,if_true]at h2⊢;obtain⟨dst,op,ty,pos,af,g⟩:=oi;cases op<;>simp only[reduceCtorEq]at h2⊢;rename_i t len ps;have hc:=nG (E:=E) (fr:=fr) (v:=u) hap;simp only[Op.operands]at hc;rw[←h2]
   have key: ∀size,iQ E (dF fr oj.dst u) size 0 ps.toList=iQ E fr size 0 ps.toList:=fun size=>nS ps.toList 0 fun p hp=>hc p.2 (by
    simp only[List.mem_toArray,List.mem_map];exact⟨p,hp,rfl⟩)
   simp only[zT,key]
  simp only[Pv,if_neg e2]at h2⊢;simp only[pF,if_neg e2,bA]at hci;rw[yO (nG hap)];by_cases e0:f=0
  ·exact tW hci.1 h2 fun x hx b hb hne=>hag e0 b hne (h3 e0 x hx b hb)
  by_cases e3:f=3
  ·refine tW hci.1 h2 fun x hx=>?_
   have:=hci.2;rw[e3,hx]at this;simp at this
  rw[hcm e0 e2 e3];exact h2
 intro e0 x hx b hb;rw[nG hap x (Ib hx)]at hb;exact h3 e0 x hx b hb
theorem I6 {f:Nat} {F':Nat→Prop} {oi oj:Oper} {v:AV} {K:Fr→Hp→Prop} {Kp:AV→Hp→Prop} (hap:oi.apart ops oj=true) (hci:pF f oi.op=true) (hcm:f≠0→f≠2→f≠3→calm oj.op=true) (hF:f=0→F'=F) (hy:Yf E F (ops.toList.map (·.dst)) f oi v fr H)
  (h:aop E F' (ops.toList.map (·.dst)) oj (dF fr oi.dst v) H K Kp):aop E F' (ops.toList.map (·.dst)) oj fr H (fun fr' H'=>Yf E F (ops.toList.map (·.dst)) f oi v fr' H'∧K (dF fr' oi.dst v) H') Kp:=by
 obtain⟨h1,h2,h3⟩:=Oper.apart_spec hap;unfold aop at *;rw[qA h1]at h;split at h
 ·rename_i hw
  rw[uX (nG h1)]at h;by_cases hf:f≠0∧f≠2∧f≠3
  ·rw[kY (hcm hf.1 hf.2.1 hf.2.2)]at h⊢
   split at h<;>try (exact h.elim)
   rename_i u hu;refine⟨hy.step hci h3 (fun _=>oH.refl) fun _ _ _=>rfl, ?_⟩;rw[←mJ h2];exact h
  refine nR (fun u H' hag z=>⟨hy.step hci h3 (fun e=>by rw[←hF e];exact hag) (fun a b c=>absurd ⟨a,b,c⟩ hf), ?_⟩) (fun _ _ h=>h) h;rw[←mJ h2];exact z
 ·exact⟨hy.step hci h3 (fun _=>oH.refl) fun _ _ _=>rfl,by rw[←mJ h2];exact h⟩
 exact h
theorem Yf.aop {f:Nat} {F':Nat→Prop} {o:Oper} {v:AV} {K:Fr→Hp→Prop} {Kp:AV→Hp→Prop} (hc:pF f o.op=true) (hy:Yf E F (ops.toList.map (·.dst)) f o v fr H) (h:K (dF fr o.dst v) H):Al.aop E F' (ops.toList.map (·.dst)) o fr H K Kp:=by
 unfold Al.aop;rcases hy with⟨h1,rfl⟩|⟨h1,h2,_⟩
 ·rw[h1];exact h
 rw[h1];by_cases e2:f=2
 ·subst e2
  simp only[Pv,if_true]at h2;obtain⟨dst,op,ty,pos,af,g⟩:=o;cases op<;>simp only[reduceCtorEq]at h2;rw[bH]at h2;obtain⟨p,hp,rfl⟩:=h2;simp only[gC,hp];exact .inl h
 simp only[Pv,if_neg e2]at h2;simp only[pF,if_neg e2,bA]at hc;simp only;rw[kY hc.1,h2];exact h
theorem Ks {i:Nat} {oi:Oper} {v:AV} {f:Nat} (hi:ops[i]?=some oi) (hci:pF f oi.op=true) (W:Nat→Bool) (hW: ∀j oj,ops[j]?=some oj→W j=true→ ∃e∈oj.after,Region.binds .any e=true∧(e.on=i∨W e.on=true)):
  ∀(fuel:Nat) (L:Array Bool) (fr:Fr) (H:Hp),
   (∀j oj,ops[j]?=some oj→j≠i→L.getD j true=false→W j=false→oi.apart ops oj=true∧(f≠0→f≠2→f≠3→calm oj.op=true)∧(f=0→G j=F))→
   (∀j,W j=true→L.getD j false=false)→i∈Region.ready .any ops L→Yf E F (ops.toList.map (·.dst)) f oi v fr H→
   lD E G ops Q fuel (L.setIfInBounds i true) (dF fr oi.dst v) H→lD E G ops Q (fuel+1) L fr H:=by
 have first: ∀{fuel:Nat} {L:Array Bool} {fr:Fr} {H:Hp} {j:Nat} {o:Oper},ops[j]?=some o→j=i→Yf E F (ops.toList.map (·.dst)) f oi v fr H→lD E G ops Q fuel (L.setIfInBounds i true) (dF fr oi.dst v) H→
   Al.aop E (G j) (ops.toList.map (·.dst)) o fr H (lD E G ops Q fuel (L.setIfInBounds j true)) (fun v H'=>Q (.pan v) Ud H'):=fun {fuel L fr H j o} ho e hy h=>by
  subst e;rw[hi]at ho;cases ho;exact hy.aop hci h
 intro fuel
 induction fuel with
 |zero=>
  intro L fr H _ _ hr hy h;refine⟨fun e=>(by rw[e]at hr;cases hr),fun j hj o ho=>?_⟩;by_cases hji:j=i
  ·exact first ho hji hy h
  have:=ready_mono hj hji;rw[h.1]at this;cases this
 |succ fuel ih=>
  intro L fr H hfree hun hr hy h;refine⟨fun e=>(by rw[e]at hr;cases hr),fun j hj oj hoj=>?_⟩;by_cases hji:j=i
  ·exact first hoj hji hy h
  obtain⟨hjun,oj',hoj',hall⟩:=mem_ready.1 hj;rw[hoj]at hoj';cases hoj'
  have hi0:L.getD i false=false:=by
   have h0:=(mem_ready.1 hr).1;rcases Nat.lt_or_ge i L.size with h'|h'
   ·simp [h']at h0⊢;exact h0
   simp [Array.getElem?_eq_none h']
  have hWj:W j=false:=by
   cases e:W j with
   |false=>rfl
   |true=>
    obtain⟨ed,he,hb,hor⟩:=hW j oj hoj e;have h1:=hall ed he hb;rcases hor with h2|h2
    ·rw[h2,hi0]at h1;cases h1
    rw[hun _ h2]at h1;cases h1
  obtain⟨hap,hcm,hG⟩:=hfree j oj hoj hji hjun hWj;have h2:=I6 hap hci hcm hG hy (h.2 j (ready_mono hj hji) oj hoj);refine pL (fun fr' H' h3=>ih (L.setIfInBounds j true) fr' H' (fun k ok hk hki hku hkW=>hfree k ok hk hki ?_ hkW) (fun k hk=>?_) (ready_mono hr (Ne.symm hji)) h3.1 ?_) h2
  ·by_cases hjk:j=k
   ·subst hjk;exact hjun
   rw[getD_set_ne true hjk]at hku;exact hku
  ·have hne:j≠k:=fun e=>by subst e;rw[hWj]at hk;cases hk
   rw[getD_set_ne false hne];exact hun k hk
  rw[Array.setIfInBounds_comm _ _ hji];exact h3.2
def Ja (ops:Array Oper) (T:List Nat) (i:Nat) (oi:Oper) (f:Nat) (ws:List Nat) (L:Array Bool):Bool:=
 (List.range ops.size).all fun j=>j==i||L.getD j true||ws.contains j||match ops[j]? with |some oj=>oi.apart ops oj&&(f==0||f==2||f==3||calm oj.op)&&(f !=0|| !T.contains j)|none=>true
def G6 (ops:Array Oper) (T:List Nat):Array Bool→List (Nat×Nat)→Bool
 |_,[]=>true
 |L,(i,f)::r=>(match ops[i]? with
  |none=>false
  |some o=> !T.contains i&&if pF f o.op then(Region.ready .any ops L).contains i&&Uo ops i (pN ops i) L&&Ja ops T i o f (pN ops i) L else f !=2&&Region.ready .any ops L==[i])&&G6 ops T (L.setIfInBounds i true) r
def kT (L:Array Bool):List (Nat×Nat)→Array Bool
 |[]=>L
 |(i,_)::r=>kT (L.setIfInBounds i true) r
def cO (ops:List Oper):List (Nat×Nat)→List Oper
 |[]=>[]
 |(i,f)::r=>match ops[i]? with
  |none=>[]
  |some o=>match f with
   |0=>match dG o.op with
    |some x=>⟨none, .entry x,o.type,o.pos,o.after,o.guard⟩::o::cO ops r
    |none=>o::cO ops r
   |2=>match o.op with
    | .buildSlice t _ ps=>⟨o.dst, .go ⟨.value (.func 0),(ps.toList.map (·.2)).toArray, #[t]⟩,o.type,o.pos,o.after,o.guard⟩::cO ops r
    |_=>[]
   |_=>o::cO ops r
theorem nX {T:List Nat} {m N:Nat} (hG: ∀j,T.contains j=false→G j=F) (hd:ops.toList.all (iI N)=true): ∀(plan:List (Nat×Nat)) (L:Array Bool) (fr:Fr) (H:Hp),G6 ops T L plan=true→
  cI E F (ops.toList.map (·.dst)) (aU (fun fr' H'=>lD E G ops Q m (kT L plan) fr' H') Q) (cO ops.toList plan) fr H→lD E G ops Q (plan.length+m) L fr H
 |[],L,fr,H,hc,h=>by
  simp only[cO,kT,List.length_nil,Nat.zero_add]at h⊢;exact h
 |(i,f)::r,L,fr,H,hc,h=>by
  simp only[G6,bA]at hc;obtain⟨hc,hr⟩:=hc;simp only[kT]at h;rw[show((i,f)::r).length+m=(r.length+m)+1 by simp only[aQ];omega]
  cases ho:ops[i]? with
  |none=>rw[ho]at hc;simp at hc
  |some o=>
   simp only[ho,bA,Bool.not_eq_true']at hc;obtain⟨hT,hc⟩:=hc
   have hdo:iI N o=true:=by
    rw[List.all_eq_true]at hd;exact hd o (Array.mem_toList_iff.2 (Array.mem_of_getElem? ho))
   have ho2:ops.toList[i]?=some o:=by simpa using ho
   simp only[cO,ho2]at h;split at hc
   ·rename_i hcalm
    simp only[bA]at hc;obtain⟨⟨h1,h2⟩,h3⟩:=hc
    have go: ∀v,Yf E F (ops.toList.map (·.dst)) f o v fr H→cI E F (ops.toList.map (·.dst)) (aU (fun fr' H'=>lD E G ops Q m (kT (L.setIfInBounds i true) r) fr' H') Q) (cO ops.toList r) (dF fr o.dst v) H→lD E G ops Q (r.length+m+1) L fr H:=fun v hy hrest=>by
     refine Ks (F:=F) ho hcalm (fun j=>(pN ops i).contains j) (fun j oj hoj hj=>?_) (r.length+m) L fr H (fun j oj hoj hji hju hjW=>?_) (fun j hj=>?_) (by simpa using h1) hy (nX hG hd r _ _ _ hr hrest)
     ·simp only[Uo,List.all_eq_true]at h2
      have:=h2 j (by simpa using hj);simp only[hoj,bA]at this;obtain⟨ed,he,hb⟩:=Array.any_eq_true'.1 this.2;simp only[bA,Bool.or_eq_true,beq_iff_eq]at hb;exact⟨ed,he,hb.1,hb.2⟩
     ·simp only[Ja,List.all_eq_true,List.mem_range]at h3
      have:=h3 j (Array.getElem?_eq_some_iff.1 hoj).1;simp only[hoj,hju,hjW,Bool.or_eq_true,beq_iff_eq,hji,Bool.false_eq_true,or_false,false_or,bA,Bool.not_eq_true',bne_iff_ne]at this;refine⟨this.1.1,fun e e' e''=>?_,fun e=>hG j ?_⟩
      ·rcases this.1.2 with((h|h)|h)|h
       ·exact absurd h e
       ·exact absurd h e'
       ·exact absurd h e''
       exact h
      rcases this.2 with h|h
      ·exact absurd e h
      exact h
     simp only[Uo,List.all_eq_true]at h2;have:=h2 j (by simpa using hj);simp only[bA,Bool.not_eq_true']at this;exact this.1
    by_cases e0:f=0
    ·subst e0
     have hcalm':calm o.op=true:=by simpa [pF]using hcalm
     have pv: ∀fr,Pv E H fr o.op 0=aq E H fr o.op:=fun fr=>by simp [Pv]
     simp only at h;split at h
     ·rename_i x hx
      simp only[cI]at h;split at h
      ·rename_i hw
       obtain⟨hm,h⟩:=h;obtain⟨v,hv,hrest⟩:=iU (fr:=fr) hdo _ hcalm' h;exact go v (hv.imp id fun⟨a,b⟩=>⟨a,by rw[pv];exact b,fun _ y hy=>by rw[hx]at hy;cases hy;exact hm⟩) hrest
      ·rename_i hw
       obtain⟨v,hv,hrest⟩:=iU (fr:=fr) hdo _ hcalm' h;exact go v (hv.imp id fun⟨a,b⟩=>by rw[hw]at a;cases a) hrest
      exact h.elim
     rename_i hx;obtain⟨v,hv,hrest⟩:=iU hdo _ hcalm' h;exact go v (hv.imp id fun⟨a,b⟩=>⟨a,by rw[pv];exact b,fun _ y hy=>by rw[hx]at hy;cases hy⟩) hrest
    by_cases e2:f=2
    ·subst e2
     obtain⟨dst,op,ty,pos,af,g⟩:=o;simp only[pF,if_true]at hcalm;cases op<;>simp only[Bool.false_eq_true]at hcalm;rename_i t len ps;obtain⟨d1,d2⟩:=Oa hcalm;simp only[cI]at h;split at h
     ·rename_i hw
      split at h
      ·rename_i v hv
       refine go v (.inr ⟨hw, ?_,fun e=>absurd e (by decide)⟩) h;simp only[Pv,if_true];rw[←hv];simp only[BJ,d2];rw[show((ps.toList.map (·.2)).toArray).size=len by simpa using d1]
      exact h.elim
     ·rename_i hw
      exact go _ (.inl ⟨hw,rfl⟩) h
     exact h.elim
    have hcalm':calm o.op=true:=by simp only[pF,if_neg e2,bA]at hcalm;exact hcalm.1
    have h':cI E F (ops.toList.map (·.dst)) (aU (fun fr' H'=>lD E G ops Q m (kT (L.setIfInBounds i true) r) fr' H') Q) (o::cO ops.toList r) fr H:=by
     split at h
     ·exact absurd rfl e0
     ·exact absurd rfl e2
     exact h
    obtain⟨v,hv,hrest⟩:=iU hdo _ hcalm' h';exact go v (hv.imp id fun⟨a,b⟩=>⟨a,by simp only[Pv,if_neg e2];exact b,fun e=>absurd e e0⟩) hrest
   rename_i hcalm;simp only[bA,bne_iff_ne,beq_iff_eq]at hc;obtain⟨e2,hc⟩:=hc
   have h':cI E F (ops.toList.map (·.dst)) (aU (fun fr' H'=>lD E G ops Q m (kT (L.setIfInBounds i true) r) fr' H') Q) (o::cO ops.toList r) fr H:=by
    split at h
    ·split at h
     ·rename_i x hx
      exfalso;simp only[pF]at hcalm;cases e:o.op<;>rw[e]at hx hcalm<;>simp [dG,calm]at hx hcalm
     exact h
    ·exact absurd rfl e2
    exact h
   rw[pY hdo]at h';refine⟨fun e=>(by rw[hc]at e;cases e),fun j hj oj hoj=>?_⟩;rw[hc]at hj;simp only[List.mem_singleton]at hj;subst hj;rw[ho]at hoj;cases hoj;rw[hG j hT];exact pL (fun fr' H' z=>nX hG hd r _ fr' H' hr z) h'
theorem xP: ∀(p:List (Nat×Nat)) (L:Array Bool),(kT L p).size=L.size
 |[],L=>rfl
 |(i,c)::r,L=>by rw[kT,xP r];simp
theorem iV {ds:List (Option Nat)} {Q Q':dN} (hQ: ∀e fr H,Q e fr H→Q' e fr H): ∀(l:List Oper) (fr:Fr) (H:Hp),cI E F ds Q l fr H→cI E F ds Q' l fr H
 |[],fr,H,h=>hQ _ _ _ h
 |o::r,fr,H,h=>by
  have key: ∀fr H,aop E F ds o fr H (cI E F ds Q r) (fun v H'=>Q (.pan v) Ud H')→aop E F ds o fr H (cI E F ds Q' r) (fun v H'=>Q' (.pan v) Ud H'):=fun fr H h=>by
   unfold aop at *;split at h
   ·exact nR (fun _ _ _ h=>iV hQ r _ _ h) (fun _ _ h=>hQ _ _ _ h) h
   ·exact iV hQ r _ _ h
   exact h
  unfold cI at h⊢;split at h
  ·split at h
   ·exact⟨h.1,iV hQ r _ _ h.2⟩
   ·exact iV hQ r _ _ h
   exact h
  ·split at h
   ·split at h
    ·exact iV hQ r _ _ h
    exact h
   ·exact iV hQ r _ _ h
   exact h
  exact key _ _ h
def Jb (N:Nat) (l:List Oper) (plan plan2:List (Nat×Nat)):Bool:=
 l.all (iI N)&&plan.length+plan2.length==l.length&&G6 l.toArray (plan2.map (·.1)) (Array.replicate l.length false) plan&&G6 l.toArray [] (kT (Array.replicate l.length false) plan) (plan2.map fun p=>(p.1,if p.2=2 then 2 else 1))&&Region.ready .any l.toArray (kT (kT (Array.replicate l.length false) plan) (plan2.map fun p=>(p.1,if p.2=2 then 2 else 1)))==[]&&(List.range l.length).all fun j=>(kT (Array.replicate l.length false) plan).getD j true||(plan2.map (·.1)).contains j
theorem bK (F:Nat→Prop) (plan plan2:List (Nat×Nat)) {N id:Nat} {l l1 l2:List Oper} (hm:E.P.follows .mixedOrders=true) (hc:Jb N l plan plan2=true) (hl:cO l plan=l1) (hl2:cO l (plan2.map fun p=>(p.1,if p.2=2 then 2 else 1))=l2)
  (h:cI E F (l.map (·.dst)) (aU (fun fr' H'=>cI E (fun _=>True) (l.map (·.dst)) Q l2 fr' H') Q) l1 fr H):jV E N (.region id l.toArray true) Q fr H:=fun γ a w hs=>by
 subst hl;subst hl2;simp only[Jb,bA,beq_iff_eq]at hc;obtain⟨⟨⟨⟨⟨hd,hlen⟩,hc1⟩,hc2⟩,hc3⟩,hc4⟩:=hc;have hd':l.toArray.toList.all (iI N)=true:=by simpa using hd
 refine wp_region_any hm (vD (G:=fun j=>if(plan2.map (·.1)).contains j then fun _=>True else F) hd' _ _ fr H a _ hs.drew ?_)
 have key: ∀fr' H',cI E (fun _=>True) (l.map (·.dst)) Q (cO l (plan2.map fun p=>(p.1,if p.2=2 then 2 else 1))) fr' H'→lD E (fun j=>if(plan2.map (·.1)).contains j then fun _=>True else F) l.toArray Q plan2.length (kT (Array.replicate l.length false) plan) fr' H':=fun fr' H' h'=>by
  have mono: ∀(n:Nat) (L:Array Bool) fr H,lD E (fun _ _=>True) l.toArray Q n L fr H→(∀j,L.getD j true=false→(plan2.map (·.1)).contains j=true)→lD E (fun j=>if(plan2.map (·.1)).contains j then fun _=>True else F) l.toArray Q n L fr H:=by
   intro n
   induction n with
   |zero=>intro L fr H h _;exact h
   |succ n ih=>
    intro L fr H h hT;refine⟨h.1,fun i hi o ho=>?_⟩;have hun:=(mem_ready.1 hi).1;show aop E (if(plan2.map (·.1)).contains i=true then fun _=>True else F) _ _ _ _ _ _;rw[if_pos (hT i hun)];refine pL (fun fr' H' h3=>ih _ _ _ h3 fun j hj=>?_) (h.2 i hi o ho);by_cases e:i=j
    ·subst e;exact hT i hun
    rw[getD_set_ne true e]at hj;exact hT j hj
  refine mono _ _ _ _ ?_ ?_
  ·have:=nX (E:=E) (F:=fun _=>True) (G:=fun _ _=>True) (Q:=Q) (ops:=l.toArray) (N:=N) (m:=0) (fun _ _=>rfl) hd' (plan2.map fun p=>(p.1,if p.2=2 then 2 else 1)) _ fr' H' hc2 (by
    refine iV (Q:=Q) ?_ _ _ _ (by simpa using h');intro e fr'' H'' he
    cases e<;>first|exact⟨hc3,he⟩|exact he)
   simpa using this
  intro j hj;have hs:(kT (Array.replicate l.length false) plan).size=l.length:=by rw[xP,Array.size_replicate]
  have hjl:j<l.length:=by
   rcases Nat.lt_or_ge j l.length with h|h
   ·exact h
   rw[Array.getD_eq_getD_getElem?,Array.getElem?_eq_none (by omega)]at hj;cases hj
  have:=List.all_eq_true.1 hc4 j (List.mem_range.2 hjl);rw[hj,Bool.false_or]at this;exact this
 have:=nX (E:=E) (F:=F) (G:=fun j=>if(plan2.map (·.1)).contains j then fun _=>True else F) (Q:=Q) (ops:=l.toArray) (N:=N) (m:=plan2.length) (T:=plan2.map (·.1)) (fun j hj=>by rw[hj];rfl) hd' plan _ fr H hc1 (by
  refine iV (Q:=aU (fun fr' H'=>cI E (fun _=>True) (l.map (·.dst)) Q (cO l (plan2.map fun p=>(p.1,if p.2=2 then 2 else 1))) fr' H') Q) ?_ _ _ _ (by simpa using h);intro e fr'' H'' he
  cases e<;>first|exact key _ _ he|exact he)
 rw[hlen]at this;simpa using this
end
end Go.Al
namespace Go.Al
section
variable {S S' : dL} {w : World}
theorem cL.sub: ∀{row row':List AV} {b off:Nat},cL S w b off row→row'.length=row.length→(∀(j:Nat) x x' u,row[j]?=some x→row'[j]?=some x'→bO S w x u→bO S' w x' u)→cL S' w b off row'
 |[],[],b,off,_,_,_=>by simp only[cL]
 |x::row,y::row',b,off,h,hl,hs=>by
  simp only[cL]at *;obtain⟨⟨u,h1,h2⟩,h3⟩:=h;exact⟨⟨u,h1,hs 0 x y u rfl rfl h2⟩,cL.sub h3 (by simpa using hl) fun j a c v ha hc=>hs (j+1) a c v (by simpa using ha) (by simpa using hc)⟩
 |[],_::_,_,_,_,hl,_=>by simp at hl
 |_::_,[],_,_,_,hl,_=>by simp at hl
theorem bZ.sub {sz:Nat}: ∀{l l':List (List AV)} {b off:Nat},bZ S w b off sz l→l'.length=l.length→(∀(i:Nat) r r',l[i]?=some r→l'[i]?=some r'→r'.length=r.length∧ ∀(j:Nat) x x' u,r[j]?=some x→r'[j]?=some x'→bO S w x u→bO S' w x' u)→bZ S' w b off sz l'
 |[],[],b,off,_,_,_=>by simp only[bZ]
 |r::l,r'::l',b,off,h,hl,hs=>by
  simp only[bZ]at *;obtain⟨h1,h2,h3⟩:=h;obtain⟨g1,g2⟩:=hs 0 r r' rfl rfl;exact⟨by omega,cL.sub h2 g1 g2,bZ.sub h3 (by simpa using hl) fun i a c ha hc=>hs (i+1) a c (by simpa using ha) (by simpa using hc)⟩
 |[],_::_,_,_,_,hl,_=>by simp at hl
 |_::_,[],_,_,_,hl,_=>by simp at hl
end
def Ub (b sz:Nat) (l:List (List AV)):iG→iG
 | .rows s r=> .rows s (r.map fun x=>x.map (frz b sz l))
 | .amap es=> .amap es
 | .bld ty g n=> .bld ty g n
 | .buf ty bs cap=> .buf ty bs cap
section
variable {E : fR} {N : Nat} {Q : dN} {c : Code} {fr : Fr} {H : Hp}
theorem zS {b sz:Nat} {l:List (List AV)} (hb:H b=some (.rows sz l)) (h:jV E N c Q (fun t=>frz b sz l (fr t)) (fun x=>if x=b then none else(H x).map (Ub b sz l))):jV E N c Q fr H:=fun γ a w ⟨g1,g2,S,hst,hf⟩=>by
 have hk:eC S (fun k=>S k∨k=b) w w:=⟨fun _ _=>rfl,fun _ _ h=>h,fun _ h=> .inl h⟩;have ho:=(hst.obj b _ hb).1;have hlt:=ho.lt;simp only[eR]at ho;obtain⟨cs,e,_,_,hr⟩:=ho;have hr':=bZ.mono hk l b 0 sz rfl hr;have hv: ∀x u,bO S w x u→bO (fun k=>S k∨k=b) w (frz b sz l x) u:=fun x u hx=>P7 b sz l x _ w _ (.inr rfl) hr' (bO.mono hk _ _ hx);refine h γ a w ⟨g1,g2,_, ?_,fun t=>hv _ _ (hf t)⟩;refine hst.step (iY.refl (fun _=>False) w) (fun _ h=>h.elim) (fun _ h=> .inl h) (fun k hk=>?_) (fun k hk=>?_) fun b' o hb'=>?_
 ·rcases hk with hk|hk
  ·exact hst.lt k hk
  exact hk▸hlt
 ·rcases hk with hk|hk
  ·exact .inl hk
  exact .inr (.inl (by rw[hk,hb];simp))
 split at hb'
 ·cases hb'
 rename_i hne;rw[bH]at hb';obtain⟨o0,ho0,rfl⟩:=hb';have hobj:=hst.obj b' o0 ho0;refine⟨fun hs=>?_, .inr ⟨?_, .inl (by rw[ho0];simp)⟩⟩
 ·rcases hs with hs|hs
  ·exact hobj.2.1 hs
  exact hne hs
 cases o0 with
 |rows s r=>
  have h1:=hobj.1;simp only[eR,Ub]at *;obtain⟨cs',e',h2,h3,h4⟩:=h1;refine⟨cs',e',h2,by rw[aC];exact h3,bZ.sub h4 (by simp) fun i x x' hx hx'=>?_⟩;rw[cE,hx]at hx';cases hx';refine⟨by simp,fun j y y' u hy hy' hyu=>?_⟩;rw[cE,hy]at hy';cases hy';exact hv _ _ hyu
 |amap es=>
  have h1:=hobj.1;simp only[eR,Ub]at *;obtain⟨mes,clock,h2,h3⟩:=h1;exact⟨mes,clock,h2,dB.mono hk es _ h3⟩
 |bld ty g n=>exact hobj.1
 |buf ty bs cap=>exact hobj.1
theorem Es {b sz:Nat} {l l':List (List AV)} (hb:H b=some (.rows sz l)) (hl:l'.length=l.length) (hs: ∀(i:Nat) r r',l[i]?=some r→l'[i]?=some r'→r'.length=r.length∧ ∀(j:Nat) x x',r[j]?=some x→r'[j]?=some x'→dQ x x')
  (h:jV E N c Q fr (upd H b (some (.rows sz l')))):jV E N c Q fr H:=fun γ a w ⟨g1,g2,S,hst,hf⟩=>by
 refine h γ a w ⟨g1,g2,S, ?_,hf⟩;refine hst.step (iY.refl (fun _=>False) w) (fun _ h=>h.elim) (fun _ h=>h) hst.lt (fun k hk=> .inl hk) fun b' o hb'=>?_;by_cases e:b'=b
 ·subst e
  rw[aS]at hb';cases hb';have hobj:=hst.obj b' _ hb;refine⟨hobj.2.1, .inr ⟨?_, .inl (by rw[hb];simp)⟩⟩;have h1:=hobj.1;simp only[eR]at *;obtain⟨cs',e',h2,h3,h4⟩:=h1;refine⟨cs',e',h2,by rw[hl];exact h3,bZ.sub h4 hl fun i r r' hr hr'=>?_⟩;obtain⟨q1,q2⟩:=hs i r r' hr hr';exact⟨q1,fun j x x' u hx hx' hxu=>q2 j x x' hx hx' S w u hxu⟩
 rw[dK _ _ e]at hb';exact⟨(hst.obj b' o hb').2.1, .inl ⟨hb',fun h=>h⟩⟩
end
end Go.Al
namespace Go.Al
inductive eI:List AV→List AV→Prop
 |nil:eI [] []
 |cons {x y:AV} {xs ys:List AV}:dQ x y→eI xs ys→eI (x::xs) (y::ys)
inductive eJ:List (List AV)→List (List AV)→Prop
 |nil:eJ [] []
 |cons {x y:List AV} {xs ys:List (List AV)}:eI x y→eJ xs ys→eJ (x::xs) (y::ys)
theorem eI.len {x y:List AV} (h:eI x y):y.length=x.length:=by
 induction h with
 |nil=>rfl
 |cons _ _ ih=>simp [ih]
theorem eJ.len {x y:List (List AV)} (h:eJ x y):y.length=x.length:=by
 induction h with
 |nil=>rfl
 |cons _ _ ih=>simp [ih]
theorem eI.list {x y:List AV} (h:eI x y):cY x y:=by
 induction h with
 |nil=>exact cY.refl _
 |cons h _ ih=>exact cY.cons h ih
theorem eI.row {S:dL} {w:World} {x y:List AV} (h:eI x y): ∀{b off:Nat},cL S w b off x→cL S w b off y:=by
 induction h with
 |nil=>intro b off h;exact h
 |cons h _ ih=>
  intro b off hr;simp only[cL]at *;obtain⟨⟨u,h1,h2⟩,h3⟩:=hr;exact⟨⟨u,h1,h _ _ _ h2⟩,ih h3⟩
theorem eJ.rows {S:dL} {w:World} {sz:Nat} {x y:List (List AV)} (h:eJ x y): ∀{b off:Nat},bZ S w b off sz x→bZ S w b off sz y:=by
 induction h with
 |nil=>intro b off h;exact h
 |cons h _ ih=>
  intro b off hr;simp only[bZ]at *;obtain⟨h1,h2,h3⟩:=hr;exact⟨h.len.trans h1,h.row h2,ih h3⟩
theorem dQ.isl {sz:Nat} {x y:List (List AV)} (h:eJ x y):dQ (.isl sz x) (.isl sz y):=by
 intro S w v hv;simp only[bO]at *;obtain⟨oa,cap,e,h1,h2,h3⟩:=hv;have hl:=h.len;refine⟨oa,cap,by rw[hl];exact e,by rw[hl];exact h1,h2, ?_⟩;rcases h3 with h3|⟨b,off,e2,hb,hr⟩
 ·subst h3;cases h;exact .inl rfl
 exact .inr ⟨b,off,e2,hb,h.rows hr⟩
theorem dQ.aggR {x y:List AV} (h:eI x y):dQ (.agg x) (.agg y):=dQ.agg h.list
end Go.Al
namespace Go.Al
section
variable {E : fR} {N : Nat} {Q : dN} {fr : Fr} {H : Hp} {c : Code}
def aY (l:List Nat) (f g:Fr):Prop:= ∀t,l.elem t=true→g t=f t
theorem aY.refl (l:List Nat) (f:Fr):aY l f f:=fun _ _=>rfl
theorem aY.nil (f g:Fr):aY [] f g:=fun _ h=>by cases h
theorem aY.cons {l:List Nat} {f g:Fr} {t:Nat} (h:g t=f t) (ha:aY l f g):aY (t::l) f g:=fun i hi=>by
 by_cases e:i=t
 ·rw[e];exact h
 refine ha i ?_;have h1:i∈t::l:=by simpa using hi
 have h2:=(List.mem_cons.1 h1).resolve_left e;simpa using h2
theorem aY.upd {l:List Nat} {f g:Fr} {i:Nat} {v:AV} (h:l.elem i=false) (ha:aY l f g):aY l f (upd g i v):=fun t ht=>by
 have :t≠i:=fun e=>by rw[e,h]at ht;cases ht
 rw[dK _ _ this];exact ha t ht
theorem aY.same {l:List Nat} {f g k:Fr} (h: ∀t,k t=g t) (ha:aY l f g):aY l f k:=fun t ht=>(h t).trans (ha t ht)
theorem aY.sub {l l2:List Nat} {f g k:Fr} (h:aY l2 g k) (hs:l.all l2.elem=true) (ha:aY l f g):aY l f k:=fun t ht=>
 (h t (List.all_eq_true.1 hs t (by simpa using ht))).trans (ha t ht)
theorem bN (h: ∀fr' H',(∀t,fr' t=fr t)→(∀b,H' b=H b)→jV E N c Q fr' H'):jV E N c Q fr H:=h fr H (fun _=>rfl) (fun _=>rfl)
theorem dU (M:Fr→Hp→Prop) (h1: ∀K:Fr→Hp→Prop,(∀fr H,M fr H→K fr H)→jV E N c (aU K Q) fr H) (h2: ∀fr H,M fr H→Q .normal fr H):jV E N c Q fr H:=
 Jf (h1 M fun _ _ h=>h) fun e fr H hq=>by cases e<;>first|exact h2 _ _ hq|exact hq
theorem cF (m:List Nat) (n:Nat) (I:Nat→Fr→Hp→Prop) (h0:I 0 fr H)
  (round: ∀(k:Nat) fr' H',k≤n→I k fr' H'→aY m fr fr'→ ∀K:Fr→Hp→Prop,(∀fr'' H'',k<n→I (k+1) fr'' H''→aY m fr' fr''→K fr'' H'')→jV E N c (aU K Q) fr' H'):jV E N (.loop c) Q fr H:=by
 refine cJ (fun mm fr' H'=> ∃k,mm=n-k∧k≤n∧I k fr' H'∧aY m fr fr') n ⟨0,rfl,Nat.zero_le _,h0,aY.refl _ _⟩ ?_;rintro mm fr' H' ⟨k,rfl,hk,hI,ha⟩ K z;exact round k fr' H' hk hI ha K fun fr'' H'' hlt hI' ha'=>z (n-(k+1)) fr'' H'' (by omega) ⟨k+1,rfl,hlt,hI',fun t ht=>(ha' t ht).trans (ha t ht)⟩
theorem gK (m:List Nat) (n:Nat) (I:Nat→Fr→Hp→Prop) (h0:I n fr H)
  (round: ∀(k:Nat) fr' H',I k fr' H'→aY m fr fr'→ ∀K:Fr→Hp→Prop,(∀k' fr'' H'',k'<k→I k' fr'' H''→aY m fr' fr''→K fr'' H'')→jV E N c (aU K Q) fr' H'):jV E N (.loop c) Q fr H:=by
 refine cJ (fun mm fr' H'=>I mm fr' H'∧aY m fr fr') n ⟨h0,aY.refl _ _⟩ ?_;rintro k fr' H' ⟨hI,ha⟩ K z;exact round k fr' H' hI ha K fun k' fr'' H'' hlt hI' ha'=>z k' fr'' H'' hlt ⟨hI',fun t ht=>(ha' t ht).trans (ha t ht)⟩
theorem Qj (b sz:Nat) (l:List (List AV)) (sz' b' n:Nat):frz b sz l (.osl sz' b' n)=if b'=b∧sz'=sz∧n=l.length then .isl sz l else .osl sz' b' n:=Eq.trans rfl rfl
theorem off.frz {v:AV} {b:Nat} (h:off v b) (sz:Nat) (l:List (List AV)):frz b sz l v=v:=by
 cases v<;>try rfl
 rename_i s' b' n;rw[Qj,if_neg];rintro⟨rfl,_,_⟩;exact h _ _ rfl
theorem cH.same {sz:Nat} {v:AV} {rows:List (List AV)} {H H':Hp} (h:cH sz v rows H) (hH: ∀b,H' b=H b):cH sz v rows H':=by
 rcases h with h|⟨b,e,hb⟩
 ·exact .inl h
 exact .inr ⟨b,e,(hH b).trans hb⟩
theorem cH.off {sz:Nat} {v:AV} {rows:List (List AV)} {H:Hp} (h:cH sz v rows H) {b:Nat} (ho:off v b) (o:Option iG):cH sz v rows (Al.upd H b o):=by
 rcases h with h|⟨b',e,hb⟩
 ·exact .inl h
 refine .inr ⟨b',e, ?_⟩;have :b'≠b:=fun c=>ho _ _ (by rw[e,c]);rw[dK _ _ this];exact hb
theorem cH.new {sz:Nat} {v:AV} {rows:List (List AV)} {H:Hp} (h:cH sz v rows H) {b:Nat} (hb:H b=none):Al.off v b:=fun s n e=>h.there s b n e hb
theorem Ge (F:Nat→Prop) (b:Nat):(∀x,jR (.mp b)=some x→ ¬F x)= ¬F b:=by
 refine propext ⟨fun h=>h b rfl,fun h x hx=>by cases hx;exact h⟩
theorem Ad (F:Nat→Prop) (ks vs:List AV):(∀x,jR (.imp ks vs)=some x→ ¬F x)=True:=propext ⟨fun _=>trivial,fun _ _ h=>by cases h⟩
theorem Ab (F:Nat→Prop):(∀x,jR .nmp=some x→ ¬F x)=True:=propext ⟨fun _=>trivial,fun _ _ h=>by cases h⟩
theorem Bf (b sz:Nat) (l:List (List AV)) (sz':Nat) (r:List (List AV)):Ub b sz l (.rows sz' r)= .rows sz' (r.map fun x=>x.map (frz b sz l)):=Eq.trans rfl rfl
end
theorem EM:type_of% (And.intro @Ge (And.intro @Ad (And.intro @Ab (And.intro (@ne_eq Nat) (And.intro not_true_eq_false (And.intro @and_false (And.intro @false_and not_false_eq_true))))))):=⟨@Ge, @Ad, @Ab, @ne_eq Nat,not_true_eq_false, @and_false, @false_and,not_false_eq_true⟩
end Go.Al
namespace Go.Al
def oI (m:Nat) (es:List (AV×AV)):AV→AV
 | .mp b=>if b=m then .imp (es.map (·.1)) (es.map (·.2))else .mp b
 |v=>v
def Ha (m:Nat) (es:List (AV×AV)):iG→iG
 | .rows s r=> .rows s (r.map fun x=>x.map (oI m es))
 |o=>o
theorem dB.lists {S:dL} {w:World}: ∀{es:List (AV×AV)} {ms:List MapEntry},dB S w es ms→bW S w (es.map (·.1)) (ms.map fun e=>e.key)∧bW S w (es.map (·.2)) (ms.map fun e=>e.val)
 |[],ms,h=>by
  simp only[dB]at h;subst h;simp [bW]
 |(k,v)::es,ms,h=>by
  simp only[dB]at h;obtain⟨e,es',rfl,h1,h2,h3⟩:=h;obtain⟨q1,q2⟩:=dB.lists h3;simp only[List.map_cons,bW];exact⟨⟨_,_,rfl,h1,q1⟩,⟨_,_,rfl,h2,q2⟩⟩
section
variable {E : fR} {N : Nat} {Q : dN} {c : Code} {fr : Fr} {H : Hp}
theorem Je {m:Nat} {es:List (AV×AV)} (hb:H m=some (.amap es)) (h:jV E N c Q (fun t=>oI m es (fr t)) (fun x=>if x=m then none else(H x).map (Ha m es))):jV E N c Q fr H:=fun γ a w ⟨g1,g2,S,hst,hf⟩=>by
 have hk:eC S (fun k=>S k∨k=m) w w:=⟨fun _ _=>rfl,fun _ _ h=>h,fun _ h=> .inl h⟩;have ho:=(hst.obj m _ hb).1;have hlt:=ho.lt;simp only[eR]at ho;obtain⟨mes,clock,hm,he⟩:=ho;have he':=(dB.mono hk es _ he).lists
 have hv: ∀x u,bO S w x u→bO (fun k=>S k∨k=m) w (oI m es x) u:=fun x u hx=>by
  have h1:=bO.mono hk _ _ hx;cases x<;>try exact h1
  rename_i b;simp only[oI];split
  ·rename_i e
   subst e;simp only[bO]at h1⊢;exact⟨b,h1, .inr rfl,mes,clock,hm,he'.1,he'.2⟩
  exact h1
 refine h γ a w ⟨g1,g2,_, ?_,fun t=>hv _ _ (hf t)⟩;refine hst.step (iY.refl (fun _=>False) w) (fun _ h=>h.elim) (fun _ h=> .inl h) (fun k hk=>?_) (fun k hk=>?_) fun b' o hb'=>?_
 ·rcases hk with hk|hk
  ·exact hst.lt k hk
  exact hk▸hlt
 ·rcases hk with hk|hk
  ·exact .inl hk
  exact .inr (.inl (by rw[hk,hb];simp))
 split at hb'
 ·cases hb'
 rename_i hne;rw[bH]at hb';obtain⟨o0,ho0,rfl⟩:=hb';have hobj:=hst.obj b' o0 ho0;refine⟨fun hs=>?_, .inr ⟨?_, .inl (by rw[ho0];simp)⟩⟩
 ·rcases hs with hs|hs
  ·exact hobj.2.1 hs
  exact hne hs
 cases o0 with
 |rows s r=>
  have h1:=hobj.1;simp only[eR,Ha]at *;obtain⟨cs',e',h2,h3,h4⟩:=h1;refine⟨cs',e',h2,by rw[aC];exact h3,bZ.sub h4 (by simp) fun i x x' hx hx'=>?_⟩;rw[cE,hx]at hx';cases hx';refine⟨by simp,fun j y y' u hy hy' hyu=>?_⟩;rw[cE,hy]at hy';cases hy';exact hv _ _ hyu
 |amap es2=>
  have h1:=hobj.1;simp only[eR,Ha]at *;obtain⟨mes2,clock2,h2,h3⟩:=h1;exact⟨mes2,clock2,h2,dB.mono hk es2 _ h3⟩
 |bld ty g n=>exact hobj.1
 |buf ty bs cap=>exact hobj.1
theorem Pj (m:Nat) (es:List (AV×AV)):oI m es (.mp m)= .imp (es.map (·.1)) (es.map (·.2)):=by simp [oI]
theorem Gx (m:Nat) (es:List (AV×AV)) (s:Nat) (r:List (List AV)):oI m es (.isl s r)= .isl s r:=Eq.trans rfl rfl
theorem Gy (m:Nat) (es:List (AV×AV)) (k:IntKind) (n:Int):oI m es (.int k n)= .int k n:=Eq.trans rfl rfl
theorem Gq (m:Nat) (es:List (AV×AV)) (s:List UInt8):oI m es (.str s)= .str s:=Eq.trans rfl rfl
theorem Aj (m:Nat) (es:List (AV×AV)) (s:Bool):oI m es (.bool s)= .bool s:=Eq.trans rfl rfl
theorem Gs (m:Nat) (es:List (AV×AV)) (s b i j:Nat):oI m es (.ptr s b i j)= .ptr s b i j:=Eq.trans rfl rfl
theorem Gu (m:Nat) (es:List (AV×AV)):oI m es .nsl= .nsl:=Eq.trans rfl rfl
theorem Gw (m:Nat) (es:List (AV×AV)):oI m es .nfn= .nfn:=Eq.trans rfl rfl
theorem Gv (m:Nat) (es:List (AV×AV)):oI m es .npt= .npt:=Eq.trans rfl rfl
theorem Gt (m:Nat) (es:List (AV×AV)) (s b n:Nat):oI m es (.osl s b n)= .osl s b n:=Eq.trans rfl rfl
theorem Pl (m:Nat) (es:List (AV×AV)) (f:Fn) (x y:List AV):oI m es (.fn f x y)= .fn f x y:=Eq.trans rfl rfl
theorem Gz (m:Nat) (es:List (AV×AV)) (x y:List AV):oI m es (.imp x y)= .imp x y:=Eq.trans rfl rfl
theorem wG (m:Nat) (es:List (AV×AV)) (sz:Nat) (r:List (List AV)):Ha m es (.rows sz r)= .rows sz (r.map fun x=>x.map (oI m es)):=Eq.trans rfl rfl
theorem Ak (m:Nat) (es r:List (AV×AV)):Ha m es (.amap r)= .amap r:=Eq.trans rfl rfl
theorem SM:type_of% (And.intro Pj<|And.intro Gx<|And.intro Gy<|And.intro Gq<|And.intro Aj<|And.intro Gs<|And.intro Gu<|And.intro Gw<|And.intro Gv<|And.intro Gt<|And.intro Pl<|And.intro Gz<|And.intro wG Ak):=And.intro Pj<|And.intro Gx<|And.intro Gy<|And.intro Gq<|And.intro Aj<|And.intro Gs<|And.intro Gu<|And.intro Gw<|And.intro Gv<|And.intro Gt<|And.intro Pl<|And.intro Gz<|And.intro wG Ak
theorem cD (es:List (AV×AV)):(es.map (·.1)).zip (es.map (·.2))=es:=by
 induction es with
 |nil=>rfl
 |cons p es ih=>simp [ih]
def H1 (b:Nat) (o:iG):Hp:=Al.upd lG b (some o)
theorem iE (b:Nat) (o:iG):H1 b o b=some o:=aS _ _ _
theorem dM {b:Nat} {o:iG} (h:H b=some o):mQ (H1 b o) H:=fun b' o' h'=>by
 unfold H1 at h';by_cases e:b'=b
 ·subst e
  rw[aS]at h';cases h';exact h
 rw[dK _ _ e]at h';cases h'
def uA (E:fR) (g:FuncId) (args:List AV) (H0:Hp) (v:AV):Prop:=rK E g args H0 (fun ae H'=>ae= .ret v∧H'=H0)
theorem bB.q {v v':AV} {H0:Hp} (h:v=v') (hs:mQ H0 H):bB (fun ae H'=>ae= .ret v'∧H'=H0) v H:=
 ⟨v,H0,fZ.drop hs,by rw[h],rfl⟩
theorem Bd {H0:Hp} (hs:mQ H0 H):gA H0 H0 H=H:=by
 funext b;unfold gA
 cases h:H0 b with
 |some o=>simp only;exact(hs b o h).symm
 |none=>simp
end
section
variable {E : fR} {F : Nat → Prop} {ds : List (Option Nat)} {Q : dN} {d : Option Nat} {rest : List Oper} {fr : Fr} {H : Hp} {g : FuncId} {args : List AV} {v : AV}
theorem Z2 {H0:Hp} (hc:uA E g args H0 v) (hs:mQ H0 H) (hF: ∀b,H0 b≠none→F b) (h:cI E F ds Q rest (dF fr d v) H):oJ E F ds Q d rest fr H g args:=by
 refine jH hc (cY.refl _) hs hF fun ae H' ⟨e1,e2⟩ _=>?_;subst e1;subst e2;simp only;rw[Bd hs];exact h
theorem eO {b:Nat} {o:iG} (hc:uA E g args (H1 b o) v) (hb:H b=some o) (hF: ∀x,F x) (h:cI E F ds Q rest (dF fr d v) H):oJ E F ds Q d rest fr H g args:=
 Z2 hc (dM hb) (fun x _=>hF x) h
end
end Go.Al
