/- A list in the last field of a box, sealed where it stands. The little logic: calls that are handed all that is owned and may panic; functions that defer a call which recovers. The little logic: regions that draw their order, where several operations that are not calm may come first: order by order. -/
import Derived.Test.YtnfbbjhdflhmjaaGreatDoorSy1
import Derived.Test.YtnfbbjhdflhmjaaGreatDoorAl4
import Derived.Defers
import Derived.Recover
set_option linter.unusedSimpArgs false
set_option linter.unusedVariables false
set_option maxRecDepth 10000
namespace Go.Al
theorem jJ.last {v w:AV} (h:kG v w): ∀l:List AV,jJ (l++[v]) (l++[w])
 |[]=>jJ.cons h jJ.nil
 |x::l=>jJ.cons (kG.refl x) (jJ.last h l)
theorem Gk {b sz:Nat} {l:List (List AV)}: ∀(xs:List (List AV)),(xs.all fun r=>r.all lJ)=true→xs.map (fun x=>x.map (frz b sz l))=xs
 |[],_=>rfl
 |x::xs,h=>by
  simp only[List.all_cons,aS]at h;rw[List.map_cons,tC h.1,Gk xs h.2]
theorem B5 {E:fW} {N:Nat} {Q:dQ} {c:Code} {fr:Fr} {H:Hp} {b0 sz sz':Nat} {pre:List AV} {v:AV} {rows:List (List AV)} (hv:dJ sz v rows H) (h0:H b0=some (.rows sz' [pre++[v]])) (hp:pre.all lJ=true) (ho:off v b0)
  (h: ∀fr' H',(∀j,lJ (fr j)=true→fr' j=fr j)→H' b0=some (.rows sz' [pre++[.isl sz rows]])→(∀b s l,b≠b0→off v b→(l.all fun r=>r.all lJ)=true→H b=some (.rows s l)→H' b=some (.rows s l))→iG E N c Q fr' H'):iG E N c Q fr H:=by
 rcases hv with⟨rfl,rfl⟩|⟨b,rfl,hb⟩
 ·exact Cj h0 (jJ.last (kG.nsl sz) pre) (h fr _ (fun _ _=>rfl) (bO _ _ _) (fun b s l hne _ _ hb=>by rw[cH _ _ hne];exact hb))
 refine rV hb (h _ _ (fun j hj=>Gy hj) ?_ fun b1 s l hne ho1 hf hb1=>?_)
 ·show(if b0=b then none else(H b0).map (Gz b sz rows))=_
  rw[if_neg (fun e=>ho _ _ (by rw[e])),h0];simp only[Option.map_some,qW,List.map_cons,List.map_nil,List.map_append,tB,tC hp]
 show(if b1=b then none else(H b1).map (Gz b sz rows))=_;rw[if_neg (fun e=>ho1 _ _ (by rw[e])),hb1];simp only[Option.map_some,qW,Gk l hf]
theorem dJ.offsz {sz sz':Nat} {v:AV} {rows r2:List (List AV)} {H:Hp} (h:dJ sz v rows H) {b:Nat} (hb:H b=some (.rows sz' r2)) (hs:sz'≠sz):Al.off v b:=fun s n e=>by
 rcases h with⟨rfl,_⟩|⟨b',rfl,hH⟩
 ·cases e
 cases e;rw[hb]at hH;cases hH;exact hs rfl
theorem dJ.cells {sz:Nat} {v:AV} {rows:List (List AV)} {H:Hp} (h:dJ sz v rows H):cellsOf v=some [v]:=by rcases h with⟨rfl,_⟩|⟨b,rfl,_⟩<;>rfl
theorem dJ.one1 {sz:Nat} {v:AV} {rows:List (List AV)} {H:Hp} (h:dJ sz v rows H):one v=true:=by rcases h with⟨rfl,_⟩|⟨b,rfl,_⟩<;>rfl
theorem kD {E:fW} {F:Nat→Prop} {ds:List (Option Nat)} {Q:dQ} {d:Option Nat} {rest:List Oper} {fr:Fr} {H:Hp} {sz by':Nat} {v:AV} {rows ys:List (List AV)} (hv:dJ sz v rows H) (hb:(rows.length+ys.length) *by'≤140737488355328) (hF: ∀b,v= .osl sz b rows.length→F b)
  (h: ∀v' H',dJ sz v' (rows++ys) H'→(∀b o,H b=some o→v≠ .osl sz b rows.length→H' b=some o)→(∀b,off v b→H b≠none→off v' b)→cM E F ds Q rest (dU fr d v') H'):zM E F ds Q d rest fr H (some (sz,by',v,ys)):=by
 rcases hv with⟨rfl,rfl⟩|⟨b,rfl,hH⟩
 ·simp only[List.nil_append,List.length_nil,Nat.zero_add]at h hb
  refine⟨hb,fun e=>h _ _ (.inl ⟨rfl,e⟩) (fun _ _ hb _=>hb) (fun b h1 _=>h1),fun e b hbn=>h _ _ (.inr ⟨b,rfl,by simp [upd]⟩) (fun b' o hb' _=>?_) fun b1 _ hn s n e1=>?_⟩
  ·have :b'≠b:=fun c=>by rw[c,hbn]at hb';cases hb'
   simp [upd,this,hb']
  cases e1;exact hn hbn
 simp only[zM,hH];refine⟨trivial,trivial,trivial,hb,hF b rfl,fun b' hb'=>?_⟩;refine h _ _ (.inr ⟨b',by simp,by simp [upd]⟩) (fun b'' o h1 h2=>?_) fun b1 h1 hn s n e1=>?_
 ·have n1:b''≠b:=fun c=>h2 (by rw[c])
  have n2:b''≠b':=fun c=>by
   rcases hb' with e|e
   ·exact n1 (c.trans e)
   rw[←c,h1]at e;cases e
  simp [upd,n1,n2,h1]
 cases e1;rcases hb' with e|e
 ·exact h1 _ _ (by rw[e])
 exact hn e
end Go.Al
namespace Go.Al
theorem cO (K:Fr→Hp→Prop) (Q:dQ) (v:AV) (fr:Fr) (H:Hp):aT K Q (.pan v) fr H=Q (.pan v) fr H:=Eq.trans rfl rfl
theorem cX (id:Nat) (Q:dQ) (v:AV) (fr:Fr) (H:Hp):aX id Q (.pan v) fr H=Q (.pan v) fr H:=Eq.trans rfl rfl
theorem cQ (P:Program) (rs:List ResultVar) (R:nT→Hp→Prop) (v:AV) (fr:Fr) (H:Hp):bB P rs R (.pan v) fr H=R (.pan v) H:=Eq.trans rfl rfl
section
variable {E : fW} {F : Nat → Prop} {ds : List (Option Nat)} {Q : dQ} {d : Option Nat} {rest : List Oper} {fr : Fr} {H : Hp} {g : FuncId} {args : List AV}
theorem Un {R:nT→Hp→Prop} (hc:mM E g args H R) (hF: ∀b,F b)
  (h: ∀ae H',R ae H'→(match ae with | .ret v=>cM E F ds Q rest (dU fr d v) H'| .pan v=>Q (.pan v) Ha H')):tL E F ds Q d rest fr H g args:=by
 refine nN hc (eJ.refl _) (fun b o h=>h) (fun b _=>hF b) fun ae H' hr _=>?_;rw[yD];exact h ae H' hr
end
theorem mM.mono {E:fW} {g:FuncId} {args:List AV} {H:Hp} {R R':nT→Hp→Prop} (h:mM E g args H R) (hr: ∀ae H',R ae H'→R' ae H'):mM E g args H R':=
 ⟨h.1,fun w0 S0 vs h1 h2=>(h.2 w0 S0 vs h1 h2).mono fun _ _ ⟨ae,H',S',a1,a2,a3⟩=>⟨ae,H',S',a1,a2,hr _ _ a3⟩⟩
theorem aZ.run {R:nT→Hp→Prop} {v:AV} {H:Hp} (h:R (.ret v) H):aZ R v H:=aZ.self h
end Go.Al
namespace Go.Al
open Go
def Pz (E:fW) (N:Nat) (c:Code) (Φ:fZ→Exit→Act→World→Prop) (fr:Fr) (H:Hp):Prop:= ∀γ a w,γ.D=[]→Ab E γ N fr H a w→c.wp E.P (Φ γ) a w
def P4:dQ:=fun _ _ _=>False
section
variable {E : fW} {N : Nat} {Φ : fZ → Exit → Act → World → Prop} {fr : Fr} {H : Hp}
theorem Ul {x y:Code} (h:iG E N x (aT (Pz E N y Φ) P4) fr H):Pz E N (.seq x y) Φ fr H:=fun γ a w hD hs=>by
 refine wp_seq (wp_mono (h γ a w hs) fun e a w hl=>?_);cases e<;>simp only[lR,Exit.then,aT,P4]at *
 ·obtain⟨fr',H',h1,h2⟩:=hl;exact h2 γ a w hD h1
 ·obtain⟨_,_,_,h⟩:=hl;exact h.elim
 ·obtain⟨_,_,_,h⟩:=hl;exact h.elim
 obtain⟨_,_,_,_,_,_,_,_,h⟩:=hl;exact h.elim
theorem yX {x y:Code} (h: ∀K:Fr→Hp→Prop,(∀fr H,Pz E N y Φ fr H→K fr H)→iG E N x (aT K P4) fr H):Pz E N (.seq x y) Φ fr H:=Ul (h _ fun _ _ h=>h)
def iV:List AV→List Value
 |[]=>[]
 | .ptr sz b i j::l=> .pointer (some ⟨b,i *sz+j,none⟩)::iV l
 |_::l=> .nilFunc::iV l
def Ov (l:List AV):Bool:=l.all fun x=>match x with | .ptr _ _ _ _=>true|_=>false
theorem Ht {S:dW} {w:World}: ∀{l:List AV} {vs:List Value},Ov l=true→bV S w l vs→vs=iV l
 |[],vs,_,h=>by simpa only[bV,iV]using h
 |x::l,vs,hp,h=>by
  simp only[Ov,List.all_cons,aS]at hp;simp only[bV]at h;obtain⟨u,us,rfl,h1,h2⟩:=h;have h3:=Ht (l:=l) hp.2 h2;cases x<;>try (simp at hp;done)
  simp only[bL]at h1;simp only[iV,h1,h3]
theorem yQ {S:dW} {w:World}: ∀{l:List AV},Ov l=true→bV S w l (iV l)
 |[],_=>by simp only[bV,iV]
 |x::l,hp=>by
  simp only[Ov,List.all_cons,aS]at hp;cases x<;>try (simp at hp;done)
  simp only[iV,bV,bL];exact⟨_,_,rfl,rfl,yQ hp.2⟩
def oF (g:FuncId) (caps:List AV):Deferred:={target:= .fn (.func g) (iV caps).toArray,args:= #[]}
theorem Lo {B:Code} {id t lo:Nat} {g:FuncId} {xs:List Operand} {ty1 ty2:TypeId} {p1 p2:String} {a1 a2:Array Edge} {Q:dQ} {caps:List AV} (hcap:xs.map (ev E.G fr)=caps) (hp:Ov caps=true) (ht:t<N) (hN:N<1048576) (hlo:lo≤1048576)
  (h:iG E (N+1048576 *lo) B Q (upd fr t (.fn (.func g) [] caps)) H)
  (hΦ: ∀γ γ' e a w,γ'.w0=γ.w0→γ'.O=γ.O→γ'.S0=γ.S0→γ'.D=[oF g caps]→(∀p sz b i j,p<lo→p≠t→fr p= .ptr sz b i j→γ'.pin p= .pointer (some ⟨b,i *sz+j,none⟩))→lR E γ' (N+1048576 *lo) Q e a w→Φ γ e a w):
  Pz E N (.seq (.region id #[⟨some t, .makeFunc (.func g) #[] xs.toArray,ty1,p1,a1,none⟩,⟨none, .defer ⟨.value (.tmp t), #[], #[]⟩,ty2,p2,a2,none⟩] false) B) Φ fr H:=fun γ a w hD hs=>by
 obtain⟨hh,hsz,S,hst,hf⟩:=hs;have hsz':a.tmps.size=N:=by rw[hsz];omega
 have hl:bV S w caps (xs.map a.eval):=by
  rw[←hcap];clear hcap hp h hΦ
  induction xs with
  |nil=>simp only[List.map_nil,bV]
  |cons x xs ih=>simp only[List.map_cons,bV];exact⟨_,_,rfl,cV hst hf x,ih⟩
 have hv:=Ht hp hl;have hlt:t<a.tmps.size:=by omega
 have r1: ∀ops:Array Oper,(execOp a.eval (⟨some t, .makeFunc (.func g) #[] xs.toArray,ty1,p1,a1,none⟩:Oper)).run E.P w= .ok (.value (.func (.func g) #[] (iV caps).toArray)) w:=fun _=>by
  rw[←hv];simp [execOp,Instr.makeFunc]
 have hget:(a.put (some t) (.func (.func g) #[] (iV caps).toArray)).tmps.getD t Go.undef= .func (.func g) #[] (iV caps).toArray:=by
  simp [Act.put,Array.getD_eq_getD_getElem?,hlt]
 have r2:(execOp (a.put (some t) (.func (.func g) #[] (iV caps).toArray)).eval (⟨none, .defer ⟨.value (.tmp t), #[], #[]⟩,ty2,p2,a2,none⟩:Oper)).run E.P w= .ok (.defer (oF g caps)) w:=by
  simp only[execOp,resolve,Act.eval,hget];simp [Deferred.ofValue,oF]
 refine wp_seq (wp_region_list ?_);refine .inl ?_;simp only[Oper.wp,r1 #[]];refine .inl ?_;simp only[Oper.wp,r2,Oper.upon]
 let γ':fZ:=⟨γ.w0,γ.O,γ.S0,[oF g caps],fun p=>(a.put (some t) (.func (.func g) #[] (iV caps).toArray)).tmps.getD p Go.undef⟩
 have hst':St E γ' S H w:=⟨hst.lt,hst.base,hst.src,hst.obj,hst.ext,hst.glb⟩;have hdef:a.defers=[]:=hh.1.trans hD
 have hsim:Ab E γ' (N+1048576 *lo) (upd fr t (.fn (.func g) [] caps)) H (Act.put {(a.put (some t) (.func (.func g) #[] (iV caps).toArray))with defers:=oF g caps::(a.put (some t) (.func (.func g) #[] (iV caps).toArray)).defers} none Go.undef) w:=by
  refine⟨⟨?_,fun p hp=>rfl⟩, ?_,S,hst',fun p=>?_⟩
  ·show oF g caps::a.defers=[oF g caps]
   rw[hdef]
  ·show(a.tmps.setIfInBounds t _).size=_
   rw[Array.size_setIfInBounds,hsz'];omega
  show bL S w _ ((a.put (some t) (.func (.func g) #[] (iV caps).toArray)).tmps.getD p Go.undef)
  have:=gB.put (d:=some t) hf (fun i hi=>by cases hi;exact hlt) (v:= .fn (.func g) [] caps) (v':= .func (.func g) #[] (iV caps).toArray) (by
   simp only[bL,bV]
   exact⟨[],iV caps,rfl,rfl,yQ hp⟩)
  exact this p
 have hpin: ∀p sz b i j,p<lo→p≠t→fr p= .ptr sz b i j→γ'.pin p= .pointer (some ⟨b,i *sz+j,none⟩):=fun p sz b i j _ hne hfp=>by
  have h1:=hf p;rw[hfp]at h1;simp only[bL]at h1;show(a.tmps.setIfInBounds t _).getD p Go.undef=_;rw[←h1];simp only[Array.getD_eq_getD_getElem?];rw[Array.getElem?_setIfInBounds_ne (fun e=>hne e.symm)]
 exact wp_mono (h γ' _ w hsim) fun e a' w' hl=>hΦ γ γ' e a' w' rfl rfl rfl rfl hpin hl
end
end Go.Al
namespace Go.Al
open Go
def Ly (E:fW) (Ng:Nat) (Bg:Code) (caps:List AV) (ds:Nat) (rs:List ResultVar) (Ks:Fr) (R:nT→Hp→Prop) (rv:AV) (H:Hp):Prop:=
 iG E Ng Bg (fun e _ H'=>(e= .normal∨e= .ret)∧ ∃v,aL E.P Ks H' rs=some v∧aZ R v H') (upd (oK caps) ds rv) H
def Ld (D:AV→Hp→Prop):dQ
 | .normal,_,H| .ret,_,H=>D .nif H
 | .pan v,_,H=>D v H
 | .exit _,_,_=>False
def Sy (E:fW) (fn:Func) (R:nT→Hp→Prop) (γ:fZ):Exit→Act→World→Prop:=
 bodyPostD E.P fn (fun e w'=> ∃ae H' S',St E γ S' H' w'∧nR S' w' ae e∧R ae H')
theorem Il {S:dW} {w:World} {args:List AV} {vs:List Value} (hargs:bV S w args vs) (n:Nat):gB S w (oK args) {tmps:=vs.toArray++Array.replicate n Go.undef,defers:=[]}:=fun t=>by
 have hl:=hargs.length;simp only[oK];by_cases ht:t<args.length
 ·obtain⟨v,hv,hr⟩:=hargs.get t (aG ht)
  have e1:args.getD t (.tup [])=args[t]:=by simp [List.getD,ht]
  have e2:(vs.toArray++Array.replicate n Go.undef).getD t Go.undef=v:=by
   have hlt:t<vs.length:=by omega
   simp only[Array.getD_eq_getD_getElem?];rw[Array.getElem?_append_left (by simpa using hlt)];simp [hv]
  rw[e1,e2];exact hr
 have e1:args.getD t (.tup [])= .tup []:=by simp [List.getD,List.getElem?_eq_none (Nat.le_of_not_lt ht)]
 have e2:(vs.toArray++Array.replicate n Go.undef).getD t Go.undef=Go.undef:=by
  simp only[Array.getD_eq_getD_getElem?];rw[Array.getElem?_append_right (by simp;omega)];simp only[Array.getElem?_replicate];split<;>rfl
 rw[e1,e2];simp only[bL];exact⟨[],rfl,by simp only[bV]⟩
theorem Uc {E:fW} {f:FuncId} {fn:Func} {c:Code} {args:List AV} {H0:Hp} {R:nT→Hp→Prop} (N:Nat) (hf:E.P.funcs[f]?=some fn) (hb:fn.body=some c) (hname:(fn.name== "runtime.NumGoroutine")=false) (hN:args.length+(fn.ntmps-args.length)=N)
  (h:Pz E N c (Sy E fn R) (oK args) H0) (hN2:N/1048576=0:=by rfl):mM E f args H0 R:=by
 have hN3:N % 1048576=N:=by omega
 refine⟨⟨fn,hf,hname,by rw[hb];rfl⟩,fun w0 S0 vs hst hargs=>?_⟩;have hl:=hargs.length;refine calls_of_wp_defers hf hb ?_;refine h ⟨w0,Qp H0,S0,[],fun _=>Go.undef⟩ _ w0 rfl ⟨⟨rfl,fun t ht=>by omega⟩,by simp [hl,hN,hN3],S0,hst, ?_⟩;exact Il hargs _
section
variable {E : fW} {R : nT → Hp → Prop}
theorem Pa {fn gfn:Func} {g:FuncId} {Bg:Code} {id ds Nx Ng:Nat} {ty:TypeId} {p:String} {af:Array Edge} {ts:Array TypeId} {caps:List AV} {rs:List ResultVar} {Ks:Fr}
  (hrs:fn.results.toList=rs) (hgf:E.P.funcs[g]?=some gfn) (hgn:(gfn.name== "runtime.NumGoroutine")=false) (hgb:gfn.body=some (.seq (.region id #[⟨some ds, .call ⟨.builtin .recover, #[],ts⟩,ty,p,af,none⟩] false) Bg)) (hgr:gfn.results= #[])
  (hgN:caps.length+(gfn.ntmps-caps.length)=Ng) (hds:ds<Ng) (hN2:Ng/1048576=0) (hp:Ov caps=true)
  {γ γ':fZ} (g1:γ'.w0=γ.w0) (g2:γ'.O=γ.O) (g3:γ'.S0=γ.S0) (g4:γ'.D=[oF g caps]) {e:Exit} {a:Act} {w:World}
  (hfr:Uu γ' Nx a→ ∀(S:dW) (w:World),gB S w Ks a)
  (hl:lR E γ' Nx (Ld (Ly E Ng Bg caps ds rs Ks R)) e a w):Sy E fn R γ e a w:=by
 subst hrs;have hN3:Ng % 1048576=Ng:=by omega
 have key: ∀(u:FrameMode) (cs':Frame→FrameMode) (rv:AV) (rv':Value) (S:dW) (H:Hp),St E γ' S H w→bL S w rv rv'→Uu γ' Nx a→u≠ .run→Ly E Ng Bg caps ds fn.results.toList Ks R rv H→
   (∀(c₀:Frame) (cs:List Frame),c₀.mode=u→(match recoverD (c₀::cs)with |some (v,l)=>v=rv'∧ ∃u',l={c₀ with mode:=u'}::cs∧settle u'= .returning|none=>rv'= .nilIface∧settle u= .returning))→
   Leaves E.P fn a.tmps (fun e w'=> ∃ae H' S',St E γ S' H' w'∧nR S' w' ae e∧R ae H') [oF g caps] u w:=by
  intro u _ rv rv' S H hst hrv hheld hu hD hrec
  have hinv:(invoke (.fn (.func g) (iV caps).toArray) #[]).run E.P w= .ok (.enter g (iV caps).toArray) w:=by
   have h1:gfn.name≠ "runtime.NumGoroutine" :=by simpa using hgn
   simp [invoke,callFunc,hgf,h1,hgb]
  refine leaves_cons (f:=g) (args:=(iV caps).toArray) hu hinv ?_;refine callsD_of_wpS hgf hgb fun c₀ cs hc=>?_;have hr:=hrec c₀ cs hc
  have hcl:(iV caps).length=caps.length:=by
   clear hinv hD hr hrec hrv hheld hst;clear hl hfr g4 hgN hp
   induction caps with
   |nil=>rfl
   |cons x l ih=>cases x<;>simp [iV,ih]
  have hst': ∀pin,St E ⟨γ.w0,γ.O,γ.S0,[],pin⟩ S H w:=fun pin=>⟨hst.lt,by rw[←g3];exact hst.base,by rw[←g1,←g2,←g3];exact hst.src,by rw[←g1,←g2];exact hst.obj,by rw[←g1,←g2];exact hst.ext,hst.glb⟩;have hact:gB S w (oK caps) {tmps:=(iV caps).toArray++Array.replicate (gfn.ntmps-(iV caps).toArray.size) Go.undef,defers:=[]}:=Il (yQ hp) _;have hsz:((iV caps).toArray++Array.replicate (gfn.ntmps-(iV caps).toArray.size) Go.undef).size=Ng:=by simp [hcl];omega
  have hgo: ∀l:List Frame,(∃u',l={c₀ with mode:=u'}::cs∧settle u'= .returning)→Bg.wpS E.P (bodyPostS E.P gfn c₀ cs fun e u' w'=>match e with
    | .returned _=>Leaves E.P fn a.tmps (fun e w'=> ∃ae H' S',St E γ S' H' w'∧nR S' w' ae e∧R ae H') [] (settle u') w'
    | .panicked chain=>Leaves E.P fn a.tmps (fun e w'=> ∃ae H' S',St E γ S' H' w'∧nR S' w' ae e∧R ae H') [] (raised u' chain) w'
    | .outgrown=> ∃ae H' S',St E γ S' H' w'∧nR S' w' ae .outgrown∧R ae H')
    (Act.put {tmps:=(iV caps).toArray++Array.replicate (gfn.ntmps-(iV caps).toArray.size) Go.undef,defers:=[]} (some ds) rv') l w:=by
   rintro l ⟨u',rfl,hset⟩;refine wpS_of_wp ?_
   have hsim:Ab E ⟨γ.w0,γ.O,γ.S0,[],fun _=>Go.undef⟩ Ng (upd (oK caps) ds rv) H (Act.put {tmps:=(iV caps).toArray++Array.replicate (gfn.ntmps-(iV caps).toArray.size) Go.undef,defers:=[]} (some ds) rv') w:=by
    refine⟨⟨rfl,fun t ht=>by omega⟩, ?_,S,hst' _, ?_⟩
    ·simp only[Act.put,Array.size_setIfInBounds];rw[hsz,hN3]
    exact gB.put (d:=some ds) hact (fun i hi=>by cases hi;show ds<(_:Array Value).size;rw[hsz];exact hds) hrv
   refine wp_mono (hD _ _ w hsim) fun e' a' w' hl'=>?_
   have fin: ∀(fr':Fr) (H':Hp),Ab E ⟨γ.w0,γ.O,γ.S0,[],fun _=>Go.undef⟩ Ng fr' H' a' w'→(∃v,aL E.P Ks H' fn.results.toList=some v∧aZ R v H')→
     a'.defers=[]∧ ∃u'',({c₀ with mode:=u'}:Frame)::cs={c₀ with mode:=u''}::cs∧ ∃v,(results gfn a'.tmps).run E.P w'= .ok v w'∧Leaves E.P fn a.tmps (fun e w'=> ∃ae H' S',St E γ S' H' w'∧nR S' w' ae e∧R ae H') [] (settle u'') w':=by
    rintro fr' H' ⟨hh,_,S',hst2,_⟩ ⟨v,hv,hG⟩;refine⟨hh.1,u',rfl, .tuple #[],by simp [results,hgr], ?_⟩;rw[hset];have hst3:St E γ S' H' w':=⟨hst2.lt,hst2.base,hst2.src,hst2.obj,hst2.ext,hst2.glb⟩;obtain⟨x,hx,hxr⟩:=mF (fn:=fn) hst3 (hfr hheld S' w') hv;obtain⟨v',H2,ht,hR⟩:=hG;obtain⟨S2,_,s1,s2⟩:=ht _ _ _ _ _ hst3 hxr;exact⟨x,hx, .ret v',H2,S2,s1,by simp only[nR];exact⟨x,rfl,s2⟩,hR⟩
   cases e'<;>simp only[lR,bodyPostS]at hl'⊢
   ·obtain⟨fr',H',hs',_,hq⟩:=hl';exact fin fr' H' hs' hq
   ·obtain⟨fr',H',_,h,_⟩:=hl';simp at h
   ·obtain⟨fr',H',hs',_,hq⟩:=hl';exact fin fr' H' hs' hq
   obtain⟨_,_,_,_,_,_,_,_,h,_⟩:=hl';simp at h
  refine wpS_seq (wpS_region ?_)
  have hrun: ∀a0:Act,(execOp a0.eval (⟨some ds, .call ⟨.builtin .recover, #[],ts⟩,ty,p,af,none⟩:Oper)).run E.P w= .ok .recover w:=fun a0=>by
   simp [execOp,resolve,invoke,builtin]
  show wpOpsS E.P _ _ [0] _ _ w;simp only[wpOpsS,Region.wanted,if_true,hrun,List.getElem?_toArray,List.getElem?_cons_zero]
  cases hrr:recoverD (c₀::cs)with
  |none=>
   rw[hrr]at hr;obtain⟨rfl,hs⟩:=hr;exact hgo _ ⟨u,by subst hc;rfl,hs⟩
  |some x=>
   rw[hrr]at hr;obtain⟨v,l⟩:=x;obtain⟨rfl,hx⟩:=hr;exact hgo _ hx
 unfold Sy;cases e<;>simp only[lR,Ld,bodyPostD]at hl⊢
 ·obtain⟨fr,H,⟨hh,_,S,hst,_⟩,hD⟩:=hl
  rw[hh.1,g4]
  exact key .returning (fun _=> .run) .nif .nilIface S H hst (by simp only[bL]) hh (by simp) hD fun c₀ cs hc=>by
   simp [recoverD,hc,settle]
 ·obtain⟨_,_,_,h⟩:=hl;exact h.elim
 ·obtain⟨fr,H,⟨hh,_,S,hst,_⟩,hD⟩:=hl
  rw[hh.1,g4]
  exact key .returning (fun _=> .run) .nif .nilIface S H hst (by simp only[bL]) hh (by simp) hD fun c₀ cs hc=>by
   simp [recoverD,hc,settle]
 obtain⟨hh,v,v',S,H,rfl,hst,hv,hD⟩:=hl;rw[hh.1,g4]
 exact key (.panicking [{v:=v',recovered:=false}]) (fun _=> .run) v v' S H hst hv hh (by simp) hD fun c₀ cs hc=>by
  simp only[recoverD,hc];exact⟨by first|trivial|rfl,_,rfl,by simp [settle]⟩
end
end Go.Al
namespace Go.Al
def Yx:Option Code→Code
 |some (.seq _ y)=>y
 |_=> .skip
def Yb (v x:AV):Prop:= ∀s b n,x= .osl s b n→off v b
theorem fH {v x:AV} (h:lJ x=true):Yb v x:=fun s b n e=>by subst e;cases h
theorem Mz {b sz n:Nat} {l:List (List AV)} {x:AV} (h:Yb (.osl sz b n) x):frz b sz l x=x:=by
 cases x<;>try rfl
 rename_i s' b' n';rw[My,if_neg];rintro⟨rfl,_,_⟩;exact h _ _ _ rfl _ _ rfl
theorem tD {b sz n:Nat} {l:List (List AV)}: ∀{xs:List AV},(∀x∈xs,Yb (.osl sz b n) x)→xs.map (frz b sz l)=xs
 |[],_=>rfl
 |x::xs,h=>by rw[List.map_cons,Mz (h x (by simp)),tD fun y hy=>h y (by simp [hy])]
theorem Bx {b sz n:Nat} {l:List (List AV)}: ∀{xs:List (List AV)},(∀r∈xs, ∀x∈r,Yb (.osl sz b n) x)→xs.map (fun x=>x.map (frz b sz l))=xs
 |[],_=>rfl
 |x::xs,h=>by rw[List.map_cons,tD (h x (by simp)),Bx fun y hy=>h y (by simp [hy])]
theorem jJ.mid {v w:AV} (h:kG v w) (post:List AV): ∀l:List AV,jJ (l++v::post) (l++w::post)
 |[]=>jJ.cons h (SubR_self post)
 |x::l=>jJ.cons (kG.refl x) (jJ.mid h post l)
where SubR_self: ∀l:List AV,jJ l l
 |[]=> .nil
 |x::l=> .cons (kG.refl x) (SubR_self l)
theorem uR {E:fW} {N:Nat} {Q:dQ} {c:Code} {fr:Fr} {H:Hp} {b0 sz sz':Nat} {pre post:List AV} {v:AV} {rows:List (List AV)} (hv:dJ sz v rows H) (h0:H b0=some (.rows sz' [pre++v::post])) (hp: ∀x∈pre,Yb v x) (hq: ∀x∈post,Yb v x) (ho:off v b0)
  (h: ∀fr' H',(∀j,Yb v (fr j)→fr' j=fr j)→H' b0=some (.rows sz' [pre++ .isl sz rows::post])→(∀b s l,b≠b0→off v b→(∀r∈l, ∀x∈r,Yb v x)→H b=some (.rows s l)→H' b=some (.rows s l))→iG E N c Q fr' H'):iG E N c Q fr H:=by
 rcases hv with⟨rfl,rfl⟩|⟨b,rfl,hb⟩
 ·exact Cj h0 (jJ.mid (kG.nsl sz) post pre) (h fr _ (fun _ _=>rfl) (bO _ _ _) (fun b s l hne _ _ hb=>by rw[cH _ _ hne];exact hb))
 refine rV hb (h _ _ (fun j hj=>Mz hj) ?_ fun b1 s l hne ho1 hf hb1=>?_)
 ·show(if b0=b then none else(H b0).map (Gz b sz rows))=_
  rw[if_neg (fun e=>ho _ _ (by rw[e])),h0];simp only[Option.map_some,qW,List.map_cons,List.map_nil,List.map_append,tB,tD hp,tD hq]
 show(if b1=b then none else(H b1).map (Gz b sz rows))=_;rw[if_neg (fun e=>ho1 _ _ (by rw[e])),hb1];simp only[Option.map_some,qW,Bx hf]
end Go.Al
namespace Go.Al
section
variable {E : fW} {F : Nat → Prop} {ops : Array Oper} {Q : dQ} {fr : Fr} {H : Hp}
theorem iE (F:Nat→Prop) {N id:Nat} {l:List Oper} (hm:E.P.follows .mixedOrders=true) (hd:l.all (gK N)=true) (h:l.toArray.toList.all (gK N)=true→iN E (fun _=>F) l.toArray Q l.length (Array.replicate l.length false) fr H):iG E N (.region id l.toArray true) Q fr H:=fun γ a w hs=>by
 have hd':l.toArray.toList.all (gK N)=true:=by simpa using hd
 have:=wp_region_any hm (qL (G:=fun _=>F) hd' l.length (Array.replicate l.length false) fr H a _ hs.drew (h hd')) (id:=id);simpa using this
theorem eO {N n m:Nat} {L L':Array Bool} {l':List Oper} (plan:List (Nat×Nat)) (hd:ops.toList.all (gK N)=true) (hn:n=plan.length+m) (hc:Ps ops [] L plan=true) (hL:kP L plan=L') (he:cF ops.toList plan=l')
  (h:cM E F (ops.toList.map (·.dst)) (aT (fun fr' H'=>iN E (fun _=>F) ops Q m L' fr' H') Q) l' fr H):iN E (fun _=>F) ops Q n L fr H:=by
 subst hn;subst hL;subst he;exact lP (T:=[]) (fun _ _=>rfl) hd plan L fr H hc h
def O4 (E:fW) (F:Nat→Prop) (ops:Array Oper) (Q:dQ) (n:Nat) (L:Array Bool) (fr:Fr) (H:Hp):List Nat→Prop
 |[]=>True
 |i::r=>(match ops[i]? with |some o=>cM E F (ops.toList.map (·.dst)) (aT (fun fr' H'=>iN E (fun _=>F) ops Q n (L.setIfInBounds i true) fr' H') Q) [o] fr H|none=>True)∧O4 E F ops Q n L fr H r
theorem Ns {n:Nat} {L:Array Bool}: ∀{l:List Nat},O4 E F ops Q n L fr H l→ ∀i∈l, ∀o,ops[i]?=some o→cM E F (ops.toList.map (·.dst)) (aT (fun fr' H'=>iN E (fun _=>F) ops Q n (L.setIfInBounds i true) fr' H') Q) [o] fr H
 |j::l,h,i,hi,o,ho=>by
  simp only[O4]at h;rcases List.mem_cons.1 hi with rfl|hi
  ·rw[ho]at h;exact h.1
  exact Ns h.2 i hi o ho
theorem iH {N n:Nat} {L:Array Bool} {rl:List Nat} (hd:ops.toList.all (gK N)=true) (hr:Region.ready .any ops L=rl) (hne:rl≠[]) (h:O4 E F ops Q n L fr H rl):iN E (fun _=>F) ops Q (n+1) L fr H:=by
 refine⟨fun e=>absurd (hr.symm.trans e) hne,fun i hi o ho=>?_⟩;have:=Ns h i (by rw[←hr];exact hi) o ho
 have hdo:gK N o=true:=by
  rw[List.all_eq_true]at hd;exact hd o (Array.mem_toList_iff.2 (Array.mem_of_getElem? ho))
 rw[nM hdo]at this;exact this
theorem gF {L:Array Bool} (hr:Region.ready .any ops L=[]) (h:Q .normal fr H):iN E (fun _=>F) ops Q 0 L fr H:=⟨hr,h⟩
end
end Go.Al
