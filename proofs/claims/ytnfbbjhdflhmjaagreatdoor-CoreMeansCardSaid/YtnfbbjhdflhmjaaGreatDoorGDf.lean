/- A list in the last field of a box, sealed where it stands. The little logic: calls that are handed all that is owned and may panic; functions that defer a call which recovers. The little logic: regions that draw their order, where several operations that are not calm may come first: order by order. -/
import Derived.Test.YtnfbbjhdflhmjaaGreatDoorSy1
import Derived.Test.YtnfbbjhdflhmjaaGreatDoorAl4
import Derived.Defers
import Derived.Recover
set_option linter.unusedSimpArgs false
set_option linter.unusedVariables false
set_option maxRecDepth 10000
namespace Go.Al
theorem dS.offsz {sz sz':Nat} {v:AV} {rows r2:List (List AV)} {H:Hp} (h:dS sz v rows H) {b:Nat} (hb:H b=some (.rows sz' r2)) (hs:sz'≠sz):Al.off v b:=fun s n e=>by
 rcases h with⟨rfl,_⟩|⟨b',rfl,hH⟩
 ·cases e
 cases e;rw[hb]at hH;cases hH;exact hs rfl
theorem dS.cells {sz:Nat} {v:AV} {rows:List (List AV)} {H:Hp} (h:dS sz v rows H):cellsOf v=some [v]:=by rcases h with⟨rfl,_⟩|⟨b,rfl,_⟩<;>rfl
theorem dS.one1 {sz:Nat} {v:AV} {rows:List (List AV)} {H:Hp} (h:dS sz v rows H):one v=true:=by rcases h with⟨rfl,_⟩|⟨b,rfl,_⟩<;>rfl
theorem gT {E:fY} {F:Nat→Prop} {ds:List (Option Nat)} {Q:dI} {d:Option Nat} {rest:List Oper} {fr:Fr} {H:Hp} {sz by':Nat} {v:AV} {rows ys:List (List AV)} (hv:dS sz v rows H) (hb:(rows.length+ys.length) *by'≤140737488355328) (hF: ∀b,v= .osl sz b rows.length→F b)
  (h: ∀v' H',dS sz v' (rows++ys) H'→(∀b o,H b=some o→v≠ .osl sz b rows.length→H' b=some o)→(∀b,off v b→H b≠none→off v' b)→cQ E F ds Q rest (dR fr d v') H'):Jr E F ds Q d rest fr H (some (sz,by',v,ys)):=by
 rcases hv with⟨rfl,rfl⟩|⟨b,rfl,hH⟩
 ·simp only[List.nil_append,List.length_nil,Nat.zero_add]at h hb
  refine⟨hb,fun e=>h _ _ (.inl ⟨rfl,e⟩) (fun _ _ hb _=>hb) (fun b h1 _=>h1),fun e b hbn=>h _ _ (.inr ⟨b,rfl,by simp [upd]⟩) (fun b' o hb' _=>?_) fun b1 _ hn s n e1=>?_⟩
  ·have :b'≠b:=fun c=>by rw[c,hbn]at hb';cases hb'
   simp [upd,this,hb']
  cases e1;exact hn hbn
 simp only[Jr,hH];refine⟨trivial,trivial,trivial,hb,hF b rfl,fun b' hb'=>?_⟩;refine h _ _ (.inr ⟨b',by simp,by simp [upd]⟩) (fun b'' o h1 h2=>?_) fun b1 h1 hn s n e1=>?_
 ·have n1:b''≠b:=fun c=>h2 (by rw[c])
  have n2:b''≠b':=fun c=>by
   rcases hb' with e|e
   ·exact n1 (c.trans e)
   rw[←c,h1]at e;cases e
  simp [upd,n1,n2,h1]
 cases e1;rcases hb' with e|e
 ·exact h1 _ _ (by rw[e])
 exact hn e
end Go.Al
namespace Go.Al
theorem bR (K:Fr→Hp→Prop) (Q:dI) (v:AV) (fr:Fr) (H:Hp):aS K Q (.pan v) fr H=Q (.pan v) fr H:=Eq.trans rfl rfl
theorem bZ (id:Nat) (Q:dI) (v:AV) (fr:Fr) (H:Hp):aT id Q (.pan v) fr H=Q (.pan v) fr H:=Eq.trans rfl rfl
theorem bT (P:Program) (rs:List ResultVar) (R:kD→Hp→Prop) (v:AV) (fr:Fr) (H:Hp):aX P rs R (.pan v) fr H=R (.pan v) H:=Eq.trans rfl rfl
section
variable {E : fY} {F : Nat → Prop} {ds : List (Option Nat)} {Q : dI} {d : Option Nat} {rest : List Oper} {fr : Fr} {H : Hp} {g : FuncId} {args : List AV}
theorem jK {R:kD→Hp→Prop} (hc:gK E g args H R) (hF: ∀b,F b)
  (h: ∀ae H',R ae H'→(match ae with | .ret v=>cQ E F ds Q rest (dR fr d v) H'| .pan v=>Q (.pan v) An H')):nQ E F ds Q d rest fr H g args:=by
 refine lL hc (fB.refl _) (fun b o h=>h) (fun b _=>hF b) fun ae H' hr _=>?_;rw[wX];exact h ae H' hr
end
theorem gK.mono {E:fY} {g:FuncId} {args:List AV} {H:Hp} {R R':kD→Hp→Prop} (h:gK E g args H R) (hr: ∀ae H',R ae H'→R' ae H'):gK E g args H R':=
 ⟨h.1,fun w0 S0 vs h1 h2=>(h.2 w0 S0 vs h1 h2).mono fun _ _ ⟨ae,H',S',a1,a2,a3⟩=>⟨ae,H',S',a1,a2,hr _ _ a3⟩⟩
theorem aW.run {R:kD→Hp→Prop} {v:AV} {H:Hp} (h:R (.ret v) H):aW R v H:=aW.self h
end Go.Al
namespace Go.Al
open Go
def Oa (E:fY) (N:Nat) (c:Code) (Φ:fZ→Exit→Act→World→Prop) (fr:Fr) (H:Hp):Prop:= ∀γ a w,γ.D=[]→yR E γ N fr H a w→c.wp E.P (Φ γ) a w
def I8:dI:=fun _ _ _=>False
section
variable {E : fY} {N : Nat} {Φ : fZ → Exit → Act → World → Prop} {fr : Fr} {H : Hp}
theorem Gh {x y:Code} (h:jD E N x (aS (Oa E N y Φ) I8) fr H):Oa E N (.seq x y) Φ fr H:=fun γ a w hD hs=>by
 refine wp_seq (wp_mono (h γ a w hs) fun e a w hl=>?_);cases e<;>simp only[lV,Exit.then,aS,I8]at *
 ·obtain⟨fr',H',h1,h2⟩:=hl;exact h2 γ a w hD h1
 ·obtain⟨_,_,_,h⟩:=hl;exact h.elim
 ·obtain⟨_,_,_,h⟩:=hl;exact h.elim
 obtain⟨_,_,_,_,_,_,_,_,h⟩:=hl;exact h.elim
theorem oE {x y:Code} (h: ∀K:Fr→Hp→Prop,(∀fr H,Oa E N y Φ fr H→K fr H)→jD E N x (aS K I8) fr H):Oa E N (.seq x y) Φ fr H:=Gh (h _ fun _ _ h=>h)
def iP:List AV→List Value
 |[]=>[]
 | .ptr sz b i j::l=> .pointer (some ⟨b,i *sz+j,none⟩)::iP l
 |_::l=> .nilFunc::iP l
def Mt (l:List AV):Bool:=l.all fun x=>match x with | .ptr _ _ _ _=>true|_=>false
theorem Gb {S:dV} {w:World}: ∀{l:List AV} {vs:List Value},Mt l=true→cB S w l vs→vs=iP l
 |[],vs,_,h=>by simpa only[cB,iP]using h
 |x::l,vs,hp,h=>by
  simp only[Mt,List.all_cons,aK]at hp;simp only[cB]at h;obtain⟨u,us,rfl,h1,h2⟩:=h;have h3:=Gb (l:=l) hp.2 h2;cases x<;>try (simp at hp;done)
  simp only[bM]at h1;simp only[iP,h1,h3]
theorem xN {S:dV} {w:World}: ∀{l:List AV},Mt l=true→cB S w l (iP l)
 |[],_=>by simp only[cB,iP]
 |x::l,hp=>by
  simp only[Mt,List.all_cons,aK]at hp;cases x<;>try (simp at hp;done)
  simp only[iP,cB,bM];exact⟨_,_,rfl,rfl,xN hp.2⟩
def oC (g:FuncId) (caps:List AV):Deferred:={target:= .fn (.func g) (iP caps).toArray,args:= #[]}
theorem xT {B:Code} {id t lo:Nat} {g:FuncId} {xs:List Operand} {ty1 ty2:TypeId} {p1 p2:String} {a1 a2:Array Edge} {Q:dI} {caps:List AV} (hcap:xs.map (ev E.G fr)=caps) (hp:Mt caps=true) (ht:t<N) (hN:N<1048576) (hlo:lo≤1048576)
  (h:jD E (N+1048576 *lo) B Q (upd fr t (.fn (.func g) [] caps)) H)
  (hΦ: ∀γ γ' e a w,γ'.w0=γ.w0→γ'.O=γ.O→γ'.S0=γ.S0→γ'.D=[oC g caps]→(∀p sz b i j,p<lo→p≠t→fr p= .ptr sz b i j→γ'.pin p= .pointer (some ⟨b,i *sz+j,none⟩))→lV E γ' (N+1048576 *lo) Q e a w→Φ γ e a w):
  Oa E N (.seq (.region id #[⟨some t, .makeFunc (.func g) #[] xs.toArray,ty1,p1,a1,none⟩,⟨none, .defer ⟨.value (.tmp t), #[], #[]⟩,ty2,p2,a2,none⟩] false) B) Φ fr H:=fun γ a w hD hs=>by
 obtain⟨hh,hsz,S,hst,hf⟩:=hs;have hsz':a.tmps.size=N:=by rw[hsz];omega
 have hl:cB S w caps (xs.map a.eval):=by
  rw[←hcap];clear hcap hp h hΦ
  induction xs with
  |nil=>simp only[List.map_nil,cB]
  |cons x xs ih=>simp only[List.map_cons,cB];exact⟨_,_,rfl,cV hst hf x,ih⟩
 have hv:=Gb hp hl;have hlt:t<a.tmps.size:=by omega
 have r1: ∀ops:Array Oper,(execOp a.eval (⟨some t, .makeFunc (.func g) #[] xs.toArray,ty1,p1,a1,none⟩:Oper)).run E.P w= .ok (.value (.func (.func g) #[] (iP caps).toArray)) w:=fun _=>by
  rw[←hv];simp [execOp,Instr.makeFunc]
 have hget:(a.put (some t) (.func (.func g) #[] (iP caps).toArray)).tmps.getD t Go.undef= .func (.func g) #[] (iP caps).toArray:=by
  simp [Act.put,Array.getD_eq_getD_getElem?,hlt]
 have r2:(execOp (a.put (some t) (.func (.func g) #[] (iP caps).toArray)).eval (⟨none, .defer ⟨.value (.tmp t), #[], #[]⟩,ty2,p2,a2,none⟩:Oper)).run E.P w= .ok (.defer (oC g caps)) w:=by
  simp only[execOp,resolve,Act.eval,hget];simp [Deferred.ofValue,oC]
 refine wp_seq (wp_region_list ?_);refine .inl ?_;simp only[Oper.wp,r1 #[]];refine .inl ?_;simp only[Oper.wp,r2,Oper.upon]
 let γ':fZ:=⟨γ.w0,γ.O,γ.S0,[oC g caps],fun p=>(a.put (some t) (.func (.func g) #[] (iP caps).toArray)).tmps.getD p Go.undef⟩
 have hst':St E γ' S H w:=⟨hst.lt,hst.base,hst.src,hst.obj,hst.ext,hst.glb⟩;have hdef:a.defers=[]:=hh.1.trans hD
 have hsim:yR E γ' (N+1048576 *lo) (upd fr t (.fn (.func g) [] caps)) H (Act.put {(a.put (some t) (.func (.func g) #[] (iP caps).toArray))with defers:=oC g caps::(a.put (some t) (.func (.func g) #[] (iP caps).toArray)).defers} none Go.undef) w:=by
  refine⟨⟨?_,fun p hp=>rfl⟩, ?_,S,hst',fun p=>?_⟩
  ·show oC g caps::a.defers=[oC g caps]
   rw[hdef]
  ·show(a.tmps.setIfInBounds t _).size=_
   rw[Array.size_setIfInBounds,hsz'];omega
  show bM S w _ ((a.put (some t) (.func (.func g) #[] (iP caps).toArray)).tmps.getD p Go.undef)
  have:=gC.put (d:=some t) hf (fun i hi=>by cases hi;exact hlt) (v:= .fn (.func g) [] caps) (v':= .func (.func g) #[] (iP caps).toArray) (by
   simp only[bM,cB]
   exact⟨[],iP caps,rfl,rfl,xN hp⟩)
  exact this p
 have hpin: ∀p sz b i j,p<lo→p≠t→fr p= .ptr sz b i j→γ'.pin p= .pointer (some ⟨b,i *sz+j,none⟩):=fun p sz b i j _ hne hfp=>by
  have h1:=hf p;rw[hfp]at h1;simp only[bM]at h1;show(a.tmps.setIfInBounds t _).getD p Go.undef=_;rw[←h1];simp only[Array.getD_eq_getD_getElem?];rw[Array.getElem?_setIfInBounds_ne (fun e=>hne e.symm)]
 exact wp_mono (h γ' _ w hsim) fun e a' w' hl=>hΦ γ γ' e a' w' rfl rfl rfl rfl hpin hl
end
end Go.Al
namespace Go.Al
open Go
def vI (E:fY) (Ng:Nat) (Bg:Code) (caps:List AV) (ds:Nat) (rs:List ResultVar) (Iu:Fr) (R:kD→Hp→Prop) (rv:AV) (H:Hp):Prop:=
 jD E Ng Bg (fun e _ H'=>(e= .normal∨e= .ret)∧ ∃v,aN E.P Iu H' rs=some v∧aW R v H') (upd (oI caps) ds rv) H
def Cj (D:AV→Hp→Prop):dI
 | .normal,_,H| .ret,_,H=>D .nif H
 | .pan v,_,H=>D v H
 | .exit _,_,_=>False
def Rc (E:fY) (fn:Func) (R:kD→Hp→Prop) (γ:fZ):Exit→Act→World→Prop:=
 bodyPostD E.P fn (fun e w'=> ∃ae H' S',St E γ S' H' w'∧oN S' w' ae e∧R ae H')
theorem Gs {S:dV} {w:World} {args:List AV} {vs:List Value} (hargs:cB S w args vs) (n:Nat):gC S w (oI args) {tmps:=vs.toArray++Array.replicate n Go.undef,defers:=[]}:=fun t=>by
 have hl:=hargs.length;simp only[oI];by_cases ht:t<args.length
 ·obtain⟨v,hv,hr⟩:=hargs.get t (aG ht)
  have e1:args.getD t (.tup [])=args[t]:=by simp [List.getD,ht]
  have e2:(vs.toArray++Array.replicate n Go.undef).getD t Go.undef=v:=by
   have hlt:t<vs.length:=by omega
   simp only[Array.getD_eq_getD_getElem?];rw[Array.getElem?_append_left (by simpa using hlt)];simp [hv]
  rw[e1,e2];exact hr
 have e1:args.getD t (.tup [])= .tup []:=by simp [List.getD,List.getElem?_eq_none (Nat.le_of_not_lt ht)]
 have e2:(vs.toArray++Array.replicate n Go.undef).getD t Go.undef=Go.undef:=by
  simp only[Array.getD_eq_getD_getElem?];rw[Array.getElem?_append_right (by simp;omega)];simp only[Array.getElem?_replicate];split<;>rfl
 rw[e1,e2];simp only[bM];exact⟨[],rfl,by simp only[cB]⟩
theorem Fw {E:fY} {f:FuncId} {fn:Func} {c:Code} {args:List AV} {H0:Hp} {R:kD→Hp→Prop} (N:Nat) (hf:E.P.funcs[f]?=some fn) (hb:fn.body=some c) (hname:(fn.name== "runtime.NumGoroutine")=false) (hN:args.length+(fn.ntmps-args.length)=N)
  (h:Oa E N c (Rc E fn R) (oI args) H0) (hN2:N/1048576=0:=by rfl):gK E f args H0 R:=by
 have hN3:N % 1048576=N:=by omega
 refine⟨⟨fn,hf,hname,by rw[hb];rfl⟩,fun w0 S0 vs hst hargs=>?_⟩;have hl:=hargs.length;refine calls_of_wp_defers hf hb ?_;refine h ⟨w0,Sw H0,S0,[],fun _=>Go.undef⟩ _ w0 rfl ⟨⟨rfl,fun t ht=>by omega⟩,by simp [hl,hN,hN3],S0,hst, ?_⟩;exact Gs hargs _
section
variable {E : fY} {R : kD → Hp → Prop}
theorem Ah {fn gfn:Func} {g:FuncId} {Bg:Code} {id ds Nx Ng:Nat} {ty:TypeId} {p:String} {af:Array Edge} {ts:Array TypeId} {caps:List AV} {rs:List ResultVar} {Iu:Fr}
  (hrs:fn.results.toList=rs) (hgf:E.P.funcs[g]?=some gfn) (hgn:(gfn.name== "runtime.NumGoroutine")=false) (hgb:gfn.body=some (.seq (.region id #[⟨some ds, .call ⟨.builtin .recover, #[],ts⟩,ty,p,af,none⟩] false) Bg)) (hgr:gfn.results= #[])
  (hgN:caps.length+(gfn.ntmps-caps.length)=Ng) (hds:ds<Ng) (hN2:Ng/1048576=0) (hp:Mt caps=true)
  {γ γ':fZ} (g1:γ'.w0=γ.w0) (g2:γ'.O=γ.O) (g3:γ'.S0=γ.S0) (g4:γ'.D=[oC g caps]) {e:Exit} {a:Act} {w:World}
  (hfr:Tw γ' Nx a→ ∀(S:dV) (w:World),gC S w Iu a)
  (hl:lV E γ' Nx (Cj (vI E Ng Bg caps ds rs Iu R)) e a w):Rc E fn R γ e a w:=by
 subst hrs;have hN3:Ng % 1048576=Ng:=by omega
 have key: ∀(u:FrameMode) (cs':Frame→FrameMode) (rv:AV) (rv':Value) (S:dV) (H:Hp),St E γ' S H w→bM S w rv rv'→Tw γ' Nx a→u≠ .run→vI E Ng Bg caps ds fn.results.toList Iu R rv H→
   (∀(c₀:Frame) (cs:List Frame),c₀.mode=u→(match recoverD (c₀::cs)with |some (v,l)=>v=rv'∧ ∃u',l={c₀ with mode:=u'}::cs∧settle u'= .returning|none=>rv'= .nilIface∧settle u= .returning))→
   Leaves E.P fn a.tmps (fun e w'=> ∃ae H' S',St E γ S' H' w'∧oN S' w' ae e∧R ae H') [oC g caps] u w:=by
  intro u _ rv rv' S H hst hrv hheld hu hD hrec
  have hinv:(invoke (.fn (.func g) (iP caps).toArray) #[]).run E.P w= .ok (.enter g (iP caps).toArray) w:=by
   have h1:gfn.name≠ "runtime.NumGoroutine" :=by simpa using hgn
   simp [invoke,callFunc,hgf,h1,hgb]
  refine leaves_cons (f:=g) (args:=(iP caps).toArray) hu hinv ?_;refine callsD_of_wpS hgf hgb fun c₀ cs hc=>?_;have hr:=hrec c₀ cs hc
  have hcl:(iP caps).length=caps.length:=by
   clear hinv hD hr hrec hrv hheld hst;clear hl hfr g4 hgN hp
   induction caps with
   |nil=>rfl
   |cons x l ih=>cases x<;>simp [iP,ih]
  have hst': ∀pin,St E ⟨γ.w0,γ.O,γ.S0,[],pin⟩ S H w:=fun pin=>⟨hst.lt,by rw[←g3];exact hst.base,by rw[←g1,←g2,←g3];exact hst.src,by rw[←g1,←g2];exact hst.obj,by rw[←g1,←g2];exact hst.ext,hst.glb⟩;have hact:gC S w (oI caps) {tmps:=(iP caps).toArray++Array.replicate (gfn.ntmps-(iP caps).toArray.size) Go.undef,defers:=[]}:=Gs (xN hp) _;have hsz:((iP caps).toArray++Array.replicate (gfn.ntmps-(iP caps).toArray.size) Go.undef).size=Ng:=by simp [hcl];omega
  have hgo: ∀l:List Frame,(∃u',l={c₀ with mode:=u'}::cs∧settle u'= .returning)→Bg.wpS E.P (bodyPostS E.P gfn c₀ cs fun e u' w'=>match e with
    | .returned _=>Leaves E.P fn a.tmps (fun e w'=> ∃ae H' S',St E γ S' H' w'∧oN S' w' ae e∧R ae H') [] (settle u') w'
    | .panicked chain=>Leaves E.P fn a.tmps (fun e w'=> ∃ae H' S',St E γ S' H' w'∧oN S' w' ae e∧R ae H') [] (raised u' chain) w'
    | .outgrown=> ∃ae H' S',St E γ S' H' w'∧oN S' w' ae .outgrown∧R ae H')
    (Act.put {tmps:=(iP caps).toArray++Array.replicate (gfn.ntmps-(iP caps).toArray.size) Go.undef,defers:=[]} (some ds) rv') l w:=by
   rintro l ⟨u',rfl,hset⟩;refine wpS_of_wp ?_
   have hsim:yR E ⟨γ.w0,γ.O,γ.S0,[],fun _=>Go.undef⟩ Ng (upd (oI caps) ds rv) H (Act.put {tmps:=(iP caps).toArray++Array.replicate (gfn.ntmps-(iP caps).toArray.size) Go.undef,defers:=[]} (some ds) rv') w:=by
    refine⟨⟨rfl,fun t ht=>by omega⟩, ?_,S,hst' _, ?_⟩
    ·simp only[Act.put,Array.size_setIfInBounds];rw[hsz,hN3]
    exact gC.put (d:=some ds) hact (fun i hi=>by cases hi;show ds<(_:Array Value).size;rw[hsz];exact hds) hrv
   refine wp_mono (hD _ _ w hsim) fun e' a' w' hl'=>?_
   have fin: ∀(fr':Fr) (H':Hp),yR E ⟨γ.w0,γ.O,γ.S0,[],fun _=>Go.undef⟩ Ng fr' H' a' w'→(∃v,aN E.P Iu H' fn.results.toList=some v∧aW R v H')→
     a'.defers=[]∧ ∃u'',({c₀ with mode:=u'}:Frame)::cs={c₀ with mode:=u''}::cs∧ ∃v,(results gfn a'.tmps).run E.P w'= .ok v w'∧Leaves E.P fn a.tmps (fun e w'=> ∃ae H' S',St E γ S' H' w'∧oN S' w' ae e∧R ae H') [] (settle u'') w':=by
    rintro fr' H' ⟨hh,_,S',hst2,_⟩ ⟨v,hv,hG⟩;refine⟨hh.1,u',rfl, .tuple #[],by simp [results,hgr], ?_⟩;rw[hset];have hst3:St E γ S' H' w':=⟨hst2.lt,hst2.base,hst2.src,hst2.obj,hst2.ext,hst2.glb⟩;obtain⟨x,hx,hxr⟩:=mO (fn:=fn) hst3 (hfr hheld S' w') hv;obtain⟨v',H2,ht,hR⟩:=hG;obtain⟨S2,_,s1,s2⟩:=ht _ _ _ _ _ hst3 hxr;exact⟨x,hx, .ret v',H2,S2,s1,by simp only[oN];exact⟨x,rfl,s2⟩,hR⟩
   cases e'<;>simp only[lV,bodyPostS]at hl'⊢
   ·obtain⟨fr',H',hs',_,hq⟩:=hl';exact fin fr' H' hs' hq
   ·obtain⟨fr',H',_,h,_⟩:=hl';simp at h
   ·obtain⟨fr',H',hs',_,hq⟩:=hl';exact fin fr' H' hs' hq
   obtain⟨_,_,_,_,_,_,_,_,h,_⟩:=hl';simp at h
  refine wpS_seq (wpS_region ?_)
  have hrun: ∀a0:Act,(execOp a0.eval (⟨some ds, .call ⟨.builtin .recover, #[],ts⟩,ty,p,af,none⟩:Oper)).run E.P w= .ok .recover w:=fun a0=>by
   simp [execOp,resolve,invoke,builtin]
  show wpOpsS E.P _ _ [0] _ _ w;simp only[wpOpsS,Region.wanted,if_true,hrun,List.getElem?_toArray,List.getElem?_cons_zero]
  cases hrr:recoverD (c₀::cs)with
  |none=>
   rw[hrr]at hr;obtain⟨rfl,hs⟩:=hr;exact hgo _ ⟨u,by subst hc;rfl,hs⟩
  |some x=>
   rw[hrr]at hr;obtain⟨v,l⟩:=x;obtain⟨rfl,hx⟩:=hr;exact hgo _ hx
 unfold Rc;cases e<;>simp only[lV,Cj,bodyPostD]at hl⊢
 ·obtain⟨fr,H,⟨hh,_,S,hst,_⟩,hD⟩:=hl
  rw[hh.1,g4]
  exact key .returning (fun _=> .run) .nif .nilIface S H hst (by simp only[bM]) hh (by simp) hD fun c₀ cs hc=>by
   simp [recoverD,hc,settle]
 ·obtain⟨_,_,_,h⟩:=hl;exact h.elim
 ·obtain⟨fr,H,⟨hh,_,S,hst,_⟩,hD⟩:=hl
  rw[hh.1,g4]
  exact key .returning (fun _=> .run) .nif .nilIface S H hst (by simp only[bM]) hh (by simp) hD fun c₀ cs hc=>by
   simp [recoverD,hc,settle]
 obtain⟨hh,v,v',S,H,rfl,hst,hv,hD⟩:=hl;rw[hh.1,g4]
 exact key (.panicking [{v:=v',recovered:=false}]) (fun _=> .run) v v' S H hst hv hh (by simp) hD fun c₀ cs hc=>by
  simp only[recoverD,hc];exact⟨by first|trivial|rfl,_,rfl,by simp [settle]⟩
end
end Go.Al
namespace Go.Al
def Qz:Option Code→Code
 |some (.seq _ y)=>y
 |_=> .skip
def Xm (v x:AV):Prop:= ∀s b n,x= .osl s b n→off v b
theorem cJ {v x:AV} (h:xB x=true):Xm v x:=fun s b n e=>by subst e;cases h
theorem Lj {b sz n:Nat} {l:List (List AV)} {x:AV} (h:Xm (.osl sz b n) x):frz b sz l x=x:=by
 cases x<;>try rfl
 rename_i s' b' n';rw[By,if_neg];rintro⟨rfl,_,_⟩;exact h _ _ _ rfl _ _ rfl
theorem sA {b sz n:Nat} {l:List (List AV)}: ∀{xs:List AV},(∀x∈xs,Xm (.osl sz b n) x)→xs.map (frz b sz l)=xs
 |[],_=>rfl
 |x::xs,h=>by rw[List.map_cons,Lj (h x (by simp)),sA fun y hy=>h y (by simp [hy])]
theorem Ak {b sz n:Nat} {l:List (List AV)}: ∀{xs:List (List AV)},(∀r∈xs, ∀x∈r,Xm (.osl sz b n) x)→xs.map (fun x=>x.map (frz b sz l))=xs
 |[],_=>rfl
 |x::xs,h=>by rw[List.map_cons,sA (h x (by simp)),Ak fun y hy=>h y (by simp [hy])]
theorem lO.mid {v w:AV} (h:oT v w) (post:List AV): ∀l:List AV,lO (l++v::post) (l++w::post)
 |[]=>lO.cons h (SubR_self post)
 |x::l=>lO.cons (oT.refl x) (lO.mid h post l)
where SubR_self: ∀l:List AV,lO l l
 |[]=> .nil
 |x::l=> .cons (oT.refl x) (SubR_self l)
theorem kS {E:fY} {N:Nat} {Q:dI} {c:Code} {fr:Fr} {H:Hp} {b0 sz sz':Nat} {pre post:List AV} {v:AV} {rows:List (List AV)} (hv:dS sz v rows H) (h0:H b0=some (.rows sz' [pre++v::post])) (hp: ∀x∈pre,Xm v x) (hq: ∀x∈post,Xm v x) (ho:off v b0)
  (h: ∀fr' H',(∀j,Xm v (fr j)→fr' j=fr j)→H' b0=some (.rows sz' [pre++ .isl sz rows::post])→(∀b s l,b≠b0→off v b→(∀r∈l, ∀x∈r,Xm v x)→H b=some (.rows s l)→H' b=some (.rows s l))→jD E N c Q fr' H'):jD E N c Q fr H:=by
 rcases hv with⟨rfl,rfl⟩|⟨b,rfl,hb⟩
 ·exact Nz h0 (lO.mid (oT.nsl sz) post pre) (h fr _ (fun _ _=>rfl) (bO _ _ _) (fun b s l hne _ _ hb=>by rw[bY _ _ hne];exact hb))
 refine qS hb (h _ _ (fun j hj=>Lj hj) ?_ fun b1 s l hne ho1 hf hb1=>?_)
 ·show(if b0=b then none else(H b0).map (Nk b sz rows))=_
  rw[if_neg (fun e=>ho _ _ (by rw[e])),h0];simp only[Option.map_some,Am,List.map_cons,List.map_nil,List.map_append,Sg,sA hp,sA hq]
 show(if b1=b then none else(H b1).map (Nk b sz rows))=_;rw[if_neg (fun e=>ho1 _ _ (by rw[e])),hb1];simp only[Option.map_some,Am,Ak hf]
end Go.Al
namespace Go.Al
section
variable {E : fY} {F : Nat → Prop} {ops : Array Oper} {Q : dI} {fr : Fr} {H : Hp}
theorem lJ (F:Nat→Prop) {N id:Nat} {l:List Oper} (hm:E.P.follows .mixedOrders=true) (hd:l.all (gI N)=true) (h:l.toArray.toList.all (gI N)=true→iI E (fun _=>F) l.toArray Q l.length (Array.replicate l.length false) fr H):jD E N (.region id l.toArray true) Q fr H:=fun γ a w hs=>by
 have hd':l.toArray.toList.all (gI N)=true:=by simpa using hd
 have:=wp_region_any hm (pU (G:=fun _=>F) hd' l.length (Array.replicate l.length false) fr H a _ hs.drew (h hd')) (id:=id);simpa using this
theorem eR {N n m:Nat} {L L':Array Bool} {l':List Oper} (plan:List (Nat×Nat)) (hd:ops.toList.all (gI N)=true) (hn:n=plan.length+m) (hc:Nu ops [] L plan=true) (hL:kK L plan=L') (he:cH ops.toList plan=l')
  (h:cQ E F (ops.toList.map (·.dst)) (aS (fun fr' H'=>iI E (fun _=>F) ops Q m L' fr' H') Q) l' fr H):iI E (fun _=>F) ops Q n L fr H:=by
 subst hn;subst hL;subst he;exact lS (T:=[]) (fun _ _=>rfl) hd plan L fr H hc h
def H6 (E:fY) (F:Nat→Prop) (ops:Array Oper) (Q:dI) (n:Nat) (L:Array Bool) (fr:Fr) (H:Hp):List Nat→Prop
 |[]=>True
 |i::r=>(match ops[i]? with |some o=>cQ E F (ops.toList.map (·.dst)) (aS (fun fr' H'=>iI E (fun _=>F) ops Q n (L.setIfInBounds i true) fr' H') Q) [o] fr H|none=>True)∧H6 E F ops Q n L fr H r
theorem Ls {n:Nat} {L:Array Bool}: ∀{l:List Nat},H6 E F ops Q n L fr H l→ ∀i∈l, ∀o,ops[i]?=some o→cQ E F (ops.toList.map (·.dst)) (aS (fun fr' H'=>iI E (fun _=>F) ops Q n (L.setIfInBounds i true) fr' H') Q) [o] fr H
 |j::l,h,i,hi,o,ho=>by
  simp only[H6]at h;rcases List.mem_cons.1 hi with rfl|hi
  ·rw[ho]at h;exact h.1
  exact Ls h.2 i hi o ho
theorem gL {N n:Nat} {L:Array Bool} {rl:List Nat} (hd:ops.toList.all (gI N)=true) (hr:Region.ready .any ops L=rl) (hne:rl≠[]) (h:H6 E F ops Q n L fr H rl):iI E (fun _=>F) ops Q (n+1) L fr H:=by
 refine⟨fun e=>absurd (hr.symm.trans e) hne,fun i hi o ho=>?_⟩;have:=Ls h i (by rw[←hr];exact hi) o ho
 have hdo:gI N o=true:=by
  rw[List.all_eq_true]at hd;exact hd o (Array.mem_toList_iff.2 (Array.mem_of_getElem? ho))
 rw[nP hdo]at this;exact this
theorem gF {L:Array Bool} (hr:Region.ready .any ops L=[]) (h:Q .normal fr H):iI E (fun _=>F) ops Q 0 L fr H:=⟨hr,h⟩
end
end Go.Al
