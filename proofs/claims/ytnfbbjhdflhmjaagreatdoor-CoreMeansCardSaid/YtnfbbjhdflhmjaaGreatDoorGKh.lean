/- Chapter 19, the program's: Run. -/
import Derived.Test.YtnfbbjhdflhmjaaGreatDoorGKe
import Derived.Test.YtnfbbjhdflhmjaaGreatDoorGLc
import Derived.Test.YtnfbbjhdflhmjaaGreatDoorGOd
import Derived.Test.YtnfbbjhdflhmjaaGreatDoorAl4
import Derived.Test.YtnfbbjhdflhmjaaGreatDoorCx
import Derived.Test.YtnfbbjhdflhmjaaGreatDoorSy1
import Derived.Test.YtnfbbjhdflhmjaaGreatDoorSy2
set_option linter.unusedSimpArgs false
set_option linter.unusedVariables false
set_option maxRecDepth 10000
namespace Go.Proofs.YtnfbbjhdflhmjaaGreatDoor
open Go.Al
theorem Jq {F:Nat→Prop} {ds:List (Option Nat)} {Q:dI} {d:Option Nat} {rest:List Oper} {fr:Fr} {H:Hp} {g:FuncId} {args:List AV} {cx:Kx} {W r w:Nat} {vo:AV} {b7:Nat} {l7:List (List AV)} {o:Rz (Option Int)}
  (hc:gK cN g args (upd H b7 none) (kY cx W r w vo (upd H b7 none) kT kU o)) (h7:H b7=some (.rows 1 l7)) (hF: ∀b,b≠b7→F b)
  (hp: ∀e s vo' H',o= .fin e s→fC cx W r w s vo' H'→H' b7=some (.rows 1 l7)→off vo' b7→(∀b x,H b=some x→b≠r→b≠w→off vo b→H' b=some x)→Q (.pan (Jf e)) An H')
  (hv: ∀p s vo' H',o= .val p s→fC cx W r w s vo' H'→H' b7=some (.rows 1 l7)→off vo' b7→(∀b x,H b=some x→b≠r→b≠w→off vo b→H' b=some x)→cQ cN F ds Q rest (dR fr d (kT p)) H'):nQ cN F ds Q d rest fr H g args:=by
 have nI:nI (upd H b7 none) H:=fun b x hb=>by
  by_cases e:b=b7
  ·subst e;rw[bO]at hb;cases hb
  rw[bY _ _ e]at hb;exact hb
 refine lL hc (fB.refl _) nI (fun b hb=>hF b fun e=>hb (by rw[e,bO])) fun ae H' ⟨vo',h1,h2,h3⟩ hnew=>?_
 have hn7:H' b7=none:=by
  cases hq:H' b7 with
  |none=>rfl
  |some x=>
   rcases hnew b7 (by rw[hq];exact bS _)with h|h
   ·exact absurd (bO _ _ _) h
   rw[h7]at h;cases h
 have hk: ∀b x,H' b=some x→gE H' (upd H b7 none) H b=some x:=fun b x hb=>by simp only[gE,hb]
 have g7:gE H' (upd H b7 none) H b7=some (.rows 1 l7):=by simp only[gE,hn7,bO,Option.isSome_none,Bool.false_eq_true,if_false];exact h7
 have go7:off vo' b7:=fun s n e=>h2.o.there s b7 n e hn7
 have gk: ∀b x,H b=some x→b≠r→b≠w→off vo b→gE H' (upd H b7 none) H b=some x:=fun b x hb q1 q2 q4=>by
  by_cases e:b=b7
  ·subst e;rw[g7,←h7,hb]
  exact hk b x (h3 b x (by rw[bY _ _ e];exact hb) q1 q2 q4).1
 have gR:=h2.sub hk
 cases o with
 |val p s=>
  obtain⟨h1,_⟩:=h1;subst h1;exact hv p s vo' _ rfl gR g7 go7 gk
 |fin e s=>
  subst h1;exact hp e s vo' _ rfl gR g7 go7 gk
def Ll (c:Co) (inp:cR) (fu:Int):Kx:=⟨c.funs,inp,(if fu<0 then 0 else fu).toNat⟩
set_option maxHeartbeats 8000000 in
theorem Lz (c:Co) (hw0:0≤c.words) (hx0:zH (Ll c [] 0) c.words.toNat) (hf1:1≤c.funs.length) (hf2:c.funs.length≤10000) (inp:cR) (hin:inp.length≤2000000) (fu:Int) (hfu:dA fu) {n:Nat} {e:Int} {out:cR} {t:Nat} (hrun:Qv (Ll c inp fu) n c.words.toNat=some (e,out,t)):
  dD cN 17 [c.av, .str inp, .int .i64 fu] (Em e out t):=by
 have hfl:((Ll c inp fu).fuel:Int)=if fu<0 then 0 else fu:=by
  show(((if fu<0 then 0 else fu).toNat:Nat):Int)=_;split<;>omega
 have hx:zH (Ll c inp fu) c.words.toNat:=⟨hin,by have:=hfu.2;split at hfl<;>omega,hx0.wl,hx0.funs,hx0.body⟩;have hlast:c.funs.length- 1<c.funs.length:=by omega
 have hg0:=aG hlast;have hgw:=hx.funs.body _ _ hg0;have hgb:=hx.body _ (bJ hlast);have hgl:c.funs.getLast?=some c.funs[c.funs.length- 1]:=by rw[List.getLast?_eq_getElem?,aG hlast]
 generalize c.funs[c.funs.length- 1]=g at hg0 hgw hgb hgl
 obtain⟨o,hev,hend⟩: ∃o,pE (Ll c inp fu) n g.body ⟨List.replicate c.words.toNat 0,[],0,[],0⟩=some o∧sF o=(e,out,t):=by
  unfold Qv at hrun;rw[show(Ll c inp fu).funs=c.funs from rfl,hgl]at hrun;simp only[Option.bind_some,aV]at hrun;exact hrun
 clear hrun;have hrowg:=Xp hg0;have hC:=I5 (cx:=Ll c inp fu) hx;have hcf:(Ll c inp fu).funs=c.funs:=rfl;have hci:(Ll c inp fu).inp=inp:=rfl;have hfu2:=hx.fuel;have hW:=hx.wl;have hWe:c.words=((c.words.toNat:Nat):Int):=by omega
 generalize c.words.toNat=W at *;have hav:c.av= .agg [.int .i64 (W:Int), .isl 5 (c.funs.map CF.row)]:=by unfold Co.av Co.row;rw[hWe]
 rw[hav];generalize Ll c inp fu=cx at *;have e1:(4:Int) *(W:Int)≤281474976710656:=by omega
 have e3:IntKind.wrap .i64 ((c.funs.length:Int)- 1)=((c.funs.length- 1:Nat):Int):=by rw[aR _ (by omega)];omega
 obtain⟨fl,hfl2⟩: ∃fl:Int,fl=(cx.fuel:Int):=⟨_,rfl⟩;have hflx:(if fu<0 then 0 else fu)=fl:=by rw[hfl2,hfl]
 have hzl:((c.funs.length- 1:Nat):Int)<(c.funs.length:Int):=by omega
 refine Fw 40 Tryz.func17 rfl rfl rfl ?_;refine oE fun _ y=>aA rfl ?_;simp only[RR,seval];refine aO fun b3 hn3=>?_;simp only[RR,seval];refine aO fun b6 hn6=>?_;have nb6_b3:b6≠b3:=fun e=>by rw[e]at hn6;simp only[RR,seval,reduceCtorEq]at hn6
 have nb3_b6:b3≠b6:=fun e=>nb6_b3 e.symm;simp only[RR,seval];apply y;clear y;refine oE fun K y=>?_;refine gP (fun fr M=> ∃b7 b12 b17,fr 3= .ptr 2 b3 0 0∧fr 6= .ptr 3 b6 0 0∧fr 7= .ptr 1 b7 0 0∧M b3=some (.rows 2 [[.int .i64 (W:Int), .isl 5 (c.funs.map CF.row)]])∧M b6=some (.rows 3 [[.int .i64 0, .str [], .int .i64 0]])∧M b7=some (.rows 1 [[.ptr 7 b17 0 0]])∧M b12=some (.rows 1 (List.replicate W [.int .u32 0]))∧M b17=some (.rows 7 [[.isl 5 (c.funs.map CF.row), .osl 1 b12 W, .str inp, .int .i64 0, .nsl, .int .i64 0, .int .i64 fl]])∧b7≠b12∧b3≠b6) (fun KR1 hKR1=>?_) ?_
 ·refine lJ (fun x=>x≠b3) cX (by kernel_rfl) fun hd=>?_
  refine eR [(0,3),(1,0),(2,3),(3,0),(5,3),(6,3),(7,3)] hd (m:=5) rfl (by kernel_rfl) rfl rfl ?_;simp only[cH,dY,nb3_b6,hflx,RR,seval];refine gL hd (by kernel_rfl:Region.ready .any _ _=[4,10]) (by simp) ⟨?_, ?_,trivial⟩
  ·simp only[e1,RR,seval]
   refine aO fun b12 hn12=>?_;have nb12_b3:b12≠b3:=fun e=>by rw[e]at hn12;simp only[nb3_b6,RR,seval,reduceCtorEq]at hn12
   have nb3_b12:b3≠b12:=fun e=>nb12_b3 e.symm;have nb12_b6:b12≠b6:=fun e=>by rw[e]at hn12;simp only[RR,seval,reduceCtorEq]at hn12
   have nb6_b12:b6≠b12:=fun e=>nb12_b6 e.symm;simp only[RR,seval];refine eR [(8,3)] hd (m:=3) rfl (by kernel_rfl) rfl rfl ?_;simp only[cH,RR,seval];refine gL hd (by kernel_rfl:Region.ready .any _ _=[9,10]) (by simp) ⟨?_, ?_,trivial⟩
   ·simp only[RR,seval]
    refine aO fun b17 hn17=>?_;have nb17_b3:b17≠b3:=fun e=>by rw[e]at hn17;simp only[nb3_b6,nb3_b12,RR,seval,reduceCtorEq]at hn17
    have nb3_b17:b3≠b17:=fun e=>nb17_b3 e.symm;have nb17_b6:b17≠b6:=fun e=>by rw[e]at hn17;simp only[nb6_b12,RR,seval,reduceCtorEq]at hn17
    have nb6_b17:b6≠b17:=fun e=>nb17_b6 e.symm;have nb17_b12:b17≠b12:=fun e=>by rw[e]at hn17;simp only[RR,seval,reduceCtorEq]at hn17
    have nb12_b17:b12≠b17:=fun e=>nb17_b12 e.symm;simp only[RR,seval];refine eR [(10,1),(11,1)] hd (m:=0) rfl (by kernel_rfl) rfl rfl ?_;simp only[cH,RR,seval];refine aO fun b7 hn7=>?_;have nb7_b3:b7≠b3:=fun e=>by rw[e]at hn7;simp only[nb3_b6,nb3_b12,nb3_b17,RR,seval,reduceCtorEq]at hn7
    have nb3_b7:b3≠b7:=fun e=>nb7_b3 e.symm;have nb7_b6:b7≠b6:=fun e=>by rw[e]at hn7;simp only[nb6_b12,nb6_b17,RR,seval,reduceCtorEq]at hn7
    have nb6_b7:b6≠b7:=fun e=>nb7_b6 e.symm;have nb7_b12:b7≠b12:=fun e=>by rw[e]at hn7;simp only[nb12_b17,RR,seval,reduceCtorEq]at hn7
    have nb12_b7:b12≠b7:=fun e=>nb7_b12 e.symm;have nb7_b17:b7≠b17:=fun e=>by rw[e]at hn7;simp only[RR,seval,reduceCtorEq]at hn7
    have nb17_b7:b17≠b7:=fun e=>nb7_b17 e.symm;simp only[nb7_b3,RR,seval];refine gF (by kernel_rfl) ?_;simp only[RR,seval];refine hKR1 _ _ ⟨b7,b12,b17,rfl,rfl,rfl, ?_, ?_, ?_, ?_, ?_,nb7_b12,nb3_b6⟩<;>first|rfl|(simp only[nb3_b6,nb3_b12,nb6_b12,nb3_b17,nb6_b17,nb12_b17,nb3_b7,nb6_b7,nb12_b7,nb17_b7,aJ,seval];done)|(simp only[nb6_b3,nb3_b6,nb12_b3,nb3_b12,nb12_b6,nb6_b12,nb17_b3,nb3_b17,nb17_b6,nb6_b17,nb17_b12,nb12_b17,nb7_b3,nb3_b7,nb7_b6,nb6_b7,nb7_b12,nb12_b7,nb7_b17,nb17_b7,e1,e3,hflx,hzl,hrowg,aD,aJ,RR,seval];rfl)
   simp only[RR,seval];refine aO fun b7 hn7=>?_;have nb7_b3:b7≠b3:=fun e=>by rw[e]at hn7;simp only[nb3_b6,nb3_b12,RR,seval,reduceCtorEq]at hn7
   have nb3_b7:b3≠b7:=fun e=>nb7_b3 e.symm;have nb7_b6:b7≠b6:=fun e=>by rw[e]at hn7;simp only[nb6_b12,RR,seval,reduceCtorEq]at hn7
   have nb6_b7:b6≠b7:=fun e=>nb7_b6 e.symm;have nb7_b12:b7≠b12:=fun e=>by rw[e]at hn7;simp only[RR,seval,reduceCtorEq]at hn7
   have nb12_b7:b12≠b7:=fun e=>nb7_b12 e.symm;simp only[RR,seval];refine eR [(9,1),(11,1)] hd (m:=0) rfl (by kernel_rfl) rfl rfl ?_;simp only[cH,RR,seval];refine aO fun b17 hn17=>?_;have nb17_b3:b17≠b3:=fun e=>by rw[e]at hn17;simp only[nb3_b6,nb3_b12,nb3_b7,RR,seval,reduceCtorEq]at hn17
   have nb3_b17:b3≠b17:=fun e=>nb17_b3 e.symm;have nb17_b6:b17≠b6:=fun e=>by rw[e]at hn17;simp only[nb6_b12,nb6_b7,RR,seval,reduceCtorEq]at hn17
   have nb6_b17:b6≠b17:=fun e=>nb17_b6 e.symm;have nb17_b12:b17≠b12:=fun e=>by rw[e]at hn17;simp only[nb12_b7,RR,seval,reduceCtorEq]at hn17
   have nb12_b17:b12≠b17:=fun e=>nb17_b12 e.symm;have nb17_b7:b17≠b7:=fun e=>by rw[e]at hn17;simp only[RR,seval,reduceCtorEq]at hn17
   have nb7_b17:b7≠b17:=fun e=>nb17_b7 e.symm;simp only[nb7_b3,nb7_b17,RR,seval];refine gF (by kernel_rfl) ?_;simp only[RR,seval];refine hKR1 _ _ ⟨b7,b12,b17,rfl,rfl,rfl, ?_, ?_, ?_, ?_, ?_,nb7_b12,nb3_b6⟩<;>first|rfl|(simp only[nb3_b6,nb3_b12,nb6_b12,nb3_b7,nb6_b7,nb12_b7,nb3_b17,nb6_b17,nb12_b17,nb17_b7,aJ,seval];done)|(simp only[nb6_b3,nb3_b6,nb12_b3,nb3_b12,nb12_b6,nb6_b12,nb7_b3,nb3_b7,nb7_b6,nb6_b7,nb7_b12,nb12_b7,nb17_b3,nb3_b17,nb17_b6,nb6_b17,nb17_b12,nb12_b17,nb17_b7,nb7_b17,e1,e3,hflx,hzl,hrowg,aD,aJ,RR,seval];rfl)
  simp only[RR,seval];refine aO fun b7 hn7=>?_;have nb7_b3:b7≠b3:=fun e=>by rw[e]at hn7;simp only[nb3_b6,RR,seval,reduceCtorEq]at hn7
  have nb3_b7:b3≠b7:=fun e=>nb7_b3 e.symm;have nb7_b6:b7≠b6:=fun e=>by rw[e]at hn7;simp only[RR,seval,reduceCtorEq]at hn7
  have nb6_b7:b6≠b7:=fun e=>nb7_b6 e.symm;simp only[RR,seval];refine eR [(4,1),(8,3),(9,1),(11,1)] hd (m:=0) rfl (by kernel_rfl) rfl rfl ?_;simp only[cH,e1,RR,seval];refine aO fun b12 hn12=>?_;have nb12_b3:b12≠b3:=fun e=>by rw[e]at hn12;simp only[nb3_b6,nb3_b7,RR,seval,reduceCtorEq]at hn12
  have nb3_b12:b3≠b12:=fun e=>nb12_b3 e.symm;have nb12_b6:b12≠b6:=fun e=>by rw[e]at hn12;simp only[nb6_b7,RR,seval,reduceCtorEq]at hn12
  have nb6_b12:b6≠b12:=fun e=>nb12_b6 e.symm;have nb12_b7:b12≠b7:=fun e=>by rw[e]at hn12;simp only[RR,seval,reduceCtorEq]at hn12
  have nb7_b12:b7≠b12:=fun e=>nb12_b7 e.symm;simp only[RR,seval];refine aO fun b17 hn17=>?_;have nb17_b3:b17≠b3:=fun e=>by rw[e]at hn17;simp only[nb3_b6,nb3_b7,nb3_b12,RR,seval,reduceCtorEq]at hn17
  have nb3_b17:b3≠b17:=fun e=>nb17_b3 e.symm;have nb17_b6:b17≠b6:=fun e=>by rw[e]at hn17;simp only[nb6_b7,nb6_b12,RR,seval,reduceCtorEq]at hn17
  have nb6_b17:b6≠b17:=fun e=>nb17_b6 e.symm;have nb17_b7:b17≠b7:=fun e=>by rw[e]at hn17;simp only[nb7_b12,RR,seval,reduceCtorEq]at hn17
  have nb7_b17:b7≠b17:=fun e=>nb17_b7 e.symm;have nb17_b12:b17≠b12:=fun e=>by rw[e]at hn17;simp only[RR,seval,reduceCtorEq]at hn17
  have nb12_b17:b12≠b17:=fun e=>nb17_b12 e.symm;simp only[nb7_b3,nb7_b12,nb7_b17,RR,seval];refine gF (by kernel_rfl) ?_;simp only[RR,seval];refine hKR1 _ _ ⟨b7,b12,b17,rfl,rfl,rfl, ?_, ?_, ?_, ?_, ?_,nb7_b12,nb3_b6⟩<;>first|rfl|(simp only[nb3_b6,nb3_b7,nb6_b7,nb3_b12,nb6_b12,nb12_b7,nb3_b17,nb6_b17,nb17_b7,nb12_b17,aJ,seval];done)|(simp only[nb6_b3,nb3_b6,nb7_b3,nb3_b7,nb7_b6,nb6_b7,nb12_b3,nb3_b12,nb12_b6,nb6_b12,nb12_b7,nb7_b12,nb17_b3,nb3_b17,nb17_b6,nb6_b17,nb17_b7,nb7_b17,nb17_b12,nb12_b17,e1,e3,hflx,hzl,hrowg,aD,aJ,RR,seval];rfl)
 rintro F1 M1 ⟨b7,b12,b17,f3,f6,f7,hb3,hb6,hb7,hb12,hb17,nb7_b12,nb3_b6⟩;simp only[iE];apply y;clear y;have nb12_b7:b12≠b7:=fun e=>nb7_b12 e.symm;have nb6_b3:b6≠b3:=fun e=>nb3_b6 e.symm;have nb3_b7:b3≠b7:=fun e=>by rw[e,hb7]at hb3;cases hb3
 have nb3_b12:b3≠b12:=fun e=>by rw[e,hb12]at hb3;cases hb3
 have nb3_b17:b3≠b17:=fun e=>by rw[e,hb17]at hb3;cases hb3
 have nb6_b7:b6≠b7:=fun e=>by rw[e,hb7]at hb6;cases hb6
 have nb6_b12:b6≠b12:=fun e=>by rw[e,hb12]at hb6;cases hb6
 have nb6_b17:b6≠b17:=fun e=>by rw[e,hb17]at hb6;cases hb6
 have nb7_b3:b7≠b3:=fun e=>by rw[e,hb3]at hb7;cases hb7
 have nb7_b6:b7≠b6:=fun e=>by rw[e,hb6]at hb7;cases hb7
 have nb7_b17:b7≠b17:=fun e=>by rw[e,hb17]at hb7;cases hb7
 have nb12_b3:b12≠b3:=fun e=>by rw[e,hb3]at hb12;cases hb12
 have nb12_b6:b12≠b6:=fun e=>by rw[e,hb6]at hb12;cases hb12
 have nb12_b17:b12≠b17:=fun e=>by rw[e,hb17]at hb12;cases hb12
 have nb17_b3:b17≠b3:=fun e=>by rw[e,hb3]at hb17;cases hb17
 have nb17_b6:b17≠b6:=fun e=>by rw[e,hb6]at hb17;cases hb17
 have nb17_b7:b17≠b7:=fun e=>by rw[e,hb7]at hb17;cases hb17
 have nb17_b12:b17≠b12:=fun e=>by rw[e,hb12]at hb17;cases hb17
 refine xT (lo:=7) (caps:=[.ptr 1 b7 0 0, .ptr 3 b6 0 0]) (Q:=Cj (vI cN 23 Bg [.ptr 1 b7 0 0, .ptr 3 b6 0 0] 5 [.cell 6 43] (Iu b6) (fun ae H'=>ae= .ret (Em e out t)∧H'=oV))) (by simp only[List.map_cons,List.map_nil,f6,f7,RR,seval]) rfl (by decide) (by decide) (by decide) ?_ ?_
 rotate_left
 ·intro γ γ' e' a' w' g1 g2 g3 g4 hpin hl
  refine Ah (Ng:=23) (fn:=Tryz.f17) (gfn:=Tryz.f35) rfl Tryz.func35 rfl rfl rfl rfl (by decide) rfl rfl g1 g2 g3 g4 (fun hh S w tt=>?_) hl;show bM S w (Iu b6 tt) _;unfold Iu;by_cases ht:tt=6
  ·subst ht
   rw[bO,hh.2 6 (by decide),hpin 6 3 b6 0 0 (by decide) (by decide) (by simp only[f6,seval])];simp only[bM]
  rw[bY _ _ ht];simp only[bM]
 refine bL fun FS HS hfr hH=>?_;have f3:FS 3= .ptr 2 b3 0 0:=(hfr 3).trans (by simp only[aJ,f3,seval]);have f6:FS 6= .ptr 3 b6 0 0:=(hfr 6).trans (by simp only[aJ,f6,seval]);have f7:FS 7= .ptr 1 b7 0 0:=(hfr 7).trans (by simp only[aJ,f7,seval]);have hb3:=(hH b3).trans hb3;have hb6:=(hH b6).trans hb6;have hb7:=(hH b7).trans hb7;have hb12:=(hH b12).trans hb12;have hb17:=(hH b17).trans hb17;have hR:fC cx W b17 b12 ⟨List.replicate W 0,[],0,[],0⟩ .nsl HS:=⟨by rw[hcf,hci,←hfl2];simpa using hb17,by simpa [cZ]using hb12, .inl ⟨rfl,rfl⟩,(fun _ _ h=>by cases h),(fun x hx=>by rw[List.eq_of_mem_replicate hx];exact Vz),by simp,Nat.zero_le _,Nat.zero_le _,by simp⟩;have hR1:=hR.other nb7_b17 nb7_b12 (fun _ _ h=>by cases h) none;have hL:=(hC b17 b12 n).L (c.funs.length- 1) g.body _ .nsl _ o hgb hgw hR1 hev;clear hfr hH;refine aB fun K y=>?_;refine bB (fun x=>x≠b7) [(0,1),(1,3),(2,1),(3,3),(4,1),(5,3),(6,3),(7,3),(8,3),(9,1),(10,1)] [] cX (by kernel_rfl) rfl rfl ?_;simp only[cH,f3,f7,hb3,hb7,e3,hrowg,aD,RR,seval];refine Jq (b7:=b7) hL hb7 (fun b hb=>hb) ?_ ?_
 ·intro e' s vo' H' he' hR' h7' ho7' hk'
  subst he';simp only[sF,Prod.mk.injEq]at hend;obtain⟨rfl,rfl,rfl⟩:=hend;simp only[bR];exact Zs b7 b6 H' _ _ hR' h7' ho7' (hk' b6 _ hb6 nb6_b17 nb6_b12 (fun _ _ h=>by cases h)) ⟨rfl,rfl⟩
 intro p s vo' H' he' hR' h7' ho7' hk';subst he';simp only[sF,Prod.mk.injEq]at hend;obtain⟨rfl,rfl,rfl⟩:=hend;have hb6':=hk' b6 _ hb6 nb6_b17 nb6_b12 (fun _ _ h=>by cases h);simp only[kT,RR,seval];apply y;clear y;refine fC.seal hR' fun FT HT hft hr2 hk2=>?_;have f6:FT 6= .ptr 3 b6 0 0:=(hft 6 (by simp only[aJ,f6,seval];rfl)).trans (by simp only[aJ,f6,seval]);have f7:FT 7= .ptr 1 b7 0 0:=(hft 7 (by simp only[aJ,f7,seval];rfl)).trans (by simp only[aJ,f7,seval]);have hb7:=hk2 b7 _ _ nb7_b17 ho7' (fun r hr x hx=>by simp only[List.mem_singleton]at hr;subst hr;simp only[List.mem_singleton]at hx;subst hx;rfl) h7';have hb6:=hk2 b6 _ _ nb6_b17 (hR'.o.offsz hb6' (by decide)) (fun r hr x hx=>by simp only[List.mem_singleton]at hr;subst hr;simp only[List.mem_cons,List.not_mem_nil,or_false]at hx;rcases hx with rfl|rfl|rfl<;>rfl) hb6';have hb17:=hr2;have hbb:=xQ s.out;clear hk2 hft hr2 hk';refine aB fun K y=>?_;refine bB (fun x=>x≠b6∧x≠b7∧x≠b17) [(0,1),(1,3),(2,3),(3,1),(4,3),(5,1),(6,3),(7,3),(8,1),(9,3)] [(10,1)] cX (by kernel_rfl) rfl rfl ?_;simp only[cH,f6,f7,hb6,hb7,hb17,hbb,RR,seval];apply y;clear y;refine aQ ?_;exact Zt b7 b6 _ _ 1 s.out s.ticks (by first|exact bO _ _ _|(simp only[aJ,seval];rfl)) ⟨rfl,rfl⟩
end Go.Proofs.YtnfbbjhdflhmjaaGreatDoor
namespace Go.Proofs.YtnfbbjhdflhmjaaGreatDoor
open Go.Al
def xF:Fu:=⟨[102],[[97]],[],true,[.mk 7 [] [.mk 2 0 0 [97] []] [] []]⟩
def xM:Fu:=⟨[109,97,105,110],[],[],false,[.mk 1 [120] [.mk 4 0 0 [102] [.mk 1 0 65 [] []]] [] [], .mk 3 [] [.mk 2 0 0 [120] []] [] []]⟩
def xP:Pg:=⟨[[120]],[],[xF,xM]⟩
def Tz:CF:=⟨1,1,1,true,[.mk 7 0 0 [.mk 2 0 0 1 0 []] [] []]⟩
def Ty:CF:=⟨0,0,2,false,[.mk 1 0 0 [.mk 4 0 0 0 0 [.mk 1 0 65 0 0 []]] [] [], .mk 3 0 0 [.mk 2 0 0 0 0 []] [] []]⟩
def xC:Co:=⟨2,[Tz,Ty]⟩
theorem Ux (k o n:Int) (s:cR) (l:List Ex) (hk:dA k) (ho:dA o) (hn:cC n) (hs:cY s) (hl:Cw l):(Ex.mk k o n s l).ok:= .mk k o n s l hk ho hn hs hl.fit hl.all
theorem Rw:Cw []:=⟨by simp [cY],by simp⟩
theorem Le {e:Ex} (h:e.ok):Cw [e]:=⟨by simp [cY],by simpa using h⟩
theorem Kr:Af []:=⟨by simp [cY],by simp⟩
theorem Yp (k:Int) (s:cR) (l:List Ex) (hk:dA k) (hs:cY s) (hl:Cw l):(Sm.mk k s l [] []).ok:= .mk k s l [] [] hk hs hl Kr.fit Kr.all Kr.fit Kr.all
theorem E1:xP.few:=by
 have x97:=Ux 2 0 0 [97] [] (by simp [dA]) (by simp [dA]) (by simp [cC]) (by simp [cY]) Rw;have x120:=Ux 2 0 0 [120] [] (by simp [dA]) (by simp [dA]) (by simp [cC]) (by simp [cY]) Rw;have x65:=Ux 1 0 65 [] [] (by simp [dA]) (by simp [dA]) (by simp [cC]) (by simp [cY]) Rw;have xc:=Ux 4 0 0 [102] [.mk 1 0 65 [] []] (by simp [dA]) (by simp [dA]) (by simp [cC]) (by simp [cY]) (Le x65);have s7:=Yp 7 [] _ (by simp [dA]) (by simp [cY]) (Le x97);have s1:=Yp 1 [120] _ (by simp [dA]) (by simp [cY]) (Le xc);have s3:=Yp 3 [] _ (by simp [dA]) (by simp [cY]) (Le x120)
 have lE2:Af [Sm.mk 1 [120] [.mk 4 0 0 [102] [.mk 1 0 65 [] []]] [] [], .mk 3 [] [.mk 2 0 0 [120] []] [] []]:=⟨by simp [cY],fun e he=>by
  simp only[List.mem_cons,List.not_mem_nil,or_false]at he;rcases he with rfl|rfl
  ·exact s1
  exact s3⟩
 have f1:xF.ok:=⟨by simp [cY,xF],⟨by simp [cY,xF],by simp [cY,xF]⟩,⟨by simp [cY,xF],by simp [xF]⟩,⟨by simp [cY,xF],by simpa [xF]using s7⟩⟩;have f2:xM.ok:=⟨by simp [cY,xM],⟨by simp [cY,xM],by simp [xM]⟩,⟨by simp [cY,xM],by simp [xM]⟩,lE2⟩;refine⟨⟨⟨by simp [cY,xP],by simp [cY,xP]⟩,by simp [cY,xP],by simp [xP],by simp [cY,xP],fun f hf=>?_⟩,by simp [xP],by simp [xP],by simp [xP],fun f hf=>?_⟩
 ·simp only[xP,List.mem_cons,List.not_mem_nil,or_false]at hf
  rcases hf with rfl|rfl
  ·exact f1
  exact f2
 simp only[xP,List.mem_cons,List.not_mem_nil,or_false]at hf;rcases hf with rfl|rfl
 ·refine⟨by simp [xF],by simp [xF], ?_⟩
  show gA [_]≤_;simp [gA,Sm.sz,iJ,Ex.sz]
 refine⟨by simp [xM],by simp [xM], ?_⟩;show gA [_,_]≤_;simp [gA,Sm.sz,iJ,Ex.sz]
theorem Ul:eM xP=0:=by
 simp only[eM,eH,eV,xP,xF,xM,List.all_cons,List.all_nil,gG,rD,iM,gH,jN,iL,jO,fW,nA,iY,gD,dB,eB,cT,dG,Ex.kids,Sm.es,Sm.thn,Sm.els]
 decide+kernel
theorem I7:uJ xP=(xC,0):=by
 unfold uJ;rw[if_pos Ul,if_pos (by decide+kernel)]
 have :Fv xP=xC:=by
  simp only[Fv,dX,eA,Bs,xP,xF,xM,xC,Tz,Ty,pK,H5,List.map_cons,List.map_nil,rM,Jl,sT,Ns,fG,eC];rfl
 rw[this]
theorem C5:Qv (Ll xC [] 9) 20 2=some (1,[65],1):=by decide+kernel
theorem Xk:Mm xC=7:=by decide+kernel
theorem Mu:dD cN 21 [] xP.av:=by
 refine Mv (v:= .agg [.isl 1 [[.str [120]]], .nsl, .isl 5 [[.str [102], .isl 1 [[.str [97]]], .nsl, .bool true, .isl 5 [[.int .i64 7, .str [], .isl 5 [[.int .i64 2, .int .i64 0, .int .u32 0, .str [97], .nsl]], .nsl, .nsl]]],
  [.str [109,97,105,110], .nsl, .nsl, .bool false, .isl 5 [[.int .i64 1, .str [120], .isl 5 [[.int .i64 4, .int .i64 0, .int .u32 0, .str [102], .isl 5 [[.int .i64 1, .int .i64 0, .int .u32 65, .str [], .nsl]]]], .nsl, .nsl],[.int .i64 3, .str [], .isl 5 [[.int .i64 2, .int .i64 0, .int .u32 0, .str [120], .nsl]], .nsl, .nsl]]]]]) ?_ ?_
 ·skip
  refine bD 26 [.cell 0 26] Tryz.func21 rfl rfl rfl rfl ?_;refine aB fun _ y=>aA rfl ?_;simp only[RR,seval];refine aO fun b0 hn0=>?_;simp only[RR,seval];apply y;clear y;refine aB fun _ y=>aA rfl ?_;simp only[RR,seval];refine dH ?_;simp only[RR,seval];refine dH ?_;simp only[RR,seval];refine dH ?_;simp only[RR,seval];refine aO fun b1 hn1=>?_;have nb1_b0:b1≠b0:=fun e=>by rw[e]at hn1;simp only[RR,seval,reduceCtorEq]at hn1
  have nb0_b1:b0≠b1:=fun e=>nb1_b0 e.symm;simp only[RR,seval];apply y;clear y;refine aB fun _ y=>aA rfl ?_;simp only[RR,seval];refine dH ?_;simp only[RR,seval];refine aO fun b2 hn2=>?_;have nb2_b0:b2≠b0:=fun e=>by rw[e]at hn2;simp only[nb0_b1,RR,seval,reduceCtorEq]at hn2
  have nb0_b2:b0≠b2:=fun e=>nb2_b0 e.symm;have nb2_b1:b2≠b1:=fun e=>by rw[e]at hn2;simp only[RR,seval,reduceCtorEq]at hn2
  have nb1_b2:b1≠b2:=fun e=>nb2_b1 e.symm;simp only[RR,seval];apply y;clear y;refine aB fun _ y=>aA rfl ?_;simp only[RR,seval];refine dH ?_;simp only[RR,seval];refine dH ?_;simp only[RR,seval];refine dH ?_;simp only[RR,seval];refine aO fun b3 hn3=>?_;have nb3_b0:b3≠b0:=fun e=>by rw[e]at hn3;simp only[nb0_b1,nb0_b2,RR,seval,reduceCtorEq]at hn3
  have nb0_b3:b0≠b3:=fun e=>nb3_b0 e.symm;have nb3_b1:b3≠b1:=fun e=>by rw[e]at hn3;simp only[nb1_b2,RR,seval,reduceCtorEq]at hn3
  have nb1_b3:b1≠b3:=fun e=>nb3_b1 e.symm;have nb3_b2:b3≠b2:=fun e=>by rw[e]at hn3;simp only[RR,seval,reduceCtorEq]at hn3
  have nb2_b3:b2≠b3:=fun e=>nb3_b2 e.symm;simp only[RR,seval];apply y;clear y;refine aB fun _ y=>aA rfl ?_;simp only[RR,seval];refine dH ?_;simp only[nb1_b2,nb1_b3,RR,seval];refine dH ?_;simp only[nb0_b1,nb0_b2,nb0_b3,RR,seval];apply y;clear y;refine aQ ?_;simp only[aX,aN,bI,RR,seval];refine aW.pure ?_;rfl
 simp only[xP,xF,xM,Pg.av,Pg.row,Fu.row,Ex.row_eq,Sm.row_eq,List.map_cons,List.map_nil,bK,Ex.kind,Ex.op,Ex.num,Ex.name,Ex.kids,Sm.kind,Sm.name,Sm.es,Sm.thn,Sm.els];refine oT.aggR ?_
 repeat' (first|exact lO.nil|exact qX.nil|exact oT.refl _|exact oT.nsl _|refine lO.cons ?_ ?_|refine qX.cons ?_ ?_|refine oT.isl ?_)
end Go.Proofs.YtnfbbjhdflhmjaaGreatDoor
namespace Go.Proofs.YtnfbbjhdflhmjaaGreatDoor
open Go.Al
theorem Xn {c:Co} (h:Zu c):zH (Ll c [] 0) c.words.toNat:=
 ⟨by simp [Ll],by simp [Ll],by have:=h.words;omega,by rw[Int.toNat_of_nonneg h.words.1];exact h.funs,fun f hf=>(h.ok.funs f hf).body⟩
theorem Lp (k o n a z:Int) (l:List CE) (hk:dA k) (ho:dA o) (hn:cC n) (ha:dA a) (hz:dA z) (hl:vE l):(CE.mk k o n a z l).ok:= .mk k o n a z l hk ho hn ha hz hl.fit hl.all
theorem Td:vE []:=⟨by simp [cY],by simp⟩
theorem Lq {e:CE} (h:e.ok):vE [e]:=⟨by simp [cY],by simpa using h⟩
theorem Sy (k a z:Int) (l:List CE) (hk:dA k) (ha:dA a) (hz:dA z) (hl:vE l):(CS.mk k a z l [] []).ok:= .mk k a z l [] [] hk ha hz hl (by simp [cY]) (by simp) (by simp [cY]) (by simp)
theorem A0:xC.ok:=by
 have e1:=Lp 2 0 0 1 0 [] (by simp [dA]) (by simp [dA]) (by simp [cC]) (by simp [dA]) (by simp [dA]) Td;have e2:=Lp 2 0 0 0 0 [] (by simp [dA]) (by simp [dA]) (by simp [cC]) (by simp [dA]) (by simp [dA]) Td;have e3:=Lp 1 0 65 0 0 [] (by simp [dA]) (by simp [dA]) (by simp [cC]) (by simp [dA]) (by simp [dA]) Td;have e4:=Lp 4 0 0 0 0 _ (by simp [dA]) (by simp [dA]) (by simp [cC]) (by simp [dA]) (by simp [dA]) (Lq e3);have s7:=Sy 7 0 0 _ (by simp [dA]) (by simp [dA]) (by simp [dA]) (Lq e1);have s1:=Sy 1 0 0 _ (by simp [dA]) (by simp [dA]) (by simp [dA]) (Lq e4);have s3:=Sy 3 0 0 _ (by simp [dA]) (by simp [dA]) (by simp [dA]) (Lq e2);have f1:Tz.ok:=⟨by simp [dA,Tz],by simp [dA,Tz],by simp [dA,Tz],⟨by simp [cY,Tz],by simpa [Tz]using s7⟩⟩;have f2:Ty.ok:=⟨by simp [dA,Ty],by simp [dA,Ty],by simp [dA,Ty],⟨by simp [cY,Ty],by simpa [Ty]using⟨s1,s3⟩⟩⟩;exact⟨by simp [dA,xC],by simp [cY,xC],by simpa [xC]using⟨f1,f2⟩⟩
theorem Ou:tE xC=true:=by
 simp only[tE,xC,Tz,Ty,jT,fT,rT,gN,rU]
 decide+kernel
theorem A3:Zu xC:=Xu A0 Ou
set_option maxHeartbeats 2000000 in
theorem uC:dD cN 6 [] (.bool true):=by
 have e1:=Mu;have e2:=Tt xP E1;rw[I7]at e2;have e3:=Lz xC (by simp [xC]) (Xn A3) (by simp [xC]) (by simp [xC]) [] (by simp) 9 (by simp [dA]) C5;have e4:=Ac 1 1 [65] [65] 1 1;have e5:=Ny xC (by rw[Xk];decide) (by simp [xC]);rw[Xk]at e5;have hr:Ra (1,[65],1) (1,[65],1)=true:=by decide
 rw[hr]at e4;obtain⟨B1,B2,hB⟩: ∃B1 B2,xC.av= .agg [.int .i64 2, .isl 5 [[.int .i64 1, .int .i64 1, .int .i64 1, .bool true,B1],[.int .i64 0, .int .i64 0, .int .i64 2, .bool false,B2]]]:=⟨_,_,rfl⟩;have hv:Em 1 [65] 1= .agg [.int .i64 1, .str [65], .int .i64 1]:=rfl
 have hob:one B1=true∧one B2=true:=by
  have h1:xC.av= .agg [.int .i64 2, .isl 5 [[.int .i64 1, .int .i64 1, .int .i64 1, .bool true, .isl 6 (Tz.body.map CS.row)],[.int .i64 0, .int .i64 0, .int .i64 2, .bool false, .isl 6 (Ty.body.map CS.row)]]]:=rfl;rw[h1]at hB;simp only[AV.agg.injEq,List.cons.injEq,AV.isl.injEq,true_and,and_true]at hB;obtain⟨h2,h3⟩:=hB;subst h2;subst h3;exact⟨rfl,rfl⟩
 rw[hv]at e3;simp only[hB]at e2 e3 e5;generalize xP.av=pv at *;refine bD 48 [.tmp 0] Tryz.func6 rfl rfl rfl rfl ?_;refine aB fun _ y=>aA rfl ?_;simp only[RR,seval];apply y;clear y;refine aB fun _ y=>aA rfl ?_;simp only[RR,seval];refine aU (e1) ?_;simp only[RR,seval];refine aU (e2) ?_;simp only[RR,seval];refine aO fun b1 hn1=>?_;simp only[RR,seval];apply y;clear y;refine aB fun _ y=>aA rfl ?_;simp only[RR,seval];refine aU (e3) ?_;simp only[RR,seval];refine aU (e4) ?_;simp only[RR,seval];refine aU (e5) ?_;simp only[RR,seval];apply y;clear y;refine aQ ?_;simp only[aX,aN,bI,RR,seval];refine aW.pure ?_;rfl
end Go.Proofs.YtnfbbjhdflhmjaaGreatDoor
namespace Go.Proofs.YtnfbbjhdflhmjaaGreatDoor
open Go.Al
end Go.Proofs.YtnfbbjhdflhmjaaGreatDoor
namespace Go.Al
theorem Av {words:Int} {fs:List CF} (h: ∀(j:Nat) (hj:j<fs.length),fT words (fs.take j) fs[j].word fs[j].body 1=true): ∀(l:List CF) (k:Nat),fs.drop k=l→jT words (fs.take k) l=true
 |[],_,_=>by simp only[jT]
 |g::l,k,hd=>by
  have hk:k<fs.length:=by
   rcases Nat.lt_or_ge k fs.length with h|h
   ·exact h
   rw[List.drop_eq_nil_of_le h]at hd;cases hd
  rw[bC hk]at hd;injection hd with h1 h2
  rw[jT,aK,←h1];exact⟨h k hk,by rw[←bQ hk];exact Av h l (k+1) h2⟩
end Go.Al
namespace Go.Proofs.YtnfbbjhdflhmjaaGreatDoor
open Go.Al
end Go.Proofs.YtnfbbjhdflhmjaaGreatDoor
namespace Go.Proofs.YtnfbbjhdflhmjaaGreatDoor
open Go.Al
end Go.Proofs.YtnfbbjhdflhmjaaGreatDoor
namespace Go.Proofs.YtnfbbjhdflhmjaaGreatDoor
open Go.Al
end Go.Proofs.YtnfbbjhdflhmjaaGreatDoor
namespace Go.Al
theorem Xs {p:Pg} {i:Nat} {s:cR} (h:(cK p i s).1=2): ∃k:Nat,(cK p i s).2=(k:Int)∧k<p.vars.length:=by
 unfold cK at *;split at h
 ·exact absurd h (by simp)
 unfold jI at *;split at h
 ·exact absurd h (by simp)
 rename_i k hk;split at h
 ·rename_i h1
  exact⟨k,by simp only[if_pos h1],h1⟩
 split at h
 ·exact absurd h (by simp)
 exact absurd h (by simp)
theorem lG (p:Pg): ∀(l:List Fu) (i:Nat) (w:Int) (j:Nat),(oW p i w l)[j]?=(l[j]?).map (fun f=>nO p (i+j) (w+eC (l.take j)) f)
 |[],i,w,j=>by simp [oW]
 |x::l,i,w,0=>by simp [oW,eC]
 |x::l,i,w,j+1=>by
  simp only[oW,List.getElem?_cons_succ,List.take_succ_cons,eC];rw[lG p l];congr 1;funext f;rw[show i+1+j=i+(j+1)by omega,Int.add_assoc]
structure Sl (p:Pg) (i:Nat) (below:List CF) (rs:cR→Int×Int):Prop where
 nil:rs []=(0,0)
 v: ∀s n,dN p i ⟨s,1,n⟩=true→fK (dX p) (rs s).1 1=true∧(rs s).2=0
 a: ∀s n,dN p i ⟨s,3,n⟩=true→1≤(rs s).2∧(rs s).2≤4096∧fK (dX p) (rs s).1 (rs s).2=true
 c: ∀s (n:Nat),dN p i ⟨s,4,n⟩=true→fH p i ⟨s,4,n⟩=true→(rs s).2=0∧jS below (rs s).1 n (kL p s)=true
end Go.Al
namespace Go.Proofs.YtnfbbjhdflhmjaaGreatDoor
open Go.Al
section
variable {p : Pg} {i : Nat} {below : List CF} {rs : cR → Int × Int}
theorem J9 (hS:Sl p i below rs) (N:Nat): ∀(l:List Ex) (lv t:Int),iJ l≤N→eI l lv=true→t≠0→fX (kL p) l t=true→(∀u∈dG l,dN p i u=true∧fH p i u=true)→gN (dX p) below (l.map (sT rs)) lv=true:=by
 induction N using Nat.strongRecOn with
 |_ n ih=>
  intro l lv t hn hr ht hty hu
  match l,hn,hr,hty,hu with
  |[],_,_,_,_=>simp only[List.map_nil,gN]
  |e::l,hn,hr,hty,hu=>
   rw[gH]at hr;simp only[iL,aK]at hr;obtain⟨⟨⟨hh,hk⟩,hkr⟩,hl⟩:=hr;rw[uB,aK,aP]at hty;have hz:=e.sz_eq;simp only[iJ]at hn;have hul: ∀u∈dG l,dN p i u=true∧fH p i u=true:=fun u h=>hu u (by rw[eB];simp [h]);have huk: ∀u∈dG e.kids,dN p i u=true∧fH p i u=true:=fun u h=>hu u (by rw[eB];simp [h]);have hux: ∀u∈jL e,dN p i u=true∧fH p i u=true:=fun u h=>hu u (by rw[eB];simp [h]);have w2:=ih (iJ l) (by omega) l lv t (aY _) hl ht hty.2 hul;have ht1:=hty.1;rw[Ht]at ht1;have w1:(∃t',t'≠0∧fX (kL p) e.kids t'=true)→gN (dX p) below (e.kids.map (sT rs)) (lv+1)=true:=fun⟨t',h1,h2⟩=>ih (iJ e.kids) (by omega) e.kids (lv+1) t' (aY _) hkr h1 h2 huk;obtain⟨k,o,m,s,kids⟩:=e;simp only[Ex.kind,Ex.op,Ex.kids,Ex.name,jL]at *;have hH:oO (.mk k o m s kids) lv=(decide (lv≤24)&&(decide (k=6)||decide (o=0))&&(decide (k=1)||decide (m=0))&&(if k=2∨k=3∨k=4 then dC s else decide (s=[]))):=rfl;rw[hH]at hh;simp only[List.map_cons,gN,sT,lH,rU,aK]
   have hF: ∀a z l,Iw (dX p) below (.mk k o m a z l)=((decide (k=1)||decide (m=0))&&(decide (k=6)||decide (o=0))&&(decide (k=3)||decide (z=0))&&(decide (k=2)||decide (k=3)||decide (k=4)||decide (a=0))&&
    (if k=1∨k=5 then decide (l.length=0)else if k=2 then fK (dX p) a 1&&decide (l.length=0)else if k=3 then decide (1≤z)&&decide (z≤4096)&&fK (dX p) a z&&decide (l.length=1)
     else if k=4 then jS below a l.length true else if k=6 then decide (4≤o)&&decide (o≤15)&&decide (l.length=2)else if k=7 then decide (l.length=1)else if k=8∨k=9 then decide (l.length=2)else false)):=fun _ _ _=>rfl
   rw[hF];simp only[aK,aP,Bool.or_eq_true]at hh;obtain⟨⟨⟨hlv,hop⟩,hnm⟩,hna⟩:=hh
   have hk9:k=1∨k=2∨k=3∨k=4∨k=5∨k=6∨k=7∨k=8∨k=9:=by
    unfold fM at hk
    repeat' split at hk
    all_goals first|omega|(cases hk)
   have hb: ∀(c:Prop) [Decidable c] (x:Int),(if c then x else 0)=t→c:=fun c _ x h=>by
    by_cases hc:c
    ·exact hc
    rw[if_neg hc]at h;exact absurd h.symm ht
   refine⟨⟨⟨bX hlv, ?_⟩,w1 ?_⟩,w2⟩
   ·rcases hk9 with rfl|rfl|rfl|rfl|rfl|rfl|rfl|rfl|rfl<;>simp only[Int.reduceEq,or_self,or_true,true_or,or_false,false_or,if_true,if_false,aP,fM,aK]at hk hna hop hnm ht1
    ·subst hna;subst hop;rw[hS.nil];simp [hk]
    ·obtain⟨g1,g2⟩:=hux ⟨s,1,0⟩ (by simp)
     obtain⟨q1,q2⟩:=hS.v s 0 g1;subst hop;subst hnm;simp [hk,q1,q2]
    ·obtain⟨g1,g2⟩:=hux ⟨s,3,0⟩ (by simp)
     obtain⟨q1,q2,q3⟩:=hS.a s 0 g1;subst hop;subst hnm;simp [hk,q1,q2,q3]
    ·obtain⟨g1,g2⟩:=hux ⟨s,4,kids.length⟩ (by simp)
     obtain⟨q1,q2⟩:=hS.c s kids.length g1 g2;have hw:kL p s=true:=(hb _ _ ht1).1;rw[hw]at q2;subst hop;subst hnm;simp [q1,q2]
    ·subst hna;subst hop;subst hnm;rw[hS.nil];simp [hk]
    ·subst hna;subst hnm;rw[hS.nil];simp [hk]
    ·subst hna;subst hop;subst hnm;rw[hS.nil];simp [hk]
    ·subst hna;subst hop;subst hnm;rw[hS.nil];simp [hk]
    subst hna;subst hop;subst hnm;rw[hS.nil];simp [hk]
   have h0:kids.length=0→ ∃t',t'≠0∧fX (kL p) kids t'=true:=fun h=>⟨1,by decide,by rw[List.eq_nil_of_length_eq_zero h];exact Gu _ _⟩;rcases hk9 with rfl|rfl|rfl|rfl|rfl|rfl|rfl|rfl|rfl<;>simp only[Int.reduceEq,or_self,or_true,or_false,if_true,if_false,aP,fM,aK]at hk ht1
   ·exact h0 hk
   ·exact h0 hk
   ·exact⟨1,by decide,hb _ _ ht1⟩
   ·exact⟨1,by decide,(hb _ _ ht1).2⟩
   ·exact h0 hk
   ·exact⟨1,by decide,hb _ _ ht1⟩
   ·exact⟨2,by decide,hb _ _ ht1⟩
   ·exact⟨2,by decide,hb _ _ ht1⟩
   exact⟨2,by decide,hb _ _ ht1⟩
theorem J8 {wd:Bool} (hS:Sl p i below rs) (N:Nat): ∀(l:List Sm) (lv:Int),gA l≤N→eE l lv=true→lE (kL p) wd l=true→(∀u∈cT l,dN p i u=true∧fH p i u=true)→fT (dX p) below wd (l.map (rM rs)) lv=true:=by
 induction N using Nat.strongRecOn with
 |_ n ih=>
  intro l lv hn hr hty hu
  match l,hn,hr,hty,hu with
  |[],_,_,_,_=>simp only[List.map_nil,fT]
  |e::l,hn,hr,hty,hu=>
   rw[gG]at hr;simp only[iM,aK]at hr;obtain⟨⟨⟨⟨⟨hh,hk⟩,hxr⟩,htr⟩,hur⟩,hl⟩:=hr;rw[tR,Bz]at hty;simp only[aK]at hty;obtain⟨⟨⟨⟨⟨ty1,ty2⟩,ty3⟩,ty4⟩,ty5⟩,tyl⟩:=hty;have hz:=e.sz_eq;simp only[gA]at hn;have hul: ∀u∈cT l,dN p i u=true∧fH p i u=true:=fun u h=>hu u (by rw[dB];simp [h]);have hue: ∀u∈dG e.es,dN p i u=true∧fH p i u=true:=fun u h=>hu u (by rw[dB];simp [h]);have hut: ∀u∈cT e.thn,dN p i u=true∧fH p i u=true:=fun u h=>hu u (by rw[dB];simp [h]);have huu: ∀u∈cT e.els,dN p i u=true∧fH p i u=true:=fun u h=>hu u (by rw[dB];simp [h]);have hux: ∀u∈hJ e,dN p i u=true∧fH p i u=true:=fun u h=>hu u (by rw[dB];simp [h]);have hwt:lZ e.kind≠0:=by unfold lZ;split<;>decide
   have w0:=J9 hS _ e.es (lv+1) _ (aY _) hxr hwt ty1 hue;have w1:=ih (gA e.thn) (by omega) e.thn (lv+1) (aY _) htr ty4 hut;have w3:=ih (gA e.els) (by omega) e.els (lv+1) (aY _) hur ty5 huu;have w2:=ih (gA l) (by omega) l lv (aY _) hl tyl hul;obtain⟨k,s,es,t,u⟩:=e;simp only[Sm.kind,Sm.name,Sm.es,Sm.thn,Sm.els,hJ]at *;have hH:qN (.mk k s es t u) lv=(decide (lv≤24)&&(decide (k=4)||decide (u.length=0))&&(decide (k=4)||decide (k=5)||decide (t.length=0))&&(if k=1∨k=2∨k=6 then dC s else decide (s=[]))):=rfl;rw[hH]at hh;simp only[List.map_cons,fT,rM,lF,rT,aK]
   have hF: ∀a z l t u,Iv (dX p) below wd (.mk k a z l t u)=((decide (k=2)||decide (z=0))&&(decide (k=1)||decide (k=2)||decide (k=6)||decide (a=0))&&(decide (k=4)||decide (u.length=0))&&(decide (k=4)||decide (k=5)||decide (t.length=0))&&
    (if k=1 then fK (dX p) a 1&&decide (l.length=1)else if k=2 then decide (1≤z)&&decide (z≤4096)&&fK (dX p) a z&&decide (l.length=2)else if k=3∨k=4∨k=5 then decide (l.length=1)
     else if k=6 then jS below a l.length false else if k=7 then decide (l.length=0)||wd&&decide (l.length=1)else false)):=fun _ _ _ _ _=>rfl
   rw[hF];simp only[aK,aP,Bool.or_eq_true]at hh;obtain⟨⟨⟨hlv,hel⟩,hth⟩,hna⟩:=hh
   have hk7:k=1∨k=2∨k=3∨k=4∨k=5∨k=6∨k=7:=by
    unfold pH at hk
    repeat' split at hk
    all_goals first|omega|(cases hk)
   refine⟨⟨⟨⟨⟨bX hlv, ?_⟩,w0⟩,w1⟩,w3⟩,w2⟩;rcases hk7 with rfl|rfl|rfl|rfl|rfl|rfl|rfl<;>simp only[Int.reduceEq,or_self,or_true,true_or,or_false,false_or,if_true,if_false,aP,pH,decide_true,decide_false,Bool.true_and,Bool.not_eq_true']at hk hna hel hth ty2 ty3
   ·obtain⟨g1,g2⟩:=hux ⟨s,1,0⟩ (by simp)
    obtain⟨q1,q2⟩:=hS.v s 0 g1;simp [hk,q1,q2,hel,hth]
   ·obtain⟨g1,g2⟩:=hux ⟨s,3,0⟩ (by simp)
    obtain⟨q1,q2,q3⟩:=hS.a s 0 g1;simp [hk,q1,q2,q3,hel,hth]
   ·subst hna;rw[hS.nil];simp [hk,hel,hth]
   ·subst hna;rw[hS.nil];simp [hk]
   ·subst hna;rw[hS.nil];simp [hk,hel]
   ·obtain⟨g1,g2⟩:=hux ⟨s,4,es.length⟩ (by simp)
    obtain⟨q1,q2⟩:=hS.c s es.length g1 g2;rw[ty2]at q2;simp [q1,q2,hel,hth]
   subst hna;rw[hS.nil];rcases Nat.eq_zero_or_pos es.length with h|h
   ·simp [h,hel,hth]
   have hw:wd=true:=by simpa [h]using ty3
   have h1:es.length=1:=by omega
   simp [h1,hw,hel,hth]
end
theorem Un {p:Pg} (h:H8 p) {i:Nat} {f:Fu} (hf:p.funs[i]?=some f):Sl p i ((oW p 0 (eA p) p.funs).take i) (gM p i):=by
 have hr:=h.r;simp only[eH,aK,aP,List.all_eq_true]at hr;have hn:=xE h.r hf
 have hsz: ∀a∈p.arrs,1≤a.size∧a.size≤4096:=fun a ha=>by
  have:=hr.1.2 a ha;simp only[fF,aK,aP]at this;omega
 have hA:=fun j=>pX (l:=p.arrs) (fun a ha=>by have:=hsz a ha;omega) j;have hA0:=fun j=>iB (l:=p.arrs.take j) fun a ha=>by have:=hsz a (List.mem_of_mem_take ha);omega
 have hF:=fun j=>kP p.funs j;have hF0:=fun j=>iA (p.funs.take j);have hw:dX p=eA p+eC p.funs:=rfl;have hb:eA p=p.vars.length+fG p.arrs:=rfl
 have hne: ∀{s:cR},(cK p i s).1≠0→gM p i s=mD p i s:=fun {s} h0=>by
  unfold gM;rw[if_neg (fun e=>h0 (by rw[e];exact hn))]
 refine⟨by unfold gM;rw[if_pos rfl],fun s n hu=>?_,fun s n hu=>?_,fun s n hu hu2=>?_⟩
 ·have:=(nY hu).1 rfl
  rcases this with h1|h1
  ·rw[hne (by omega)]
   unfold mD;rw[if_pos h1];obtain⟨f',k,q1,q2,q3⟩:=(nL p i s).1 h1;rw[hf]at q1;cases q1;have e1:=(jH p.funs 0 i f hf).2;have:=hF (i+1);have:=hF0 i;have:=hA0 p.arrs.length;rw[List.take_length]at this;exact⟨fR.2 (by simp only;omega),rfl⟩
  rw[hne (by omega)];unfold mD;rw[if_neg (by omega),if_neg (by omega)];obtain⟨k,q1,q2⟩:=Xs h1;have:=hF0 p.funs.length;have:=hA0 p.arrs.length;rw[List.take_length]at *;exact⟨fR.2 (by simp only;omega),rfl⟩
 ·have h3:=(nY hu).2.1 rfl
  rw[hne (by omega)];unfold mD;rw[if_neg (by omega),if_pos h3];obtain⟨k,a,q1,q2⟩:=(nL p i s).2 h3;rw[q1,Int.toNat_natCast,q2];simp only[Option.map_some,Option.getD_some];have e1:=(pA p.arrs 0 k a q2).2;have:=hA (k+1);have:=hA0 k;have:=hF0 p.funs.length;rw[List.take_length]at this;have:=hsz a (aL q2);exact⟨by omega,by omega,fR.2 (by omega)⟩
 obtain⟨h4,h5⟩:=(nY hu).2.2 rfl;rw[hne (by omega)];unfold mD;rw[if_neg (by omega),if_neg (by omega)];refine⟨rfl, ?_⟩;obtain⟨m,q1,q2,q3⟩:=Xr h4;have hmi:m<i:=by omega
 simp only[fH,decide_true,Bool.not_true,Bool.false_or]at hu2;rw[q1,Int.toNat_natCast]at hu2;rw[aG q2]at hu2 q3;simp only[aP]at hu2;have hwd:kL p s=p.funs[m].word:=by unfold kL;rw[q3]
 rw[hwd];unfold jS;simp only[q1,Int.toNat_natCast];rw[List.getElem?_take_of_lt hmi,lG,aG q2];simp only[Option.map_some,nO,decide_true,Bool.true_and,aK,aP];omega
theorem Jk {p:Pg} (hs:eM p=0) (hw:dX p≤32768):tE (uJ p).1=true:=by
 have h:=Bp hs;rw[←Bu];unfold Zx;rw[if_pos hs,if_pos hw];simp only;have hr:=h.r;simp only[eH,aK,aP,List.all_eq_true]at hr;obtain⟨⟨⟨⟨_,hl1⟩,hl2⟩,hra⟩,hrf⟩:=hr;have hu:=h.u;have hnm:=h.n;simp only[nA,fW,aK]at hu hnm
 have hA0:=iB (l:=p.arrs) fun a ha=>by
  have:=hra a ha;simp only[fF,aK,aP]at this;omega
 have hF:=fun j=>kP p.funs j;have hF0:=fun j=>iA (p.funs.take j);have hwd:dX p=eA p+eC p.funs:=rfl;have hb:eA p=p.vars.length+fG p.arrs:=rfl;have hlen:=pJ p p.funs 0 (eA p);have hget:=fun j=>lG p p.funs 0 (eA p) j;obtain⟨fs,hfs⟩: ∃fs,oW p 0 (eA p) p.funs=fs:=⟨_,rfl⟩
 have hR: ∀w,tE ⟨w,fs⟩=(decide (0≤w)&&decide (w≤32768)&&decide (1≤fs.length)&&decide (fs.length≤64)&&fs.all (wY w)&&jT w [] fs&&
  match fs.getLast? with
  |some f=>decide (f.params=0)&& !f.word
  |none=>false):=fun _=>rfl
 have hfun: ∀(j:Nat) g,fs[j]?=some g→ ∃f,p.funs[j]?=some f∧g=nO p j (eA p+eC (p.funs.take j)) f:=fun j g hg=>by
  rw[←hfs,hget,Nat.zero_add,aV]at hg;obtain⟨f,h1,h2⟩:=hg;exact⟨f,h1,h2.symm⟩
 rw[hfs]at hlen;rw[hfs,hR]
 have hall:fs.all (wY (dX p))=true:=List.all_eq_true.2 fun g hg=>by
  obtain⟨j,hj⟩:=List.getElem?_of_mem hg;obtain⟨f,h1,rfl⟩:=hfun j g hj;have hff:=hrf f (aL h1);simp only[eV,aK,aP]at hff;have e1:=(jH p.funs 0 j f h1).2;have:=hF (j+1);have:=hF0 j;have hH:wY (dX p) (nO p j (eA p+eC (p.funs.take j)) f)=(decide ((0:Int)≤(f.params.length:Int))&&decide ((f.params.length:Int)≤6)&&decide ((f.params.length:Int)≤((f.params.length+f.locs.length:Nat):Int))&&fK (dX p) (eA p+eC (p.funs.take j)) ((f.params.length+f.locs.length:Nat):Int)):=rfl;rw[hH,bX (by omega),bX (by omega),bX (by omega),fR.2 (by omega)];rfl
 have hbod:jT (dX p) [] fs=true:=by
  have:=Av (words:=dX p) (fs:=fs) (fun j hj=>?_) fs 0 (by simp)
  ·simpa using this
  obtain⟨f,h1,h2⟩:=hfun j _ (aG hj);rw[h2];have hS:=Un h h1;rw[hfs]at hS;have hff:=hrf f (aL h1);simp only[eV,aK]at hff;have g1:=(eP p p.funs 0 hnm.2 j f h1).2;have g2:=rV p p.funs 0 hu.1 j f h1;rw[Nat.zero_add,List.all_eq_true]at g1 g2;exact J8 hS _ f.body 1 (aY _) hff.2 (h.f f (aL h1)) fun u hu=>⟨g1 u hu,g2 u hu⟩
 have hlast:(match fs.getLast? with
  |some f=>decide (f.params=0)&& !f.word
  |none=>false)=true:=by
  have h2:=hu.2;unfold Ey at h2;rw[List.getLast?_eq_getElem?,hlen];have hx:p.funs.length- 1<fs.length:=by omega
  rw[aG hx];obtain⟨f,q1,q2⟩:=hfun _ _ (aG hx);rw[q1]at h2;simp only[aK,aP]at h2;rw[q2];have e1:((nO p (p.funs.length- 1) (eA p+eC (p.funs.take (p.funs.length- 1))) f).params=0)=((f.params.length:Int)=0):=rfl;simp only[aK];exact⟨bX (by rw[e1];omega),h2.2⟩
 rw[hall,hbod,hlast,bX (show 0≤dX p by have:=hF0 p.funs.length;rw[List.take_length]at this;omega),bX hw,bX (show 1≤fs.length by omega),bX (show fs.length≤64 by omega)];rfl
end Go.Proofs.YtnfbbjhdflhmjaaGreatDoor
namespace Go.Al
end Go.Al
namespace Go.Proofs.YtnfbbjhdflhmjaaGreatDoor
open Go.Al
end Go.Proofs.YtnfbbjhdflhmjaaGreatDoor
namespace Go.Al
end Go.Al
namespace Go.Proofs.YtnfbbjhdflhmjaaGreatDoor
open Go.Al
end Go.Proofs.YtnfbbjhdflhmjaaGreatDoor
namespace Go.Al
end Go.Al
namespace Go.Proofs.YtnfbbjhdflhmjaaGreatDoor
open Go.Al
end Go.Proofs.YtnfbbjhdflhmjaaGreatDoor
