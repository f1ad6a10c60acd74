/- Chapter 19, the program's: Run. -/
import Derived.Test.YtnfbbjhdflhmjaaGreatDoorGKg
set_option linter.unusedSimpArgs false
set_option linter.unusedVariables false
set_option maxRecDepth 10000
namespace Go.Proofs.YtnfbbjhdflhmjaaGreatDoor
open Go.Al
theorem Lp {F:Nat→Prop} {ds:List (Option Nat)} {Q:dQ} {d:Option Nat} {rest:List Oper} {fr:Fr} {H:Hp} {g:FuncId} {args:List AV} {cx:Kx} {W r w:Nat} {vo:AV} {b7:Nat} {l7:List (List AV)} {o:Rz (Option Int)}
  (hc:mM cK g args (upd H b7 none) (lD cx W r w vo (upd H b7 none) kX kY o)) (h7:H b7=some (.rows 1 l7)) (hF: ∀b,b≠b7→F b)
  (hp: ∀e s vo' H',o= .fin e s→eX cx W r w s vo' H'→H' b7=some (.rows 1 l7)→off vo' b7→(∀b x,H b=some x→b≠r→b≠w→off vo b→H' b=some x)→Q (.pan (Kz e)) Ha H')
  (hv: ∀p s vo' H',o= .val p s→eX cx W r w s vo' H'→H' b7=some (.rows 1 l7)→off vo' b7→(∀b x,H b=some x→b≠r→b≠w→off vo b→H' b=some x)→cM cK F ds Q rest (dU fr d (kX p)) H'):tL cK F ds Q d rest fr H g args:=by
 have oW:oW (upd H b7 none) H:=fun b x hb=>by
  by_cases e:b=b7
  ·subst e;rw[bO]at hb;cases hb
  rw[cH _ _ e]at hb;exact hb
 refine nN hc (eJ.refl _) oW (fun b hb=>hF b fun e=>hb (by rw[e,bO])) fun ae H' ⟨vo',h1,h2,h3⟩ hnew=>?_
 have hn7:H' b7=none:=by
  cases hq:H' b7 with
  |none=>rfl
  |some x=>
   rcases hnew b7 (by rw[hq];exact cL _)with h|h
   ·exact absurd (bO _ _ _) h
   rw[h7]at h;cases h
 have hk: ∀b x,H' b=some x→iM H' (upd H b7 none) H b=some x:=fun b x hb=>by simp only[iM,hb]
 have g7:iM H' (upd H b7 none) H b7=some (.rows 1 l7):=by simp only[iM,hn7,bO,Option.isSome_none,Bool.false_eq_true,if_false];exact h7
 have go7:off vo' b7:=fun s n e=>h2.o.there s b7 n e hn7
 have gk: ∀b x,H b=some x→b≠r→b≠w→off vo b→iM H' (upd H b7 none) H b=some x:=fun b x hb q1 q2 q4=>by
  by_cases e:b=b7
  ·subst e;rw[g7,←h7,hb]
  exact hk b x (h3 b x (by rw[cH _ _ e];exact hb) q1 q2 q4).1
 have gR:=h2.sub hk
 cases o with
 |val p s=>
  obtain⟨h1,_⟩:=h1;subst h1;exact hv p s vo' _ rfl gR g7 go7 gk
 |fin e s=>
  subst h1;exact hp e s vo' _ rfl gR g7 go7 gk
def Hk (c:Co) (inp:dD) (fu:Int):Kx:=⟨c.funs,inp,(if fu<0 then 0 else fu).toNat⟩
set_option maxHeartbeats 8000000 in
theorem Ob (c:Co) (hw0:0≤c.words) (hx0:Ay (Hk c [] 0) c.words.toNat) (hf1:1≤c.funs.length) (hf2:c.funs.length≤10000) (inp:dD) (hin:inp.length≤2000000) (fu:Int) (hfu:dC fu) {n:Nat} {e:Int} {out:dD} {t:Nat} (hrun:pF (Hk c inp fu) n c.words.toNat=some (e,out,t)):
  cJ cK 17 [c.av, .str inp, .int .i64 fu] (Gc e out t):=by
 have hfl:((Hk c inp fu).fuel:Int)=if fu<0 then 0 else fu:=by
  show(((if fu<0 then 0 else fu).toNat:Nat):Int)=_;split<;>omega
 have hx:Ay (Hk c inp fu) c.words.toNat:=⟨hin,by have:=hfu.2;split at hfl<;>omega,hx0.wl,hx0.funs,hx0.body⟩;have hlast:c.funs.length- 1<c.funs.length:=by omega
 have hg0:=aG hlast;have hgw:=hx.funs.body _ _ hg0;have hgb:=hx.body _ (bA hlast);have hgl:c.funs.getLast?=some c.funs[c.funs.length- 1]:=by rw[List.getLast?_eq_getElem?,aG hlast]
 generalize c.funs[c.funs.length- 1]=g at hg0 hgw hgb hgl
 obtain⟨o,hev,hend⟩: ∃o,kH (Hk c inp fu) n g.body ⟨List.replicate c.words.toNat 0,[],0,[],0⟩=some o∧sG o=(e,out,t):=by
  unfold pF at hrun;rw[show(Hk c inp fu).funs=c.funs from rfl,hgl]at hrun;simp only[Option.bind_some,bE]at hrun;exact hrun
 clear hrun;have hrowg:=rQ hg0;have hC:=P1 (cx:=Hk c inp fu) hx;have hcf:(Hk c inp fu).funs=c.funs:=rfl;have hci:(Hk c inp fu).inp=inp:=rfl;have hfu2:=hx.fuel;have hW:=hx.wl;have hWe:c.words=((c.words.toNat:Nat):Int):=by omega
 generalize c.words.toNat=W at *;have hav:c.av= .agg [.int .i64 (W:Int), .isl 5 (c.funs.map CF.row)]:=by unfold Co.av Co.row;rw[hWe]
 rw[hav];generalize Hk c inp fu=cx at *;have e1:(4:Int) *(W:Int)≤281474976710656:=by omega
 have e3:IntKind.wrap .i64 ((c.funs.length:Int)- 1)=((c.funs.length- 1:Nat):Int):=by rw[aQ _ (by omega)];omega
 obtain⟨fl,hfl2⟩: ∃fl:Int,fl=(cx.fuel:Int):=⟨_,rfl⟩;have hflx:(if fu<0 then 0 else fu)=fl:=by rw[hfl2,hfl]
 have hzl:((c.funs.length- 1:Nat):Int)<(c.funs.length:Int):=by omega
 refine Uc 40 Tryz.func17 rfl rfl rfl ?_;refine yX fun _ y=>aA rfl ?_;simp only[RR,seval];refine aP fun b3 hn3=>?_;simp only[RR,seval];refine aP fun b6 hn6=>?_;have nb6_b3:b6≠b3:=fun e=>by rw[e]at hn6;simp only[RR,seval,reduceCtorEq]at hn6
 have nb3_b6:b3≠b6:=fun e=>nb6_b3 e.symm;simp only[RR,seval];apply y;clear y;refine yX fun K y=>?_;refine dS (fun fr M=> ∃b7 b12 b17,fr 3= .ptr 2 b3 0 0∧fr 6= .ptr 3 b6 0 0∧fr 7= .ptr 1 b7 0 0∧M b3=some (.rows 2 [[.int .i64 (W:Int), .isl 5 (c.funs.map CF.row)]])∧M b6=some (.rows 3 [[.int .i64 0, .str [], .int .i64 0]])∧M b7=some (.rows 1 [[.ptr 7 b17 0 0]])∧M b12=some (.rows 1 (List.replicate W [.int .u32 0]))∧M b17=some (.rows 7 [[.isl 5 (c.funs.map CF.row), .osl 1 b12 W, .str inp, .int .i64 0, .nsl, .int .i64 0, .int .i64 fl]])∧b7≠b12∧b3≠b6) (fun KR1 hKR1=>?_) ?_
 ·refine iE (fun x=>x≠b3) dG (by kernel_rfl) fun hd=>?_
  refine eO [(0,3),(1,0),(2,3),(3,0),(5,3),(6,3),(7,3)] hd (m:=5) rfl (by kernel_rfl) rfl rfl ?_;simp only[cF,dM,nb3_b6,hflx,RR,seval];refine iH hd (by kernel_rfl:Region.ready .any _ _=[4,10]) (by simp) ⟨?_, ?_,trivial⟩
  ·simp only[e1,RR,seval]
   refine aP fun b12 hn12=>?_;have nb12_b3:b12≠b3:=fun e=>by rw[e]at hn12;simp only[nb3_b6,RR,seval,reduceCtorEq]at hn12
   have nb3_b12:b3≠b12:=fun e=>nb12_b3 e.symm;have nb12_b6:b12≠b6:=fun e=>by rw[e]at hn12;simp only[RR,seval,reduceCtorEq]at hn12
   have nb6_b12:b6≠b12:=fun e=>nb12_b6 e.symm;simp only[RR,seval];refine eO [(8,3)] hd (m:=3) rfl (by kernel_rfl) rfl rfl ?_;simp only[cF,RR,seval];refine iH hd (by kernel_rfl:Region.ready .any _ _=[9,10]) (by simp) ⟨?_, ?_,trivial⟩
   ·simp only[RR,seval]
    refine aP fun b17 hn17=>?_;have nb17_b3:b17≠b3:=fun e=>by rw[e]at hn17;simp only[nb3_b6,nb3_b12,RR,seval,reduceCtorEq]at hn17
    have nb3_b17:b3≠b17:=fun e=>nb17_b3 e.symm;have nb17_b6:b17≠b6:=fun e=>by rw[e]at hn17;simp only[nb6_b12,RR,seval,reduceCtorEq]at hn17
    have nb6_b17:b6≠b17:=fun e=>nb17_b6 e.symm;have nb17_b12:b17≠b12:=fun e=>by rw[e]at hn17;simp only[RR,seval,reduceCtorEq]at hn17
    have nb12_b17:b12≠b17:=fun e=>nb17_b12 e.symm;simp only[RR,seval];refine eO [(10,1),(11,1)] hd (m:=0) rfl (by kernel_rfl) rfl rfl ?_;simp only[cF,RR,seval];refine aP fun b7 hn7=>?_;have nb7_b3:b7≠b3:=fun e=>by rw[e]at hn7;simp only[nb3_b6,nb3_b12,nb3_b17,RR,seval,reduceCtorEq]at hn7
    have nb3_b7:b3≠b7:=fun e=>nb7_b3 e.symm;have nb7_b6:b7≠b6:=fun e=>by rw[e]at hn7;simp only[nb6_b12,nb6_b17,RR,seval,reduceCtorEq]at hn7
    have nb6_b7:b6≠b7:=fun e=>nb7_b6 e.symm;have nb7_b12:b7≠b12:=fun e=>by rw[e]at hn7;simp only[nb12_b17,RR,seval,reduceCtorEq]at hn7
    have nb12_b7:b12≠b7:=fun e=>nb7_b12 e.symm;have nb7_b17:b7≠b17:=fun e=>by rw[e]at hn7;simp only[RR,seval,reduceCtorEq]at hn7
    have nb17_b7:b17≠b7:=fun e=>nb7_b17 e.symm;simp only[nb7_b3,RR,seval];refine gF (by kernel_rfl) ?_;simp only[RR,seval];refine hKR1 _ _ ⟨b7,b12,b17,rfl,rfl,rfl, ?_, ?_, ?_, ?_, ?_,nb7_b12,nb3_b6⟩<;>first|rfl|(simp only[nb3_b6,nb3_b12,nb6_b12,nb3_b17,nb6_b17,nb12_b17,nb3_b7,nb6_b7,nb12_b7,nb17_b7,aJ,seval];done)|(simp only[nb6_b3,nb3_b6,nb12_b3,nb3_b12,nb12_b6,nb6_b12,nb17_b3,nb3_b17,nb17_b6,nb6_b17,nb17_b12,nb12_b17,nb7_b3,nb3_b7,nb7_b6,nb6_b7,nb7_b12,nb12_b7,nb7_b17,nb17_b7,e1,e3,hflx,hzl,hrowg,aD,aJ,RR,seval];rfl)
   simp only[RR,seval];refine aP fun b7 hn7=>?_;have nb7_b3:b7≠b3:=fun e=>by rw[e]at hn7;simp only[nb3_b6,nb3_b12,RR,seval,reduceCtorEq]at hn7
   have nb3_b7:b3≠b7:=fun e=>nb7_b3 e.symm;have nb7_b6:b7≠b6:=fun e=>by rw[e]at hn7;simp only[nb6_b12,RR,seval,reduceCtorEq]at hn7
   have nb6_b7:b6≠b7:=fun e=>nb7_b6 e.symm;have nb7_b12:b7≠b12:=fun e=>by rw[e]at hn7;simp only[RR,seval,reduceCtorEq]at hn7
   have nb12_b7:b12≠b7:=fun e=>nb7_b12 e.symm;simp only[RR,seval];refine eO [(9,1),(11,1)] hd (m:=0) rfl (by kernel_rfl) rfl rfl ?_;simp only[cF,RR,seval];refine aP fun b17 hn17=>?_;have nb17_b3:b17≠b3:=fun e=>by rw[e]at hn17;simp only[nb3_b6,nb3_b12,nb3_b7,RR,seval,reduceCtorEq]at hn17
   have nb3_b17:b3≠b17:=fun e=>nb17_b3 e.symm;have nb17_b6:b17≠b6:=fun e=>by rw[e]at hn17;simp only[nb6_b12,nb6_b7,RR,seval,reduceCtorEq]at hn17
   have nb6_b17:b6≠b17:=fun e=>nb17_b6 e.symm;have nb17_b12:b17≠b12:=fun e=>by rw[e]at hn17;simp only[nb12_b7,RR,seval,reduceCtorEq]at hn17
   have nb12_b17:b12≠b17:=fun e=>nb17_b12 e.symm;have nb17_b7:b17≠b7:=fun e=>by rw[e]at hn17;simp only[RR,seval,reduceCtorEq]at hn17
   have nb7_b17:b7≠b17:=fun e=>nb17_b7 e.symm;simp only[nb7_b3,nb7_b17,RR,seval];refine gF (by kernel_rfl) ?_;simp only[RR,seval];refine hKR1 _ _ ⟨b7,b12,b17,rfl,rfl,rfl, ?_, ?_, ?_, ?_, ?_,nb7_b12,nb3_b6⟩<;>first|rfl|(simp only[nb3_b6,nb3_b12,nb6_b12,nb3_b7,nb6_b7,nb12_b7,nb3_b17,nb6_b17,nb12_b17,nb17_b7,aJ,seval];done)|(simp only[nb6_b3,nb3_b6,nb12_b3,nb3_b12,nb12_b6,nb6_b12,nb7_b3,nb3_b7,nb7_b6,nb6_b7,nb7_b12,nb12_b7,nb17_b3,nb3_b17,nb17_b6,nb6_b17,nb17_b12,nb12_b17,nb17_b7,nb7_b17,e1,e3,hflx,hzl,hrowg,aD,aJ,RR,seval];rfl)
  simp only[RR,seval];refine aP fun b7 hn7=>?_;have nb7_b3:b7≠b3:=fun e=>by rw[e]at hn7;simp only[nb3_b6,RR,seval,reduceCtorEq]at hn7
  have nb3_b7:b3≠b7:=fun e=>nb7_b3 e.symm;have nb7_b6:b7≠b6:=fun e=>by rw[e]at hn7;simp only[RR,seval,reduceCtorEq]at hn7
  have nb6_b7:b6≠b7:=fun e=>nb7_b6 e.symm;simp only[RR,seval];refine eO [(4,1),(8,3),(9,1),(11,1)] hd (m:=0) rfl (by kernel_rfl) rfl rfl ?_;simp only[cF,e1,RR,seval];refine aP fun b12 hn12=>?_;have nb12_b3:b12≠b3:=fun e=>by rw[e]at hn12;simp only[nb3_b6,nb3_b7,RR,seval,reduceCtorEq]at hn12
  have nb3_b12:b3≠b12:=fun e=>nb12_b3 e.symm;have nb12_b6:b12≠b6:=fun e=>by rw[e]at hn12;simp only[nb6_b7,RR,seval,reduceCtorEq]at hn12
  have nb6_b12:b6≠b12:=fun e=>nb12_b6 e.symm;have nb12_b7:b12≠b7:=fun e=>by rw[e]at hn12;simp only[RR,seval,reduceCtorEq]at hn12
  have nb7_b12:b7≠b12:=fun e=>nb12_b7 e.symm;simp only[RR,seval];refine aP fun b17 hn17=>?_;have nb17_b3:b17≠b3:=fun e=>by rw[e]at hn17;simp only[nb3_b6,nb3_b7,nb3_b12,RR,seval,reduceCtorEq]at hn17
  have nb3_b17:b3≠b17:=fun e=>nb17_b3 e.symm;have nb17_b6:b17≠b6:=fun e=>by rw[e]at hn17;simp only[nb6_b7,nb6_b12,RR,seval,reduceCtorEq]at hn17
  have nb6_b17:b6≠b17:=fun e=>nb17_b6 e.symm;have nb17_b7:b17≠b7:=fun e=>by rw[e]at hn17;simp only[nb7_b12,RR,seval,reduceCtorEq]at hn17
  have nb7_b17:b7≠b17:=fun e=>nb17_b7 e.symm;have nb17_b12:b17≠b12:=fun e=>by rw[e]at hn17;simp only[RR,seval,reduceCtorEq]at hn17
  have nb12_b17:b12≠b17:=fun e=>nb17_b12 e.symm;simp only[nb7_b3,nb7_b12,nb7_b17,RR,seval];refine gF (by kernel_rfl) ?_;simp only[RR,seval];refine hKR1 _ _ ⟨b7,b12,b17,rfl,rfl,rfl, ?_, ?_, ?_, ?_, ?_,nb7_b12,nb3_b6⟩<;>first|rfl|(simp only[nb3_b6,nb3_b7,nb6_b7,nb3_b12,nb6_b12,nb12_b7,nb3_b17,nb6_b17,nb17_b7,nb12_b17,aJ,seval];done)|(simp only[nb6_b3,nb3_b6,nb7_b3,nb3_b7,nb7_b6,nb6_b7,nb12_b3,nb3_b12,nb12_b6,nb6_b12,nb12_b7,nb7_b12,nb17_b3,nb3_b17,nb17_b6,nb6_b17,nb17_b7,nb7_b17,nb17_b12,nb12_b17,e1,e3,hflx,hzl,hrowg,aD,aJ,RR,seval];rfl)
 rintro F1 M1 ⟨b7,b12,b17,f3,f6,f7,hb3,hb6,hb7,hb12,hb17,nb7_b12,nb3_b6⟩;simp only[fR];apply y;clear y;have nb12_b7:b12≠b7:=fun e=>nb7_b12 e.symm;have nb6_b3:b6≠b3:=fun e=>nb3_b6 e.symm;have nb3_b7:b3≠b7:=fun e=>by rw[e,hb7]at hb3;cases hb3
 have nb3_b12:b3≠b12:=fun e=>by rw[e,hb12]at hb3;cases hb3
 have nb3_b17:b3≠b17:=fun e=>by rw[e,hb17]at hb3;cases hb3
 have nb6_b7:b6≠b7:=fun e=>by rw[e,hb7]at hb6;cases hb6
 have nb6_b12:b6≠b12:=fun e=>by rw[e,hb12]at hb6;cases hb6
 have nb6_b17:b6≠b17:=fun e=>by rw[e,hb17]at hb6;cases hb6
 have nb7_b3:b7≠b3:=fun e=>by rw[e,hb3]at hb7;cases hb7
 have nb7_b6:b7≠b6:=fun e=>by rw[e,hb6]at hb7;cases hb7
 have nb7_b17:b7≠b17:=fun e=>by rw[e,hb17]at hb7;cases hb7
 have nb12_b3:b12≠b3:=fun e=>by rw[e,hb3]at hb12;cases hb12
 have nb12_b6:b12≠b6:=fun e=>by rw[e,hb6]at hb12;cases hb12
 have nb12_b17:b12≠b17:=fun e=>by rw[e,hb17]at hb12;cases hb12
 have nb17_b3:b17≠b3:=fun e=>by rw[e,hb3]at hb17;cases hb17
 have nb17_b6:b17≠b6:=fun e=>by rw[e,hb6]at hb17;cases hb17
 have nb17_b7:b17≠b7:=fun e=>by rw[e,hb7]at hb17;cases hb17
 have nb17_b12:b17≠b12:=fun e=>by rw[e,hb12]at hb17;cases hb17
 refine Lo (lo:=7) (caps:=[.ptr 1 b7 0 0, .ptr 3 b6 0 0]) (Q:=Ld (Ly cK 23 Bg [.ptr 1 b7 0 0, .ptr 3 b6 0 0] 5 [.cell 6 43] (Ks b6) (fun ae H'=>ae= .ret (Gc e out t)∧H'=rA))) (by simp only[List.map_cons,List.map_nil,f6,f7,RR,seval]) rfl (by decide) (by decide) (by decide) ?_ ?_
 rotate_left
 ·intro γ γ' e' a' w' g1 g2 g3 g4 hpin hl
  refine Pa (Ng:=23) (fn:=Tryz.f17) (gfn:=Tryz.f35) rfl Tryz.func35 rfl rfl rfl rfl (by decide) rfl rfl g1 g2 g3 g4 (fun hh S w tt=>?_) hl;show bL S w (Ks b6 tt) _;unfold Ks;by_cases ht:tt=6
  ·subst ht
   rw[bO,hh.2 6 (by decide),hpin 6 3 b6 0 0 (by decide) (by decide) (by simp only[f6,seval])];simp only[bL]
  rw[cH _ _ ht];simp only[bL]
 refine bM fun FS HS hfr hH=>?_;have f3:FS 3= .ptr 2 b3 0 0:=(hfr 3).trans (by simp only[aJ,f3,seval]);have f6:FS 6= .ptr 3 b6 0 0:=(hfr 6).trans (by simp only[aJ,f6,seval]);have f7:FS 7= .ptr 1 b7 0 0:=(hfr 7).trans (by simp only[aJ,f7,seval]);have hb3:=(hH b3).trans hb3;have hb6:=(hH b6).trans hb6;have hb7:=(hH b7).trans hb7;have hb12:=(hH b12).trans hb12;have hb17:=(hH b17).trans hb17;have hR:eX cx W b17 b12 ⟨List.replicate W 0,[],0,[],0⟩ .nsl HS:=⟨by rw[hcf,hci,←hfl2];simpa using hb17,by simpa [jV]using hb12, .inl ⟨rfl,rfl⟩,(fun _ _ h=>by cases h),(fun x hx=>by rw[List.eq_of_mem_replicate hx];exact rI),by simp,Nat.zero_le _,Nat.zero_le _,by simp⟩;have hR1:=hR.other nb7_b17 nb7_b12 (fun _ _ h=>by cases h) none;have hL:=(hC b17 b12 n).L (c.funs.length- 1) g.body _ .nsl _ o hgb hgw hR1 hev;clear hfr hH;refine aB fun K y=>?_;refine bJ (fun x=>x≠b7) [(0,1),(1,3),(2,1),(3,3),(4,1),(5,3),(6,3),(7,3),(8,3),(9,1),(10,1)] [] dG (by kernel_rfl) rfl rfl ?_;simp only[cF,f3,f7,hb3,hb7,e3,hrowg,aD,RR,seval];refine Lp (b7:=b7) hL hb7 (fun b hb=>hb) ?_ ?_
 ·intro e' s vo' H' he' hR' h7' ho7' hk'
  subst he';simp only[sG,Prod.mk.injEq]at hend;obtain⟨rfl,rfl,rfl⟩:=hend;simp only[cO];exact Zz b7 b6 H' _ _ hR' h7' ho7' (hk' b6 _ hb6 nb6_b17 nb6_b12 (fun _ _ h=>by cases h)) ⟨rfl,rfl⟩
 intro p s vo' H' he' hR' h7' ho7' hk';subst he';simp only[sG,Prod.mk.injEq]at hend;obtain⟨rfl,rfl,rfl⟩:=hend;have hb6':=hk' b6 _ hb6 nb6_b17 nb6_b12 (fun _ _ h=>by cases h);simp only[kX,RR,seval];apply y;clear y;refine eX.seal hR' fun FT HT hft hr2 hk2=>?_;have f6:FT 6= .ptr 3 b6 0 0:=(hft 6 (by simp only[aJ,f6,seval];rfl)).trans (by simp only[aJ,f6,seval]);have f7:FT 7= .ptr 1 b7 0 0:=(hft 7 (by simp only[aJ,f7,seval];rfl)).trans (by simp only[aJ,f7,seval]);have hb7:=hk2 b7 _ _ nb7_b17 ho7' (fun r hr x hx=>by simp only[List.mem_singleton]at hr;subst hr;simp only[List.mem_singleton]at hx;subst hx;rfl) h7';have hb6:=hk2 b6 _ _ nb6_b17 (hR'.o.offsz hb6' (by decide)) (fun r hr x hx=>by simp only[List.mem_singleton]at hr;subst hr;simp only[List.mem_cons,List.not_mem_nil,or_false]at hx;rcases hx with rfl|rfl|rfl<;>rfl) hb6';have hb17:=hr2;have hbb:=yT s.out;clear hk2 hft hr2 hk';refine aB fun K y=>?_;refine bJ (fun x=>x≠b6∧x≠b7∧x≠b17) [(0,1),(1,3),(2,3),(3,1),(4,3),(5,1),(6,3),(7,3),(8,1),(9,3)] [(10,1)] dG (by kernel_rfl) rfl rfl ?_;simp only[cF,f6,f7,hb6,hb7,hb17,hbb,RR,seval];apply y;clear y;refine aO ?_;exact A0 b7 b6 _ _ 1 s.out s.ticks (by first|exact bO _ _ _|(simp only[aJ,seval];rfl)) ⟨rfl,rfl⟩
end Go.Proofs.YtnfbbjhdflhmjaaGreatDoor
