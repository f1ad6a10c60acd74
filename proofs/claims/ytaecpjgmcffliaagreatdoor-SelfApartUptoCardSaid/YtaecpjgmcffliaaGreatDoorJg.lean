/- Chapter 15, the judge's: a source's program, an expression's text. -/
import Derived.Test.YtaecpjgmcffliaaGreatDoorJf
import Derived.Test.YtaecpjgmcffliaaGreatDoorGDf
import Derived.Test.YtaecpjgmcffliaaGreatDoorLx
import Derived.Test.YtaecpjgmcffliaaGreatDoorPb
import Derived.Test.YtaecpjgmcffliaaGreatDoorAl4
import Derived.Test.YtaecpjgmcffliaaGreatDoorSy3
import Derived.Test.YtaecpjgmcffliaaGreatDoorSy1
set_option linter.unusedSimpArgs false
set_option linter.unusedVariables false
set_option maxRecDepth 10000
namespace Go.Proofs.YtaecpjgmcffliaaGreatDoor
open Go.Al
theorem Nc (r0:Nat) (T:List dC) (n:Nat) (w:Bool) (hn:n≤T.length) (s:cN):zZ 66 [.str s] r0 T n w (.int .i64 (W7 T s.length n)) n w:=by
 unfold zZ;have hr0:=gL r0 T n w;by_cases hlt:n<T.length
 ·have hg:=aG hlt
  generalize T[n]=t at hg;have hgt:=P1 hg;have hd:decide ((n:Int)<(T.length:Int))=true:=bQ (by omega);have e:W7 T s.length n=(t.pos:Int):=by simp [W7,hg]
  rw[e];refine bM 28 [.tmp 4] Tryz.func66 rfl rfl rfl rfl ?_;refine aB fun _ y=>aA rfl ?_;simp only[RR,seval];apply y;clear y;refine aJ ?_;refine aB fun K y=>?_;refine bK (fun x=>x≠r0) [(0,3),(1,3),(2,3),(3,1),(4,3),(5,3),(6,3),(7,1),(8,3),(9,3)] [] cX (by kernel_rfl) rfl rfl ?_;simp only[cO,hr0,aC,hd,RR,seval];apply y;clear y;refine aH _ rfl (fun hc1=>?_) (fun hc1=>?_)
  ·refine aB fun K y=>?_
   refine bK (fun x=>x≠r0) [(0,3),(1,3),(2,3),(3,1),(4,3),(5,3),(6,3),(7,1),(8,3),(9,3),(10,1),(11,3)] [] cX (by kernel_rfl) rfl rfl ?_;simp only[cO,hr0,hgt,RR,seval];apply y;clear y;refine aM ?_;simp only[aZ,aL,bJ,RR,seval];refine iL (by first|exact hr0|(simp only[hr0,aC,hgt,hd,aF,RR,seval];done)) ?_
   first|rfl|simp_all
  refine aK ?_;try simp only[RR]
  refine aB fun _ y=>aA rfl ?_;simp only[RR,seval];apply y;clear y;refine aM ?_;simp only[aZ,aL,bJ,RR,seval];refine iL (by first|exact hr0|(simp only[hr0,aC,hgt,hd,aF,RR,seval];done)) ?_
  first|rfl|simp_all
 have hd:decide ((n:Int)<(T.length:Int))=false:=aX (by omega);have e:W7 T s.length n=(s.length:Int):=by simp [W7,List.getElem?_eq_none (Nat.le_of_not_lt hlt)]
 rw[e];refine bM 28 [.tmp 4] Tryz.func66 rfl rfl rfl rfl ?_;refine aB fun _ y=>aA rfl ?_;simp only[RR,seval];apply y;clear y;refine aJ ?_;refine aB fun K y=>?_;refine bK (fun x=>x≠r0) [(0,3),(1,3),(2,3),(3,1),(4,3),(5,3),(6,3),(7,1),(8,3),(9,3)] [] cX (by kernel_rfl) rfl rfl ?_;simp only[cO,hr0,aC,hd,RR,seval];apply y;clear y;refine aH false rfl (fun hc=>by cases hc) (fun _=>?_);refine aK ?_;try simp only[RR]
 refine aB fun _ y=>aA rfl ?_;simp only[RR,seval];apply y;clear y;refine aM ?_;simp only[aZ,aL,bJ,RR,seval];refine iL (by first|exact hr0|(simp only[hr0,aC,hd,aF,RR,seval];done)) ?_
 first|rfl|simp_all
set_option maxHeartbeats 4000000 in
theorem Sj (s:cN) (hs:s.length≤1000000):cM cG 38 [.str s] (Rx (Rr s)):=by
 generalize hres:Rr s=res;unfold Rr at hres;have hz:Al.dQ (.agg [.nsl, .nsl, .nsl]) X5.av:=dQ.agg N7
 cases hl:tK s with
 |error x=>
  obtain⟨i,e⟩:=x;rw[hl]at hres;simp only at hres;subst hres;have hL:=Zk hs hl;have he:=B0 hl;have hd:decide (e=0)=false:=aX he;refine bM 48 [.cell 2 26, .tmp 3, .tmp 4] Tryz.func38 rfl rfl rfl rfl ?_;refine aB fun _ y=>aA rfl ?_;simp only[RR,seval];refine aT fun b2 hn2=>?_;simp only[RR,seval];apply y;clear y;refine aB fun _ y=>aA rfl ?_;simp only[RR,seval];refine aP (hL) ?_;simp only[RR,seval];apply y;clear y;refine aJ ?_;refine aB fun _ y=>aA rfl ?_;simp only[hd,RR,seval];apply y;clear y;refine aH true rfl (fun _=>?_) (fun hc=>by cases hc);refine aB fun _ y=>aA rfl ?_;simp only[RR,seval];apply y;clear y;refine aM ?_;simp only[aZ,aL,bJ,RR,seval];refine⟨Rx _,lG,(fZ.sub ?_).trans (fZ.drop (mP _)),rfl,rfl⟩
  first|exact dQ.refl _|exact dQ.tup (cY.cons hz (cY.refl _))
 |ok T=>
  rw[hl]at hres;simp only at hres;have hL:=N5 hs hl;have hT:=O3 hl;refine bM 48 [.cell 2 26, .tmp 3, .tmp 4] Tryz.func38 rfl rfl rfl rfl ?_;refine aB fun _ y=>aA rfl ?_;simp only[RR,seval];refine aT fun b2 hn2=>?_;simp only[RR,seval];apply y;clear y;refine aB fun _ y=>aA rfl ?_;simp only[RR,seval];refine aP (hL) ?_;simp only[RR,seval];apply y;clear y;refine aJ ?_;refine aB fun _ y=>aA rfl ?_;simp only[RR,seval];apply y;clear y;refine aH false rfl (fun hc=>by cases hc) (fun _=>?_);refine aK ?_;try simp only[RR]
  refine aB fun _ y=>aA rfl ?_;simp only[RR,seval];refine aT fun b23 hn23=>?_;have nb23_b2:b23≠b2:=fun e=>by rw[e]at hn23;simp only[RR,seval,reduceCtorEq]at hn23
  have nb2_b23:b2≠b23:=fun e=>nb23_b2 e.symm;simp only[RR,seval];apply y;clear y;refine aB fun _ y=>aA rfl ?_;simp only[RR,seval];refine cA (Tn b23 hT 0 false (Nat.zero_le _)) (by first|exact hb23|(simp only[aF,RR,seval];done)) trivial fun a25 m25 w25 M1 hj25 hle25 hlt25 hn25x hk25x=>?_;rw[gU]at hj25;have gb2:=hk25x b2 _ (by first|exact nb2_b23|exact bS hb2 hb23 (by decide)|(intro e;subst e;simp_all)) (by first|exact aS _ _ _|(simp only[nb2_b23,aF,seval];rfl));have hb2:=gb2;clear gb2;have hb23:=hn25x;clear hn25x hk25x;simp only[BY,RR,seval];refine aT fun b9 hn9=>?_;have nb9_b2:b9≠b2:=fun e=>by rw[e]at hn9;simp only[hb2,seval,reduceCtorEq]at hn9
  have nb2_b9:b2≠b9:=fun e=>nb9_b2 e.symm;have nb9_b23:b9≠b23:=fun e=>by rw[e]at hn9;simp only[hb23,seval,reduceCtorEq]at hn9
  have nb23_b9:b23≠b9:=fun e=>nb9_b23 e.symm;simp only[RR,seval];apply y;clear y;refine aJ ?_;refine aB fun _ y=>aA rfl ?_;simp only[hb23,nb23_b9,RR,seval]
  repeat' ((first|refine aO (fun h=>?_) (fun h=>?_)|refine aR (fun h=>?_) (fun h=>?_))<;>simp only[h,hb23,nb23_b9,aC,RR,seval])
  all_goals
   apply y;clear y;refine aH _ rfl (fun hc6=>?_) (fun hc6=>?_)
   ·try (cases hc6;done)
    all_goals
     have hr:res=(X5,W7 T s.length m25,3):=by
      cases hw:w25 with
      |true=>rw[hw,Za]at hj25;rw[←hj25]at hres;exact hres.symm
      |false=>
       rw[hw,gU]at hj25;rw[←hj25]at hres
       have hlt:m25<T.length:=by
        first
        |(rw[hw]at h;cases h;done)
        |(have:=aD hc6;omega)
       simp only[if_pos hlt]at hres;exact hres.symm
     subst hr;refine aB fun _ y=>aA rfl ?_;simp only[RR,seval];refine dP (Nc b23 T m25 w25 hlt25 s) (by first|exact hb23|(simp only[hb23,nb23_b9,aF,seval];done)) trivial fun M2 hn42x hk42x=>?_;have gb2:=hk42x b2 _ (by first|exact nb2_b23|exact bS hb2 hb23 (by decide)|(intro e;subst e;simp_all)) (by first|exact hb2|exact aS _ _ _|(simp only[hb2,nb2_b9,aF,seval];rfl));have gb9:=hk42x b9 _ (by first|exact nb9_b23|exact bS hb9 hb23 (by decide)|(intro e;subst e;simp_all)) (by first|exact aS _ _ _|(simp only[hb2,hb23,nb23_b2,nb2_b23,nb9_b2,nb2_b9,nb9_b23,nb23_b9,aC,BY,aF,RR,seval];rfl));have hb2:=gb2;clear gb2;have hb9:=gb9;clear gb9;have hb23:=hn42x;clear hn42x hk42x;simp only[hb2,RR,seval];apply y;clear y;refine aM ?_;simp only[aZ,aL,bJ,RR,seval];refine⟨Rx _,lG,(fZ.sub ?_).trans (fZ.drop (mP _)),rfl,rfl⟩
     first|exact dQ.refl _|exact dQ.tup (cY.cons hz (cY.refl _))
   try (cases hc6;done)
   all_goals
    have hw:w25=false:=by simpa using h
    have hlt: ¬m25<T.length:=by have:=aE hc6;omega
    rw[hw,gU]at hj25;rw[←hj25]at hres;simp only[if_neg hlt]at hres;have hok:=Zl hT (Nat.zero_le _) hj25.symm;have hR:=Vd a25 hok.1 fun f hf=>by have:=(hok.2 f hf).1;omega
    rw[Pg.av,Pg.row]at hR;refine aK ?_;try simp only[RR]
    refine aJ ?_;refine aB fun _ y=>aA rfl ?_;simp only[RR,seval];refine aP (hR) ?_;simp only[RR,seval];apply y;clear y;refine aH _ rfl (fun hc8=>?_) (fun hc8=>?_)
    ·have hr: ¬dH a25=true:=by simpa using hc8
     rw[if_neg hr]at hres;subst hres;refine aB fun _ y=>aA rfl ?_;simp only[hb2,nb2_b9,RR,seval];apply y;clear y;refine aM ?_;simp only[aZ,aL,bJ,RR,seval];refine⟨Rx _,lG,(fZ.sub ?_).trans (fZ.drop (mP _)),rfl,rfl⟩
     first|exact dQ.refl _|exact dQ.tup (cY.cons hz (cY.refl _))
    have hr:dH a25=true:=by simpa using hc8
    rw[if_pos hr]at hres;subst hres;refine aK ?_;try simp only[RR]
    refine aB fun _ y=>aA rfl ?_;simp only[hb2,nb2_b9,RR,seval];apply y;clear y;refine aM ?_;simp only[aZ,aL,bJ,RR,seval];refine⟨Rx _,lG,(fZ.sub ?_).trans (fZ.drop (mP _)),rfl,rfl⟩
    first|exact dQ.refl _|exact dQ.tup (cY.cons hz (cY.refl _))
end Go.Proofs.YtaecpjgmcffliaaGreatDoor
namespace Go.Proofs.YtaecpjgmcffliaaGreatDoor
open Go.Al
def CO (s:cN):Option Pg:=match tK s with
 | .error _=>none
 | .ok T=>match uH T 0 with
   | .bad _=>none
   | .ok e m=>if m<T.length then none else some e
theorem L2 {s:cN} {e:Pg} (h:CO s=some e) (hr:dH e=true):Rr s=(e,0,0):=by
 unfold CO at h;unfold Rr
 cases hl:tK s with
 |error x=>rw[hl]at h;cases h
 |ok T=>
  rw[hl]at h;simp only at h⊢
  cases hp:uH T 0 with
  |bad m=>rw[hp]at h;cases h
  |ok x m=>
   rw[hp]at h;simp only at h⊢;by_cases c:m<T.length
   ·rw[if_pos c]at h;cases h
   rw[if_neg c]at h⊢;cases h;rw[if_pos hr]
def kD:Fu:=⟨[109,97,105,110],[],[],false,[.mk 1 [97] [.mk 5 0 0 [] []] [] [], .mk 5 [] [.mk 6 14 0 [] [.mk 2 0 0 [97] [], .mk 1 0 256 [] []]] [.mk 3 [] [.mk 2 0 0 [97] []] [] [], .mk 1 [97] [.mk 5 0 0 [] []] [] []] []]⟩
def eN:Pg:=⟨[[97]],[],[kD]⟩
def G4:cN:=[118,97,114,32,97,59,32,102,117,110,99,32,109,97,105,110,40,41,32,123,32,97,32,61,32,103,101,116,40,41,59,32,119,104,105,108,101,32,40,97,32,60,32,50,53,54,41,32,123,32,112,117,116,40,97,41,59,32,97,32,61,32,103,101,116,40,41,59,32,125,32,125]
theorem N4:dH eN=true:=by
 simp only[dH,eT,eN,kD,List.all_cons,List.all_nil,iS,nC,fP,iT,iO,fO,Ex.kids,Sm.es,Sm.thn,Sm.els]
 decide+kernel
theorem AK:Rr G4=(eN,0,0):=L2 (by kernel_rfl) N4
theorem sK:eN.few:=by
 have hz:rT ([]:List Ex):=⟨by simp [cQ],by simp⟩;have hzs:rI ([]:List Sm):=⟨by simp [cQ],by simp⟩;have one: ∀{e:Ex},e.ok→rT [e]:=fun h=>⟨by simp [cQ],by simpa using h⟩;have e5:(Ex.mk 5 0 0 [] []).ok:= .mk _ _ _ _ _ (by simp [eK]) (by simp [eK]) (by simp [iN]) (by simp [cQ]) hz.fit hz.all;have e2:(Ex.mk 2 0 0 [97] []).ok:= .mk _ _ _ _ _ (by simp [eK]) (by simp [eK]) (by simp [iN]) (by simp [cQ]) hz.fit hz.all;have e1:(Ex.mk 1 0 256 [] []).ok:= .mk _ _ _ _ _ (by simp [eK]) (by simp [eK]) (by simp [iN]) (by simp [cQ]) hz.fit hz.all;have e6:(Ex.mk 6 14 0 [] [.mk 2 0 0 [97] [], .mk 1 0 256 [] []]).ok:= .mk _ _ _ _ _ (by simp [eK]) (by simp [eK]) (by simp [iN]) (by simp [cQ]) (by simp [cQ]) (by simp [e2,e1]);have s1:(Sm.mk 1 [97] [.mk 5 0 0 [] []] [] []).ok:= .mk _ _ _ _ _ (by simp [eK]) (by simp [cQ]) (one e5) hzs.fit hzs.all hzs.fit hzs.all;have s3:(Sm.mk 3 [] [.mk 2 0 0 [97] []] [] []).ok:= .mk _ _ _ _ _ (by simp [eK]) (by simp [cQ]) (one e2) hzs.fit hzs.all hzs.fit hzs.all;have s5:(Sm.mk 5 [] [.mk 6 14 0 [] [.mk 2 0 0 [97] [], .mk 1 0 256 [] []]] [.mk 3 [] [.mk 2 0 0 [97] []] [] [], .mk 1 [97] [.mk 5 0 0 [] []] [] []] []).ok:= .mk _ _ _ _ _ (by simp [eK]) (by simp [cQ]) (one e6) (by simp [cQ]) (by simp [s3,s1]) hzs.fit hzs.all;have hf:kD.ok:=⟨by simp [cQ,kD],⟨by simp [cQ,kD],by simp [kD]⟩,⟨by simp [cQ,kD],by simp [kD]⟩,⟨by simp [cQ,kD],by simp [kD,s1,s5]⟩⟩;refine⟨⟨⟨by simp [cQ,eN],by simp [cQ,eN]⟩,by simp [cQ,eN],by simp [eN],by simp [cQ,eN],by simpa [eN]using hf⟩,by simp [eN],by simp [eN],by simp [eN],fun f h=>?_⟩;simp only[eN,List.mem_singleton]at h;subst h;refine⟨by simp [kD],by simp [kD], ?_⟩;show gH [_,_]≤_;simp [gH,Sm.sz,jA,Ex.sz]
theorem L8:fN eN=0:=by
 simp only[fN,dH,eT,eN,kD,List.all_cons,List.all_nil,iS,nC,fP,iT,iO,fO,gY,gX,oQ,eM,fK,jM,iM,dJ,eB,Ex.kids,Sm.es,Sm.thn,Sm.els]
 decide+kernel
theorem Pm:dY (fun l=>l.all lJ) eN=true:=by
 unfold dY;rw[L8];simp only[eN,kD,List.all_cons,List.all_nil,qW,Sm.kind,Sm.es,Sm.thn,Sm.els,rC,Ex.kind,Ex.kids]
 decide+kernel
theorem Y8:Lib.decDigits 256=[50,53,54]:=by simp [Lib.decDigits]
theorem V8:iZ kD.body=[63,58,97,87,97,50,53,54,32,60,68,97,46,63,58,97,69]:=by
 simp [kD,iZ,mZ,eQ,jU,fB,Y8,Zv]
theorem BV:zC eN=([63,58,97,87,97,50,53,54,32,60,68,97,46,63,58,97,69,36],0):=by
 unfold zC;rw[if_pos Pm];simp only[eN,V8];rfl
def zP:Pg:=⟨[],[],[]⟩
theorem BU:zC zP=([],1):=by
 have :dY (fun l=>l.all lJ) zP=false:=by simp [dY,zP]
 unfold zC;rw[if_neg (by rw[this];decide)]
theorem Z8:zP.ok:=⟨⟨by simp [cQ,zP],by simp [cQ,zP]⟩,by simp [cQ,zP],by simp [zP],by simp [cQ,zP],by simp [zP]⟩
theorem Z9:zP.few:=⟨Z8,by simp [zP],by simp [zP],by simp [zP],by simp [zP]⟩
theorem G3:cM cG 27 [] eN.av:=by
 have e1:=Sj G4 (by decide);rw[AK]at e1;have hav:eN.av= .agg [.isl 1 (eN.vars.map bG), .isl 2 (eN.arrs.map Ar.row), .isl 5 (eN.funs.map Fu.row)]:=rfl;have hr:Rx (eN,0,0)= .tup [eN.av, .int .i64 0, .int .i64 0]:=rfl;rw[hr]at e1;rw[hav]at e1⊢;unfold G4 at e1;generalize eN.vars.map bG=q1 at *;generalize eN.arrs.map Ar.row=q2 at *;generalize eN.funs.map Fu.row=q3 at *;refine bM 10 [.cell 0 26] Tryz.func27 rfl rfl rfl rfl ?_;refine aB fun _ y=>aA rfl ?_;simp only[RR,seval];refine aT fun b0 hn0=>?_;simp only[RR,seval];apply y;clear y;refine aB fun _ y=>aA rfl ?_;simp only[RR,seval];refine aP (e1) ?_;simp only[RR,seval];refine aT fun b1 hn1=>?_;have nb1_b0:b1≠b0:=fun e=>by rw[e]at hn1;simp only[RR,seval,reduceCtorEq]at hn1
 have nb0_b1:b0≠b1:=fun e=>nb1_b0 e.symm;simp only[RR,seval];apply y;clear y;refine aB fun _ y=>aA rfl ?_;simp only[nb0_b1,RR,seval];apply y;clear y;refine aM ?_;simp only[aZ,aL,bJ,RR,seval];refine bB.pure ?_;rfl
def L6:cN:=[47,47,32,65,32,99,111,109,112,105,108,101,114,32,111,102,32,97,32,115,109,97,108,108,32,112,97,114,116,32,111,102,32,116,104,101,32,108,97,110,103,117,97,103,101,44,32,105,110,32,116,104,97,116,32,112,97,114,116,46,10,118,97,114,32,99,44,32,110,44,32,111,44,32,120,44,32,115,44,32,109,44,32,118,44,32,100,44,32,105,44,32,113,59,10,97,114,114,97,121,32,116,91,52,48,57,54,93,59,10,102,117,110,99,32,109,97,105,110,40,41,32,123,10,32,32,47,47,32,87,104,97,116,32,101,97,99,104,32,98,121,116,101,32,100,111,101,115,44,32,102,114,111,109,32,51,48,48,48,32,111,110,58,32,111,102,32,111,112,101,114,97,116,105,111,110,115,32,116,104,101,105,114,32,110,117,109,98,101,114,115,46,10,32,32,116,91,51,48,52,51,93,32,61,32,52,59,32,32,32,47,47,32,43,10,32,32,116,91,51,48,52,53,93,32,61,32,53,59,32,32,32,47,47,32,45,10,32,32,116,91,51,48,52,50,93,32,61,32,54,59,32,32,32,47,47,32,42,10,32,32,116,91,51,48,52,55,93,32,61,32,55,59,32,32,32,47,47,32,47,10,32,32,116,91,51,48,51,55,93,32,61,32,56,59,32,32,32,47,47,32,37,10,32,32,116,91,51,48,51,56,93,32,61,32,57,59,32,32,32,47,47,32,38,10,32,32,116,91,51,49,50,52,93,32,61,32,49,48,59,32,32,47,47,32,124,10,32,32,116,91,51,48,57,52,93,32,61,32,49,49,59,32,32,47,47,32,94,10,32,32,116,91,51,48,55,54,93,32,61,32,49,50,59,32,32,47,47,32,76,10,32,32,116,91,51,48,56,50,93,32,61,32,49,51,59,32,32,47,47,32,82,10,32,32,116,91,51,48,54,48,93,32,61,32,49,52,59,32,32,47,47,32,60,10,32,32,116,91,51,48,54,49,93,32,61,32,49,53,59,32,32,47,47,32,61,10,32,32,47,47,32,79,102,32,111,116,104,101,114,115,58,32,116,104,101,32,105,110,115,116,114,117,99,116,105,111,110,44,32,97,110,100,32,50,32,109,111,114,101,32,116,104,97,110,32,119,104,97,116,32,116,104,101,32,115,116,97,99,107,32,103,114,111,119,115,32,98,121,44,32,102,114,111,109,32,116,104,101,32,98,105,116,32,50,57,32,111,110,46,10,32,32,116,91,51,48,51,51,93,32,61,32,49,51,50,54,53,55,57,55,49,50,59,32,32,47,47,32,33,32,32,101,113,32,114,49,44,32,114,50,44,32,114,48,10,32,32,116,91,51,48,54,51,93,32,61,32,49,57,57,55,53,51,55,50,56,48,59,32,32,47,47,32,63,32,32,103,101,116,32,114,49,10,32,32,116,91,51,48,54,52,93,32,61,32,49,51,52,51,51,53,55,48,53,54,59,32,32,47,47,32,64,32,32,108,100,32,114,49,44,32,114,50,44,32,49,50,56,10,32,32,116,91,51,48,51,53,93,32,61,32,52,50,48,52,56,51,48,55,50,59,32,32,32,47,47,32,35,32,32,99,104,107,32,114,49,44,32,52,48,57,54,10,32,32,116,91,51,48,52,54,93,32,61,32,57,52,49,54,50,49,50,52,56,59,32,32,32,47,47,32,46,32,32,112,117,116,32,114,50,10,32,32,116,91,51,48,51,50,93,32,61,32,49,54,52,53,50,49,53,55,52,52,59,32,32,47,47,32,97,32,110,117,109,98,101,114,39,115,32,101,110,100,58,32,108,117,105,32,114,49,44,32,48,10,32,32,116,91,51,48,54,57,93,32,61,32,57,48,56,48,54,54,56,49,54,59,32,32,32,47,47,32,69,32,32,114,101,116,32,114,50,10,32,32,116,91,51,48,51,54,93,32,61,32,49,53,48,57,57,52,57,52,52,48,59,32,32,47,47,32,36,32,32,104,97,108,116,10,32,32,47,47,32,84,104,101,32,116,101,120,116,32,105,115,32,114,101,97,100,59,32,111,102,32,73,32,97,110,100,32,68,44,32,116,105,108,108,32,70,32,97,110,100,32,69,32,99,111,109,101,44,32,111,110,108,121,32,119,104,105,99,104,32,111,110,101,32,105,115,32,111,112,101,110,32,97,104,101,97,100,32,111,102,32,105,116,32,105,115,32,107,101,112,116,46,10,32,32,99,32,61,32,103,101,116,40,41,59,10,32,32,119,104,105,108,101,32,40,99,32,60,32,50,53,54,41,32,123,10,32,32,32,32,116,91,110,93,32,61,32,99,59,10,32,32,32,32,105,102,32,40,40,99,32,45,32,54,56,41,32,42,32,40,99,32,45,32,55,51,41,32,61,61,32,48,41,32,123,10,32,32,32,32,32,32,116,91,110,93,32,61,32,111,59,10,32,32,32,32,32,32,111,32,61,32,110,59,10,32,32,32,32,125,10,32,32,32,32,105,102,32,40,99,32,45,32,54,57,32,60,32,50,41,32,123,10,32,32,32,32,32,32,120,32,61,32,116,91,111,93,59,10,32,32,32,32,32,32,116,91,111,93,32,61,32,56,53,55,55,51,53,49,55,50,32,43,32,110,32,42,32,52,59,32,32,47,47,32,106,122,32,114,50,44,32,116,111,32,98,101,104,105,110,100,32,116,104,105,115,32,98,121,116,101,10,32,32,32,32,32,32,111,32,61,32,120,59,10,32,32,32,32,125,10,32,32,32,32,110,32,61,32,110,32,43,32,49,59,10,32,32,32,32,99,32,61,32,103,101,116,40,41,59,10,32,32,125,10,32,32,47,47,32,84,104,114,101,101,32,119,111,114,100,115,32,115,116,97,110,100,32,97,104,101,97,100,32,111,102,32,116,104,101,32,99,111,100,101,46,10,32,32,116,91,52,48,48,49,93,32,61,32,49,49,52,53,51,57,48,52,49,57,59,32,32,47,47,32,83,69,69,68,10,32,32,116,91,52,48,48,50,93,32,61,32,110,32,42,32,52,59,10,32,32,116,91,52,48,48,51,93,32,61,32,52,50,50,52,59,10,32,32,105,32,61,32,52,48,48,49,59,10,32,32,115,32,61,32,49,56,56,48,48,57,54,55,54,56,59,32,32,47,47,32,97,32,108,101,116,116,101,114,58,32,108,100,32,114,49,44,32,114,48,44,32,99,10,32,32,119,104,105,108,101,32,40,33,40,110,32,60,32,113,41,41,32,123,10,32,32,32,32,47,47,32,87,104,97,116,32,105,115,32,114,101,97,100,121,32,105,115,32,112,117,116,32,111,117,116,46,10,32,32,32,32,119,104,105,108,101,32,40,105,32,60,32,52,48,48,52,41,32,123,10,32,32,32,32,32,32,120,32,61,32,116,91,105,93,59,10,32,32,32,32,32,32,112,117,116,40,120,41,59,10,32,32,32,32,32,32,112,117,116,40,120,32,62,62,32,56,41,59,10,32,32,32,32,32,32,112,117,116,40,120,32,62,62,32,49,54,41,59,10,32,32,32,32,32,32,112,117,116,40,120,32,62,62,32,50,52,41,59,10,32,32,32,32,32,32,105,32,61,32,105,32,43,32,49,59,10,32,32,32,32,125,10,32,32,32,32,47,47,32,87,104,97,116,32,116,104,101,32,110,101,120,116,32,98,121,116,101,32,100,111,101,115,59,32,111,102,32,100,105,103,105,116,115,44,32,70,32,97,110,100,32,99,111,108,111,110,115,32,110,111,116,104,105,110,103,58,32,109,111,118,32,114,49,44,32,114,50,46,10,32,32,32,32,99,32,61,32,116,91,113,93,59,10,32,32,32,32,118,32,61,32,99,59,10,32,32,32,32,105,102,32,40,99,32,60,32,50,53,54,41,32,123,10,32,32,32,32,32,32,118,32,61,32,116,91,99,32,43,32,51,48,48,48,93,59,10,32,32,32,32,125,10,32,32,32,32,105,102,32,40,118,32,61,61,32,48,41,32,123,10,32,32,32,32,32,32,118,32,61,32,49,49,50,53,50,53,51,49,50,48,59,10,32,32,32,32,125,10,32,32,32,32,105,102,32,40,118,32,60,32,49,54,41,32,123,10,32,32,32,32,32,32,118,32,61,32,118,32,42,32,49,54,55,55,55,50,49,54,32,43,32,53,51,55,57,56,53,48,50,54,59,32,32,47,47,32,114,49,44,32,114,49,44,32,114,50,10,32,32,32,32,125,10,32,32,32,32,116,91,52,48,48,48,93,32,61,32,50,55,48,53,51,50,54,48,57,32,43,32,100,59,32,32,47,47,32,108,100,32,114,50,44,32,114,48,44,32,100,32,43,32,49,10,32,32,32,32,116,91,52,48,48,49,93,32,61,32,50,54,57,52,56,52,48,51,50,32,43,32,100,59,32,32,47,47,32,108,100,32,114,49,44,32,114,48,44,32,100,10,32,32,32,32,105,102,32,40,99,32,45,32,52,56,32,60,32,49,48,41,32,123,10,32,32,32,32,32,32,109,32,61,32,109,32,42,32,49,48,32,43,32,40,99,32,45,32,52,56,41,59,10,32,32,32,32,125,10,32,32,32,32,105,102,32,40,99,32,61,61,32,51,50,41,32,123,10,32,32,32,32,32,32,116,91,52,48,48,49,93,32,61,32,49,55,56,50,53,55,57,50,32,43,32,40,109,32,38,32,54,53,53,51,53,41,59,32,32,47,47,32,108,105,32,114,49,10,32,32,32,32,32,32,118,32,61,32,118,32,43,32,40,109,32,62,62,32,49,54,41,59,10,32,32,32,32,32,32,109,32,61,32,48,59,10,32,32,32,32,125,10,32,32,32,32,105,102,32,40,99,32,45,32,57,55,32,60,32,50,54,41,32,123,10,32,32,32,32,32,32,118,32,61,32,115,32,43,32,99,59,10,32,32,32,32,32,32,115,32,61,32,49,56,56,48,48,57,54,55,54,56,59,10,32,32,32,32,125,10,32,32,32,32,105,102,32,40,99,32,61,61,32,53,56,41,32,123,10,32,32,32,32,32,32,115,32,61,32,56,50,52,49,56,48,55,51,54,59,32,32,47,47,32,116,104,101,32,110,101,120,116,32,108,101,116,116,101,114,58,32,115,116,32,114,50,44,32,114,48,44,32,99,10,32,32,32,32,125,10,32,32,32,32,105,102,32,40,99,32,61,61,32,54,52,41,32,123,10,32,32,32,32,32,32,116,91,52,48,48,49,93,32,61,32,52,50,49,53,51,49,54,52,56,59,32,32,47,47,32,99,104,107,32,114,50,44,32,52,48,57,54,10,32,32,32,32,125,10,32,32,32,32,105,102,32,40,99,32,61,61,32,56,55,41,32,123,10,32,32,32,32,32,32,118,32,61,32,49,54,50,56,52,51,56,53,50,56,32,43,32,113,32,42,32,52,59,32,32,47,47,32,108,105,32,114,49,44,32,119,104,101,114,101,32,87,32,105,115,10,32,32,32,32,125,10,32,32,32,32,116,91,52,48,48,50,93,32,61,32,118,32,38,32,53,51,54,56,55,48,57,49,49,59,10,32,32,32,32,100,32,61,32,100,32,43,32,40,118,32,62,62,32,50,57,41,32,45,32,50,59,10,32,32,32,32,116,91,52,48,48,51,93,32,61,32,50,56,54,50,54,49,50,52,57,32,43,32,100,59,32,32,47,47,32,115,116,32,114,49,44,32,114,48,44,32,100,32,43,32,49,10,32,32,32,32,105,102,32,40,99,32,61,61,32,51,53,41,32,123,10,32,32,32,32,32,32,116,91,52,48,48,51,93,32,61,32,50,56,55,51,55,53,52,56,56,59,32,32,47,47,32,115,116,32,114,50,44,32,114,49,44,32,49,50,56,10,32,32,32,32,125,10,32,32,32,32,105,32,61,32,52,48,48,48,59,10,32,32,32,32,113,32,61,32,113,32,43,32,49,59,10,32,32,125,10,125,10]
theorem Zb:decide ((0:Int)<(L6.length:Int))=true:=by decide+kernel
set_option maxRecDepth 100000 in
theorem Ot:cM cG 22 [] (.str L6):=by
 unfold L6;refine bM 1 [.tmp 0] Tryz.func22 rfl rfl rfl rfl ?_;refine aB fun _ y=>aA rfl ?_;simp only[RR,seval];apply y;clear y;refine aB fun _ y=>aA rfl ?_;simp only[RR,seval];apply y;clear y;refine aM ?_;simp only[aZ,aL,bJ,RR,seval];refine bB.pure ?_;rfl
theorem Ce:cM cG 11 [] (.bool true):=by
 have e1:=G3;have e2:=mK eN sK.ok (fun _=>sK) (fun f hf _=>by simp only[eN,List.mem_singleton]at hf;subst hf;rw[V8];decide);rw[BV]at e2;have e3:=mK zP Z8 (fun _=>Z9) (fun f hf=>by cases hf);rw[BU]at e3;have mQ:cY [.agg [.nsl, .nsl, .nsl]] [zP.av]:=cY.cons (dQ.agg (cY.cons (dQ.nsl 1) (cY.cons (dQ.nsl 2) (cY.cons (dQ.nsl 5) (cY.refl _))))) (cY.refl _);have e4:=qZ eN sK.ok (fun _=>sK);rw[Pm]at e4;have e5:=Ot;have h0:=Zb;generalize L6=sb at *;generalize eN.av=pv at *;generalize zP.av=zv at *;simp only at e2 e3;refine bM 34 [.tmp 0] Tryz.func11 rfl rfl rfl rfl ?_;refine aB fun _ y=>aA rfl ?_;simp only[RR,seval];apply y;clear y;refine aB fun _ y=>aA rfl ?_;simp only[RR,seval];refine aP (e1) ?_;simp only[RR,seval];refine aP (e2) ?_;simp only[RR,seval];apply y;clear y;refine aB fun _ y=>aA rfl ?_;simp only[RR,seval];refine Cd e3 mQ ?_;simp only[RR,seval];apply y;clear y;refine aB fun _ y=>aA rfl ?_;simp only[RR,seval];refine aP (e1) ?_;simp only[RR,seval];refine aP (e4) ?_;simp only[RR,seval];refine aP (e5) ?_;simp only[h0,RR,seval];apply y;clear y;refine aM ?_;simp only[aZ,aL,bJ,RR,seval];refine bB.pure ?_;rfl
end Go.Proofs.YtaecpjgmcffliaaGreatDoor
namespace Go.Al
def kE:List Ex→Nat
 |[]=>0
 |e::l=>jA e.kids+kE l
def kS:List Sm→Nat
 |[]=>0
 |e::l=>jA e.es+gH e.thn+gH e.els+kS l
theorem W3: ∀l:List Ex,jA l=l.length+kE l
 |[]=>rfl
 |e::l=>by have:=W3 l;have:=e.sz_eq;simp only[jA,kE,aQ];omega
theorem W2: ∀l:List Sm,gH l=l.length+kS l
 |[]=>rfl
 |e::l=>by have:=W2 l;have:=e.sz_eq;simp only[gH,kS,aQ];omega
theorem Dz (e:Ex): ∀l:List Ex,kE (l++[e])=kE l+jA e.kids
 |[]=>by simp [kE]
 |x::l=>by simp only[List.cons_append,kE,Dz e l];omega
theorem Dy (e:Sm): ∀l:List Sm,kS (l++[e])=kS l+(jA e.es+gH e.thn+gH e.els)
 |[]=>by simp [kS]
 |x::l=>by simp only[List.cons_append,kS,Dy e l];omega
theorem Qe: ∀(l:List Ex) (k:Nat),kE (l.take k)≤kE l
 |[],k=>by simp
 |x::l,0=>by simp [kE]
 |x::l,k+1=>by have:=Qe l k;simp only[List.take_succ_cons,kE];omega
theorem Qd: ∀(l:List Sm) (k:Nat),kS (l.take k)≤kS l
 |[],k=>by simp
 |x::l,0=>by simp [kS]
 |x::l,k+1=>by have:=Qd l k;simp only[List.take_succ_cons,kS];omega
def Un (f:Fu):Nat:=f.params.length+f.locs.length+gH f.body
def rN:List Fu→Nat
 |[]=>0
 |f::l=>Un f+rN l
theorem Af (f:Fu): ∀l:List Fu,rN (l++[f])=rN l+Un f
 |[]=>by simp [rN]
 |x::l=>by simp only[List.cons_append,rN,Af f l];omega
theorem Ph (B:Nat): ∀l:List Fu,(∀f∈l,Un f≤B)→rN l≤l.length *B
 |[],_=>by simp [rN]
 |x::l,h=>by
  have:=Ph B l fun f hf=>h f (List.mem_cons_of_mem _ hf);have:=h x (List.mem_cons_self);simp only[rN,aQ,Nat.succ_mul];omega
def Hg (p:Pg):Nat:=p.vars.length+p.arrs.length+p.funs.length+rN p.funs
theorem kJ {a b:Nat} (h:a+b≤9223372036854775807):IntKind.wrap .i64 ((a:Int)+(b:Int))=((a+b:Nat):Int):=by rw[aV _ (by omega)];omega
end Go.Al
namespace Go.Proofs.YtaecpjgmcffliaaGreatDoor
open Go.Al
theorem zA (n:Nat): ∀l:List Ex,jA l≤n→n≤1000000000000→cM cG 78 [.isl 5 (l.map Ex.row)] (.int .i64 ((jA l:Nat):Int)):=by
 induction n using Nat.strongRecOn with
 |_ n ih=>
  intro l hn hb;have hz:=W3 l;refine bM 22 [.tmp 2] Tryz.func78 rfl rfl rfl rfl ?_;refine aB fun _ y=>aA rfl ?_;simp only[RR,seval];apply y;clear y;refine aB fun _ y=>aA rfl ?_;simp only[aC,RR,seval];apply y;clear y;refine aJ ?_;refine aB fun _ y=>aA rfl ?_;simp only[RR,seval];apply y;clear y;refine bN fun F1 M1 hfr hH=>?_;have g0:=hfr 0;have g2:=hfr 2;have g3:=hfr 3;have g4:=hfr 4
  try simp only[RR,seval]at g0 g2 g3 g4
  have f0:=g0;clear g0;have f2:=g2;clear g2;have f3:=g3;clear g3;have f4:=g4;clear g4;clear hfr hH;refine aN ?_;refine cF [0,2] (l.length) (fun k fr M=>fr 4= .int .i64 (k:Nat)∧fr 3= .int .i64 ((l.length+kE (l.take k):Nat):Int)) ⟨f4,f3⟩ ?_;rintro k F2 M2 hk0 ⟨fx,f3⟩ agx K0 hK0;have f0:=(agx 0 rfl).trans f0;have f2:=(agx 2 rfl).trans f2;have f4:=fx;clear fx;have ag0:=aY.refl [0,2] F2;clear agx;refine aJ ?_;refine aB fun _ y=>aA rfl ?_;simp only[f0,f4,aC,RR,seval];apply y;clear y;refine aH _ rfl (fun hc=>?_) (fun hc=>?_)
  ·have hlt0:k<l.length:=by have:=aD hc;omega
   clear hc;have hg:=nM (aG hlt0);have htk:l.take (k+1)=l.take k++[l[k]]:=bL hlt0;have hsz:=fH (bE hlt0);have hkt:=Qe l (k+1);generalize l[k]=e at hg htk hsz;have hez:=e.sz_eq;rw[htk,Dz]at hkt;have hih:=ih (jA e.kids) (by omega) e.kids (bF _) (by omega);have hw:=kJ (a:=l.length+kE (l.take k)) (b:=jA e.kids) (by omega);refine aK ?_;try simp only[RR]
   refine aJ ?_;refine aN ?_;refine aA rfl ?_;simp only[f0,f4,f3,hg,RR,seval];refine aP (hih) ?_;simp only[hw,RR,seval];refine aA rfl ?_;simp only[f4,RR,seval]
   try rw[aV _ (by omega)]
   refine hK0 _ _ hlt0 ⟨by first|rfl|(simp only[aF,seval];rfl),by rw[htk,Dz];first|rfl|(simp only[aF,seval];congr 1;omega)⟩ (by repeat (first|exact ag0|refine aY.upd rfl ?_))
  have hkn0:k=l.length:=by have:=aE hc;omega
  clear hc;rw[hkn0,List.take_length,←hz]at f3;refine bI ?_;simp only[RR,seval];refine aB fun _ y=>aA rfl ?_;simp only[f3,RR,seval];apply y;clear y;refine aM ?_;simp only[aZ,aL,bJ,RR,seval];refine bB.pure ?_;rfl
theorem yZ (n:Nat): ∀l:List Sm,gH l≤n→n≤1000000000000→cM cG 53 [.isl 5 (l.map Sm.row)] (.int .i64 ((gH l:Nat):Int)):=by
 induction n using Nat.strongRecOn with
 |_ n ih=>
  intro l hn hb;have hz:=W2 l;refine bM 36 [.tmp 2] Tryz.func53 rfl rfl rfl rfl ?_;refine aB fun _ y=>aA rfl ?_;simp only[RR,seval];apply y;clear y;refine aB fun _ y=>aA rfl ?_;simp only[aC,RR,seval];apply y;clear y;refine aJ ?_;refine aB fun _ y=>aA rfl ?_;simp only[RR,seval];apply y;clear y;refine bN fun F1 M1 hfr hH=>?_;have g0:=hfr 0;have g2:=hfr 2;have g3:=hfr 3;have g4:=hfr 4
  try simp only[RR,seval]at g0 g2 g3 g4
  have f0:=g0;clear g0;have f2:=g2;clear g2;have f3:=g3;clear g3;have f4:=g4;clear g4;clear hfr hH;refine aN ?_;refine cF [0,2] (l.length) (fun k fr M=>fr 4= .int .i64 (k:Nat)∧fr 3= .int .i64 ((l.length+kS (l.take k):Nat):Int)) ⟨f4,f3⟩ ?_;rintro k F2 M2 hk0 ⟨fx,f3⟩ agx K0 hK0;have f0:=(agx 0 rfl).trans f0;have f2:=(agx 2 rfl).trans f2;have f4:=fx;clear fx;have ag0:=aY.refl [0,2] F2;clear agx;refine aJ ?_;refine aB fun _ y=>aA rfl ?_;simp only[f0,f4,aC,RR,seval];apply y;clear y;refine aH _ rfl (fun hc=>?_) (fun hc=>?_)
  ·have hlt0:k<l.length:=by have:=aD hc;omega
   clear hc;have hg:=sC (aG hlt0);have htk:l.take (k+1)=l.take k++[l[k]]:=bL hlt0;have hsz:=eS (bE hlt0);have hkt:=Qd l (k+1);generalize l[k]=e at hg htk hsz;have hez:=e.sz_eq;rw[htk,Dy]at hkt;have hx:=zA (jA e.es) e.es (bF _) (by omega);have ht:=ih (gH e.thn) (by omega) e.thn (bF _) (by omega);have hu:=ih (gH e.els) (by omega) e.els (bF _) (by omega);have hw1:=kJ (a:=l.length+kS (l.take k)) (b:=jA e.es) (by omega);have hw2:=kJ (a:=l.length+kS (l.take k)+jA e.es) (b:=gH e.thn) (by omega);have hw3:=kJ (a:=l.length+kS (l.take k)+jA e.es+gH e.thn) (b:=gH e.els) (by omega);refine aK ?_;try simp only[RR]
   refine aJ ?_;refine aN ?_;refine bK (fun x=>True) [(0,3),(1,3),(2,3),(3,3),(4,3),(5,1),(8,3),(9,3),(10,3),(11,3),(12,0),(15,3),(16,3),(17,3),(18,3),(19,0),(6,1),(7,3),(13,1),(14,3),(20,1),(21,3),(22,3)] [] cX (by kernel_rfl) rfl rfl ?_;simp only[cO,dG,f0,f4,f3,hg,jR,reduceCtorEq,false_implies,forall_const,true_and,RR,seval];refine aP (hx) ?_;simp only[hw1,RR,seval];refine aP (ht) ?_;simp only[hw2,RR,seval];refine aP (hu) ?_;simp only[hw3,RR,seval];refine aA rfl ?_;simp only[f4,RR,seval]
   try rw[aV _ (by omega)]
   refine hK0 _ _ hlt0 ⟨by first|rfl|(simp only[aF,seval];rfl),by rw[htk,Dy];first|rfl|(simp only[aF,seval];congr 1;omega)⟩ (by repeat (first|exact ag0|refine aY.upd rfl ?_))
  have hkn0:k=l.length:=by have:=aE hc;omega
  clear hc;rw[hkn0,List.take_length,←hz]at f3;refine bI ?_;simp only[RR,seval];refine aB fun _ y=>aA rfl ?_;simp only[f3,RR,seval];apply y;clear y;refine aM ?_;simp only[aZ,aL,bJ,RR,seval];refine bB.pure ?_;rfl
theorem J0 (p:Pg) (hv:p.vars.length≤10000) (ha:p.arrs.length≤10000) (hf:p.funs.length≤10000) (hc: ∀f∈p.funs,Un f≤10000000):cM cG 26 [p.av] (.int .i64 ((Hg p:Nat):Int)):=by
 have hz:Hg p=p.vars.length+p.arrs.length+p.funs.length+rN p.funs:=rfl;generalize Hg p=res at *;have hav:p.av= .agg p.row:=rfl;have hrow:p.row=[.isl 1 (p.vars.map bG), .isl 2 (p.arrs.map Ar.row), .isl 5 (p.funs.map Fu.row)]:=rfl;rw[hav,hrow];have hw0:=kJ (a:=p.vars.length) (b:=p.arrs.length) (by omega);have hw1:=kJ (a:=p.vars.length+p.arrs.length) (b:=p.funs.length) (by omega);refine bM 49 [.tmp 2] Tryz.func26 rfl rfl rfl rfl ?_;refine aB fun _ y=>aA rfl ?_;simp only[RR,seval];refine aT fun b1 hn1=>?_;simp only[RR,seval];apply y;clear y;refine aB fun _ y=>aA rfl ?_;simp only[aC,hw0,hw1,RR,seval];apply y;clear y;refine aJ ?_;refine aB fun _ y=>aA rfl ?_;simp only[RR,seval];apply y;clear y;refine bN fun F1 M1 hfr hH=>?_;have g1:=hfr 1;have g2:=hfr 2;have g3:=hfr 3;have g4:=hfr 4;have gb1:=hH b1
 try simp only[RR,seval]at g1 g2 g3 g4 gb1
 have f1:=g1;clear g1;have f2:=g2;clear g2;have f3:=g3;clear g3;have f4:=g4;clear g4;have hb1:=gb1;clear gb1;clear hfr hH;refine aN ?_;refine cF [1,2] (p.funs.length) (fun k fr M=>fr 4= .int .i64 (k:Nat)∧M b1=M1 b1∧fr 3= .int .i64 ((p.vars.length+p.arrs.length+p.funs.length+rN (p.funs.take k):Nat):Int)) ⟨f4,rfl,f3⟩ ?_;rintro k F2 M2 hk0 ⟨fx,gb1,f3⟩ agx K0 hK0;have f1:=(agx 1 rfl).trans f1;have f2:=(agx 2 rfl).trans f2;have f4:=fx;clear fx;have hb1:=gb1.trans hb1;have ag0:=aY.refl [1,2] F2;have e0_b1:=gb1;clear gb1;clear agx;refine aJ ?_;refine aB fun _ y=>aA rfl ?_;simp only[f1,f4,hb1,aC,RR,seval];apply y;clear y;refine aH _ rfl (fun hc=>?_) (fun hc=>?_)
 ·have hlt0:k<p.funs.length:=by have:=aD hc;omega
  clear hc;have hg:=jK (aG hlt0);have htk:p.funs.take (k+1)=p.funs.take k++[p.funs[k]]:=bL hlt0;have hsm:=Ph 10000000 (p.funs.take k) (fun f hf=>hc f (List.mem_of_mem_take hf));have hsl:(p.funs.take k).length≤10000:=by rw[dR];omega
  have hcf:=hc _ (bE hlt0);generalize p.funs[k]=e at hg htk hcf;have hce:Un e=e.params.length+e.locs.length+gH e.body:=rfl;have hbd:(p.funs.take k).length *10000000≤10000 *10000000:=Nat.mul_le_mul_right _ hsl;have hx:=yZ (gH e.body) e.body (bF _) (by omega);have hq1:=kJ (a:=p.vars.length+p.arrs.length+p.funs.length+rN (p.funs.take k)) (b:=e.params.length) (by omega);have hq2:=kJ (a:=p.vars.length+p.arrs.length+p.funs.length+rN (p.funs.take k)+e.params.length) (b:=e.locs.length) (by omega);have hq3:=kJ (a:=p.vars.length+p.arrs.length+p.funs.length+rN (p.funs.take k)+e.params.length+e.locs.length) (b:=gH e.body) (by omega);refine aK ?_;try simp only[RR]
  refine aJ ?_;refine aN ?_;refine bK (fun x=>x≠b1) [(0,3),(1,3),(2,0),(3,3),(4,3),(5,3),(6,0),(7,3),(8,3),(9,3),(10,0),(11,3),(12,3),(13,3),(14,0),(15,3),(16,3),(17,3),(18,1),(19,3),(20,3),(21,3),(22,1),(23,1),(24,3),(25,3)] [] cX (by kernel_rfl) rfl rfl ?_;simp only[cO,dG,f1,f4,f3,hb1,aC,hg,hq1,hq2,RR,seval];refine aP (hx) ?_;simp only[hq3,RR,seval];refine aA rfl ?_;simp only[f4,RR,seval]
  try rw[aV _ (by omega)]
  refine hK0 _ _ hlt0 ⟨by first|rfl|(simp only[aF,seval];rfl),(by first|exact e0_b1|(simp only[aF,seval];first|done|exact e0_b1)),by rw[htk,Af];first|rfl|(simp only[aF,seval];congr 1;omega)⟩ (by repeat (first|exact ag0|refine aY.upd rfl ?_))
 have hkn0:k=p.funs.length:=by have:=aE hc;omega
 clear hc;rw[hkn0,List.take_length,←hz]at f3;refine bI ?_;simp only[RR,seval];refine aB fun _ y=>aA rfl ?_;simp only[f3,RR,seval];apply y;clear y;refine aM ?_;simp only[aZ,aL,bJ,RR,seval];refine bB.pure ?_;rfl
end Go.Proofs.YtaecpjgmcffliaaGreatDoor
