/- Xk -/
import Derived.Test.YtaecpjgmcffliaaGreatDoorMje
import Derived.Test.YtaecpjgmcffliaaGreatDoorXd
import Derived.Test.YtaecpjgmcffliaaGreatDoorAl3
import Derived.Test.YtaecpjgmcffliaaGreatDoorSy2
set_option linter.unusedSimpArgs false
set_option linter.unusedVariables false
set_option maxRecDepth 10000
set_option maxHeartbeats 8000000
namespace Go.Al
section
open Go.Lib
theorem Eh {P:Program} {W:World} {name:String} {k:IntKind} {zs:List Int} {g:Nat} {t e:TypeId} {n:Nat} (hg:P.globalNamed name=some g) (hty:(P.globals[g]?).map (·.type)=some t) (ht:P.underlying t=some (.array n e)) (he:P.underlying e=some (.int k)) (hce:P.cellsOf e=1) (hct:P.cellsOf t=n):
  ∀{l:List (String×DataW Unit)} {ps:List MemPlace},DataW.LaidVars P W l ps→(name,tabData k zs)∈l→W.var? P name=some (zs.map fun z=>Value.int k z).toArray
 |[],_,_,hm=>by cases hm
 |(nm,d)::rest,ps,h,hm=>by
  obtain⟨g',t',cs,fuel,p,q,hg',ht',hvar,hd,hrest,_⟩:=h;rcases bP.1 hm with hm|hm
  ·cases hm
   obtain rfl:=Option.some.inj (hg.symm.trans hg');obtain rfl:=Option.some.inj (hty.symm.trans ht');rw[hvar,←cells_of_tab ht he hce hct hd]
  exact Eh hg hty ht he hce hct hrest hm
def OE:DataW Unit→Value
 | .lit (.int k z)=> .int k z
 | .lit (.string s)=> .string ⟨s.toArray⟩
 |_=>Go.undef
def BU:DataW Unit→Array Value
 | .agg l=>(l.map OE).toArray
 |_=> #[]
end
end Go.Al
namespace Go.Proofs.YtaecpjgmcffliaaGreatDoor
open Go.Al Go.Proofs.Tryz
theorem BZ (W:List Int) (a:Int) (k:W.length≤20000) (o:0≤a∧a≤1000000):eN dV 20 [.agg [.isl 1 (W.map gL), .int .i64 4224], .int .i64 a] (.int .i64 (8 *(a+1) *((W.length:Int)+4224+1))):=by
 have l:8 *(a+1) *((W.length:Int)+4224+1)≤8 *1000001 *30000:=Int.mul_le_mul (by omega) (by omega) (by omega) (by decide);have j:0≤8 *(a+1) *((W.length:Int)+4224+1):=Int.mul_nonneg (by omega) (by omega);have d:IntKind.wrap .i64 (a+1)=a+1:=aS _ (by omega);have e:IntKind.wrap .i64 (8 *(a+1))=8 *(a+1):=aS _ (by omega);have f:IntKind.wrap .i64 ((W.length:Int)+4224)=(W.length:Int)+4224:=aS _ (by omega);have g:IntKind.wrap .i64 ((W.length:Int)+4224+1)=(W.length:Int)+4224+1:=aS _ (by omega);have i:IntKind.wrap .i64 (8 *(a+1) *((W.length:Int)+4224+1))=8 *(a+1) *((W.length:Int)+4224+1):=aS _ (by omega);refine bX 16 [.tmp 4] func20 ?_;refine aA fun K b=>?_;simp only[RR,seval];refine aM fun c n=>?_;simp only[RR,seval];refine b _ _ (aA fun K b=>?_);simp only[*,aE,RR,seval];apply b;refine aN ?_;simp only[aW,aJ,bN,RR,seval];refine aY.pure ?_;rfl
theorem Un {V:UInt8→Prop} {A:Prop} {l:List Sm} (G: ∀m∈l,SS V A 1 m) (y:(jX l++[36]).length≤2500):eN dV 17 [.str (jX l++[36])] (.tup [.agg [.isl 1 ((sQ (qD 0 l++[36])).map gL), .int .i64 4224], .str (vI (Yn (qD 0 l++[36]))), .bool true]):=by
 obtain⟨n,t,F,ht⟩:=IG G y (100 *(((jX l++[36]).length:Int)+100)) (by omega);have p:=MI fZ (HY Hy uB) (fun j g v u Q=>G3 Hy uB j g v u Q) (fun g v=>G4 uB g v) (jX l++[36]) (by omega) (100 *(((jX l++[36]).length:Int)+100)) ⟨by omega,by omega⟩ F;obtain⟨H,I⟩:=Vp G y;have C:(sQ (qD 0 l++[36])).length≤16384:=by rw[I];rw[aH,bV]at y;omega
 have z:=MF (sQ (qD 0 l++[36])) C (fun w R=>(H w R).1)
 have D:Yn (qD 0 l++[36])=[1145390419,((sQ (qD 0 l++[36])).length:Int),4224]++sQ (qD 0 l++[36]):=by
  unfold Yn sQ;rw[vV];simp
 rw[←D]at z;have B:=NU;unfold WA at p;have P:fZ.av= .agg [.isl 1 (fZ.vars.map bQ), .isl 2 (fZ.arrs.map Ar.row), .isl 5 (fZ.funs.map Fu.row)]:=rfl;rw[P]at p B;generalize fZ.vars.map bQ=q1 at *;generalize fZ.arrs.map Ar.row=q2 at *;generalize fZ.funs.map Fu.row=q3 at *;generalize jX l++[36]=s at *;generalize vI (Yn (qD 0 l++[36]))=S at *;generalize(sQ (qD 0 l++[36])).map gL=wr at *;clear F H I C D;have L:IntKind.wrap .i64 ((s.length:Int)+100)=(s.length:Int)+100:=aS _ (by omega);have N:IntKind.wrap .i64 (100 *((s.length:Int)+100))=100 *((s.length:Int)+100):=aS _ (by omega);refine bX 40 [.cell 2 36, .tmp 3, .tmp 4] func17 ?_;refine aA fun K a=>?_;simp only[RR,seval];refine aM fun c a4=>?_;simp only[RR,seval];refine a _ _ (aA fun K a=>?_);simp only[RR,seval];refine aO (B) ?_;simp only[RR,seval];refine aM fun d E=>?_;have U:d≠c:=fun e=>by rw[e]at E;simp only[RR,seval,reduceCtorEq]at E
 have J:=U.symm;simp only[RR,seval];refine a _ _ (aI (aA fun K a=>?_));simp only[RR,seval];refine a _ _ (bL ?_);refine aK ?_;simp only[RR];refine aA fun K a=>?_;simp only[L,N,RR,seval];refine aO (p) ?_;simp only[RR,seval];refine aM fun f k=>?_;have X:f≠c:=fun e=>by rw[e]at k;simp only[J,RR,seval,reduceCtorEq]at k
 have T:=X.symm;have Y:f≠d:=fun e=>by rw[e]at k;simp only[RR,seval,reduceCtorEq]at k
 have W:=Y.symm;simp only[RR,seval];refine a _ _ (aA fun K a=>?_);simp only[RR,seval];refine aO (z) ?_;simp only[RR,seval];refine aM fun i b=>?_;have Z:i≠c:=fun e=>by rw[e]at b;simp only[J,T,RR,seval,reduceCtorEq]at b
 have a5:=Z.symm;have a0:i≠d:=fun e=>by rw[e]at b;simp only[W,RR,seval,reduceCtorEq]at b
 have a6:=a0.symm;have a1:i≠f:=fun e=>by rw[e]at b;simp only[RR,seval,reduceCtorEq]at b
 have a7:=a1.symm;simp only[RR,seval];refine a _ _ (aC fun K a=>?_);refine fQ (fun o M=>o 2= .ptr 2 c 0 0∧o 3= .str S∧o 4= .bool true∧M c=some (.rows 2 [[.isl 1 wr, .int .i64 4224]])) (fun a2 O=>?_) ?_
 ·refine lK (fun x=>x≠d∧x≠f∧x≠i) eF (by kernel_rfl) fun hd=>?_
  refine hI [(0,1),(1,3),(2,0),(3,3),(4,1),(5,3),(6,3),(7,3),(8,3),(9,3),(10,1),(11,3),(12,3)] hd (m:=0) rfl (by kernel_rfl) rfl rfl ?_;simp only[*,dR,fX,RR,seval];refine jG (by kernel_rfl) ?_;simp only[RR,seval];refine O _ _ ⟨?_, ?_, ?_, ?_⟩<;>first|rfl|(simp only[aT,seval];done)
 rintro F1 M1 ⟨f2,f3,f4,a3⟩;simp only[iL];apply a;refine aN ?_;simp only[*,aW,aJ,bN,RR,seval];refine aY.pure ?_;rfl
def Ta (c:UInt8):Ex:= .mk 1 0 (c.toNat:Int) [] []
def kN (c:UInt8):Sm:= .mk 3 [] [Ta c] [] []
def eW (s:dC):Fu:=⟨[109,97,105,110],[],[],false,s.map kN⟩
def iS (s:dC):Pg:=⟨[],[],[eW s]⟩
theorem NQ (c:UInt8):(Ta c).ok:=by
 have:=c.toNat_lt;exact .mk _ _ _ _ _ ⟨by decide,by decide⟩ ⟨by decide,by decide⟩ ⟨by omega,by omega⟩ (cJ _) (cJ _) (fun e a=>by cases a)
theorem NR (c:UInt8):(kN c).ok:=
 .mk _ _ _ _ _ ⟨by decide,by decide⟩ (cJ _) ⟨by show 1≤_;decide,fun e a=>by rw[bD.1 a];exact NQ c⟩ (cJ _) (fun e a=>by cases a) (cJ _) (fun e a=>by cases a)
theorem H9: ∀s:dC,oZ (s.map kN)=2 *s.length
 |[]=>rfl
 |c::s=>by
  rw[cN,oZ,H9 s,aQ];simp only[kN,Ta,Sm.sz,Ex.sz,sN,oZ];omega
theorem Ph: ∀s:dC,gQ (s.map kN) 1=true
 |[]=>oK 1
 |c::s=>by
  rw[cN,lP,Ph s,hY];simp only[lI,kN,Ta,wN,zJ,Sm.kind,Sm.es,Sm.thn,Sm.els,Sm.name,lQ,lW,oK,lH,wM,lR,Ex.kind,Ex.op,Ex.num,Ex.name,Ex.kids,aQ,aV];simp
theorem Ih: ∀s:dC,eK (s.map kN)=[]
 |[]=>by rw[dO,eK]
 |c::s=>by
  rw[cN,nC,Ih s];simp [lM,kN,Ta,Sm.kind,Sm.es,Sm.thn,Sm.els,nD,fY,eK,nX,Ex.kind,Ex.kids]
theorem IR (K:dC→Bool): ∀s:dC,wJ K (s.map kN)=true
 |[]=>Gy K
 |c::s=>by
  rw[cN,Ad,IR K s,hY,Tj];simp [kN,Ta,Sm.kind,Sm.es,Sm.thn,Sm.els,Sm.name,wK,Ae,J1,Ex.kind,Ex.kids,Gy]
theorem T0 (W:dC→Bool) (w:Bool): ∀s:dC,nZ W w (s.map kN)=true
 |[]=>Ap W w
 |c::s=>by
  rw[cN,Du,T0 W w s,hY,Ue];simp [kN,Ta,Sm.kind,Sm.es,Sm.thn,Sm.els,Sm.name,xW,Bi,E5,Ex.kind,vC,Ap]
theorem S9: ∀s:dC,(s.map kN).all vP=true
 |[]=>rfl
 |c::s=>by
  rw[cN,dG,S9 s,hY,Si];simp [kN,Ta,Sm.kind,Sm.es,Sm.thn,Dv,Ex.kind,Ex.kids,rJ]
theorem Tc (s:dC) (h:s.length≤60):(iS s).ok:=by
 have a:yM (s.map kN):=⟨by show(s.map kN).length≤_;rw[aE];omega,fun e b=>by obtain⟨c,_,rfl⟩:=jL.1 b;exact NR c⟩;have d:(eW s).ok:=⟨by simp [fC,eW],⟨by simp [fC,eW],by simp [eW]⟩,⟨by simp [fC,eW],by simp [eW]⟩,a⟩;refine⟨⟨by simp [fC,iS],by simp [iS]⟩,by simp [fC,iS],by simp [iS],by simp [fC,iS],fun f h=>?_⟩;simp only[iS,bD]at h;subst h;exact d
theorem Xt (s:dC) (h:s.length≤60):(iS s).few:=by
 refine⟨Tc s h,by simp [iS],by simp [iS],by simp [iS],fun f a=>?_⟩;simp only[iS,bD]at a;subst a;refine⟨by simp [eW],by simp [eW], ?_⟩;show oZ (s.map kN)≤_;rw[H9];omega
theorem I1 (s:dC):gD (iS s)=true:=by
 simp only[gD,jC,iS,eW,dG,fO,aQ,aV,Ph s];rfl
theorem I0 (s:dC):gZ (iS s)=0:=by
 unfold gZ;rw[bH (I1 s)]
 have c:kH (iS s)=true:=by
  show(decide (kO (iS s)).Nodup&&(decide (gM (eW s)).Nodup&&(eK (s.map kN)).all (nO (iS s) 0)&&true))=true;rw[Ih];have a:kO (iS s)=kO (iS []):=rfl;have b:gM (eW s)=gM (eW []):=rfl;rw[a,b,fO]
  decide+kernel
 have d:qK (iS s)=true:=by
  show(((eK (s.map kN)).all (yD (iS s) 0)&&true)&&vE (iS s))=true;rw[Ih];have a:vE (iS s)=vE (iS []):=rfl;rw[a,fO]
  decide+kernel
 unfold lA;rw[bH c,bH d,bH rfl];unfold qH
 have e:((iS s).funs.all fun f=>wJ (zG (iS s)) f.body)=true:=by
  show(wJ _ (s.map kN)&&true)=true;rw[IR];rfl
 have g:((iS s).funs.all fun f=>nZ (rW (iS s)) f.word f.body)=true:=by
  show(nZ _ _ (s.map kN)&&true)=true;rw[T0];rfl
 rw[bH e,bH g]
theorem Il (s:dC):jB (fun l=>l.all vP) (iS s)=true:=by
 unfold jB;rw[I0];show(decide (0=(0:Int))&&(decide (1=1)&&(true&&(true&&(true&&(true&&((s.map kN).all vP&&true)))))))=true;rw[S9];rfl
theorem Sv {V:UInt8→Prop} {A:Prop} (s:dC): ∀m∈s.map kN,SS V A 1 m:=fun m a=>by
 obtain⟨c,_,rfl⟩:=jL.1 a;have:=c.toNat_lt;exact SS.put 1 _ (by decide) (SX.num 2 _ (by decide) ⟨by omega,by omega⟩)
theorem NP (s:dC) (h:s.length≤60):(jX (s.map kN)).length≤1440:=by
 have a:=Rl (l:=s.map kN) fun m b=>MS (Sv (V:=fun _=>True) (A:=True) s m b);rw[H9]at a;omega
theorem TF (s:dC):HG (iS s)=(jX (s.map kN)++[36],0):=by
 unfold HG;rw[bH (Il s)];rfl
theorem IQ (cx:Cx) (b:dC→Bool×Int): ∀(s:dC) (st:RS),st.out.length+s.length≤65536→Wp cx b (s.map kN) st (fun a=>a.out=st.out++s∧a.ticks=st.ticks)
 |[],st,_=> .nil ⟨(dZ _).symm,rfl⟩
 |c::s,st,h=>by
  rw[aQ]at h;have e:=c.toNat_lt
  have d:UInt8.ofNat (IntKind.wrap .u8 (c.toNat:Int)).toNat=c:=by
   rw[IntWalk.u8_in _ (by omega),cC];exact UInt8.ofNat_toNat
  refine Wp.put (v:=(c.toNat:Int)) .num (by omega) ?_;rw[d];refine(IQ cx b s {st with out:=st.out++[c]} (by show(st.out++[c]).length+s.length≤_;rw[aH,bV];omega)).imp fun a h=>?_;refine⟨?_,h.2⟩;rw[h.1,bU];rfl
theorem NN (s:dC) (h:s.length≤60) (b:Int): ∃n,Z2 (Um (iS s) [] b) n (iS s).vars.length ((iS s).arrs.map fun a=>a.size.toNat)=some (1,s,0):=by
 obtain⟨n,st,c,d,e⟩:=IQ (Um (iS s) [] b) (Bv (kQ (iS s)) (eW s)).res s (RS.init (iS s).vars.length ((iS s).arrs.map fun a=>a.size.toNat)) (by show 0+s.length≤_;omega);refine⟨n, ?_⟩;show(some (Bv (kQ (iS s)) (eW s))).bind _=_;have c:nW (Um (iS s) [] b) n (Bv (kQ (iS s)) (eW s)).res (List.replicate (Bv (kQ (iS s)) (eW s)).words 0) (Bv (kQ (iS s)) (eW s)).body (RS.init (iS s).vars.length ((iS s).arrs.map fun a=>a.size.toNat))=_:=c;rw[cA,c,dY];simp only[Zc,d,e];rfl
theorem NM (s:dC):xZ (iS s) (eW s):=by
 obtain⟨f,h⟩:=Xc (Il s)
 have :f=eW s:=by
  have a:[eW s]=[f]:=h.funs;injection a with a
  exact a.symm
 subst this;exact h
def Xp (c:UInt8):List AV:=[.int .i64 3, .str [], .isl 5 [[.int .i64 1, .int .i64 0, .int .u32 (c.toNat:Int), .str [], .nsl]], .nsl, .nsl]
theorem S8: ∀s:dC,yX (s.map Xp) ((s.map kN).map Sm.row)
 |[]=> .nil
 |c::s=>by
  have a:Ex.row (Ta c)=[.int .i64 1, .int .i64 0, .int .u32 (c.toNat:Int), .str [], .isl 5 []]:=by rw[Ex.row_eq];rfl
  have b:Sm.row (kN c)=[.int .i64 3, .str [], .isl 5 [[.int .i64 1, .int .i64 0, .int .u32 (c.toNat:Int), .str [], .isl 5 []]], .isl 5 [], .isl 5 []]:=by
   rw[Sm.row_eq,←a];rfl
  show yX (Xp c::s.map Xp) (Sm.row (kN c)::(s.map kN).map Sm.row);rw[b];exact .cons (.cons (hP.refl _) (.cons (hP.refl _) (.cons (hP.isl (.cons (.cons (hP.refl _) (.cons (hP.refl _) (.cons (hP.refl _) (.cons (hP.refl _) (.cons (hP.nsl 5) .nil))))) .nil)) (.cons (hP.nsl 5) (.cons (hP.nsl 5) .nil))))) (S8 s)
theorem NL (s:dC):fF [.agg [.nsl, .nsl, .isl 5 [[.str [109,97,105,110], .nsl, .nsl, .bool false, .isl 5 (s.map Xp)]]]] [(iS s).av]:=by
 have e:(iS s).av= .agg [.isl 1 [], .isl 2 [], .isl 5 [[.str [109,97,105,110], .isl 1 [], .isl 1 [], .bool false, .isl 5 ((s.map kN).map Sm.row)]]]:=rfl;rw[e];exact fF.cons (hP.agg (fF.cons (hP.nsl 1) (fF.cons (hP.nsl 2) (fF.cons (hP.isl (.cons (.cons (hP.refl _) (.cons (hP.nsl 1) (.cons (hP.nsl 1) (.cons (hP.refl _) (.cons (hP.isl (S8 s)) .nil))))) .nil)) (fF.refl _))))) (fF.refl _)
theorem Vd (s:dC):eN dV 9 [.str s] (.bool true):=by
 have T:=CL;by_cases t:60<s.length
 ·have J:decide ((60:Int)<(s.length:Int))=true:=cD (by omega)
  refine bX 67 [.tmp 2] func9 ?_;refine aA fun K a=>?_;simp only[RR,seval];refine a _ _ (aI (aA fun K a=>?_));simp only[J,RR,seval];refine a _ _ (cR (aA fun K a=>?_));simp only[RR,seval];refine aO (T) ?_;simp only[RR,seval];apply a;refine aN ?_;simp only[aW,aJ,bN,RR,seval];refine aY.pure ?_;rfl
 have t:s.length≤60:=by omega
 have J:decide ((60:Int)<(s.length:Int))=false:=bA (by omega);have hl:=NP s t
 have N:=Cm (iS s) (Tc s t) (fun _=>Xt s t) (fun f X _=>by
  simp only[iS,bD]at X;subst X;show(jX (s.map kN)).length≤_
  omega) (wA (iS s) (Tc s t) fun _=>Xt s t)
 rw[TF]at N;have sR:=NL s;have Z:(jX (s.map kN)++[36]).length≤2500:=by rw[aH,bV];omega
 have hC:=Un (Sv (V:=fun c=>[c]∈(iS s).vars) (A:=(iS s).arrs.length=1) s) Z;obtain⟨n,a2⟩:=NN s t 0;obtain⟨k,B,Q,H,a1,_⟩:=ON (NM s) (Sv s) (by show(jX (s.map kN)).length+1≤2500;omega) [] 0 a2 (by decide);have Q:k+1≤4 *((jX (s.map kN)).length+1) *(0+1):=Q;have H:Fin (sQ (qD 0 (s.map kN)++[36])) [] k D2 1 B:=H;obtain⟨a3,a4⟩:=Vp (Sv (V:=fun c=>[c]∈(iS s).vars) (A:=(iS s).arrs.length=1) s) Z;have O:(sQ (qD 0 (s.map kN)++[36])).length≤20000:=by rw[a4];omega
 have U:=BZ (sQ (qD 0 (s.map kN)++[36])) 0 O (by decide)
 have F:eN dV 19 [.agg [.isl 1 ((sQ (qD 0 (s.map kN)++[36])).map gL), .int .i64 4224], .str [], .int .i64 (8 *(0+1) *(((sQ (qD 0 (s.map kN)++[36])).length:Int)+4224+1))] (.agg [.int .i64 1, .str B.out, .int .i64 B.st]):=
  CV (sQ (qD 0 (s.map kN)++[36])) [] 4224 _ k 1 B rfl O a3 (by decide) H (by decide) (by omega) (by omega)
 rw[a1]at F;generalize 8 *(0+1) *(((sQ (qD 0 (s.map kN)++[36])).length:Int)+4224+1)=bd at *;generalize jX (s.map kN)++[36]=ts at *;generalize vI (Yn (qD 0 (s.map kN)++[36]))=c1 at *;generalize(sQ (qD 0 (s.map kN)++[36])).map gL=wr at *;generalize B.st=b3 at *;clear a2 H a3 a4 O Q hl a1;have z2:decide (s=s)=true:=cD rfl;simp only at N;refine bX 67 [.tmp 2] func9 ?_;refine aA fun K a=>?_;simp only[RR,seval];refine a _ _ (aI (aA fun K a=>?_));simp only[J,RR,seval];refine a _ _ (bL ?_);refine aK ?_;simp only[RR];refine aA fun K a=>?_;simp only[RR,seval];refine a _ _ (aI (aA fun K a=>?_));simp only[RR,seval];refine a _ _ (bM fun F1 M1 l W=>?_);have b:=l 0;have g:=l 2;have j:=l 3;have u:=l 4;simp only[RR,seval]at b g j u;refine aP (eO [0,2] (s.length) (fun k y M=>y 4= .int .i64 (k:Nat)∧ ∃v,y 3=v∧eB 5 v ((s.take k).map Xp) M) ⟨u, .nsl,j, .inl ⟨rfl,rfl⟩⟩ ?_);rintro k F2 M2 b8 ⟨R,v,j,z⟩ I K0 a8;have b:=(I 0 rfl).trans b;have g:=(I 2 rfl).trans g;have u:=R;clear R;have a6:=aX.refl [0,2] F2;clear I;refine aI (aA fun K a=>?_);simp only[b,u,RR,seval];refine a _ _ (aU ?_ ?_)<;>intro G
 ·have a0:k<s.length:=by have:=aB G;omega
  obtain⟨c,G⟩: ∃c,s[k]?=some c:=⟨_,aF a0⟩;have b5:=c.toNat_lt;have b6:IntKind.wrap .u32 (c.toNat:Int)=(c.toNat:Int):=eH _ (by omega);have b2:(s.take (k+1)).map Xp=(s.take k).map Xp++[[.int .i64 3, .str [], .isl 5 [[.int .i64 1, .int .i64 0, .int .u32 (c.toNat:Int), .str [], .nsl]], .nsl, .nsl]]:=by rw[List.take_add_one,G,cO];rfl
  have b9:((s.take k).map Xp).length=k:=by simp;omega
  refine aK ?_;simp only[RR];refine aI (aP (aG ?_));simp only[*,RR,seval];refine eG ?_;simp only[RR,seval];refine eG ?_;simp only[RR,seval];refine jF z (by simp only[aE,aQ,aV];(simp only[dU];omega)) (fun _=>trivial) fun v7 M3 b1 Y=>?_;simp only[RR,seval];refine aG ?_;simp only[u,RR,seval];rw[aS _ (by omega)];refine a8 _ _ a0 ⟨by rfl,v7,(by rfl),(by rw[b2];exact b1)⟩ (by repeat (first|exact a6|refine aX.upd rfl ?_))
 have b0:k=s.length:=by have:=aD G;omega
 rw[b0,dD]at z;refine cF ?_;simp only[RR,seval];refine bM fun F4 M4 l W=>?_;have D:=l 0;have E:=l 2;have S:=l 3;simp only[b,g,j,RR,seval]at D E S;have z:=z.same W;have b:=D;have g:=E;have j:=S;refine CE (i:=3) (by rw[j];exact z) fun F5 M5 hs P Y=>?_;have D:=(P 0 (by decide) (by rw[b];exact CQ _ _)).trans b;have E:=(P 2 (by decide) (by rw[g];exact P2 _ _)).trans g;have j:=hs;have b:=D;have g:=E;clear hs P Y;refine aA fun K a=>?_;simp only[j,RR,seval];refine eG ?_;simp only[RR,seval];refine Dx N sR ?_;simp only[RR,seval];refine a _ _ (aA fun K a=>?_);simp only[RR,seval];refine aO (hC) ?_;simp only[RR,seval];refine aM fun C c0=>?_;simp only[RR,seval];refine a _ _ (aI (aA fun K a=>?_));simp only[RR,seval];refine a _ _ (bL ?_);refine aK ?_;simp only[RR];refine aC fun K a=>?_;refine fQ (fun y M=> ∃d,y 10= .ptr 3 d 0 0∧y 0= .str s∧M d=some (.rows 3 [[.int .i64 1, .str s, .int .i64 b3]])) (fun b4 L=>?_) ?_
 ·refine lK (fun x=>x≠C) eF (by kernel_rfl) fun hd=>?_
  refine hI [(0,0),(1,0)] hd (m:=4) rfl (by kernel_rfl) rfl rfl ?_;simp only[dR,fX,RR,seval];refine lB hd (by kernel_rfl:Region.ready .any _ _=[2,4]) (by simp) ⟨?_, ?_,trivial⟩
  ·simp only[RR,seval]
   refine aO (U) ?_;simp only[RR,seval];refine lB hd (by kernel_rfl:Region.ready .any _ _=[3,4]) (by simp) ⟨?_, ?_,trivial⟩
   ·simp only[RR,seval]
    refine aO (F) ?_;simp only[RR,seval];refine hI [(4,1),(5,1)] hd (m:=0) rfl (by kernel_rfl) rfl rfl ?_;simp only[dR,RR,seval];refine aM fun d o=>?_;have p:d≠C:=fun e=>by rw[e]at o;simp only[RR,seval,reduceCtorEq]at o
    have a5:=p.symm;simp only[p,RR,seval];refine jG (by kernel_rfl) ?_;simp only[RR,seval];refine L _ _ ⟨d, ?_, ?_, ?_⟩<;>first|rfl|(simp only[b,aT,seval];done)
   simp only[RR,seval];refine aM fun d o=>?_;have p:d≠C:=fun e=>by rw[e]at o;simp only[RR,seval,reduceCtorEq]at o
   have a5:=p.symm;simp only[RR,seval];refine hI [(3,1),(5,1)] hd (m:=0) rfl (by kernel_rfl) rfl rfl ?_;simp only[dR,RR,seval];refine aO (F) ?_;simp only[p,RR,seval];refine jG (by kernel_rfl) ?_;simp only[RR,seval];refine L _ _ ⟨d, ?_, ?_, ?_⟩<;>first|rfl|(simp only[b,aT,seval];done)
  simp only[RR,seval];refine aM fun d o=>?_;have p:d≠C:=fun e=>by rw[e]at o;simp only[RR,seval,reduceCtorEq]at o
  have a5:=p.symm;simp only[RR,seval];refine hI [(2,1),(3,1),(5,1)] hd (m:=0) rfl (by kernel_rfl) rfl rfl ?_;simp only[dR,RR,seval];refine aO (U) ?_;simp only[RR,seval];refine aO (F) ?_;simp only[p,RR,seval];refine jG (by kernel_rfl) ?_;simp only[RR,seval];refine L _ _ ⟨d, ?_, ?_, ?_⟩<;>first|rfl|(simp only[b,aT,seval];done)
 rintro F6 M6 ⟨d,a7,b,a9⟩;simp only[iL];refine a _ _ (aA fun K a=>?_);simp only[RR,seval];refine aO (T) ?_;simp only[a7,b,a9,RR,seval];apply a;refine aN ?_;simp only[aW,aJ,bN,RR,seval];refine aY.pure ?_;rfl
section
open Go.Al Go.Lib
theorem N3:Tryz.prog.globalNamed "seedcorn/token.words" =some 0:=by kernel_rfl
theorem OU:(Tryz.prog.globals[0]?).map (·.type)=some 327:=by kernel_rfl
theorem UB:Tryz.prog.globalNamed "internal/strconv.uint64pow10" =some 1:=by kernel_rfl
theorem XD:(Tryz.prog.globals[1]?).map (·.type)=some 353:=by kernel_rfl
theorem ZI:Tryz.prog.underlying 327=some (.array 10 9):=by kernel_rfl
theorem ZH:Tryz.prog.underlying 353=some (.array 20 172):=by kernel_rfl
theorem VM:Tryz.prog.underlying 9=some .string:=by kernel_rfl
theorem YC:Tryz.prog.underlying 172=some (.int .u64):=by kernel_rfl
theorem YU:Tryz.prog.cellsOf 9=1:=by kernel_rfl
theorem YT:Tryz.prog.cellsOf 172=1:=by kernel_rfl
theorem XX:Tryz.prog.cellsOf 327=10:=by kernel_rfl
theorem ZO:Tryz.prog.cellsOf 353=20:=by kernel_rfl
theorem Oy {S:gK} {w:World} {b:Nat} {α:Type} (fv:α→Value) (fa:α→AV) (hv: ∀a,cK S w (fa a) (fv a)): ∀(ws:List α) (off:Nat),(∀(i:Nat) s,ws[i]?=some s→w.cell? ⟨b,off+i,none⟩=some (fv s))→eY S w b off (ws.map fa)
 |[],_,_=>by simp only[dO,eY]
 |s::ws,off,h=>by
  simp only[cN,eY];refine⟨⟨_,by simpa using h 0 s rfl,hv s⟩,Oy fv fa hv ws (off+1) fun i s' hs=>?_⟩;rw[show off+1+i=off+(i+1)by omega];exact h (i+1) s' (by simpa using hs)
def WH:List Int:=[1,10,100,1000,10000,100000,1000000,10000000,100000000,1000000000,10000000000,100000000000,1000000000000,10000000000000,100000000000000,1000000000000000,10000000000000000,100000000000000000,1000000000000000000,10000000000000000000]
theorem G1 {W:World} (hL:laidMet Tryz.prog [("math/bits.deBruijn32tab",Rows.laid_math_bits_deBruijn32tab),("math/bits.deBruijn64tab",Rows.laid_math_bits_deBruijn64tab),("internal/strconv.uint64pow10",Rows.laid_internal_strconv_uint64pow10),("seedcorn/token.words",Rows.laid_seedcorn_token_words)] W):St dV ⟨W,LF qZ,old W,[],fun _=>Go.undef⟩ (old W) qZ W:=by
 obtain⟨ps,hv,_⟩:=hL;have v1:W.var? Tryz.prog "seedcorn/token.words" =some (gU.map fun s=>Value.string ⟨s.toArray⟩).toArray:=zU N3 OU ZI VM YU XX hv (by simp only[bP];right;right;right;left;rfl)
 have v3:W.var? Tryz.prog "internal/strconv.uint64pow10" =some (WH.map fun z=>Value.int .u64 z).toArray:=Eh UB XD ZH YC YT ZO hv (by simp only[bP];right;right;left;rfl)
 have lt: ∀{n:String} {g:Nat} {cs:Array Value},Tryz.prog.globalNamed n=some g→W.var? Tryz.prog n=some cs→g<W.heap.size:=fun {n g cs} hg h=>by
  simp only[World.var?,hg,cA]at h;split at h
  ·rename_i e;exact(fD.1 e).1
  cases h
 refine⟨fun k hk=>hk,fun _ h=>h,fun k hk=> .inl hk,fun b o h=>(by cases h),nU.refl _ _,fun g row h=>?_⟩
 have key: ∀{α:Type} (fv:α→Value) (fa:α→AV),(∀a,cK (old W) W (fa a) (fv a))→ ∀{n:String} {g:Nat} {ws:List α},Tryz.prog.globalNamed n=some g→W.var? Tryz.prog n=some (ws.map fv).toArray→eY (old W) W g 0 (ws.map fa):=fun {α} fv fa hva {n g ws} hg h=>
  Oy fv fa hva ws 0 fun i s hs=>by
   rw[World.var?_cell hg h];simp [hs]
 have ks: ∀{n:String} {g:Nat} {ws:List (List UInt8)},Tryz.prog.globalNamed n=some g→W.var? Tryz.prog n=some (ws.map fun s=>Value.string ⟨s.toArray⟩).toArray→eY (old W) W g 0 (ws.map .str):=fun {n g ws} hg h=>key (fun s:List UInt8=>Value.string ⟨s.toArray⟩) AV.str (fun a=>by simp only[cK]) hg h;simp only[UG,KG]at h;split at h
 ·cases h;exact⟨lt N3 v1,ks N3 v1⟩
 ·cases h;exact⟨lt UB v3,key (fun z:Int=>Value.int .u64 z) (AV.int .u64) (fun a=>by simp only[cK]) (ws:=WH) UB v3⟩
 cases h
def zY (d:DataW Unit):Obj→Obj
 | .cells _ t frozen=> .cells (BU d) t frozen
 |o=>o
noncomputable def JR (h:Array Obj):Array Obj:=
 (((h.modify 2 (zY Rows.laid_math_bits_deBruijn32tab)).modify 3 (zY Rows.laid_math_bits_deBruijn64tab)).modify 1 (zY Rows.laid_internal_strconv_uint64pow10)).modify 0 (zY Rows.laid_seedcorn_token_words)
end
end Go.Proofs.YtaecpjgmcffliaaGreatDoor
