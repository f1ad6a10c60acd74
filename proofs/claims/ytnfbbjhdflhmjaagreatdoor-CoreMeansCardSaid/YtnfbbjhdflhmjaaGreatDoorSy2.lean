/- The program's types that are met, and its environment: one table is looked at. The names of the language: the judge's small functions of chapter 13. Chapter 14, the judge's: has a program few parts? Chapter 14, the judge's: has a program few parts? Second part. Chapter 14, the judge's: may an expression be? Chapter 14, the judge's: may a program be? Chapter 14, the judge's: may a program be? Second part. -/
import Derived.Test.YtnfbbjhdflhmjaaGreatDoorSy1
import Derived.Test.YtnfbbjhdflhmjaaGreatDoorAl4
import Derived.Test.YtnfbbjhdflhmjaaGreatDoorRows
set_option linter.unusedSimpArgs false
set_option linter.unusedVariables false
set_option maxRecDepth 10000
namespace Go.Proofs.YtnfbbjhdflhmjaaGreatDoor
open Go.Al
def dO:List (List UInt8):=[[118,97,114],[97,114,114,97,121],[102,117,110,99],[119,111,114,100],[105,102],[101,108,115,101],[119,104,105,108,101],[114,101,116,117,114,110],[112,117,116],[103,101,116]]
def Vf:Nat→Option (List AV)
 |0=>some (dO.map .str)
 |_=>none
noncomputable def cN:fY:=⟨Tryz.prog,Vf⟩
theorem Zf:cN.G=Vf:=rfl
theorem cX:cN.P.follows .mixedOrders=true:=by kernel_rfl
theorem B5:bV cN.P 3=some ⟨.int .i64,1,8, .int .i64 0⟩:=by kernel_rfl
theorem B0:bV cN.P 4=some ⟨.bool,1,1, .bool false⟩:=by kernel_rfl
theorem A9:bV cN.P 5=some ⟨.int .u8,1,1, .int .u8 0⟩:=by kernel_rfl
theorem A8:bV cN.P 9=some ⟨.str,1,16, .str []⟩:=by kernel_rfl
theorem Xj:bV cN.P 20=some ⟨.iface,1,16, .nif⟩:=by kernel_rfl
theorem Xi:bV cN.P 22=some ⟨.slice 9,1,24, .nsl⟩:=by kernel_rfl
theorem Xh:bV cN.P 23=some ⟨.slice 54,1,24, .nsl⟩:=by kernel_rfl
theorem Xg:bV cN.P 24=some ⟨.slice 57,1,24, .nsl⟩:=by kernel_rfl
theorem Xf:bV cN.P 26=some ⟨.strct [(22,0),(23,1),(24,2)],3,72, .agg [.nsl, .nsl, .nsl]⟩:=by kernel_rfl
theorem Xe:bV cN.P 29=some ⟨.int .i64,1,8, .int .i64 0⟩:=by kernel_rfl
theorem Xd:bV cN.P 31=some ⟨.slice 3,1,24, .nsl⟩:=by kernel_rfl
theorem Xc:bV cN.P 34=some ⟨.slice 51,1,24, .nsl⟩:=by kernel_rfl
theorem Xb:bV cN.P 36=some ⟨.strct [(3,0),(34,1)],2,32, .agg [.int .i64 0, .nsl]⟩:=by kernel_rfl
theorem Xa:bV cN.P 43=some ⟨.strct [(3,0),(9,1),(3,2)],3,32, .agg [.int .i64 0, .str [], .int .i64 0]⟩:=by kernel_rfl
theorem Wz:bV cN.P 49=some ⟨.slice 114,1,24, .nsl⟩:=by kernel_rfl
theorem Wy:bV cN.P 51=some ⟨.strct [(3,0),(3,1),(3,2),(4,3),(49,4)],5,56, .agg [.int .i64 0, .int .i64 0, .int .i64 0, .bool false, .nsl]⟩:=by kernel_rfl
theorem Wx:bV cN.P 54=some ⟨.strct [(9,0),(3,1)],2,24, .agg [.str [], .int .i64 0]⟩:=by kernel_rfl
theorem Ww:bV cN.P 55=some ⟨.slice 103,1,24, .nsl⟩:=by kernel_rfl
theorem Wv:bV cN.P 57=some ⟨.strct [(9,0),(22,1),(22,2),(4,3),(55,4)],5,96, .agg [.str [], .nsl, .nsl, .bool false, .nsl]⟩:=by kernel_rfl
theorem Wu:bV cN.P 58=some ⟨.map 9 64,1,8, .nmp⟩:=by kernel_rfl
theorem Wt:bV cN.P 62=some ⟨.strct [(58,0),(58,1)],2,16, .agg [.nmp, .nmp]⟩:=by kernel_rfl
theorem Ws:bV cN.P 64=some ⟨.strct [(3,0),(3,1)],2,16, .agg [.int .i64 0, .int .i64 0]⟩:=by kernel_rfl
theorem Wr:bV cN.P 69=some ⟨.strct [(3,0),(34,1),(4,2)],3,40, .agg [.int .i64 0, .nsl, .bool false]⟩:=by kernel_rfl
theorem Wq:bV cN.P 72=some ⟨.ptr 76,1,8, .npt⟩:=by kernel_rfl
theorem Wp:bV cN.P 73=some ⟨.slice 79,1,24, .nsl⟩:=by kernel_rfl
theorem Wo:bV cN.P 74=some ⟨.slice 5,1,24, .nsl⟩:=by kernel_rfl
theorem Wn:bV cN.P 76=some ⟨.strct [(34,0),(73,1),(9,2),(3,3),(74,4),(3,5),(3,6)],7,112, .agg [.nsl, .nsl, .str [], .int .i64 0, .nsl, .int .i64 0, .int .i64 0]⟩:=by kernel_rfl
theorem Wm:bV cN.P 78=some ⟨.strct [(3,0)],1,8, .agg [.int .i64 0]⟩:=by kernel_rfl
theorem Wl:bV cN.P 79=some ⟨.int .u32,1,4, .int .u32 0⟩:=by kernel_rfl
theorem Wk:bV cN.P 82=some ⟨.ptr 87,1,8, .npt⟩:=by kernel_rfl
theorem Wj:bV cN.P 83=some ⟨.slice 93,1,24, .nsl⟩:=by kernel_rfl
theorem Wi:bV cN.P 85=some ⟨.slice 73,1,24, .nsl⟩:=by kernel_rfl
theorem Wh:bV cN.P 87=some ⟨.strct [(83,0),(73,1),(85,2),(9,3),(3,4),(74,5),(3,6),(3,7)],8,136, .agg [.nsl, .nsl, .nsl, .str [], .int .i64 0, .nsl, .int .i64 0, .int .i64 0]⟩:=by kernel_rfl
theorem Wg:bV cN.P 89=some ⟨.strct [(3,0)],1,8, .agg [.int .i64 0]⟩:=by kernel_rfl
theorem Wf:bV cN.P 90=some ⟨.ptr 93,1,8, .npt⟩:=by kernel_rfl
theorem We:bV cN.P 91=some ⟨.slice 134,1,24, .nsl⟩:=by kernel_rfl
theorem Wd:bV cN.P 93=some ⟨.strct [(3,0),(91,1)],2,32, .agg [.int .i64 0, .nsl]⟩:=by kernel_rfl
theorem Wc:bV cN.P 95=some ⟨.ptr 97,1,8, .npt⟩:=by kernel_rfl
theorem Wb:bV cN.P 97=some ⟨.strct [(26,0),(9,3),(3,4),(73,5),(85,6),(74,7),(3,8),(3,9),(3,10)],11,192, .agg [.nsl, .nsl, .nsl, .str [], .int .i64 0, .nsl, .nsl, .nsl, .int .i64 0, .int .i64 0, .int .i64 0]⟩:=by kernel_rfl
theorem Wa:bV cN.P 99=some ⟨.slice 101,1,24, .nsl⟩:=by kernel_rfl
theorem Qn:bV cN.P 101=some ⟨.strct [(3,0),(3,1),(79,2),(9,3),(99,4)],5,64, .agg [.int .i64 0, .int .i64 0, .int .u32 0, .str [], .nsl]⟩:=by kernel_rfl
theorem Qm:bV cN.P 103=some ⟨.strct [(3,0),(9,1),(99,2),(55,3),(55,4)],5,96, .agg [.int .i64 0, .str [], .nsl, .nsl, .nsl]⟩:=by kernel_rfl
theorem Ql:bV cN.P 111=some ⟨.slice 169,1,24, .nsl⟩:=by kernel_rfl
theorem Qk:bV cN.P 114=some ⟨.strct [(3,0),(3,1),(3,2),(111,3),(49,4),(49,5)],6,96, .agg [.int .i64 0, .int .i64 0, .int .i64 0, .nsl, .nsl, .nsl]⟩:=by kernel_rfl
theorem Qj:bV cN.P 123=some ⟨.ptr 114,1,8, .npt⟩:=by kernel_rfl
theorem Qi:bV cN.P 124=some ⟨.map 9 126,1,8, .nmp⟩:=by kernel_rfl
theorem Qh:bV cN.P 126=some ⟨.strct [(4,0),(3,1)],2,16, .agg [.bool false, .int .i64 0]⟩:=by kernel_rfl
theorem Qg:bV cN.P 128=some ⟨.strct [(124,0),(124,1)],2,16, .agg [.nmp, .nmp]⟩:=by kernel_rfl
theorem Qf:bV cN.P 131=some ⟨.ptr 134,1,8, .npt⟩:=by kernel_rfl
theorem Qe:bV cN.P 132=some ⟨.slice 183,1,24, .nsl⟩:=by kernel_rfl
theorem Qd:bV cN.P 134=some ⟨.strct [(3,0),(4,1),(3,2),(132,3),(91,4),(91,5)],6,96, .agg [.int .i64 0, .bool false, .int .i64 0, .nsl, .nsl, .nsl]⟩:=by kernel_rfl
theorem Qc:bV cN.P 135=some ⟨.ptr 137,1,8, .npt⟩:=by kernel_rfl
theorem Qb:bV cN.P 137=some ⟨.strct [(3,0),(73,1),(4,2),(79,3)],4,40, .agg [.int .i64 0, .nsl, .bool false, .int .u32 0]⟩:=by kernel_rfl
theorem Qa:bV cN.P 144=some ⟨.slice 147,1,24, .nsl⟩:=by kernel_rfl
theorem Pz:bV cN.P 147=some ⟨.strct [(9,0),(3,1),(3,2)],3,32, .agg [.str [], .int .i64 0, .int .i64 0]⟩:=by kernel_rfl
theorem Py:bV cN.P 150=some ⟨.map 9 160,1,8, .nmp⟩:=by kernel_rfl
theorem Px:bV cN.P 155=some ⟨.strct [(150,0),(150,1)],2,16, .agg [.nmp, .nmp]⟩:=by kernel_rfl
theorem Pw:bV cN.P 158=some ⟨.strct [(3,0),(9,1),(3,2)],3,32, .agg [.int .i64 0, .str [], .int .i64 0]⟩:=by kernel_rfl
theorem Pu:bV cN.P 160=some ⟨.strct [(3,0),(3,1)],2,16, .agg [.int .i64 0, .int .i64 0]⟩:=by kernel_rfl
theorem Pt:bV cN.P 162=some ⟨.func,1,8, .nfn⟩:=by kernel_rfl
theorem Ps:bV cN.P 163=some ⟨.ptr 204,1,8, .npt⟩:=by kernel_rfl
theorem Pr:bV cN.P 169=some ⟨.strct [(3,0),(3,1),(79,2),(3,3),(3,4),(111,5)],6,64, .agg [.int .i64 0, .int .i64 0, .int .u32 0, .int .i64 0, .int .i64 0, .nsl]⟩:=by kernel_rfl
theorem Pq:bV cN.P 174=some ⟨.ptr 169,1,8, .npt⟩:=by kernel_rfl
theorem Pp:bV cN.P 181=some ⟨.ptr 183,1,8, .npt⟩:=by kernel_rfl
theorem Po:bV cN.P 183=some ⟨.strct [(3,0),(3,1),(79,2),(4,3),(3,4),(132,5)],6,56, .agg [.int .i64 0, .int .i64 0, .int .u32 0, .bool false, .int .i64 0, .nsl]⟩:=by kernel_rfl
theorem Pn:bV cN.P 188=some ⟨.func,1,8, .nfn⟩:=by kernel_rfl
theorem Pm:bV cN.P 198=some ⟨.func,1,8, .nfn⟩:=by kernel_rfl
theorem Pk:bV cN.P 199=some ⟨.func,1,8, .nfn⟩:=by kernel_rfl
theorem Pj:bV cN.P 200=some ⟨.map 9 57,1,8, .nmp⟩:=by kernel_rfl
theorem Pi:bV cN.P 201=some ⟨.func,1,8, .nfn⟩:=by kernel_rfl
theorem Ph:bV cN.P 202=some ⟨.array 10 201,10,80, .agg [.nfn, .nfn, .nfn, .nfn, .nfn, .nfn, .nfn, .nfn, .nfn, .nfn]⟩:=by kernel_rfl
theorem Pf:bV cN.P 204=some ⟨.strct [(200,0),(202,1)],11,88, .agg [.nmp, .nfn, .nfn, .nfn, .nfn, .nfn, .nfn, .nfn, .nfn, .nfn, .nfn]⟩:=by kernel_rfl
theorem Pe:bV cN.P 211=some ⟨.int .u64,1,8, .int .u64 0⟩:=by kernel_rfl
theorem Pd:bV cN.P 212=some ⟨.array 6 79,6,24, .agg [.int .u32 0, .int .u32 0, .int .u32 0, .int .u32 0, .int .u32 0, .int .u32 0]⟩:=by kernel_rfl
theorem Pc:bV cN.P 221=some ⟨.array 10 9,10,160, .agg [.str [], .str [], .str [], .str [], .str [], .str [], .str [], .str [], .str [], .str []]⟩:=by kernel_rfl
theorem TY:type_of% (And.intro B5<|And.intro B0<|And.intro A9<|And.intro A8<|And.intro Xj<|And.intro Xi<|And.intro Xh<|And.intro Xg<|And.intro Xf<|And.intro Xe<|And.intro Xd<|And.intro Xc<|And.intro Xb<|And.intro Xa<|And.intro Wz<|And.intro Wy<|And.intro Wx<|And.intro Ww<|And.intro Wv<|And.intro Wu<|And.intro Wt<|And.intro Ws<|And.intro Wr<|And.intro Wq<|And.intro Wp<|And.intro Wo<|And.intro Wn<|And.intro Wm<|And.intro Wl<|And.intro Wk<|And.intro Wj<|And.intro Wi<|And.intro Wh<|And.intro Wg<|And.intro Wf<|And.intro We<|And.intro Wd<|And.intro Wc<|And.intro Wb<|And.intro Wa<|And.intro Qn<|And.intro Qm<|And.intro Ql<|And.intro Qk<|And.intro Qj<|And.intro Qi<|And.intro Qh<|And.intro Qg<|And.intro Qf<|And.intro Qe<|And.intro Qd<|And.intro Qc<|And.intro Qb<|And.intro Qa<|And.intro Pz<|And.intro Py<|And.intro Px<|And.intro Pw<|And.intro Pu<|And.intro Pt<|And.intro Ps<|And.intro Pr<|And.intro Pq<|And.intro Pp<|And.intro Po<|And.intro Pn<|And.intro Pm<|And.intro Pk<|And.intro Pj<|And.intro Pi<|And.intro Ph<|And.intro Pf<|And.intro Pe<|And.intro Pd<|And.intro Pc<|Zf):=And.intro B5<|And.intro B0<|And.intro A9<|And.intro A8<|And.intro Xj<|And.intro Xi<|And.intro Xh<|And.intro Xg<|And.intro Xf<|And.intro Xe<|And.intro Xd<|And.intro Xc<|And.intro Xb<|And.intro Xa<|And.intro Wz<|And.intro Wy<|And.intro Wx<|And.intro Ww<|And.intro Wv<|And.intro Wu<|And.intro Wt<|And.intro Ws<|And.intro Wr<|And.intro Wq<|And.intro Wp<|And.intro Wo<|And.intro Wn<|And.intro Wm<|And.intro Wl<|And.intro Wk<|And.intro Wj<|And.intro Wi<|And.intro Wh<|And.intro Wg<|And.intro Wf<|And.intro We<|And.intro Wd<|And.intro Wc<|And.intro Wb<|And.intro Wa<|And.intro Qn<|And.intro Qm<|And.intro Ql<|And.intro Qk<|And.intro Qj<|And.intro Qi<|And.intro Qh<|And.intro Qg<|And.intro Qf<|And.intro Qe<|And.intro Qd<|And.intro Qc<|And.intro Qb<|And.intro Qa<|And.intro Pz<|And.intro Py<|And.intro Px<|And.intro Pw<|And.intro Pu<|And.intro Pt<|And.intro Ps<|And.intro Pr<|And.intro Pq<|And.intro Pp<|And.intro Po<|And.intro Pn<|And.intro Pm<|And.intro Pk<|And.intro Pj<|And.intro Pi<|And.intro Ph<|And.intro Pf<|And.intro Pe<|And.intro Pd<|And.intro Pc<|Zf
theorem Li:Vf 0=some (dO.map .str):=rfl
theorem RR:type_of% (And.intro AX<|And.intro Li TY):=And.intro AX<|And.intro Li TY
noncomputable def J5:J2 cN.P where
 int:=3
 u32:=79
 str:=9
 bool:=4
 strs:=22
 ex:=101
 exs:=99
 sm:=103
 sms:=55
 ar:=54
 ars:=23
 fu:=57
 fus:=24
 pg:=26
 uInt:=by kernel_rfl
 uU32:=by kernel_rfl
 uStr:=by kernel_rfl
 uBool:=by kernel_rfl
 uStrs:=by kernel_rfl
 uEx:=by kernel_rfl
 uExs:=by kernel_rfl
 uSm:=by kernel_rfl
 uSms:=by kernel_rfl
 uAr:=by kernel_rfl
 uArs:=by kernel_rfl
 uFu:=by kernel_rfl
 uFus:=by kernel_rfl
 uPg:=by kernel_rfl
 c1:=by kernel_rfl
 cEx:=by kernel_rfl
 cSm:=by kernel_rfl
 cAr:=by kernel_rfl
 cFu:=by kernel_rfl
 cPg:=by kernel_rfl
end Go.Proofs.YtnfbbjhdflhmjaaGreatDoor
namespace Go.Proofs.YtnfbbjhdflhmjaaGreatDoor
open Go.Al
def Sx (c:Int):Bool:=decide (48≤c)&&decide (c≤57)
def qV (c:Int):Bool:=decide (97≤c)&&decide (c≤122)||decide (65≤c)&&decide (c≤90)
def Yz (c:Int):Bool:=qV c||Sx c||decide (c=95)
def Lg (c:UInt8):Bool:=Yz c.toNat
theorem Ib (c:Int):dD cN 111 [.int .u8 c] (.bool (Sx c)):=by
 refine bD 9 [.tmp 2] Tryz.func111 rfl rfl rfl rfl ?_;refine aB fun K y=>?_;refine aA rfl ?_;simp only[RR,seval];apply y;clear y;refine aB fun K y=>?_;refine aA rfl ?_;simp only[RR,seval]
 repeat' ((first|refine bA (fun h=>?_) (fun h=>?_)|refine bG (fun h=>?_) (fun h=>?_))<;>simp only[h,RR,seval])
 all_goals
  apply y;clear y;refine aQ ?_;simp only[aX,aN,bI,RR,seval];refine aW.pure ?_;simp [Sx, *]
theorem wG (c:Int):dD cN 108 [.int .u8 c] (.bool (qV c)):=by
 refine bD 17 [.tmp 2] Tryz.func108 rfl rfl rfl rfl ?_;refine aB fun K y=>?_;refine aA rfl ?_;simp only[RR,seval];apply y;clear y;refine aB fun K y=>?_;refine aA rfl ?_;simp only[RR,seval]
 repeat' ((first|refine bA (fun h=>?_) (fun h=>?_)|refine bG (fun h=>?_) (fun h=>?_))<;>simp only[h,RR,seval])
 all_goals
  apply y;clear y;refine aQ ?_;simp only[aX,aN,bI,RR,seval];refine aW.pure ?_;simp [qV, *]
theorem Mb:dD cN 110 [] (.isl 1 (dO.map fun w=>[.str w])):=by
 refine bD 2 [.tmp 0] Tryz.func110 rfl rfl rfl rfl ?_;refine aB fun K y=>?_;refine aA rfl ?_;simp only[RR,seval];apply y;clear y;refine aB fun K y=>?_;refine aA rfl ?_;simp only[RR,seval];refine dH ?_;simp only[RR,seval];apply y;clear y;refine aQ ?_;simp only[aX,aN,bI,RR,seval];refine aW.pure ?_;rfl
theorem Yy (ws:List (List UInt8)) (s:List UInt8) (hl:ws.length≤1000000):dD cN 109 [.isl 1 (ws.map fun w=>[.str w]), .str s] (.bool (ws.contains s)):=by
 refine bD 18 [.tmp 4] Tryz.func109 rfl rfl rfl rfl ?_;refine aB fun K y=>?_;refine aA rfl ?_;simp only[RR,seval];apply y;clear y;refine sH (fun fr H=>ws.contains s=false) ?_ ?_
 ·refine aB fun K y=>?_;refine aA rfl ?_;simp only[RR,seval]
  apply y;clear y;refine aI ?_;refine sG (fun n fr H=> ∃i:Nat,n=ws.length-i∧i≤ws.length∧(ws.take i).contains s=false∧fr 0= .isl 1 (ws.map fun w=>[.str w])∧fr 1= .str s∧fr 5= .int .i64 i) ws.length ⟨0,rfl,by omega,rfl,rfl,rfl,rfl⟩ ?_;rintro n fr H ⟨i,rfl,hi,hw,h0,h1,h5⟩;refine aH ?_;refine aB fun K y=>?_;refine aA rfl ?_;simp only[RR,seval];simp only[h0,h5,RR,seval];apply y;clear y;refine aF _ rfl (fun hc=>?_) (fun hc=>?_)
  ·refine aM ?_;simp only[aS]
   have hi2:(i:Int)<(ws.map fun w=>[AV.str w]).length:=aC hc;simp only[aD]at hi2;have hl:i<ws.length:=by omega
   have hg:(ws.map fun w=>[AV.str w])[i]?=some [.str ws[i]]:=by rw[bN,aG hl];rfl
   refine aH ?_;refine aI ?_;refine aB fun K y=>?_;refine aA rfl ?_;simp only[RR,seval];simp only[h0,h1,h5,hg,RR,seval];apply y;clear y;refine aF _ rfl (fun hc=>?_) (fun hc=>?_)
   ·refine aB fun K y=>?_;refine aA rfl ?_;simp only[RR,seval]
    apply y;clear y;refine aQ ?_;simp only[aS,aT,aX,aN,bI,RR,seval];refine aW.pure ?_;have :ws[i]=s:=aC hc;rw[←this];simp
   refine aM ?_;simp only[aS,aT];refine aA rfl ?_;simp only[RR,seval];simp only[h0,h1,h5,RR,seval];refine⟨ws.length-(i+1),by omega,i+1,rfl,by omega, ?_, ?_⟩
   ·have hne: ¬ws[i]=s:=aE hc
    rw[bQ hl];simp only[List.contains_append,hw,Bool.false_or];simp [Ne.symm hne]
   rw[aR _ (by omega)];rfl
  refine bH ?_;simp only[aS,aT,reduceIte];have hi2: ¬(i:Int)<(ws.map fun w=>[AV.str w]).length:=aE hc;simp only[aD]at hi2;have :i=ws.length:=by omega
  subst this;rw[List.take_length]at hw;exact hw
 intro fr H h;refine aB fun K y=>?_;refine aA rfl ?_;simp only[RR,seval];apply y;clear y;refine aQ ?_;simp only[aX,aN,bI,RR,seval];refine aW.pure ?_;rw[h]
def dC (s:List UInt8):Bool:=match s with
 |[]=>false
 |c::r=>decide ((c::r).length≤20)&&(qV c.toNat&&(decide ((c::r).takeWhile Lg=c::r)&& !dO.contains (c::r)))
theorem qK (p:UInt8→Bool): ∀s:List UInt8,decide (s.takeWhile p=s)=s.all p
 |[]=>rfl
 |c::s=>by
  cases h:p c with
  |true=>
   simp only[List.takeWhile,h,List.all_cons,Bool.true_and,List.cons.injEq,true_and];exact qK p s
  |false=>simp [List.takeWhile,h]
theorem Ms (s:List UInt8) (hs:cY s):dD cN 69 [.str s] (.bool (dC s)):=by
 have hs:s.length≤9223372036854775807:=hs;refine bD 47 [.tmp 2] Tryz.func69 rfl rfl rfl rfl ?_;refine aB fun K y=>?_;refine aA rfl ?_;simp only[RR,seval];apply y;clear y;refine aH ?_;refine cA (fun fr H=> ∃t,fr 22= .bool t∧fr 0= .str s∧(t=true→dC s=false)∧(t=false→dC s=s.all Lg)) (fun K y=>?_) ?_
 ·cases hsc:s with
  |nil=>
   refine aA rfl ?_;simp only[RR,seval];exact y _ _ ⟨true,rfl,by rw[hsc];rfl,fun _=>by rw[hsc];rfl,fun e=>by cases e⟩
  |cons c r=>
   have h0:(c::r)[0]?=some c:=rfl;have hne:decide (((c::r).length:Int)=0)=false:=bF (by simp only[bP];omega);rw[←hsc]at h0 hne⊢;have hB:dC s=(decide (s.length≤20)&&(qV c.toNat&&(s.all Lg&& !dO.contains s))):=by rw[←qK,hsc];rfl
   clear hsc;refine aA rfl ?_;simp only[RR,seval];simp only[hne,RR,seval];refine bA (fun h=>?_) (fun h=>?_)<;>simp only[h,h0,RR,seval]
   ·have hl:decide (s.length≤20)=true:=bX (by have:=aE h;omega)
    refine aU (wG _) ?_;simp only[RR,seval];refine bA (fun ha=>?_) (fun ha=>?_)
    ·have ha:qV c.toNat=true:=by simpa using ha
     simp only[ha,RR,seval];refine aU Mb ?_;simp only[RR,seval];refine aU (Yy dO s (by decide)) ?_;simp only[RR,seval];refine y _ _ ⟨_,rfl,rfl,fun e=>?_,fun e=>?_⟩
     ·rw[hB,e];simp
     rw[hB,e,hl,ha];simp
    have ha:qV c.toNat=false:=by simpa using ha
    simp only[ha,RR,seval];exact y _ _ ⟨_,rfl,rfl,fun e=>by rw[hB,ha];simp,fun e=>by cases e⟩
   have hl:decide (s.length≤20)=false:=bF (by have:=aC h;omega);exact y _ _ ⟨_,rfl,rfl,fun e=>by rw[hB,hl];rfl,fun e=>by cases e⟩
 rintro fr H ⟨t,h22,h0,ht,hf⟩;refine aF _ h22 (fun hc=>?_) (fun hc=>?_)
 ·refine aB fun K y=>?_;refine aA rfl ?_;simp only[RR,seval]
  apply y;clear y;refine aQ ?_;simp only[aS,aX,aN,bI,RR,seval];refine aW.pure ?_;rw[ht hc]
 have hall:=hf hc;refine aM ?_;simp only[aS];refine cA (fun fr H=>s.all Lg=true) (fun K y=>?_) ?_
 ·refine aB fun K y=>?_;refine aA rfl ?_;simp only[RR,seval]
  apply y;clear y;refine aI ?_;refine dE (fun n fr H=> ∃i:Nat,n=s.length-i∧i≤s.length∧fr 0= .str s∧fr 3= .int .i64 i∧s.all Lg=(s.drop i).all Lg) s.length ⟨0,rfl,by omega,h0,rfl,by simp⟩ ?_;rintro n fr H ⟨i,rfl,hi,h0,h3,hsall⟩ K2 hK2;refine aH ?_;refine aB fun K y=>?_;refine aA rfl ?_;simp only[RR,seval];simp only[h0,h3,RR,seval];apply y;clear y;refine aF _ rfl (fun hc=>?_) (fun hc=>?_)
  ·have hl:i<s.length:=by have:=aC hc;omega
   have hg:s[i]?=some s[i]:=aG hl;rw[bC hl]at hsall;simp only[List.all_cons]at hsall;generalize s[i]=e at hg hsall;refine aM ?_;simp only[aS];refine aH ?_;refine aI ?_;refine cA (fun fr H=>fr 46= .bool (!Lg e)∧fr 0= .str s∧fr 3= .int .i64 i) (fun K y=>?_) ?_
   ·refine aA rfl ?_;simp only[RR,seval]
    simp only[h0,h3,hg,RR,seval];refine aU (wG _) ?_;simp only[RR,seval];refine bA (fun ha=>?_) (fun ha=>?_)<;>simp only[ha,h0,h3,hg,RR,seval]
    ·refine aU (Ib _) ?_
     simp only[RR,seval];refine bA (fun hd=>?_) (fun hd=>?_)<;>simp only[hd,h0,h3,hg,RR,seval]
     ·repeat' ((first|refine bA (fun h=>?_) (fun h=>?_)|refine bG (fun h=>?_) (fun h=>?_))<;>simp only[h,h0,h3,hg,RR,seval])
      all_goals exact y _ _ ⟨by simp [upd,Lg,Yz,ha,hd],h0,h3⟩
     exact y _ _ ⟨by simp [upd,Lg,Yz,ha,hd],h0,h3⟩
    exact y _ _ ⟨by simp [upd,Lg,Yz,ha],h0,h3⟩
   rintro fr H ⟨h46,h0,h3⟩;refine aF _ h46 (fun hc=>?_) (fun hc=>?_)
   ·have he:Lg e=false:=by simpa using hc
    refine aB fun K y=>?_;refine aA rfl ?_;simp only[RR,seval];apply y;clear y;refine aQ ?_;simp only[aS,aT,aX,aN,bI,RR,seval];refine aW.pure ?_;rw[hall,hsall,he];rfl
   have he:Lg e=true:=by simpa using hc
   rw[he,Bool.true_and]at hsall;refine aM ?_;simp only[aS,aT];refine aA rfl ?_;simp only[RR,seval];simp only[h3,RR,seval];rw[aR _ (by omega)];exact hK2 (s.length-(i+1)) _ _ (by omega) ⟨i+1,rfl,by omega,h0,rfl,hsall⟩
  refine bH ?_;simp only[aS,aT,reduceIte];have :i=s.length:=by have:=aE hc;omega
  subst this;rw[List.drop_length]at hsall;exact y _ _ hsall
 intro fr H h;refine aB fun K y=>?_;refine aA rfl ?_;simp only[RR,seval];apply y;clear y;refine aQ ?_;simp only[aX,aN,bI,RR,seval];refine aW.pure ?_;rw[hall,h]
end Go.Proofs.YtnfbbjhdflhmjaaGreatDoor
namespace Go.Al
def iK (l:List cR):Bool:=l.all (fun s=>decide (s.length≤60))&&decide (l.length≤200)
def eX:List Ex→Int→Int→Int
 |[],left,_=>left
 | .mk _ _ _ s kids::l,left,cI=>if left<0 then left else if cI≤0∨60<s.length then -1 else eX l (eX kids (left- 1) (cI- 1)) cI
def eT:List Sm→Int→Int→Int
 |[],left,_=>left
 | .mk _ s es t u::l,left,cI=>if left<0 then left else if cI≤0∨60<s.length then -1 else eT l (eT u (eT t (eX es (left- 1) (cI- 1)) (cI- 1)) (cI- 1)) cI
theorem lC (e:Ex) (l:List Ex) (left cI:Int):eX (e::l) left cI=if left<0 then left else if cI≤0∨60<e.name.length then -1 else eX l (eX e.kids (left- 1) (cI- 1)) cI:=by
 cases e;rw[eX];rfl
theorem kZ (e:Sm) (l:List Sm) (left cI:Int):eT (e::l) left cI=if left<0 then left else if cI≤0∨60<e.name.length then -1 else eT l (eT e.els (eT e.thn (eX e.es (left- 1) (cI- 1)) (cI- 1)) (cI- 1)) cI:=by
 cases e;rw[eT];rfl
theorem nH (l:List Ex) (left cI:Int) (h:left<0):eX l left cI=left:=by
 cases l with
 |nil=>rw[eX]
 |cons e l=>rw[lC,if_pos h]
theorem nG (l:List Sm) (left cI:Int) (h:left<0):eT l left cI=left:=by
 cases l with
 |nil=>rw[eT]
 |cons e l=>rw[kZ,if_pos h]
theorem Rr (n:Nat): ∀(l:List Ex) (left cI:Int),iJ l≤n→0≤left→ -1≤eX l left cI∧eX l left cI≤left:=by
 induction n with
 |zero=>
  intro l left cI hn h
  cases l with
  |nil=>rw[eX];omega
  |cons e l=>have:=e.sz_eq;simp only[iJ]at hn;omega
 |succ n ih=>
  intro l
  induction l with
  |nil=>intro left cI _ h;rw[eX];omega
  |cons e l ihl=>
   intro left cI hn h;have hs:=e.sz_eq;simp only[iJ]at hn;rw[lC,if_neg (by omega)];split
   ·omega
   by_cases h0:left=0
   ·rw[h0,nH e.kids _ _ (by omega),nH l _ _ (by omega)];omega
   have h1:=ih e.kids (left- 1) (cI- 1) (by omega) (by omega);by_cases h2:eX e.kids (left- 1) (cI- 1)<0
   ·rw[nH l _ _ h2];omega
   have:=ihl (eX e.kids (left- 1) (cI- 1)) cI (by omega) (by omega);omega
theorem tL (l:List Ex) (left cI:Int) (h: -1≤left): -1≤eX l left cI∧eX l left cI≤left:=by
 by_cases h0:left<0
 ·rw[nH _ _ _ h0];omega
 exact Rr (iJ l) l left cI (aY _) (by omega)
theorem Rq (n:Nat): ∀(l:List Sm) (left cI:Int),gA l≤n→0≤left→ -1≤eT l left cI∧eT l left cI≤left:=by
 induction n with
 |zero=>
  intro l left cI hn h
  cases l with
  |nil=>rw[eT];omega
  |cons e l=>have:=e.sz_eq;simp only[gA]at hn;omega
 |succ n ih=>
  have ih': ∀(l:List Sm) (left cI:Int),gA l≤n→ -1≤left→ -1≤eT l left cI∧eT l left cI≤left:=fun l left cI hl h=>by
   by_cases h0:left<0
   ·rw[nG _ _ _ h0];omega
   exact ih l left cI hl (by omega)
  intro l
  induction l with
  |nil=>intro left cI _ h;rw[eT];omega
  |cons e l ihl=>
   intro left cI hn h;have hs:=e.sz_eq;simp only[gA]at hn;rw[kZ,if_neg (by omega)];split
   ·omega
   have h1:=tL e.es (left- 1) (cI- 1) (by omega);have h2:=ih' e.thn _ (cI- 1) (by omega) h1.1;have h3:=ih' e.els _ (cI- 1) (by omega) h2.1;generalize eT e.els (eT e.thn (eX e.es (left- 1) (cI- 1)) (cI- 1)) (cI- 1)=z at *;by_cases hz:z<0
   ·rw[nG l _ _ hz];omega
   have:=ihl z cI (by omega) (by omega);omega
theorem tK (l:List Sm) (left cI:Int) (h: -1≤left): -1≤eT l left cI∧eT l left cI≤left:=by
 by_cases h0:left<0
 ·rw[nG _ _ _ h0];omega
 exact Rq (gA l) l left cI (aY _) (by omega)
end Go.Al
namespace Go.Proofs.YtnfbbjhdflhmjaaGreatDoor
open Go.Al
theorem tB (l:List cR) (hl:cY l):dD cN 41 [.isl 1 (l.map bK)] (.bool (iK l)):=by
 have hl:l.length≤9223372036854775807:=hl;refine bD 19 [.tmp 2] Tryz.func41 rfl rfl rfl rfl ?_;refine aB fun K y=>?_;refine aA rfl ?_;simp only[RR,seval];apply y;clear y;refine cA (fun fr H=>fr 0= .isl 1 (l.map bK)∧l.all (fun s=>decide (s.length≤60))=true) (fun K y=>?_) ?_
 ·refine aB fun K y=>?_;refine aA rfl ?_;simp only[RR,seval]
  apply y;clear y;refine aI ?_;refine dE (fun mm fr H=> ∃k:Nat,mm=l.length-k∧k≤l.length∧fr 3= .int .i64 k∧fr 0= .isl 1 (l.map bK)∧l.all (fun s=>decide (s.length≤60))=(l.drop k).all (fun s=>decide (s.length≤60))) (l.length) ⟨0,rfl,Nat.zero_le _,rfl,rfl,by rw[List.drop_zero]⟩ ?_;rintro mm fr H ⟨k,rfl,hkk,hik,h0,hall⟩ K2 hK2;refine aH ?_;refine aB fun K y=>?_;refine aA rfl ?_;simp only[RR,seval];simp only[hik,h0,aD,RR,seval];apply y;clear y;refine aF _ rfl (fun hc=>?_) (fun hc=>?_)
  ·have hltk:k<l.length:=by have:=aC hc;omega
   clear hc;refine aM ?_;simp only[aS];refine aH ?_;refine aI ?_;have hg:=tP (aG hltk);rw[bC hltk,List.all_cons]at hall;generalize l[k]=s at hg hall;refine aB fun K y=>?_;refine aA rfl ?_;simp only[RR,seval];simp only[h0,hik,hg,RR,seval];apply y;clear y;refine aF _ rfl (fun hc=>?_) (fun hc=>?_)
   ·refine aB fun K y=>?_;refine aA rfl ?_;simp only[RR,seval]
    apply y;clear y;refine aQ ?_;simp only[aS,aT,aX,aN,bI,RR,seval];refine aW.pure ?_;have :decide (s.length≤60)=false:=bF (by have:=aC hc;omega);rw[iK,hall,this];rfl
   refine aM ?_;simp only[aS,aT];have :decide (s.length≤60)=true:=bX (by have:=aE hc;omega);rw[this,Bool.true_and]at hall;refine aA rfl ?_;simp only[RR,seval];simp only[hik,aS,RR,seval];rw[aR _ (by omega)];refine hK2 (l.length-(k+1)) _ _ (by omega) ⟨k+1,rfl,by omega,rfl,h0,hall⟩
  refine bH ?_;simp only[aS,aT,reduceIte];have hknk:k=l.length:=by have:=aE hc;omega
  clear hc;subst hknk;rw[List.drop_length]at hall;exact y _ _ ⟨h0,hall⟩
 rintro fr H ⟨h0,hall⟩;refine aB fun K y=>?_;refine aA rfl ?_;simp only[RR,seval];simp only[h0,aD,RR,seval];apply y;clear y;refine aQ ?_;simp only[aX,aN,bI,RR,seval];refine aW.pure ?_;rw[iK,hall,Bool.true_and];congr 1;rw[Bool.eq_iff_iff];simp only[aP];omega
theorem zD (n:Nat): ∀(l:List Ex) (left cI:Int),iJ l≤n→Cw l→ -1000000≤left→left≤1000000→ -1000000≤cI→cI≤1000000→
  dD cN 67 [.isl 5 (l.map Ex.row), .int .i64 left, .int .i64 cI] (.int .i64 (eX l left cI)):=by
 induction n with
 |zero=>
  intro l left cI hn hok h1 h2 h3 h4;have :l=[]:=by cases l with |nil=>rfl|cons e l=>have:=e.sz_eq;simp only[iJ]at hn;omega
  subst this;refine bD 41 [.tmp 6] Tryz.func67 rfl rfl rfl rfl ?_;refine aB fun K y=>?_;refine aA rfl ?_;simp only[RR,seval];apply y;clear y;refine cA (fun fr H=>fr 1= .int .i64 left) (fun K y=>?_) ?_
  ·refine aB fun K y=>?_;refine aA rfl ?_;simp only[RR,seval]
   apply y;clear y;refine aI ?_;refine dE (fun m fr H=>fr 0= .isl 5 []∧fr 1= .int .i64 left∧fr 7= .int .i64 0) 0 ⟨rfl,rfl,rfl⟩ ?_;rintro m fr H ⟨h0,h1,h7⟩ K2 hK2;refine aH ?_;refine aB fun K y=>?_;refine aA rfl ?_;simp only[RR,seval];simp only[h0,h7,RR,seval];apply y;clear y;refine aF false rfl (fun hc=>by cases hc) (fun _=>?_);refine bH ?_;simp only[aS,aT,reduceIte];exact y _ _ h1
  rintro fr H h1;refine aB fun K y=>?_;refine aA rfl ?_;simp only[RR,seval];simp only[h1,seval];apply y;clear y;refine aQ ?_;simp only[aX,aN,bI,RR,seval];refine aW.pure ?_;rw[eX]
 |succ n ih=>
  intro l left cI hn hok h1 h2 h3 h4;have hfit:l.length≤9223372036854775807:=hok.fit;refine bD 41 [.tmp 6] Tryz.func67 rfl rfl rfl rfl ?_;refine aB fun K y=>?_;refine aA rfl ?_;simp only[RR,seval];apply y;clear y;refine cA (fun fr H=>fr 1= .int .i64 (eX l left cI)) (fun K y=>?_) ?_
  ·refine aB fun K y=>?_;refine aA rfl ?_;simp only[RR,seval]
   apply y;clear y;refine aI ?_;refine dE (fun m fr H=> ∃(k:Nat) (x:Int),m=l.length-k∧k≤l.length∧fr 0= .isl 5 (l.map Ex.row)∧fr 1= .int .i64 x∧fr 2= .int .i64 cI∧fr 7= .int .i64 k∧eX l left cI=eX (l.drop k) x cI∧ -1000000≤x∧x≤1000000) l.length ⟨0,left,rfl,by omega,rfl,rfl,rfl,rfl,by simp,h1,h2⟩ ?_;rintro m fr H ⟨k,x,rfl,hk,f0,f1,f2,f7,heq,hx1,hx2⟩ K2 hK2;refine aH ?_;by_cases hkl:k<l.length
   ·have e1:decide ((k:Int)<l.length)=true:=bX (by omega)
    refine aB fun K y=>?_;refine aA rfl ?_;simp only[RR,seval];simp only[f0,f1,f7,aD,e1,RR,seval];apply y;clear y;refine aF _ rfl (fun hc=>?_) (fun hc=>?_)
    ·have hx0:0≤x:=by simpa using hc
     have hmem:=bJ hkl;have hgl:=nK (aG hkl);rw[bC hkl,lC,if_neg (by omega)]at heq;have hsz:=jR hmem;have hoke:=hok.all _ hmem;generalize l[k]=e at hgl heq hsz hoke;have hse:=e.sz_eq;have w1:IntKind.wrap .i64 (x- 1)=x- 1:=aR _ (by omega);have w2:IntKind.wrap .i64 (cI- 1)=cI- 1:=aR _ (by omega);refine aM ?_;simp only[aS];refine aH ?_;refine aI ?_;refine aB fun K y=>?_;refine aA rfl ?_;simp only[RR,seval];simp only[f1,w1,RR,seval];apply y;clear y;refine aH ?_;refine cA (fun fr H=> ∃t,fr 30= .bool t∧(t=decide (cI≤0∨60<e.name.length))∧fr 0= .isl 5 (l.map Ex.row)∧fr 1= .int .i64 (x- 1)∧fr 2= .int .i64 cI∧fr 7= .int .i64 k) (fun K y=>?_) ?_
     ·refine aA rfl ?_;simp only[RR,seval]
      simp only[f2,RR,seval]
      repeat' ((first|refine bA (fun h=>?_) (fun h=>?_)|refine bG (fun h=>?_) (fun h=>?_))<;>simp only[h,f0,f7,hgl,RR,seval])
      all_goals
       refine y _ _ ⟨_,rfl, ?_,f0,rfl,f2,f7⟩;clear y hK2;simp only[aP,decide_eq_false_iff_not]at *;symm
       first
        |(rw[aP];omega)
        |(rw[Bool.eq_iff_iff];simp only[aP];omega)
     rintro fr H ⟨t,f30,ht,f0,f1,f2,f7⟩;refine aF _ f30 (fun hc=>?_) (fun hc=>?_)
     ·refine aB fun K y=>?_;refine aA rfl ?_;simp only[RR,seval]
      apply y;clear y;refine aQ ?_;simp only[aS,aT,aX,aN,bI,RR,seval];refine aW.pure ?_;rw[heq,if_pos (by rw[hc]at ht;simpa using ht.symm)]
     have hno: ¬(cI≤0∨60<e.name.length):=by rw[hc]at ht;simpa using ht.symm
     rw[if_neg hno]at heq;refine aM ?_;simp only[aS];have hbd:=tL e.kids (x- 1) (cI- 1) (by omega);refine aA rfl ?_;simp only[f0,f1,f2,f7,hgl,w2,RR,seval];refine aU (ih e.kids (x- 1) (cI- 1) (by omega) hoke.kids (by omega) (by omega) (by omega) (by omega)) ?_;simp only[RR,seval]
     try simp only[aS,aT]
     refine aA rfl ?_;simp only[f7,aS,RR,seval];rw[aR _ (by omega)];exact hK2 (l.length-(k+1)) _ _ (by omega) ⟨k+1,_,rfl,by omega,f0,rfl,f2,rfl,heq,by omega,by omega⟩
    have hx0:x<0:=by simpa using hc
    rw[nH _ _ _ hx0]at heq;refine bH ?_;simp only[aS,aT,reduceIte];exact y _ _ (by rw[heq];exact f1)
   have hkn:k=l.length:=by omega
   subst hkn;rw[List.drop_length,eX]at heq;have e1:decide ((l.length:Int)<l.length)=false:=bF (by omega);refine aB fun K y=>?_;refine aA rfl ?_;simp only[RR,seval];simp only[f0,f7,aD,e1,RR,seval];apply y;clear y;refine aF false rfl (fun hc=>by cases hc) (fun _=>?_);refine bH ?_;simp only[aS,aT,reduceIte];exact y _ _ (by rw[heq];exact f1)
  rintro fr H h1;refine aB fun K y=>?_;refine aA rfl ?_;simp only[RR,seval];simp only[h1,seval];apply y;clear y;refine aQ ?_;simp only[aX,aN,bI,RR,seval];refine aW.pure ?_;rfl
end Go.Proofs.YtnfbbjhdflhmjaaGreatDoor
namespace Go.Al
def kJ:List Fu→Int→Int
 |[],left=>left
 |f::l,left=>kJ l (eT f.body (left-f.params.length-f.locs.length) 60)
def rG (f:Fu):Bool:=iK f.params&&iK f.locs&&decide (f.name.length≤60)
def Ca (p:Pg) (most:Int):Bool:=
 iK p.vars&&decide (p.arrs.length≤200)&&decide (p.funs.length≤70)&&p.arrs.all (fun a=>decide (a.name.length≤60))&&p.funs.all rG&&
  decide (0≤kJ p.funs (most-p.vars.length-p.arrs.length-p.funs.length))
theorem iT {l:List cR} (h:iK l=true):l.length≤200∧ ∀s∈l,s.length≤60:=by
 simp only[iK,aK,List.all_eq_true,aP]at h;exact⟨h.2,h.1⟩
end Go.Al
namespace Go.Proofs.YtnfbbjhdflhmjaaGreatDoor
open Go.Al
theorem zC (n:Nat): ∀(l:List Sm) (left cI:Int),gA l=n→Af l→ -1000000≤left→left≤1000000→ -1000000≤cI→cI≤1000000→
  dD cN 42 [.isl 5 (l.map Sm.row), .int .i64 left, .int .i64 cI] (.int .i64 (eT l left cI)):=by
 induction n using Nat.strongRecOn with
 |_ n ih=>
  intro l left cI hn hok h1 h2 h3 h4;have hfit:l.length≤9223372036854775807:=hok.fit;refine bD 59 [.tmp 6] Tryz.func42 rfl rfl rfl rfl ?_;refine aB fun K y=>?_;refine aA rfl ?_;simp only[RR,seval];apply y;clear y;refine cA (fun fr H=>fr 1= .int .i64 (eT l left cI)) (fun K y=>?_) ?_
  ·refine aB fun K y=>?_;refine aA rfl ?_;simp only[RR,seval]
   apply y;clear y;refine aI ?_;refine dE (fun m fr H=> ∃(k:Nat) (x:Int),m=l.length-k∧k≤l.length∧fr 0= .isl 5 (l.map Sm.row)∧fr 1= .int .i64 x∧fr 2= .int .i64 cI∧fr 7= .int .i64 k∧eT l left cI=eT (l.drop k) x cI∧ -1000000≤x∧x≤1000000) l.length ⟨0,left,rfl,by omega,rfl,rfl,rfl,rfl,by simp,h1,h2⟩ ?_;rintro m fr H ⟨k,x,rfl,hk,f0,f1,f2,f7,heq,hx1,hx2⟩ K2 hK2;refine aH ?_;by_cases hkl:k<l.length
   ·have e1:decide ((k:Int)<l.length)=true:=bX (by omega)
    refine aB fun K y=>?_;refine aA rfl ?_;simp only[RR,seval];simp only[f0,f1,f7,aD,e1,RR,seval];apply y;clear y;refine aF _ rfl (fun hc=>?_) (fun hc=>?_)
    ·have hx0:0≤x:=by simpa using hc
     have hmem:=bJ hkl;have hgl:=Fi (aG hkl);rw[bC hkl,kZ,if_neg (by omega)]at heq;have hsz:=gY hmem;have hoke:=hok.all _ hmem;generalize l[k]=e at hgl heq hsz hoke;have hse:=e.sz_eq;have w1:IntKind.wrap .i64 (x- 1)=x- 1:=aR _ (by omega);have w2:IntKind.wrap .i64 (cI- 1)=cI- 1:=aR _ (by omega);refine aM ?_;simp only[aS];refine aH ?_;refine aI ?_;refine aB fun K y=>?_;refine aA rfl ?_;simp only[RR,seval];simp only[f1,w1,RR,seval];apply y;clear y;refine aH ?_;refine cA (fun fr H=> ∃t,fr 30= .bool t∧(t=decide (cI≤0∨60<e.name.length))∧fr 0= .isl 5 (l.map Sm.row)∧fr 1= .int .i64 (x- 1)∧fr 2= .int .i64 cI∧fr 7= .int .i64 k) (fun K y=>?_) ?_
     ·refine aA rfl ?_;simp only[RR,seval]
      simp only[f2,RR,seval]
      repeat' ((first|refine bA (fun h=>?_) (fun h=>?_)|refine bG (fun h=>?_) (fun h=>?_))<;>simp only[h,f0,f7,hgl,RR,seval])
      all_goals
       refine y _ _ ⟨_,rfl, ?_,f0,rfl,f2,f7⟩;clear y hK2;simp only[aP,decide_eq_false_iff_not]at *;symm
       first
        |(rw[aP];omega)
        |(rw[Bool.eq_iff_iff];simp only[aP];omega)
     rintro fr H ⟨t,f30,ht,f0,f1,f2,f7⟩;refine aF _ f30 (fun hc=>?_) (fun hc=>?_)
     ·refine aB fun K y=>?_;refine aA rfl ?_;simp only[RR,seval]
      apply y;clear y;refine aQ ?_;simp only[aS,aT,aX,aN,bI,RR,seval];refine aW.pure ?_;rw[heq,if_pos (by rw[hc]at ht;simpa using ht.symm)]
     have hno: ¬(cI≤0∨60<e.name.length):=by rw[hc]at ht;simpa using ht.symm
     rw[if_neg hno]at heq;refine aM ?_;simp only[aS];have hbd:=tL e.es (x- 1) (cI- 1) (by omega);have hbd2:=tK e.thn _ (cI- 1) hbd.1;have hbd3:=tK e.els _ (cI- 1) hbd2.1;refine aB fun K y=>?_;refine aA rfl ?_;simp only[RR,seval];simp only[f0,f1,f2,f7,hgl,w2,RR,seval];refine aU (zD _ e.es (x- 1) (cI- 1) (aY _) hoke.es (by omega) (by omega) (by omega) (by omega)) ?_;simp only[RR,seval];apply y;clear y;refine aB fun K y=>?_;refine aA rfl ?_;simp only[RR,seval];simp only[f0,f2,f7,hgl,w2,RR,seval];refine aU (ih _ (by omega) e.thn (eX e.es (x- 1) (cI- 1)) (cI- 1) rfl hoke.thn (by omega) (by omega) (by omega) (by omega)) ?_;simp only[RR,seval];apply y;clear y;refine aA rfl ?_;simp only[f0,f2,f7,hgl,w2,RR,seval];refine aU (ih _ (by omega) e.els (eT e.thn (eX e.es (x- 1) (cI- 1)) (cI- 1)) (cI- 1) rfl hoke.els (by omega) (by omega) (by omega) (by omega)) ?_;simp only[RR,seval]
     try simp only[aS,aT]
     refine aA rfl ?_;simp only[f7,aS,RR,seval];rw[aR _ (by omega)];exact hK2 (l.length-(k+1)) _ _ (by omega) ⟨k+1,_,rfl,by omega,f0,rfl,f2,rfl,heq,by omega,by omega⟩
    have hx0:x<0:=by simpa using hc
    rw[nG _ _ _ hx0]at heq;refine bH ?_;simp only[aS,aT,reduceIte];exact y _ _ (by rw[heq];exact f1)
   have hkn:k=l.length:=by omega
   subst hkn;rw[List.drop_length,eT]at heq;have e1:decide ((l.length:Int)<l.length)=false:=bF (by omega);refine aB fun K y=>?_;refine aA rfl ?_;simp only[RR,seval];simp only[f0,f7,aD,e1,RR,seval];apply y;clear y;refine aF false rfl (fun hc=>by cases hc) (fun _=>?_);refine bH ?_;simp only[aS,aT,reduceIte];exact y _ _ (by rw[heq];exact f1)
  rintro fr H h1;refine aB fun K y=>?_;refine aA rfl ?_;simp only[RR,seval];simp only[h1,seval];apply y;clear y;refine aQ ?_;simp only[aX,aN,bI,RR,seval];refine aW.pure ?_;rfl
theorem Rp (l:List Sm) (left cI:Int):eT l left cI≤(if left<0 then left else left)∧(0≤left→ -1≤eT l left cI)∧(left<0→eT l left cI=left):=by
 by_cases h:left<0
 ·rw[nG _ _ _ h];simp;omega
 have:=tK l left cI (by omega);simp;omega
theorem Vx (p:Pg) (hp:p.ok) (most:Int) (hm:0≤most) (hm2:most≤100000):dD cN 22 [p.av, .int .i64 most] (.bool (Ca p most)):=by
 have fv:p.vars.length≤9223372036854775807:=hp.vars.fit;have fa:p.arrs.length≤9223372036854775807:=hp.afit;have ff:p.funs.length≤9223372036854775807:=hp.ffit;obtain⟨vs,aa,fs⟩:=p;simp only at fv fa ff;simp only[Pg.av,Pg.row];refine bD 95 [.tmp 4] Tryz.func22 rfl rfl rfl rfl ?_;refine cA (fun fr H=> ∃b,fr 1= .int .i64 most∧fr 2= .ptr 3 b 0 0∧H b=some (.rows 3 [[.isl 1 (vs.map bK), .isl 2 (aa.map Ar.row), .isl 5 (fs.map Fu.row)]])) (fun K y=>?_) ?_
 ·refine aA rfl ?_;simp only[RR,seval]
  refine aO fun b hb=>?_;simp only[RR,seval];exact y _ _ ⟨b,rfl,rfl,bO _ _ _⟩
 rintro fr H ⟨b,h1,h2,hb⟩;have hshort:=tB vs hp.vars.fit;refine aH ?_;refine cA (fun fr H=> ∃t,fr 24= .bool t∧(t= !(iK vs&&decide (aa.length≤200)&&decide (fs.length≤70)))∧fr 1= .int .i64 most∧fr 2= .ptr 3 b 0 0∧H b=some (.rows 3 [[.isl 1 (vs.map bK), .isl 2 (aa.map Ar.row), .isl 5 (fs.map Fu.row)]])) (fun K y=>?_) ?_
 ·refine aA rfl ?_;simp only[RR,seval]
  simp only[h2,hb,RR,seval];refine aU hshort ?_;simp only[RR,seval]
  cases hs:iK vs with
  |false=>
   simp only[RR,seval];exact y _ _ ⟨_,rfl,by rw[hs];rfl,h1,h2,hb⟩
  |true=>
   simp only[h2,hb,aD,RR,seval];refine bA (fun h=>?_) (fun h=>?_)<;>simp only[h,h2,hb,aD,RR,seval]
   ·refine y _ _ ⟨_,rfl, ?_,h1,h2,hb⟩
    have :decide (aa.length≤200)=true:=bX (by have:=aE h;omega);rw[hs,this,Bool.true_and,Bool.true_and,Bool.eq_iff_iff];simp only[aP,Bool.not_eq_true',decide_eq_false_iff_not];omega
   refine y _ _ ⟨_,rfl, ?_,h1,h2,hb⟩;have :decide (aa.length≤200)=false:=bF (by have:=aC h;omega);rw[hs,this];rfl
 rintro fr H ⟨t,h24,ht,h1,h2,hb⟩;refine aF _ h24 (fun hc=>?_) (fun hc=>?_)
 ·refine aB fun K y=>?_;refine aA rfl ?_;simp only[RR,seval]
  apply y;clear y;refine aQ ?_;simp only[aS,aX,aN,bI,RR,seval];refine aW.pure ?_;rw[hc]at ht
  have :(iK vs&&decide (aa.length≤200)&&decide (fs.length≤70))=false:=by
   cases e:(iK vs&&decide (aa.length≤200)&&decide (fs.length≤70))with
   |false=>rfl
   |true=>rw[e]at ht;cases ht
  simp only[Ca,this,Bool.false_and]
 rw[hc]at ht
 have ht3:(iK vs&&decide (aa.length≤200)&&decide (fs.length≤70))=true:=by
  cases e:(iK vs&&decide (aa.length≤200)&&decide (fs.length≤70))with
  |true=>rfl
  |false=>rw[e]at ht;cases ht
 have hfew:Ca ⟨vs,aa,fs⟩ most=(aa.all (fun a=>decide (a.name.length≤60))&&fs.all rG&&decide (0≤kJ fs (most-vs.length-aa.length-fs.length))):=by
  simp only[Ca,ht3,Bool.true_and]
 simp only[aK,aP]at ht3;obtain⟨⟨hsv,hal⟩,hfl⟩:=ht3;have hvl:=(iT hsv).1;rw[hfew];refine aM ?_;simp only[aS];refine cA (fun fr H=>fr 5= .int .i64 (most-vs.length-aa.length-fs.length)∧fr 2= .ptr 3 b 0 0∧H b=some (.rows 3 [[.isl 1 (vs.map bK), .isl 2 (aa.map Ar.row), .isl 5 (fs.map Fu.row)]])) (fun K y=>?_) ?_
 ·have w1:IntKind.wrap .i64 (most-vs.length)=most-vs.length:=aR _ (by omega)
  have w2:IntKind.wrap .i64 (most-vs.length-aa.length)=most-vs.length-aa.length:=aR _ (by omega);have w3:IntKind.wrap .i64 (most-vs.length-aa.length-fs.length)=most-vs.length-aa.length-fs.length:=aR _ (by omega);refine aA rfl ?_;simp only[RR,seval];simp only[h1,h2,hb,aD,w1,w2,w3,RR,seval];exact y _ _ ⟨rfl,h2,hb⟩
 rintro fr H ⟨h5,h2,hb⟩;refine cA (fun fr H=>aa.all (fun a=>decide (a.name.length≤60))=true∧fr 5= .int .i64 (most-vs.length-aa.length-fs.length)∧fr 2= .ptr 3 b 0 0∧H b=some (.rows 3 [[.isl 1 (vs.map bK), .isl 2 (aa.map Ar.row), .isl 5 (fs.map Fu.row)]])) (fun K y=>?_) ?_
 ·refine aB fun K y=>?_;refine aA rfl ?_;simp only[RR,seval]
  apply y;clear y;refine aI ?_;refine dE (fun mm fr H=> ∃k:Nat,mm=aa.length-k∧k≤aa.length∧fr 6= .int .i64 k∧aa.all (fun a=>decide (a.name.length≤60))=(aa.drop k).all (fun a=>decide (a.name.length≤60))∧fr 5= .int .i64 (most-vs.length-aa.length-fs.length)∧fr 2= .ptr 3 b 0 0∧H b=some (.rows 3 [[.isl 1 (vs.map bK), .isl 2 (aa.map Ar.row), .isl 5 (fs.map Fu.row)]])) (aa.length) ⟨0,rfl,Nat.zero_le _,rfl,by rw[List.drop_zero],h5,h2,hb⟩ ?_;rintro mm fr H ⟨k,rfl,hkk,hik,hall,h5,h2,hb⟩ K2 hK2;refine aH ?_;refine aB fun K y=>?_;refine aA rfl ?_;simp only[RR,seval];simp only[hik,h2,hb,aD,RR,seval];apply y;clear y;refine aF _ rfl (fun hc=>?_) (fun hc=>?_)
  ·have hltk:k<aa.length:=by have:=aC hc;omega
   clear hc;refine aM ?_;simp only[aS];refine aH ?_;refine aI ?_;have hg:=Bx (aG hltk);rw[bC hltk,List.all_cons]at hall;generalize aa[k]=a at hg hall;refine aB fun K y=>?_;refine aA rfl ?_;simp only[RR,seval];simp only[h2,hb,hik,hg,RR,seval];apply y;clear y;refine aF _ rfl (fun hc=>?_) (fun hc=>?_)
   ·refine aB fun K y=>?_;refine aA rfl ?_;simp only[RR,seval]
    apply y;clear y;refine aQ ?_;simp only[aS,aT,aX,aN,bI,RR,seval];refine aW.pure ?_;have :decide (a.name.length≤60)=false:=bF (by have:=aC hc;omega);rw[hall,this];rfl
   have :decide (a.name.length≤60)=true:=bX (by have:=aE hc;omega);rw[this,Bool.true_and]at hall;refine aM ?_;simp only[aS,aT];refine aA rfl ?_;simp only[RR,seval];simp only[hik,aS,RR,seval];rw[aR _ (by omega)];refine hK2 (aa.length-(k+1)) _ _ (by omega) ⟨k+1,rfl,by omega,rfl,hall,h5,h2,hb⟩
  refine bH ?_;simp only[aS,aT,reduceIte];have hknk:k=aa.length:=by have:=aE hc;omega
  clear hc;subst hknk;rw[List.drop_length]at hall;exact y _ _ ⟨hall,h5,h2,hb⟩
 rintro fr H ⟨hall,h5,h2,hb⟩;rw[hall,Bool.true_and];generalize hleft:most-(vs.length:Int)-aa.length-fs.length=left0 at h5⊢;have hl0: -100000≤left0∧left0≤100000:=by omega
 refine cA (fun fr H=>fs.all rG=true∧fr 5= .int .i64 (kJ fs left0)) (fun K y=>?_) ?_
 ·refine aB fun K y=>?_;refine aA rfl ?_;simp only[RR,seval]
  apply y;clear y;refine aI ?_;refine dE (fun mm fr H=> ∃k:Nat,mm=fs.length-k∧k≤fs.length∧fr 7= .int .i64 k∧ ∃x:Int,fs.all rG=(fs.drop k).all rG∧kJ fs left0=kJ (fs.drop k) x∧ -100000 - 401 *(k:Int)≤x∧x≤100000∧fr 5= .int .i64 x∧fr 2= .ptr 3 b 0 0∧H b=some (.rows 3 [[.isl 1 (vs.map bK), .isl 2 (aa.map Ar.row), .isl 5 (fs.map Fu.row)]])) (fs.length) ⟨0,rfl,Nat.zero_le _,rfl,left0,by rw[List.drop_zero],by rw[List.drop_zero],by omega,by omega,h5,h2,hb⟩ ?_;rintro mm fr H ⟨k,rfl,hkk,hik,x,hall2,hlf,hx1,hx2,h5,h2,hb⟩ K2 hK2;refine aH ?_;refine aB fun K y=>?_;refine aA rfl ?_;simp only[RR,seval];simp only[hik,h2,hb,aD,RR,seval];apply y;clear y;refine aF _ rfl (fun hc=>?_) (fun hc=>?_)
  ·have hltk:k<fs.length:=by have:=aC hc;omega
   clear hc;refine aM ?_;simp only[aS];refine aH ?_;refine aI ?_;have hg:=pG (aG hltk);have hokf:=hp.funs _ (bJ hltk);rw[bC hltk,List.all_cons]at hall2;rw[bC hltk,kJ]at hlf;generalize fs[k]=f at hg hall2 hlf hokf;refine aB fun K y=>?_;refine aA rfl ?_;simp only[RR,seval];simp only[h2,hb,hik,hg,RR,seval];refine aO fun b1 hb1=>?_;simp only[RR,seval];apply y;clear y;have hne:b≠b1:=fun e=>by rw[e,hb1]at hb;cases hb
   have hH1:(upd (upd H b1 (some (.rows 5 [[.str [], .nsl, .nsl, .bool false, .nsl]]))) b1 (some (.rows 5 [[.str f.name, .isl 1 (f.params.map bK), .isl 1 (f.locs.map bK), .bool f.word, .isl 5 (f.body.map Sm.row)]]))) b1=some (.rows 5 [[.str f.name, .isl 1 (f.params.map bK), .isl 1 (f.locs.map bK), .bool f.word, .isl 5 (f.body.map Sm.row)]]):=bO _ _ _;have hHb:(upd (upd H b1 (some (.rows 5 [[.str [], .nsl, .nsl, .bool false, .nsl]]))) b1 (some (.rows 5 [[.str f.name, .isl 1 (f.params.map bK), .isl 1 (f.locs.map bK), .bool f.word, .isl 5 (f.body.map Sm.row)]]))) b=some (.rows 3 [[.isl 1 (vs.map bK), .isl 2 (aa.map Ar.row), .isl 5 (fs.map Fu.row)]]):=by simp only[upd,if_neg hne];exact hb
   generalize(upd (upd H b1 (some (.rows 5 [[.str [], .nsl, .nsl, .bool false, .nsl]]))) b1 (some (.rows 5 [[.str f.name, .isl 1 (f.params.map bK), .isl 1 (f.locs.map bK), .bool f.word, .isl 5 (f.body.map Sm.row)]])))=H1 at hH1 hHb⊢;have c1:=tB f.params hokf.params.fit;have c2:=tB f.locs hokf.locs.fit;refine aH ?_;refine cA (fun fr H=> ∃t,fr 80= .bool t∧(t= !rG f)∧fr 8= .ptr 5 b1 0 0∧fr 7= .int .i64 k∧fr 5= .int .i64 x∧fr 2= .ptr 3 b 0 0∧H b=some (.rows 3 [[.isl 1 (vs.map bK), .isl 2 (aa.map Ar.row), .isl 5 (fs.map Fu.row)]])∧H b1=some (.rows 5 [[.str f.name, .isl 1 (f.params.map bK), .isl 1 (f.locs.map bK), .bool f.word, .isl 5 (f.body.map Sm.row)]])) (fun K y=>?_) ?_
   ·refine aA rfl ?_;simp only[RR,seval]
    simp only[hH1,RR,seval];refine aU c1 ?_;simp only[RR,seval]
    cases hs1:iK f.params with
    |false=>
     simp only[RR,seval];exact y _ _ ⟨_,rfl,by simp only[rG,hs1];rfl,rfl,hik,h5,h2,hHb,hH1⟩
    |true=>
     simp only[hH1,RR,seval];refine aU c2 ?_;simp only[RR,seval]
     cases hs2:iK f.locs with
     |false=>
      simp only[RR,seval];exact y _ _ ⟨_,rfl,by simp only[rG,hs1,hs2];rfl,rfl,hik,h5,h2,hHb,hH1⟩
     |true=>
      simp only[hH1,RR,seval];refine y _ _ ⟨_,rfl, ?_,rfl,hik,h5,h2,hHb,hH1⟩;rw[rG,hs1,hs2,Bool.true_and,Bool.true_and,Bool.eq_iff_iff];simp only[aP,Bool.not_eq_true',decide_eq_false_iff_not];omega
   rintro fr H ⟨t,h80,ht,h8,hik,h5,h2,hb,hb1⟩;refine aF _ h80 (fun hc=>?_) (fun hc=>?_)
   ·have hff:rG f=false:=by rw[hc]at ht;simpa using ht.symm
    refine aB fun K y=>?_;refine aA rfl ?_;simp only[RR,seval];apply y;clear y;refine aQ ?_;simp only[aS,aT,aX,aN,bI,RR,seval];refine aW.pure ?_;rw[hall2,hff];rfl
   have hff:rG f=true:=by
    rw[hc]at ht
    cases e:rG f with
    |true=>rfl
    |false=>rw[e]at ht;cases ht
   rw[hff,Bool.true_and]at hall2;simp only[rG,aK,aP]at hff;have l1:=(iT hff.1.1).1;have l2:=(iT hff.1.2).1;have w1:IntKind.wrap .i64 (x-f.params.length)=x-f.params.length:=aR _ (by omega);have w2:IntKind.wrap .i64 (x-f.params.length-f.locs.length)=x-f.params.length-f.locs.length:=aR _ (by omega);have hbd:=Rp f.body (x-f.params.length-f.locs.length) 60;simp only[ite_self]at hbd;have hkf:k<70:=by omega
   refine aM ?_;simp only[aS];refine aA rfl ?_;simp only[h8,hb1,h5,aD,w1,w2,RR,seval];refine aU (zC _ f.body (x-f.params.length-f.locs.length) 60 rfl hokf.body (by omega) (by omega) (by omega) (by omega)) ?_;simp only[RR,seval]
   try simp only[aS,aT]
   refine aA rfl ?_;simp only[RR,seval];simp only[hik,aS,RR,seval];rw[aR _ (by omega)];refine hK2 (fs.length-(k+1)) _ _ (by omega) ⟨k+1,rfl,by omega,rfl,_,hall2,hlf, ?_,by omega,rfl,h2,hb⟩;by_cases hneg:x-f.params.length-f.locs.length<0
   ·rw[hbd.2.2 hneg];omega
   have:=hbd.2.1 (by omega);omega
  refine bH ?_;simp only[aS,aT,reduceIte];have hknk:k=fs.length:=by have:=aE hc;omega
  clear hc;subst hknk;rw[List.drop_length]at hall2 hlf;rw[kJ]at hlf;exact y _ _ ⟨hall2,by rw[hlf];exact h5⟩
 rintro fr H ⟨hall2,h5⟩;refine aB fun K y=>?_;refine aA rfl ?_;simp only[RR,seval];simp only[h5,RR,seval];apply y;clear y;refine aQ ?_;simp only[aX,aN,bI,RR,seval];refine aW.pure ?_;rw[hall2,Bool.true_and]
end Go.Proofs.YtnfbbjhdflhmjaaGreatDoor
namespace Go.Proofs.YtnfbbjhdflhmjaaGreatDoor
open Go.Al
theorem uK {s:cR} (h:dO.contains s=true):dC s=false:=by
 cases s with
 |nil=>rfl
 |cons c r=>simp only[dC,h,Bool.not_true,Bool.and_false]
theorem Cy:dD cN 68 [] (.isl 1 (dO.map fun w=>[.str w])):=by
 refine bD 2 [.tmp 0] Tryz.func68 rfl rfl rfl rfl ?_;refine aB fun K y=>?_;refine aA rfl ?_;simp only[RR,seval];apply y;clear y;refine aB fun K y=>?_;refine aA rfl ?_;simp only[RR,seval];refine dH ?_;simp only[RR,seval];apply y;clear y;refine aQ ?_;simp only[aX,aN,bI,RR,seval];refine aW.pure ?_;rfl
theorem lP (s:cR) (hs:cY s):dD cN 44 [.str s] (.bool (dC s)):=by
 refine bD 20 [.tmp 2] Tryz.func44 rfl rfl rfl rfl ?_;refine aB fun K y=>?_;refine aA rfl ?_;simp only[RR,seval];apply y;clear y;refine aB fun K y=>?_;refine aA rfl ?_;simp only[RR,seval];refine aU Cy ?_;simp only[RR,seval];apply y;clear y;refine cA (fun fr H=>fr 0= .str s) (fun K y=>?_) ?_
 ·refine aB fun K y=>?_;refine aA rfl ?_;simp only[RR,seval]
  apply y;clear y;refine aI ?_;refine dE (fun mm fr H=> ∃k:Nat,mm=dO.length-k∧k≤dO.length∧fr 4= .int .i64 k∧fr 0= .str s∧fr 3= .isl 1 (dO.map fun w=>[.str w])) (dO.length) ⟨0,rfl,Nat.zero_le _,rfl,rfl,rfl⟩ ?_;rintro mm fr H ⟨k,rfl,hkk,hik,h0,h3⟩ K2 hK2;refine aH ?_;refine aB fun K y=>?_;refine aA rfl ?_;simp only[RR,seval];simp only[hik,h3,aD,RR,seval];apply y;clear y;refine aF _ rfl (fun hc=>?_) (fun hc=>?_)
  ·have hltk:k<dO.length:=by have:=aC hc;omega
   clear hc;refine aM ?_;simp only[aS];refine aH ?_;refine aI ?_;have hg:(dO.map fun w=>[AV.str w])[k]?=some [.str dO[k]]:=by rw[bN,aG hltk];rfl
   have hmem:=bJ hltk;generalize dO[k]=w at hg hmem;refine aB fun K y=>?_;refine aA rfl ?_;simp only[RR,seval];simp only[h0,h3,hik,hg,RR,seval];apply y;clear y;refine aF _ rfl (fun hc=>?_) (fun hc=>?_)
   ·refine aB fun K y=>?_;refine aA rfl ?_;simp only[RR,seval]
    apply y;clear y;refine aQ ?_;simp only[aS,aT,aX,aN,bI,RR,seval];refine aW.pure ?_;have :s=w:=aC hc;subst this;rw[uK (by simpa using hmem)]
   have hwl:dO.length=10:=rfl;refine aM ?_;simp only[aS,aT];refine aA rfl ?_;simp only[RR,seval];simp only[hik,aS,RR,seval];rw[aR _ (by omega)];refine hK2 (dO.length-(k+1)) _ _ (by omega) ⟨k+1,rfl,by omega,rfl,h0,h3⟩
  refine bH ?_;simp only[aS,aT,reduceIte];have hknk:k=dO.length:=by have:=aE hc;omega
  clear hc;subst hknk;exact y _ _ h0
 rintro fr H h0;refine aB fun K y=>?_;refine aA rfl ?_;simp only[RR,seval];simp only[h0,seval];refine aU (Ms s hs) ?_;simp only[RR,seval];apply y;clear y;refine aQ ?_;simp only[aX,aN,bI,RR,seval];refine aW.pure ?_;rfl
theorem pD (l:List cR) (hl:C7 l):dD cN 43 [.isl 1 (l.map bK)] (.bool (l.all dC)):=by
 have hfit:l.length≤9223372036854775807:=hl.fit;refine bD 16 [.tmp 2] Tryz.func43 rfl rfl rfl rfl ?_;refine aB fun K y=>?_;refine aA rfl ?_;simp only[RR,seval];apply y;clear y;refine cA (fun fr H=>l.all dC=true) (fun K y=>?_) ?_
 ·refine aB fun K y=>?_;refine aA rfl ?_;simp only[RR,seval]
  apply y;clear y;refine aI ?_;refine dE (fun mm fr H=> ∃k:Nat,mm=l.length-k∧k≤l.length∧fr 3= .int .i64 k∧fr 0= .isl 1 (l.map bK)∧l.all dC=(l.drop k).all dC) (l.length) ⟨0,rfl,Nat.zero_le _,rfl,rfl,by rw[List.drop_zero]⟩ ?_;rintro mm fr H ⟨k,rfl,hkk,hik,h0,hall⟩ K2 hK2;refine aH ?_;refine aB fun K y=>?_;refine aA rfl ?_;simp only[RR,seval];simp only[hik,h0,aD,RR,seval];apply y;clear y;refine aF _ rfl (fun hc=>?_) (fun hc=>?_)
  ·have hltk:k<l.length:=by have:=aC hc;omega
   clear hc;refine aM ?_;simp only[aS];refine aH ?_;refine aI ?_;have hg:=tP (aG hltk);have hf:=hl.all _ (bJ hltk);rw[bC hltk,List.all_cons]at hall;generalize l[k]=s at hg hall hf;refine aB fun K y=>?_;refine aA rfl ?_;simp only[RR,seval];simp only[h0,hik,hg,RR,seval];refine aU (lP s hf) ?_;simp only[RR,seval];apply y;clear y;refine aF (!dC s) rfl (fun hc=>?_) (fun hc=>?_)
   ·refine aB fun K y=>?_;refine aA rfl ?_;simp only[RR,seval]
    apply y;clear y;refine aQ ?_;simp only[aS,aT,aX,aN,bI,RR,seval];refine aW.pure ?_;rw[hall,show dC s=false by simpa using hc];rfl
   refine aM ?_;simp only[aS,aT];rw[show dC s=true by simpa using hc,Bool.true_and]at hall;refine aA rfl ?_;simp only[RR,seval];simp only[hik,aS,RR,seval];rw[aR _ (by omega)];refine hK2 (l.length-(k+1)) _ _ (by omega) ⟨k+1,rfl,by omega,rfl,h0,hall⟩
  refine bH ?_;simp only[aS,aT,reduceIte];have hknk:k=l.length:=by have:=aE hc;omega
  clear hc;subst hknk;rw[List.drop_length]at hall;exact y _ _ hall
 rintro fr H h0;refine aB fun K y=>?_;refine aA rfl ?_;simp only[RR,seval];apply y;clear y;refine aQ ?_;simp only[aX,aN,bI,RR,seval];refine aW.pure ?_;rw[h0]
def oO (e:Ex) (level:Int):Bool:=
 decide (level≤24)&&(decide (e.kind=6)||decide (e.op=0))&&(decide (e.kind=1)||decide (e.num=0))&&
  (if e.kind=2∨e.kind=3∨e.kind=4 then dC e.name else decide (e.name=[]))
def fM (k o:Int) (n:Nat):Bool:=
 if k=1∨k=2∨k=5 then decide (n=0)else if k=3∨k=7 then decide (n=1)else if k=4 then decide (n≤6)
 else if k=6 then decide (4≤o)&&decide (o≤15)&&decide (n=2)else if k=8∨k=9 then decide (n=2)else false
def eI:List Ex→Int→Bool
 |[],_=>true
 | .mk k o n s kids::l,level=>oO (.mk k o n s kids) level&&fM k o kids.length&&eI kids (level+1)&&eI l level
def iL (e:Ex) (level:Int):Bool:=oO e level&&fM e.kind e.op e.kids.length&&eI e.kids (level+1)
theorem gH (e:Ex) (l:List Ex) (level:Int):eI (e::l) level=(iL e level&&eI l level):=by
 cases e;rw[eI];rfl
theorem jN (level:Int):eI [] level=true:=by rw[eI]
set_option maxHeartbeats 4000000 in
theorem yN (e:Ex) (he:e.ok) (level:Int) (h1: -1000000≤level) (h2:level≤1000000)
  (ih:level≤24→dD cN 112 [.isl 5 (e.kids.map Ex.row), .int .i64 (level+1)] (.bool (eI e.kids (level+1)))):
  dD cN 139 [.agg e.row, .int .i64 level] (.bool (iL e level)):=by
 have hname:=lP e.name he.name;have hrow:=e.row_eq;generalize he2:iL e level=res;rw[hrow];have hkids:e.kids.length≤9223372036854775807:=he.kids.fit;obtain⟨k,o,n,s,l⟩:=e;simp only[Ex.kind,Ex.op,Ex.num,Ex.name,Ex.kids]at ih hname hkids⊢;clear hrow he;have hX:iL (.mk k o n s l) level=((decide (level≤24)&&(decide (k=6)||decide (o=0))&&(decide (k=1)||decide (n=0)))&&(if k=2∨k=3∨k=4 then dC s else decide (s=[]))&&fM k o l.length&&eI l (level+1)):=rfl;refine bD 123 [.tmp 4] Tryz.func139 rfl rfl rfl rfl ?_;refine cA (fun fr H=> ∃b,fr 1= .int .i64 level∧fr 2= .ptr 5 b 0 0∧H b=some (.rows 5 [[.int .i64 k, .int .i64 o, .int .u32 n, .str s, .isl 5 (l.map Ex.row)]])) (fun K y=>?_) ?_
 ·refine aA rfl ?_;simp only[RR,seval]
  refine aO fun b hb=>?_;simp only[RR,seval];exact y _ _ ⟨b,rfl,rfl,bO _ _ _⟩
 rintro fr H ⟨b,f1,f2,hb⟩;refine aH ?_;refine cA (fun fr H=> ∃t,fr 28= .bool t∧(t= !(decide (level≤24)&&(decide (k=6)||decide (o=0))&&(decide (k=1)||decide (n=0))))∧fr 1= .int .i64 level∧fr 2= .ptr 5 b 0 0∧H b=some (.rows 5 [[.int .i64 k, .int .i64 o, .int .u32 n, .str s, .isl 5 (l.map Ex.row)]])) (fun K y=>?_) ?_
 ·refine aA rfl ?_;simp only[RR,seval]
  simp only[f1,RR,seval]
  repeat' ((first|refine bA (fun h=>?_) (fun h=>?_)|refine bG (fun h=>?_) (fun h=>?_))<;>simp only[h,f2,hb,RR,seval])
  all_goals
   refine y _ _ ⟨_,rfl, ?_,f1,f2,hb⟩;clear y;simp_all<;>omega
 rintro fr H ⟨t,f28,ht,f1,f2,hb⟩;refine aF _ f28 (fun hc=>?_) (fun hc=>?_)
 ·refine aB fun K y=>?_;refine aA rfl ?_;simp only[RR,seval]
  apply y;clear y;refine aQ ?_;simp only[aS,aX,aN,bI,RR,seval];refine aW.pure ?_;rw[←he2]
  have :(decide (level≤24)&&(decide (k=6)||decide (o=0))&&(decide (k=1)||decide (n=0)))=false:=by
   cases e:(decide (level≤24)&&(decide (k=6)||decide (o=0))&&(decide (k=1)||decide (n=0)))with
   |false=>rfl
   |true=>rw[e,hc]at ht;cases ht
  rw[hX,this];rfl
 have h3:(decide (level≤24)&&(decide (k=6)||decide (o=0))&&(decide (k=1)||decide (n=0)))=true:=by
  cases e:(decide (level≤24)&&(decide (k=6)||decide (o=0))&&(decide (k=1)||decide (n=0)))with
  |true=>rfl
  |false=>rw[e,hc]at ht;cases ht
 have hlev:level≤24:=by simp only[aK,aP]at h3;exact h3.1.1
 have hres:res=((if k=2∨k=3∨k=4 then dC s else decide (s=[]))&&fM k o l.length&&eI l (level+1)):=by
  rw[←he2,hX,h3,Bool.true_and]
 have ih2:=ih hlev;clear ht hc f28 t;refine aM ?_;simp only[aS];refine cA (fun fr H=>fr 5= .bool (decide (k=2∨k=3∨k=4))∧fr 1= .int .i64 level∧fr 2= .ptr 5 b 0 0∧H b=some (.rows 5 [[.int .i64 k, .int .i64 o, .int .u32 n, .str s, .isl 5 (l.map Ex.row)]])) (fun K y=>?_) ?_
 ·refine aA rfl ?_;simp only[RR,seval]
  simp only[f2,hb,RR,seval]
  repeat' ((first|refine bA (fun h=>?_) (fun h=>?_)|refine bG (fun h=>?_) (fun h=>?_))<;>simp only[h,f2,hb,RR,seval])
  all_goals
   refine y _ _ ⟨?_,f1,f2,hb⟩;clear y;simp [upd];simp_all
 rintro fr H ⟨f5,f1,f2,hb⟩;refine aH ?_;refine cA (fun fr H=> ∃t,fr 55= .bool t∧(t= !(if k=2∨k=3∨k=4 then dC s else decide (s=[])))∧fr 1= .int .i64 level∧fr 2= .ptr 5 b 0 0∧H b=some (.rows 5 [[.int .i64 k, .int .i64 o, .int .u32 n, .str s, .isl 5 (l.map Ex.row)]])) (fun K y=>?_) ?_
 ·by_cases hk:k=2∨k=3∨k=4
  ·have e1:decide (k=2∨k=3∨k=4)=true:=bX hk
   rw[e1]at f5;by_cases hsn:s=[]
   ·have e2:decide (s=[])=true:=bX hsn
    refine aA rfl ?_;simp only[RR,seval];simp only[f2,f5,hb,e2,RR,seval];exact y _ _ ⟨_,rfl,by rw[if_pos hk,hsn];rfl,f1,f2,hb⟩
   have e2:decide (s=[])=false:=bF hsn;refine aA rfl ?_;simp only[RR,seval];simp only[f2,f5,hb,e2,RR,seval];refine aU hname ?_;simp only[RR,seval];refine y _ _ ⟨_,rfl,by rw[if_pos hk],f1,f2,hb⟩
  have e1:decide (k=2∨k=3∨k=4)=false:=bF hk;rw[e1]at f5;by_cases hsn:s=[]
  ·have e2:decide (s=[])=true:=bX hsn
   refine aA rfl ?_;simp only[RR,seval];simp only[f2,f5,hb,e2,RR,seval];exact y _ _ ⟨_,rfl,by rw[if_neg hk,e2];rfl,f1,f2,hb⟩
  have e2:decide (s=[])=false:=bF hsn;refine aA rfl ?_;simp only[RR,seval];simp only[f2,f5,hb,e2,RR,seval];exact y _ _ ⟨_,rfl,by rw[if_neg hk,e2];rfl,f1,f2,hb⟩
 rintro fr H ⟨t,f55,ht,f1,f2,hb⟩;refine aF _ f55 (fun hc=>?_) (fun hc=>?_)
 ·refine aB fun K y=>?_;refine aA rfl ?_;simp only[RR,seval]
  apply y;clear y;refine aQ ?_;simp only[aS,aX,aN,bI,RR,seval];refine aW.pure ?_
  have :(if k=2∨k=3∨k=4 then dC s else decide (s=[]))=false:=by
   rw[hc]at ht
   cases e:(if k=2∨k=3∨k=4 then dC s else decide (s=[]))with
   |false=>rfl
   |true=>rw[e]at ht;cases ht
  rw[hres,this];rfl
 have hnm:(if k=2∨k=3∨k=4 then dC s else decide (s=[]))=true:=by
  rw[hc]at ht
  cases e:(if k=2∨k=3∨k=4 then dC s else decide (s=[]))with
  |true=>rfl
  |false=>rw[e]at ht;cases ht
 rw[hnm,Bool.true_and]at hres;clear ht hc f55 t h3 hnm he2;refine aM ?_;simp only[aS];refine aB fun K y=>?_;refine aA rfl ?_;simp only[RR,seval];simp only[f2,hb,aD,RR,seval];apply y;clear y;have w1:IntKind.wrap .i64 (level+1)=level+1:=aR _ (by omega);have l0: ∀m:Nat,decide ((l.length:Int)=m)=decide (l.length=m):=fun m=>by rw[Bool.eq_iff_iff];simp only[aP];omega
 have l6:decide ((l.length:Int)≤6)=decide (l.length≤6):=by rw[Bool.eq_iff_iff];simp only[aP];omega
 have d0:decide ((l.length:Int)=0)=decide (l.length=0):=l0 0;have d1:decide ((l.length:Int)=1)=decide (l.length=1):=l0 1;have d2:decide ((l.length:Int)=2)=decide (l.length=2):=l0 2;clear l0;subst hres;by_cases k1:k=1
 ·subst k1
  repeat' (first|(refine aB fun K y=>?_;refine aA rfl ?_;simp only[f2,hb,d0,RR,seval];apply y;clear y)|(refine aH ?_)|(refine aI ?_)|(refine aF true rfl (fun _=>?_) (fun hc=>by cases hc))|(refine aF false rfl (fun hc=>by cases hc) (fun _=>?_))|(refine aM ?_;simp only[aS])|(refine bH ?_;simp only[aS,aT,reduceIte,Nat.reduceEqDiff])|(refine aA rfl ?_;simp only[f1,f2,hb,d0,aS,aT,RR,seval])|(refine bA (fun h=>?_) (fun h=>?_)<;>simp only[h,f1,f2,hb,d0,aS,aT,RR,seval])|(refine bG (fun h=>?_) (fun h=>?_)<;>simp only[h,f1,f2,hb,d0,aS,aT,RR,seval])|(refine aF _ rfl (fun h=>?_) (fun h=>?_))|(refine aQ ?_;simp only[aS,aT,aX,aN,bI,RR,seval];refine aW.pure ?_))
  cases l with
  |nil=>simp only[fM,jN];rfl
  |cons=>simp [fM]
 by_cases k1:k=2
 ·subst k1
  repeat' (first|(refine aB fun K y=>?_;refine aA rfl ?_;simp only[f2,hb,d0,RR,seval];apply y;clear y)|(refine aH ?_)|(refine aI ?_)|(refine aF true rfl (fun _=>?_) (fun hc=>by cases hc))|(refine aF false rfl (fun hc=>by cases hc) (fun _=>?_))|(refine aM ?_;simp only[aS])|(refine bH ?_;simp only[aS,aT,reduceIte,Nat.reduceEqDiff])|(refine aA rfl ?_;simp only[f1,f2,hb,d0,aS,aT,RR,seval])|(refine bA (fun h=>?_) (fun h=>?_)<;>simp only[h,f1,f2,hb,d0,aS,aT,RR,seval])|(refine bG (fun h=>?_) (fun h=>?_)<;>simp only[h,f1,f2,hb,d0,aS,aT,RR,seval])|(refine aF _ rfl (fun h=>?_) (fun h=>?_))|(refine aQ ?_;simp only[aS,aT,aX,aN,bI,RR,seval];refine aW.pure ?_))
  cases l with
  |nil=>simp only[fM,jN];rfl
  |cons=>simp [fM]
 by_cases k1:k=5
 ·subst k1
  repeat' (first|(refine aB fun K y=>?_;refine aA rfl ?_;simp only[f2,hb,d0,RR,seval];apply y;clear y)|(refine aH ?_)|(refine aI ?_)|(refine aF true rfl (fun _=>?_) (fun hc=>by cases hc))|(refine aF false rfl (fun hc=>by cases hc) (fun _=>?_))|(refine aM ?_;simp only[aS,aT])|(refine bH ?_;simp only[aS,aT,reduceIte,Nat.reduceEqDiff])|(refine aA rfl ?_;simp only[aS,RR,seval])|(refine bA (fun h=>?_) (fun h=>?_)<;>simp only[h,f1,f2,hb,d0,aS,aT,RR,seval])|(refine bG (fun h=>?_) (fun h=>?_)<;>simp only[h,f1,f2,hb,d0,aS,aT,RR,seval])|(refine aF _ rfl (fun h=>?_) (fun h=>?_))|(refine aQ ?_;simp only[aS,aT,aX,aN,bI,RR,seval];refine aW.pure ?_))
  cases l with
  |nil=>simp only[fM,jN];rfl
  |cons=>simp [fM]
 by_cases k1:k=3
 ·subst k1
  repeat' (first|(refine aB fun K y=>?_;refine aA rfl ?_;simp only[f2,hb,d1,RR,seval];apply y;clear y)|(refine aH ?_)|(refine aI ?_)|(refine aF true rfl (fun _=>?_) (fun hc=>by cases hc))|(refine aF false rfl (fun hc=>by cases hc) (fun _=>?_))|(refine aM ?_;simp only[aS])|(refine bH ?_;simp only[aS,aT,reduceIte,Nat.reduceEqDiff])|(refine aA rfl ?_;simp only[d1,aS,RR,seval])|(refine bA (fun h=>?_) (fun h=>?_)<;>simp only[h,f1,f2,hb,d1,w1,aS,aT,RR,seval])|(refine bG (fun h=>?_) (fun h=>?_)<;>simp only[h,f1,f2,hb,w1,aS,RR,seval])|(refine aF _ rfl (fun h=>?_) (fun h=>?_))|(refine aQ ?_;simp only[aS,aT,aX,aN,bI,RR,seval];refine aW.pure ?_)|(refine aU (ih2) ?_;simp only[aS,RR,seval]))
  all_goals simp [fM, *]
 by_cases k1:k=7
 ·subst k1
  repeat' (first|(refine aB fun K y=>?_;refine aA rfl ?_;simp only[f2,hb,d1,RR,seval];apply y;clear y)|(refine aH ?_)|(refine aI ?_)|(refine aF true rfl (fun _=>?_) (fun hc=>by cases hc))|(refine aF false rfl (fun hc=>by cases hc) (fun _=>?_))|(refine aM ?_;simp only[aS,aT])|(refine bH ?_;simp only[aS,aT,reduceIte,Nat.reduceEqDiff])|(refine aA rfl ?_;simp only[d1,aS,RR,seval])|(refine bA (fun h=>?_) (fun h=>?_)<;>simp only[h,f1,f2,hb,d1,w1,aS,aT,RR,seval])|(refine bG (fun h=>?_) (fun h=>?_)<;>simp only[h,f1,f2,hb,w1,aS,RR,seval])|(refine aF _ rfl (fun h=>?_) (fun h=>?_))|(refine aQ ?_;simp only[aS,aT,aX,aN,bI,RR,seval];refine aW.pure ?_)|(refine aU (ih2) ?_;simp only[aS,RR,seval]))
  all_goals simp [fM, *]
 by_cases k1:k=4
 ·subst k1
  repeat' (first|(refine aB fun K y=>?_;refine aA rfl ?_;simp only[f2,hb,l6,RR,seval];apply y;clear y)|(refine aH ?_)|(refine aI ?_)|(refine aF true rfl (fun _=>?_) (fun hc=>by cases hc))|(refine aF false rfl (fun hc=>by cases hc) (fun _=>?_))|(refine aM ?_;simp only[aS,aT])|(refine bH ?_;simp only[aS,aT,reduceIte,Nat.reduceEqDiff])|(refine aA rfl ?_;simp only[l6,aS,RR,seval])|(refine bA (fun h=>?_) (fun h=>?_)<;>simp only[h,f1,f2,hb,l6,w1,aS,aT,RR,seval])|(refine bG (fun h=>?_) (fun h=>?_)<;>simp only[h,f1,f2,hb,w1,aS,RR,seval])|(refine aF _ rfl (fun h=>?_) (fun h=>?_))|(refine aQ ?_;simp only[aS,aT,aX,aN,bI,RR,seval];refine aW.pure ?_)|(refine aU (ih2) ?_;simp only[aS,RR,seval]))
  all_goals simp [fM, *]
 by_cases k1:k=6
 ·subst k1
  repeat' (first|(refine aB fun K y=>?_;refine aA rfl ?_;simp only[f2,hb,RR,seval];apply y;clear y)|(refine aH ?_)|(refine aI ?_)|(refine aF true rfl (fun _=>?_) (fun hc=>by cases hc))|(refine aF false rfl (fun hc=>by cases hc) (fun _=>?_))|(refine aM ?_;simp only[aS,aT])|(refine bH ?_;simp only[aS,aT,reduceIte,Nat.reduceEqDiff])|(refine aA rfl ?_;simp only[f2,hb,aS,RR,seval])|(refine bA (fun h=>?_) (fun h=>?_)<;>simp only[h,f1,f2,hb,d2,w1,aS,aT,RR,seval])|(refine bG (fun h=>?_) (fun h=>?_)<;>simp only[h,f1,f2,hb,d2,w1,aS,RR,seval])|(refine aF _ rfl (fun h=>?_) (fun h=>?_))|(refine aQ ?_;simp only[aS,aT,aX,aN,bI,RR,seval];refine aW.pure ?_)|(refine aU (ih2) ?_;simp only[aS,RR,seval]))
  all_goals simp [fM, *]
 by_cases k1:k=8
 ·subst k1
  repeat' (first|(refine aB fun K y=>?_;refine aA rfl ?_;simp only[f2,hb,d2,RR,seval];apply y;clear y)|(refine aH ?_)|(refine aI ?_)|(refine aF true rfl (fun _=>?_) (fun hc=>by cases hc))|(refine aF false rfl (fun hc=>by cases hc) (fun _=>?_))|(refine aM ?_;simp only[aS])|(refine bH ?_;simp only[aS,aT,reduceIte,Nat.reduceEqDiff])|(refine aA rfl ?_;simp only[d2,aS,RR,seval])|(refine bA (fun h=>?_) (fun h=>?_)<;>simp only[h,f1,f2,hb,d2,w1,aS,aT,RR,seval])|(refine bG (fun h=>?_) (fun h=>?_)<;>simp only[h,f1,f2,hb,w1,aS,RR,seval])|(refine aF _ rfl (fun h=>?_) (fun h=>?_))|(refine aQ ?_;simp only[aS,aT,aX,aN,bI,RR,seval];refine aW.pure ?_)|(refine aU (ih2) ?_;simp only[aS,RR,seval]))
  all_goals simp [fM, *]
 by_cases k1:k=9
 ·subst k1
  repeat' (first|(refine aB fun K y=>?_;refine aA rfl ?_;simp only[f2,hb,d2,RR,seval];apply y;clear y)|(refine aH ?_)|(refine aI ?_)|(refine aF true rfl (fun _=>?_) (fun hc=>by cases hc))|(refine aF false rfl (fun hc=>by cases hc) (fun _=>?_))|(refine aM ?_;simp only[aS,aT])|(refine bH ?_;simp only[aS,aT,reduceIte,Nat.reduceEqDiff])|(refine aA rfl ?_;simp only[d2,aS,RR,seval])|(refine bA (fun h=>?_) (fun h=>?_)<;>simp only[h,f1,f2,hb,d2,w1,aS,aT,RR,seval])|(refine bG (fun h=>?_) (fun h=>?_)<;>simp only[h,f1,f2,hb,w1,aS,RR,seval])|(refine aF _ rfl (fun h=>?_) (fun h=>?_))|(refine aQ ?_;simp only[aS,aT,aX,aN,bI,RR,seval];refine aW.pure ?_)|(refine aU (ih2) ?_;simp only[aS,RR,seval]))
  all_goals simp [fM, *]
 have g1:decide (k=1)=false:=bF (by assumption);have g2:decide (k=2)=false:=bF (by assumption);have g3:decide (k=3)=false:=bF (by assumption);have g4:decide (k=4)=false:=bF (by assumption);have g5:decide (k=5)=false:=bF (by assumption);have g6:decide (k=6)=false:=bF (by assumption);have g7:decide (k=7)=false:=bF (by assumption);have g8:decide (k=8)=false:=bF (by assumption);have g9:decide (k=9)=false:=bF (by assumption)
 repeat' (first|(refine aB fun K y=>?_;refine aA rfl ?_;simp only[f2,hb,g1,g2,g3,g4,g6,g8,RR,seval];apply y;clear y)|(refine aH ?_)|(refine aI ?_)|(refine aF true rfl (fun _=>?_) (fun hc=>by cases hc))|(refine aF false rfl (fun hc=>by cases hc) (fun _=>?_))|(refine aM ?_;simp only[aS,aT])|(refine bH ?_;simp only[aS,aT,reduceIte,Nat.reduceEqDiff])|(refine aA rfl ?_;simp only[g5,g7,g9,aS,RR,seval])|(refine bA (fun h=>?_) (fun h=>?_)<;>simp only[h,f1,f2,hb,g1,g2,g3,g4,g5,g6,g7,g8,g9,aS,aT,RR,seval])|(refine bG (fun h=>?_) (fun h=>?_)<;>simp only[h,f1,f2,hb,g1,g2,g3,g4,g5,g6,g7,g8,g9,aS,aT,RR,seval])|(refine aF _ rfl (fun h=>?_) (fun h=>?_))|(refine aQ ?_;simp only[aX,aN,bI,RR,seval];refine aW.pure ?_))
 simp [fM, *]
theorem yM (n:Nat): ∀(l:List Ex) (level:Int),iJ l=n→Cw l→ -1000000≤level→level≤1000000→dD cN 112 [.isl 5 (l.map Ex.row), .int .i64 level] (.bool (eI l level)):=by
 induction n using Nat.strongRecOn with
 |_ n ih=>
  intro l level hn hok h1 h2;have hfit:l.length≤9223372036854775807:=hok.fit;refine bD 19 [.tmp 4] Tryz.func112 rfl rfl rfl rfl ?_;refine aB fun K y=>?_;refine aA rfl ?_;simp only[RR,seval];apply y;clear y;refine cA (fun fr H=>eI l level=true) (fun K y=>?_) ?_
  ·refine aB fun K y=>?_;refine aA rfl ?_;simp only[RR,seval]
   apply y;clear y;refine aI ?_;refine dE (fun mm fr H=> ∃k:Nat,mm=l.length-k∧k≤l.length∧fr 5= .int .i64 k∧fr 0= .isl 5 (l.map Ex.row)∧fr 1= .int .i64 level∧eI l level=eI (l.drop k) level) (l.length) ⟨0,rfl,Nat.zero_le _,rfl,rfl,rfl,by rw[List.drop_zero]⟩ ?_;rintro mm fr H ⟨k,rfl,hkk,hik,h0,f1,hall⟩ K2 hK2;refine aH ?_;refine aB fun K y=>?_;refine aA rfl ?_;simp only[RR,seval];simp only[hik,h0,aD,RR,seval];apply y;clear y;refine aF _ rfl (fun hc=>?_) (fun hc=>?_)
   ·have hltk:k<l.length:=by have:=aC hc;omega
    clear hc;refine aM ?_;simp only[aS];refine aH ?_;refine aI ?_;have hg:=mM Ex.row (aG hltk);have hmem:=bJ hltk;have he:=hok.all _ hmem;have hsz:=jR hmem;rw[bC hltk,gH]at hall;generalize l[k]=e at hg hall he hsz;have hse:=e.sz_eq;have hl5:=e.row_len;have hcon:=yN e he level h1 h2 (fun hle=>ih _ (by omega) e.kids (level+1) rfl he.kids (by omega) (by omega));refine aB fun K y=>?_;refine aA rfl ?_;simp only[RR,seval];simp only[h0,f1,hik,hg,hl5,RR,seval];rw[List.take_of_length_le (by omega)];refine aU hcon ?_;simp only[RR,seval];apply y;clear y;refine aF (!iL e level) rfl (fun hc=>?_) (fun hc=>?_)
    ·refine aB fun K y=>?_;refine aA rfl ?_;simp only[RR,seval]
     apply y;clear y;refine aQ ?_;simp only[aS,aT,aX,aN,bI,RR,seval];refine aW.pure ?_;rw[hall,show iL e level=false by simpa using hc];rfl
    refine aM ?_;simp only[aS,aT];rw[show iL e level=true by simpa using hc,Bool.true_and]at hall;refine aA rfl ?_;simp only[RR,seval];simp only[hik,aS,RR,seval];rw[aR _ (by omega)];refine hK2 (l.length-(k+1)) _ _ (by omega) ⟨k+1,rfl,by omega,rfl,h0,f1,hall⟩
   refine bH ?_;simp only[aS,aT,reduceIte];have hknk:k=l.length:=by have:=aE hc;omega
   clear hc;subst hknk;rw[List.drop_length,jN]at hall;exact y _ _ hall
  rintro fr H h0;refine aB fun K y=>?_;refine aA rfl ?_;simp only[RR,seval];apply y;clear y;refine aQ ?_;simp only[aX,aN,bI,RR,seval];refine aW.pure ?_;rw[h0]
end Go.Proofs.YtnfbbjhdflhmjaaGreatDoor
namespace Go.Proofs.YtnfbbjhdflhmjaaGreatDoor
open Go.Al
def qN (s:Sm) (level:Int):Bool:=
 decide (level≤24)&&(decide (s.kind=4)||decide (s.els.length=0))&&(decide (s.kind=4)||decide (s.kind=5)||decide (s.thn.length=0))&&
  (if s.kind=1∨s.kind=2∨s.kind=6 then dC s.name else decide (s.name=[]))
def pH (k:Int) (n:Nat):Bool:=
 if k=1∨k=3∨k=4∨k=5 then decide (n=1)else if k=2 then decide (n=2)else if k=6 then decide (n≤6)else if k=7 then decide (n≤1)else false
def eE:List Sm→Int→Bool
 |[],_=>true
 | .mk k s es t u::l,level=>qN (.mk k s es t u) level&&pH k es.length&&eI es (level+1)&&eE t (level+1)&&eE u (level+1)&&eE l level
def iM (s:Sm) (level:Int):Bool:=qN s level&&pH s.kind s.es.length&&eI s.es (level+1)&&eE s.thn (level+1)&&eE s.els (level+1)
theorem gG (e:Sm) (l:List Sm) (level:Int):eE (e::l) level=(iM e level&&eE l level):=by
 cases e;rw[eE];rfl
theorem rD (level:Int):eE [] level=true:=by rw[eE]
def fF (a:Ar):Bool:=dC a.name&&decide (1≤a.size)&&decide (a.size≤4096)
def eV (f:Fu):Bool:=dC f.name&&decide (f.params.length≤6)&&f.params.all dC&&f.locs.all dC&&eE f.body 1
def eH (p:Pg):Bool:=p.vars.all dC&&decide (1≤p.funs.length)&&decide (p.funs.length≤64)&&p.arrs.all fF&&p.funs.all eV
theorem Zn {a b:Bool} (h:a= !b) (ha:a=true):b=false:=by subst ha;cases b<;>simp_all
theorem Zl {a b:Bool} (h:a= !b) (ha:a=false):b=true:=by subst ha;cases b<;>simp_all
set_option maxHeartbeats 4000000 in
theorem yL (e:Sm) (he:e.ok) (level:Int) (h1: -1000000≤level) (h2:level≤1000000)
  (ih:level≤24→ ∀x,x=e.thn∨x=e.els→dD cN 45 [.isl 5 (x.map Sm.row), .int .i64 (level+1)] (.bool (eE x (level+1)))):
  dD cN 70 [.agg e.row, .int .i64 level] (.bool (iM e level)):=by
 have hname:=lP e.name he.name;have hexs:=fun h=>yM _ e.es (level+1) rfl he.es (by omega) h;have hrow:=e.row_eq;generalize he2:iM e level=res;rw[hrow];have f3:e.es.length≤9223372036854775807:=he.es.fit;have f4:e.thn.length≤9223372036854775807:=he.thn.fit;have f5:e.els.length≤9223372036854775807:=he.els.fit;obtain⟨k,s,l,tt,u⟩:=e;simp only[Sm.kind,Sm.name,Sm.es,Sm.thn,Sm.els]at ih hname hexs f3 f4 f5⊢;clear hrow he;have hX:iM (.mk k s l tt u) level=((decide (level≤24)&&(decide (k=4)||decide (u.length=0))&&(decide (k=4)||decide (k=5)||decide (tt.length=0)))&&(if k=1∨k=2∨k=6 then dC s else decide (s=[]))&&pH k l.length&&eI l (level+1)&&eE tt (level+1)&&eE u (level+1)):=rfl;rw[he2]at hX;clear he2;refine bD 110 [.tmp 4] Tryz.func70 rfl rfl rfl rfl ?_;refine cA (fun fr H=> ∃b,fr 1= .int .i64 level∧fr 2= .ptr 5 b 0 0∧H b=some (.rows 5 [[.int .i64 k, .str s, .isl 5 (l.map Ex.row), .isl 5 (tt.map Sm.row), .isl 5 (u.map Sm.row)]])) (fun K y=>?_) ?_
 ·refine aA rfl ?_;simp only[RR,seval]
  refine aO fun b hb=>?_;simp only[RR,seval];exact y _ _ ⟨b,rfl,rfl,bO _ _ _⟩
 rintro fr H ⟨b,f1,f2,hb⟩;refine aH ?_;refine cA (fun fr H=> ∃t,fr 36= .bool t∧(t= !(decide (level≤24)&&(decide (k=4)||decide (u.length=0))&&(decide (k=4)||decide (k=5)||decide (tt.length=0))))∧fr 1= .int .i64 level∧fr 2= .ptr 5 b 0 0∧H b=some (.rows 5 [[.int .i64 k, .str s, .isl 5 (l.map Ex.row), .isl 5 (tt.map Sm.row), .isl 5 (u.map Sm.row)]])) (fun K y=>?_) ?_
 ·have d1:decide ((0:Int)<u.length)= !decide (u.length=0):=by rw[Bool.eq_iff_iff];simp only[aP,Bool.not_eq_true',decide_eq_false_iff_not];omega
  have d2:decide ((0:Int)<tt.length)= !decide (tt.length=0):=by rw[Bool.eq_iff_iff];simp only[aP,Bool.not_eq_true',decide_eq_false_iff_not];omega
  refine aA rfl ?_;simp only[RR,seval];simp only[f1,RR,seval]
  repeat' ((first|refine bA (fun h=>?_) (fun h=>?_)|refine bG (fun h=>?_) (fun h=>?_))<;>simp only[h,f2,hb,aD,d1,d2,RR,seval])
  all_goals
   refine y _ _ ⟨_,rfl, ?_,f1,f2,hb⟩;clear y;simp_all<;>omega
 rintro fr H ⟨t,f36,ht,f1,f2,hb⟩;refine aF _ f36 (fun hc=>?_) (fun hc=>?_)
 ·have:=Zn ht hc
  refine aB fun K y=>?_;refine aA rfl ?_;simp only[RR,seval];apply y;clear y;refine aQ ?_;simp only[aS,aX,aN,bI,RR,seval];refine aW.pure ?_;rw[hX,this];rfl
 have h3:=Zl ht hc;have hlev:level≤24:=by simp only[aK,aP]at h3;exact h3.1.1
 rw[h3,Bool.true_and]at hX;have ih2:=ih hlev;have hexs2:=hexs (by omega);clear ht hc f36 t;refine aM ?_;simp only[aS];refine cA (fun fr H=>fr 5= .bool (decide (k=1∨k=2∨k=6))∧fr 1= .int .i64 level∧fr 2= .ptr 5 b 0 0∧H b=some (.rows 5 [[.int .i64 k, .str s, .isl 5 (l.map Ex.row), .isl 5 (tt.map Sm.row), .isl 5 (u.map Sm.row)]])) (fun K y=>?_) ?_
 ·refine aA rfl ?_;simp only[RR,seval]
  simp only[f2,hb,RR,seval]
  repeat' ((first|refine bA (fun h=>?_) (fun h=>?_)|refine bG (fun h=>?_) (fun h=>?_))<;>simp only[h,f2,hb,RR,seval])
  all_goals
   refine y _ _ ⟨?_,f1,f2,hb⟩;clear y;simp [upd];simp_all
 rintro fr H ⟨f5,f1,f2,hb⟩;refine aH ?_;refine cA (fun fr H=> ∃t,fr 63= .bool t∧(t= !(if k=1∨k=2∨k=6 then dC s else decide (s=[])))∧fr 1= .int .i64 level∧fr 2= .ptr 5 b 0 0∧H b=some (.rows 5 [[.int .i64 k, .str s, .isl 5 (l.map Ex.row), .isl 5 (tt.map Sm.row), .isl 5 (u.map Sm.row)]])) (fun K y=>?_) ?_
 ·by_cases hk:k=1∨k=2∨k=6
  ·have e1:decide (k=1∨k=2∨k=6)=true:=bX hk
   rw[e1]at f5;by_cases hsn:s=[]
   ·have e2:decide (s=[])=true:=bX hsn
    refine aA rfl ?_;simp only[RR,seval];simp only[f2,f5,hb,e2,RR,seval];exact y _ _ ⟨_,rfl,by rw[if_pos hk,hsn];rfl,f1,f2,hb⟩
   have e2:decide (s=[])=false:=bF hsn;refine aA rfl ?_;simp only[RR,seval];simp only[f2,f5,hb,e2,RR,seval];refine aU hname ?_;simp only[RR,seval];refine y _ _ ⟨_,rfl,by rw[if_pos hk],f1,f2,hb⟩
  have e1:decide (k=1∨k=2∨k=6)=false:=bF hk;rw[e1]at f5;by_cases hsn:s=[]
  ·have e2:decide (s=[])=true:=bX hsn
   refine aA rfl ?_;simp only[RR,seval];simp only[f2,f5,hb,e2,RR,seval];exact y _ _ ⟨_,rfl,by rw[if_neg hk,e2];rfl,f1,f2,hb⟩
  have e2:decide (s=[])=false:=bF hsn;refine aA rfl ?_;simp only[RR,seval];simp only[f2,f5,hb,e2,RR,seval];exact y _ _ ⟨_,rfl,by rw[if_neg hk,e2];rfl,f1,f2,hb⟩
 rintro fr H ⟨t,f63,ht,f1,f2,hb⟩;refine aF _ f63 (fun hc=>?_) (fun hc=>?_)
 ·have:=Zn ht hc
  refine aB fun K y=>?_;refine aA rfl ?_;simp only[RR,seval];apply y;clear y;refine aQ ?_;simp only[aS,aX,aN,bI,RR,seval];refine aW.pure ?_;rw[hX,this];rfl
 rw[Zl ht hc,Bool.true_and]at hX;clear ht hc f63 t h3;refine aM ?_;simp only[aS];refine aB fun K y=>?_;refine aA rfl ?_;simp only[RR,seval];simp only[f2,hb,aD,RR,seval];apply y;clear y;refine aB fun K y=>?_;refine aA rfl ?_;simp only[RR,seval];apply y;clear y;have w1:IntKind.wrap .i64 (level+1)=level+1:=aR _ (by omega);refine cA (fun fr H=>fr 7= .bool (pH k l.length)∧fr 1= .int .i64 level∧fr 2= .ptr 5 b 0 0∧H b=some (.rows 5 [[.int .i64 k, .str s, .isl 5 (l.map Ex.row), .isl 5 (tt.map Sm.row), .isl 5 (u.map Sm.row)]])) (fun K y=>?_) ?_
 ·have d1:decide ((l.length:Int)=1)=decide (l.length=1):=by rw[Bool.eq_iff_iff];simp only[aP];omega
  have d2:decide ((l.length:Int)=2)=decide (l.length=2):=by rw[Bool.eq_iff_iff];simp only[aP];omega
  have d6:decide ((l.length:Int)≤6)=decide (l.length≤6):=by rw[Bool.eq_iff_iff];simp only[aP];omega
  have d7:decide ((l.length:Int)≤1)=decide (l.length≤1):=by rw[Bool.eq_iff_iff];simp only[aP];omega
  by_cases k1:k=1
  ·subst k1
   repeat' (first|(refine aB fun K y=>?_;refine aA rfl ?_;simp only[f2,hb,RR,seval];apply y;clear y)|(refine aH ?_)|(refine aI ?_)|(refine aF true rfl (fun _=>?_) (fun hc=>by cases hc))|(refine aF false rfl (fun hc=>by cases hc) (fun _=>?_))|(refine aM ?_;simp only[aS])|(refine bH ?_;simp only[aS,aT,reduceIte,Nat.reduceEqDiff])|(refine aA rfl ?_;simp only[d1,aS,aT,RR,seval])|(refine bA (fun h=>?_) (fun h=>?_)<;>simp only[h,f2,hb,d1,aS,aT,RR,seval])|(refine bG (fun h=>?_) (fun h=>?_)<;>simp only[h,f2,hb,d1,aS,aT,RR,seval])|(refine aF _ rfl (fun h=>?_) (fun h=>?_))|(refine aQ ?_;simp only[aS,aT,aX,aN,bI,oI,f2,hb,d1,RR,seval];refine aW.pure ?_))
   exact y _ _ ⟨rfl,f1,f2,hb⟩
  by_cases k1:k=3
  ·subst k1
   repeat' (first|(refine aB fun K y=>?_;refine aA rfl ?_;simp only[f2,hb,RR,seval];apply y;clear y)|(refine aH ?_)|(refine aI ?_)|(refine aF true rfl (fun _=>?_) (fun hc=>by cases hc))|(refine aF false rfl (fun hc=>by cases hc) (fun _=>?_))|(refine aM ?_;simp only[aS])|(refine bH ?_;simp only[aS,aT,reduceIte,Nat.reduceEqDiff])|(refine aA rfl ?_;simp only[d1,aS,aT,RR,seval])|(refine bA (fun h=>?_) (fun h=>?_)<;>simp only[h,f2,hb,d1,aS,aT,RR,seval])|(refine bG (fun h=>?_) (fun h=>?_)<;>simp only[h,f2,hb,d1,aS,aT,RR,seval])|(refine aF _ rfl (fun h=>?_) (fun h=>?_))|(refine aQ ?_;simp only[aS,aT,aX,aN,bI,oI,f2,hb,d1,RR,seval];refine aW.pure ?_))
   exact y _ _ ⟨rfl,f1,f2,hb⟩
  by_cases k1:k=4
  ·subst k1
   repeat' (first|(refine aB fun K y=>?_;refine aA rfl ?_;simp only[f2,hb,RR,seval];apply y;clear y)|(refine aH ?_)|(refine aI ?_)|(refine aF true rfl (fun _=>?_) (fun hc=>by cases hc))|(refine aF false rfl (fun hc=>by cases hc) (fun _=>?_))|(refine aM ?_;simp only[aS])|(refine bH ?_;simp only[aS,aT,reduceIte,Nat.reduceEqDiff])|(refine aA rfl ?_;simp only[d1,aS,aT,RR,seval])|(refine bA (fun h=>?_) (fun h=>?_)<;>simp only[h,f2,hb,d1,aS,aT,RR,seval])|(refine bG (fun h=>?_) (fun h=>?_)<;>simp only[h,f2,hb,d1,aS,aT,RR,seval])|(refine aF _ rfl (fun h=>?_) (fun h=>?_))|(refine aQ ?_;simp only[aS,aT,aX,aN,bI,oI,f2,hb,d1,RR,seval];refine aW.pure ?_))
   exact y _ _ ⟨rfl,f1,f2,hb⟩
  by_cases k1:k=5
  ·subst k1
   repeat' (first|(refine aB fun K y=>?_;refine aA rfl ?_;simp only[f2,hb,RR,seval];apply y;clear y)|(refine aH ?_)|(refine aI ?_)|(refine aF true rfl (fun _=>?_) (fun hc=>by cases hc))|(refine aF false rfl (fun hc=>by cases hc) (fun _=>?_))|(refine aM ?_;simp only[aS,aT])|(refine bH ?_;simp only[aS,aT,reduceIte,Nat.reduceEqDiff])|(refine aA rfl ?_;simp only[d1,aS,aT,RR,seval])|(refine bA (fun h=>?_) (fun h=>?_)<;>simp only[h,f2,hb,d1,aS,aT,RR,seval])|(refine bG (fun h=>?_) (fun h=>?_)<;>simp only[h,f2,hb,d1,aS,aT,RR,seval])|(refine aF _ rfl (fun h=>?_) (fun h=>?_))|(refine aQ ?_;simp only[aS,aT,aX,aN,bI,oI,f2,hb,d1,RR,seval];refine aW.pure ?_))
   exact y _ _ ⟨rfl,f1,f2,hb⟩
  by_cases k1:k=2
  ·subst k1
   repeat' (first|(refine aB fun K y=>?_;refine aA rfl ?_;simp only[f2,hb,RR,seval];apply y;clear y)|(refine aH ?_)|(refine aI ?_)|(refine aF true rfl (fun _=>?_) (fun hc=>by cases hc))|(refine aF false rfl (fun hc=>by cases hc) (fun _=>?_))|(refine aM ?_;simp only[aS,aT])|(refine bH ?_;simp only[aS,aT,reduceIte,Nat.reduceEqDiff])|(refine aA rfl ?_;simp only[d2,aS,aT,RR,seval])|(refine bA (fun h=>?_) (fun h=>?_)<;>simp only[h,f2,hb,d2,aS,aT,RR,seval])|(refine bG (fun h=>?_) (fun h=>?_)<;>simp only[h,f2,hb,d2,aS,aT,RR,seval])|(refine aF _ rfl (fun h=>?_) (fun h=>?_))|(refine aQ ?_;simp only[aS,aT,aX,aN,bI,oI,f2,hb,d2,RR,seval];refine aW.pure ?_))
   exact y _ _ ⟨rfl,f1,f2,hb⟩
  by_cases k1:k=6
  ·subst k1
   repeat' (first|(refine aB fun K y=>?_;refine aA rfl ?_;simp only[f2,hb,RR,seval];apply y;clear y)|(refine aH ?_)|(refine aI ?_)|(refine aF true rfl (fun _=>?_) (fun hc=>by cases hc))|(refine aF false rfl (fun hc=>by cases hc) (fun _=>?_))|(refine aM ?_;simp only[aS,aT])|(refine bH ?_;simp only[aS,aT,reduceIte,Nat.reduceEqDiff])|(refine aA rfl ?_;simp only[d6,aS,aT,RR,seval])|(refine bA (fun h=>?_) (fun h=>?_)<;>simp only[h,f2,hb,d6,aS,aT,RR,seval])|(refine bG (fun h=>?_) (fun h=>?_)<;>simp only[h,f2,hb,d6,aS,aT,RR,seval])|(refine aF _ rfl (fun h=>?_) (fun h=>?_))|(refine aQ ?_;simp only[aS,aT,aX,aN,bI,oI,f2,hb,d6,RR,seval];refine aW.pure ?_))
   exact y _ _ ⟨rfl,f1,f2,hb⟩
  by_cases k1:k=7
  ·subst k1
   repeat' (first|(refine aB fun K y=>?_;refine aA rfl ?_;simp only[f2,hb,RR,seval];apply y;clear y)|(refine aH ?_)|(refine aI ?_)|(refine aF true rfl (fun _=>?_) (fun hc=>by cases hc))|(refine aF false rfl (fun hc=>by cases hc) (fun _=>?_))|(refine aM ?_;simp only[aS,aT])|(refine bH ?_;simp only[aS,aT,reduceIte,Nat.reduceEqDiff])|(refine aA rfl ?_;simp only[d7,aS,aT,RR,seval])|(refine bA (fun h=>?_) (fun h=>?_)<;>simp only[h,f2,hb,d7,aS,aT,RR,seval])|(refine bG (fun h=>?_) (fun h=>?_)<;>simp only[h,f2,hb,d7,aS,aT,RR,seval])|(refine aF _ rfl (fun h=>?_) (fun h=>?_))|(refine aQ ?_;simp only[aS,aT,aX,aN,bI,oI,f2,hb,d7,RR,seval];refine aW.pure ?_))
   exact y _ _ ⟨rfl,f1,f2,hb⟩
  have g1:decide (k=1)=false:=bF (by assumption);have g2:decide (k=2)=false:=bF (by assumption);have g3:decide (k=3)=false:=bF (by assumption);have g4:decide (k=4)=false:=bF (by assumption);have g5:decide (k=5)=false:=bF (by assumption);have g6:decide (k=6)=false:=bF (by assumption);have g7:decide (k=7)=false:=bF (by assumption)
  repeat' (first|(refine aB fun K y=>?_;refine aA rfl ?_;simp only[f2,hb,g1,g2,g3,g4,g6,g7,RR,seval];apply y;clear y)|(refine aH ?_)|(refine aI ?_)|(refine aF true rfl (fun _=>?_) (fun hc=>by cases hc))|(refine aF false rfl (fun hc=>by cases hc) (fun _=>?_))|(refine aM ?_;simp only[aS,aT])|(refine bH ?_;simp only[aS,aT,reduceIte,Nat.reduceEqDiff])|(refine aA rfl ?_;simp only[g5,aS,RR,seval])|(refine bA (fun h=>?_) (fun h=>?_)<;>simp only[h,f2,hb,g1,g2,g3,g4,g5,g6,g7,aS,aT,RR,seval])|(refine bG (fun h=>?_) (fun h=>?_)<;>simp only[h,f2,hb,g1,g2,g3,g4,g5,g6,g7,aS,aT,RR,seval])|(refine aF _ rfl (fun h=>?_) (fun h=>?_))|(refine aQ ?_;simp only[aS,aT,aX,aN,bI,oI,f2,hb,g1,g2,g3,g4,g5,g6,g7,RR,seval];refine aW.pure ?_))
  exact y _ _ ⟨by simp [pH, *,upd],f1,f2,hb⟩
 rintro fr H ⟨f7,f1,f2,hb⟩;subst hX
 cases hf:pH k l.length with
 |false=>
  rw[hf]at f7
  repeat' (first|(refine aB fun K y=>?_;refine aA rfl ?_;simp only[f7,RR,seval];apply y;clear y)|(refine aH ?_)|(refine aI ?_)|(refine aF true rfl (fun _=>?_) (fun hc=>by cases hc))|(refine aF false rfl (fun hc=>by cases hc) (fun _=>?_))|(refine aM ?_;simp only[aS,aT])|(refine bH ?_;simp only[aS,aT,reduceIte,Nat.reduceEqDiff])|(refine aA rfl ?_;simp only[f7,aS,aT,RR,seval])|(refine bA (fun h=>?_) (fun h=>?_)<;>simp only[h,f7,aS,aT,RR,seval])|(refine bG (fun h=>?_) (fun h=>?_)<;>simp only[h,f7,aS,aT,RR,seval])|(refine aF _ rfl (fun h=>?_) (fun h=>?_))|(refine aQ ?_;simp only[aX,aN,bI,RR,seval];refine aW.pure ?_))
  rfl
 |true=>
  rw[hf]at f7
  cases hx:eI l (level+1)with
  |false=>
   rw[hx]at hexs2
   repeat' (first|(refine aB fun K y=>?_;refine aA rfl ?_;simp only[f1,f2,f7,hb,w1,RR,seval];apply y;clear y)|(refine aH ?_)|(refine aI ?_)|(refine aF true rfl (fun _=>?_) (fun hc=>by cases hc))|(refine aF false rfl (fun hc=>by cases hc) (fun _=>?_))|(refine aM ?_;simp only[aS,aT])|(refine bH ?_;simp only[aS,aT,reduceIte,Nat.reduceEqDiff])|(refine aA rfl ?_;simp only[f1,f2,f7,hb,w1,RR,seval])|(refine bA (fun h=>?_) (fun h=>?_)<;>simp only[h,f1,f2,f7,hb,w1,aS,aT,RR,seval])|(refine bG (fun h=>?_) (fun h=>?_)<;>simp only[h,f1,f2,f7,hb,w1,aS,aT,RR,seval])|(refine aF _ rfl (fun h=>?_) (fun h=>?_))|(refine aQ ?_;simp only[aX,aN,bI,RR,seval];refine aW.pure ?_)|(refine aU (hexs2) ?_;simp only[aS,RR,seval]))
   rfl
  |true=>
   rw[hx]at hexs2;have c1:=ih2 tt (.inl rfl);have c2:=ih2 u (.inr rfl);refine aB fun K y=>?_;refine aA rfl ?_;simp only[RR,seval];simp only[f1,f2,f7,hb,w1,RR,seval];refine aU hexs2 ?_;simp only[RR,seval];simp only[f1,f2,hb,w1,RR,seval];refine aU c1 ?_;simp only[RR,seval]
   cases ht:eE tt (level+1)with
   |false=>
    simp only[RR,seval];apply y;clear y;refine aQ ?_;simp only[aX,aN,bI,RR,seval];refine aW.pure ?_;rw[ht];rfl
   |true=>
    simp only[f1,f2,hb,w1,RR,seval];refine aU c2 ?_;simp only[RR,seval];apply y;clear y;refine aQ ?_;simp only[aX,aN,bI,RR,seval];refine aW.pure ?_;rw[ht];rfl
theorem yK (n:Nat): ∀(l:List Sm) (level:Int),gA l=n→Af l→ -1000000≤level→level≤1000000→dD cN 45 [.isl 5 (l.map Sm.row), .int .i64 level] (.bool (eE l level)):=by
 induction n using Nat.strongRecOn with
 |_ n ih=>
  intro l level hn hok h1 h2;have hfit:l.length≤9223372036854775807:=hok.fit;refine bD 19 [.tmp 4] Tryz.func45 rfl rfl rfl rfl ?_;refine aB fun K y=>?_;refine aA rfl ?_;simp only[RR,seval];apply y;clear y;refine cA (fun fr H=>eE l level=true) (fun K y=>?_) ?_
  ·refine aB fun K y=>?_;refine aA rfl ?_;simp only[RR,seval]
   apply y;clear y;refine aI ?_;refine dE (fun mm fr H=> ∃k:Nat,mm=l.length-k∧k≤l.length∧fr 5= .int .i64 k∧fr 0= .isl 5 (l.map Sm.row)∧fr 1= .int .i64 level∧eE l level=eE (l.drop k) level) (l.length) ⟨0,rfl,Nat.zero_le _,rfl,rfl,rfl,by rw[List.drop_zero]⟩ ?_;rintro mm fr H ⟨k,rfl,hkk,hik,h0,f1,hall⟩ K2 hK2;refine aH ?_;refine aB fun K y=>?_;refine aA rfl ?_;simp only[RR,seval];simp only[hik,h0,aD,RR,seval];apply y;clear y;refine aF _ rfl (fun hc=>?_) (fun hc=>?_)
   ·have hltk:k<l.length:=by have:=aC hc;omega
    clear hc;refine aM ?_;simp only[aS];refine aH ?_;refine aI ?_;have hg:=mM Sm.row (aG hltk);have hmem:=bJ hltk;have he:=hok.all _ hmem;have hsz:=gY hmem;rw[bC hltk,gG]at hall;generalize l[k]=e at hg hall he hsz;have hse:=e.sz_eq;have hl5:=e.row_len
    have hcon:=yL e he level h1 h2 (fun hle x hx=>by
     rcases hx with rfl|rfl
     ·exact ih _ (by omega) e.thn (level+1) rfl he.thn (by omega) (by omega)
     exact ih _ (by omega) e.els (level+1) rfl he.els (by omega) (by omega))
    refine aB fun K y=>?_;refine aA rfl ?_;simp only[RR,seval];simp only[h0,f1,hik,hg,hl5,RR,seval];rw[List.take_of_length_le (by omega)];refine aU hcon ?_;simp only[RR,seval];apply y;clear y;refine aF (!iM e level) rfl (fun hc=>?_) (fun hc=>?_)
    ·refine aB fun K y=>?_;refine aA rfl ?_;simp only[RR,seval]
     apply y;clear y;refine aQ ?_;simp only[aS,aT,aX,aN,bI,RR,seval];refine aW.pure ?_;rw[hall,show iM e level=false by simpa using hc];rfl
    refine aM ?_;simp only[aS,aT];rw[show iM e level=true by simpa using hc,Bool.true_and]at hall;refine aA rfl ?_;simp only[RR,seval];simp only[hik,aS,RR,seval];rw[aR _ (by omega)];refine hK2 (l.length-(k+1)) _ _ (by omega) ⟨k+1,rfl,by omega,rfl,h0,f1,hall⟩
   refine bH ?_;simp only[aS,aT,reduceIte];have hknk:k=l.length:=by have:=aE hc;omega
   clear hc;subst hknk;rw[List.drop_length,rD]at hall;exact y _ _ hall
  rintro fr H h0;refine aB fun K y=>?_;refine aA rfl ?_;simp only[RR,seval];apply y;clear y;refine aQ ?_;simp only[aX,aN,bI,RR,seval];refine aW.pure ?_;rw[h0]
end Go.Proofs.YtnfbbjhdflhmjaaGreatDoor
namespace Go.Proofs.YtnfbbjhdflhmjaaGreatDoor
open Go.Al
set_option maxHeartbeats 4000000 in
theorem Oh (p:Pg) (hp:p.ok) (hsize: ∀f∈p.funs,f.params.length≤1100000):dD cN 23 [p.av] (.bool (eH p)):=by
 have fv:p.vars.length≤9223372036854775807:=hp.vars.fit;have fa:p.arrs.length≤9223372036854775807:=hp.afit;have ff:p.funs.length≤9223372036854775807:=hp.ffit;have hnv:=pD p.vars hp.vars;obtain⟨vs,aa,fs⟩:=p;simp only at fv fa ff hnv;simp only[Pg.av,Pg.row];refine bD 95 [.tmp 2] Tryz.func23 rfl rfl rfl rfl ?_;refine cA (fun fr H=> ∃b,fr 1= .ptr 3 b 0 0∧H b=some (.rows 3 [[.isl 1 (vs.map bK), .isl 2 (aa.map Ar.row), .isl 5 (fs.map Fu.row)]])) (fun K y=>?_) ?_
 ·refine aA rfl ?_;simp only[RR,seval]
  refine aO fun b hb=>?_;simp only[RR,seval];exact y _ _ ⟨b,rfl,bO _ _ _⟩
 rintro fr H ⟨b,h2,hb⟩;have hR:eH ⟨vs,aa,fs⟩=((vs.all dC&&decide (1≤fs.length)&&decide (fs.length≤64))&&aa.all fF&&fs.all eV):=rfl;generalize eH ⟨vs,aa,fs⟩=res at hR⊢;refine aH ?_;refine cA (fun fr H=> ∃t,fr 21= .bool t∧(t= !(vs.all dC&&decide (1≤fs.length)&&decide (fs.length≤64)))∧fr 1= .ptr 3 b 0 0∧H b=some (.rows 3 [[.isl 1 (vs.map bK), .isl 2 (aa.map Ar.row), .isl 5 (fs.map Fu.row)]])) (fun K y=>?_) ?_
 ·have d1:decide ((fs.length:Int)<1)= !decide (1≤fs.length):=by rw[Bool.eq_iff_iff];simp only[aP,Bool.not_eq_true',decide_eq_false_iff_not];omega
  have d2:decide ((64:Int)<fs.length)= !decide (fs.length≤64):=by rw[Bool.eq_iff_iff];simp only[aP,Bool.not_eq_true',decide_eq_false_iff_not];omega
  refine aA rfl ?_;simp only[RR,seval];simp only[h2,hb,RR,seval];refine aU hnv ?_;simp only[RR,seval]
  cases hv:vs.all dC with
  |false=>
   simp only[RR,seval];exact y _ _ ⟨_,rfl,by rw[hv];rfl,h2,hb⟩
  |true=>
   simp only[h2,hb,aD,d1,RR,seval]
   cases h1:decide (1≤fs.length)with
   |false=>
    simp only[RR,seval];exact y _ _ ⟨_,rfl,by rw[hv,h1];rfl,h2,hb⟩
   |true=>
    simp only[h2,hb,aD,d2,RR,seval];exact y _ _ ⟨_,rfl,by rw[hv,h1];rfl,h2,hb⟩
 rintro fr H ⟨t,h21,ht,h2,hb⟩;refine aF _ h21 (fun hc=>?_) (fun hc=>?_)
 ·have:=Zn ht hc
  refine aB fun K y=>?_;refine aA rfl ?_;simp only[RR,seval];apply y;clear y;refine aQ ?_;simp only[aS,aX,aN,bI,RR,seval];refine aW.pure ?_;rw[hR,this];rfl
 have h3:=Zl ht hc;rw[h3,Bool.true_and]at hR;clear ht hc h21 t;refine aM ?_;simp only[aS];refine cA (fun fr H=>aa.all fF=true∧fr 1= .ptr 3 b 0 0∧H b=some (.rows 3 [[.isl 1 (vs.map bK), .isl 2 (aa.map Ar.row), .isl 5 (fs.map Fu.row)]])) (fun K y=>?_) ?_
 ·refine aB fun K y=>?_;refine aA rfl ?_;simp only[RR,seval]
  apply y;clear y;refine aI ?_;refine dE (fun mm fr H=> ∃k:Nat,mm=aa.length-k∧k≤aa.length∧fr 3= .int .i64 k∧aa.all fF=(aa.drop k).all fF∧fr 1= .ptr 3 b 0 0∧H b=some (.rows 3 [[.isl 1 (vs.map bK), .isl 2 (aa.map Ar.row), .isl 5 (fs.map Fu.row)]])) (aa.length) ⟨0,rfl,Nat.zero_le _,rfl,by rw[List.drop_zero],h2,hb⟩ ?_;rintro mm fr H ⟨k,rfl,hkk,hik,hall,h2,hb⟩ K2 hK2;refine aH ?_;refine aB fun K y=>?_;refine aA rfl ?_;simp only[RR,seval];simp only[hik,h2,hb,aD,RR,seval];apply y;clear y;refine aF _ rfl (fun hc=>?_) (fun hc=>?_)
  ·have hltk:k<aa.length:=by have:=aC hc;omega
   clear hc;refine aM ?_;simp only[aS];refine aH ?_;refine aI ?_;have hg:=Bx (aG hltk);have hoka:=hp.arrs _ (bJ hltk);rw[bC hltk,List.all_cons]at hall;generalize aa[k]=a at hg hall hoka;have hcon:=lP a.name hoka.1;have d1:decide (a.size<1)= !decide (1≤a.size):=by rw[Bool.eq_iff_iff];simp only[aP,Bool.not_eq_true',decide_eq_false_iff_not];omega
   have d2:decide (4096<a.size)= !decide (a.size≤4096):=by rw[Bool.eq_iff_iff];simp only[aP,Bool.not_eq_true',decide_eq_false_iff_not];omega
   refine cA (fun fr H=>fr 54= .bool (!fF a)∧fr 3= .int .i64 k∧fr 1= .ptr 3 b 0 0∧H b=some (.rows 3 [[.isl 1 (vs.map bK), .isl 2 (aa.map Ar.row), .isl 5 (fs.map Fu.row)]])) (fun K y=>?_) ?_
   ·refine aA rfl ?_;simp only[RR,seval]
    simp only[h2,hb,hik,hg,RR,seval];refine aU hcon ?_;simp only[RR,seval]
    cases hv:dC a.name with
    |false=>
     simp only[RR,seval];exact y _ _ ⟨by simp only[fF,hv];rfl,hik,h2,hb⟩
    |true=>
     simp only[h2,hb,hik,hg,d1,RR,seval]
     cases h1:decide (1≤a.size)with
     |false=>
      simp only[RR,seval];exact y _ _ ⟨by simp only[fF,hv,h1];rfl,hik,h2,hb⟩
     |true=>
      simp only[h2,hb,hik,hg,d2,RR,seval];exact y _ _ ⟨by simp only[fF,hv,h1];rfl,hik,h2,hb⟩
   rintro fr H ⟨h54,hik,h2,hb⟩;refine aF (!fF a) h54 (fun hc=>?_) (fun hc=>?_)
   ·refine aB fun K y=>?_;refine aA rfl ?_;simp only[RR,seval]
    apply y;clear y;refine aQ ?_;simp only[aS,aT,aX,aN,bI,RR,seval];refine aW.pure ?_;rw[hR,hall,show fF a=false by simpa using hc];rfl
   refine aM ?_;simp only[aS,aT];rw[show fF a=true by simpa using hc,Bool.true_and]at hall;refine aA rfl ?_;simp only[RR,seval];simp only[hik,aS,RR,seval];rw[aR _ (by omega)];refine hK2 (aa.length-(k+1)) _ _ (by omega) ⟨k+1,rfl,by omega,rfl,hall,h2,hb⟩
  refine bH ?_;simp only[aS,aT,reduceIte];have hknk:k=aa.length:=by have:=aE hc;omega
  clear hc;subst hknk;rw[List.drop_length]at hall;exact y _ _ ⟨hall,h2,hb⟩
 rintro fr H ⟨hall,h2,hb⟩;rw[hall,Bool.true_and]at hR;refine cA (fun fr H=>fs.all eV=true) (fun K y=>?_) ?_
 ·refine aB fun K y=>?_;refine aA rfl ?_;simp only[RR,seval]
  apply y;clear y;refine aI ?_;refine dE (fun mm fr H=> ∃k:Nat,mm=fs.length-k∧k≤fs.length∧fr 4= .int .i64 k∧fs.all eV=(fs.drop k).all eV∧fr 1= .ptr 3 b 0 0∧H b=some (.rows 3 [[.isl 1 (vs.map bK), .isl 2 (aa.map Ar.row), .isl 5 (fs.map Fu.row)]])) (fs.length) ⟨0,rfl,Nat.zero_le _,rfl,by rw[List.drop_zero],h2,hb⟩ ?_;rintro mm fr H ⟨k,rfl,hkk,hik,hall2,h2,hb⟩ K2 hK2;refine aH ?_;refine aB fun K y=>?_;refine aA rfl ?_;simp only[RR,seval];simp only[hik,h2,hb,aD,RR,seval];apply y;clear y;refine aF _ rfl (fun hc=>?_) (fun hc=>?_)
  ·have hltk:k<fs.length:=by have:=aC hc;omega
   clear hc;refine aM ?_;simp only[aS];refine aH ?_;refine aI ?_;have hg:=pG (aG hltk);have hokf:=hp.funs _ (bJ hltk);have hsz:=hsize _ (bJ hltk);rw[bC hltk,List.all_cons]at hall2;generalize fs[k]=f at hg hall2 hokf hsz;refine aB fun K y=>?_;refine aA rfl ?_;simp only[RR,seval];simp only[h2,hb,hik,hg,RR,seval];refine aO fun b1 hb1=>?_;simp only[RR,seval];apply y;clear y;have hne:b≠b1:=fun e=>by rw[e,hb1]at hb;cases hb
   have hH1:(upd (upd H b1 (some (.rows 5 [[.str [], .nsl, .nsl, .bool false, .nsl]]))) b1 (some (.rows 5 [[.str f.name, .isl 1 (f.params.map bK), .isl 1 (f.locs.map bK), .bool f.word, .isl 5 (f.body.map Sm.row)]]))) b1=some (.rows 5 [[.str f.name, .isl 1 (f.params.map bK), .isl 1 (f.locs.map bK), .bool f.word, .isl 5 (f.body.map Sm.row)]]):=bO _ _ _;have hHb:(upd (upd H b1 (some (.rows 5 [[.str [], .nsl, .nsl, .bool false, .nsl]]))) b1 (some (.rows 5 [[.str f.name, .isl 1 (f.params.map bK), .isl 1 (f.locs.map bK), .bool f.word, .isl 5 (f.body.map Sm.row)]]))) b=some (.rows 3 [[.isl 1 (vs.map bK), .isl 2 (aa.map Ar.row), .isl 5 (fs.map Fu.row)]]):=by simp only[upd,if_neg hne];exact hb
   generalize(upd (upd H b1 (some (.rows 5 [[.str [], .nsl, .nsl, .bool false, .nsl]]))) b1 (some (.rows 5 [[.str f.name, .isl 1 (f.params.map bK), .isl 1 (f.locs.map bK), .bool f.word, .isl 5 (f.body.map Sm.row)]])))=H1 at hH1 hHb⊢;have c0:=lP f.name hokf.name;have c1:=pD f.params hokf.params;have c2:=pD f.locs hokf.locs;have c3:=yK _ f.body 1 rfl hokf.body (by omega) (by omega);have d1:decide ((6:Int)<f.params.length)= !decide (f.params.length≤6):=by rw[Bool.eq_iff_iff];simp only[aP,Bool.not_eq_true',decide_eq_false_iff_not];omega
   refine cA (fun fr H=>fr 94= .bool (!eV f)∧fr 4= .int .i64 k∧fr 1= .ptr 3 b 0 0∧H b=some (.rows 3 [[.isl 1 (vs.map bK), .isl 2 (aa.map Ar.row), .isl 5 (fs.map Fu.row)]])) (fun K y=>?_) ?_
   ·refine aA rfl ?_;simp only[RR,seval]
    simp only[hH1,RR,seval];refine aU c0 ?_;simp only[RR,seval]
    cases v0:dC f.name with
    |false=>
     simp only[RR,seval];exact y _ _ ⟨by simp only[eV,v0];rfl,hik,h2,hHb⟩
    |true=>
     simp only[hH1,aD,d1,RR,seval]
     cases v1:decide (f.params.length≤6)with
     |false=>
      simp only[RR,seval];exact y _ _ ⟨by simp only[eV,v0,v1];rfl,hik,h2,hHb⟩
     |true=>
      simp only[hH1,RR,seval];refine aU c1 ?_;simp only[RR,seval]
      cases v2:f.params.all dC with
      |false=>
       simp only[RR,seval];exact y _ _ ⟨by simp only[eV,v0,v1,v2];rfl,hik,h2,hHb⟩
      |true=>
       simp only[hH1,RR,seval];refine aU c2 ?_;simp only[RR,seval]
       cases v3:f.locs.all dC with
       |false=>
        simp only[RR,seval];exact y _ _ ⟨by simp only[eV,v0,v1,v2,v3];rfl,hik,h2,hHb⟩
       |true=>
        simp only[hH1,RR,seval];refine aU c3 ?_;simp only[RR,seval];exact y _ _ ⟨by simp only[eV,v0,v1,v2,v3];rfl,hik,h2,hHb⟩
   rintro fr H ⟨h94,hik,h2,hb⟩;refine aF (!eV f) h94 (fun hc=>?_) (fun hc=>?_)
   ·refine aB fun K y=>?_;refine aA rfl ?_;simp only[RR,seval]
    apply y;clear y;refine aQ ?_;simp only[aS,aT,aX,aN,bI,RR,seval];refine aW.pure ?_;rw[hR,hall2,show eV f=false by simpa using hc];rfl
   refine aM ?_;simp only[aS,aT];rw[show eV f=true by simpa using hc,Bool.true_and]at hall2;refine aA rfl ?_;simp only[RR,seval];simp only[hik,aS,RR,seval];rw[aR _ (by omega)];refine hK2 (fs.length-(k+1)) _ _ (by omega) ⟨k+1,rfl,by omega,rfl,hall2,h2,hb⟩
  refine bH ?_;simp only[aS,aT,reduceIte];have hknk:k=fs.length:=by have:=aE hc;omega
  clear hc;subst hknk;rw[List.drop_length]at hall2;exact y _ _ hall2
 rintro fr H h0;refine aB fun K y=>?_;refine aA rfl ?_;simp only[RR,seval];apply y;clear y;refine aQ ?_;simp only[aX,aN,bI,RR,seval];refine aW.pure ?_;rw[hR,h0]
end Go.Proofs.YtnfbbjhdflhmjaaGreatDoor
