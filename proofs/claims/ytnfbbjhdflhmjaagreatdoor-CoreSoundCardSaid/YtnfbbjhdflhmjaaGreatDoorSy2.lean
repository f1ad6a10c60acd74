/- The program's types that are met, and its environment: one table is looked at. The names of the language: the judge's small functions of chapter 13. Chapter 14, the judge's: has a program few parts? Chapter 14, the judge's: has a program few parts? Second part. Chapter 14, the judge's: may an expression be? Chapter 14, the judge's: may a program be? Chapter 14, the judge's: may a program be? Second part. -/
import Derived.Test.YtnfbbjhdflhmjaaGreatDoorSy1
import Derived.Test.YtnfbbjhdflhmjaaGreatDoorAl4
import Derived.Test.YtnfbbjhdflhmjaaGreatDoorRows
set_option linter.unusedSimpArgs false
set_option linter.unusedVariables false
set_option maxRecDepth 10000
namespace Go.Proofs.YtnfbbjhdflhmjaaGreatDoor
open Go.Al
def dL:List (List UInt8):=[[118,97,114],[97,114,114,97,121],[102,117,110,99],[119,111,114,100],[105,102],[101,108,115,101],[119,104,105,108,101],[114,101,116,117,114,110],[112,117,116],[103,101,116]]
def Vv:Nat→Option (List AV)
 |0=>some (dL.map .str)
 |_=>none
noncomputable def cK:fW:=⟨Tryz.prog,Vv⟩
theorem Zm:cK.G=Vv:=rfl
theorem dG:cK.P.follows .mixedOrders=true:=by kernel_rfl
theorem D7:bS cK.P 3=some ⟨.int .i64,1,8, .int .i64 0⟩:=by kernel_rfl
theorem D6:bS cK.P 4=some ⟨.bool,1,1, .bool false⟩:=by kernel_rfl
theorem D0:bS cK.P 5=some ⟨.int .u8,1,1, .int .u8 0⟩:=by kernel_rfl
theorem C9:bS cK.P 9=some ⟨.str,1,16, .str []⟩:=by kernel_rfl
theorem Xv:bS cK.P 20=some ⟨.iface,1,16, .nif⟩:=by kernel_rfl
theorem Xu:bS cK.P 22=some ⟨.slice 9,1,24, .nsl⟩:=by kernel_rfl
theorem Xt:bS cK.P 23=some ⟨.slice 54,1,24, .nsl⟩:=by kernel_rfl
theorem Xs:bS cK.P 24=some ⟨.slice 57,1,24, .nsl⟩:=by kernel_rfl
theorem Xr:bS cK.P 26=some ⟨.strct [(22,0),(23,1),(24,2)],3,72, .agg [.nsl, .nsl, .nsl]⟩:=by kernel_rfl
theorem Xq:bS cK.P 29=some ⟨.int .i64,1,8, .int .i64 0⟩:=by kernel_rfl
theorem Xp:bS cK.P 31=some ⟨.slice 3,1,24, .nsl⟩:=by kernel_rfl
theorem Xo:bS cK.P 34=some ⟨.slice 51,1,24, .nsl⟩:=by kernel_rfl
theorem Xn:bS cK.P 36=some ⟨.strct [(3,0),(34,1)],2,32, .agg [.int .i64 0, .nsl]⟩:=by kernel_rfl
theorem Xm:bS cK.P 43=some ⟨.strct [(3,0),(9,1),(3,2)],3,32, .agg [.int .i64 0, .str [], .int .i64 0]⟩:=by kernel_rfl
theorem Xl:bS cK.P 49=some ⟨.slice 114,1,24, .nsl⟩:=by kernel_rfl
theorem Xk:bS cK.P 51=some ⟨.strct [(3,0),(3,1),(3,2),(4,3),(49,4)],5,56, .agg [.int .i64 0, .int .i64 0, .int .i64 0, .bool false, .nsl]⟩:=by kernel_rfl
theorem Xj:bS cK.P 54=some ⟨.strct [(9,0),(3,1)],2,24, .agg [.str [], .int .i64 0]⟩:=by kernel_rfl
theorem Xi:bS cK.P 55=some ⟨.slice 103,1,24, .nsl⟩:=by kernel_rfl
theorem Xh:bS cK.P 57=some ⟨.strct [(9,0),(22,1),(22,2),(4,3),(55,4)],5,96, .agg [.str [], .nsl, .nsl, .bool false, .nsl]⟩:=by kernel_rfl
theorem Xg:bS cK.P 58=some ⟨.map 9 64,1,8, .nmp⟩:=by kernel_rfl
theorem Xf:bS cK.P 62=some ⟨.strct [(58,0),(58,1)],2,16, .agg [.nmp, .nmp]⟩:=by kernel_rfl
theorem Xe:bS cK.P 64=some ⟨.strct [(3,0),(3,1)],2,16, .agg [.int .i64 0, .int .i64 0]⟩:=by kernel_rfl
theorem Xd:bS cK.P 69=some ⟨.strct [(3,0),(34,1),(4,2)],3,40, .agg [.int .i64 0, .nsl, .bool false]⟩:=by kernel_rfl
theorem Xc:bS cK.P 72=some ⟨.ptr 76,1,8, .npt⟩:=by kernel_rfl
theorem Xb:bS cK.P 73=some ⟨.slice 79,1,24, .nsl⟩:=by kernel_rfl
theorem Xa:bS cK.P 74=some ⟨.slice 5,1,24, .nsl⟩:=by kernel_rfl
theorem Wz:bS cK.P 76=some ⟨.strct [(34,0),(73,1),(9,2),(3,3),(74,4),(3,5),(3,6)],7,112, .agg [.nsl, .nsl, .str [], .int .i64 0, .nsl, .int .i64 0, .int .i64 0]⟩:=by kernel_rfl
theorem Wy:bS cK.P 78=some ⟨.strct [(3,0)],1,8, .agg [.int .i64 0]⟩:=by kernel_rfl
theorem Wx:bS cK.P 79=some ⟨.int .u32,1,4, .int .u32 0⟩:=by kernel_rfl
theorem Ww:bS cK.P 82=some ⟨.ptr 87,1,8, .npt⟩:=by kernel_rfl
theorem Wv:bS cK.P 83=some ⟨.slice 93,1,24, .nsl⟩:=by kernel_rfl
theorem Wu:bS cK.P 85=some ⟨.slice 73,1,24, .nsl⟩:=by kernel_rfl
theorem Wt:bS cK.P 87=some ⟨.strct [(83,0),(73,1),(85,2),(9,3),(3,4),(74,5),(3,6),(3,7)],8,136, .agg [.nsl, .nsl, .nsl, .str [], .int .i64 0, .nsl, .int .i64 0, .int .i64 0]⟩:=by kernel_rfl
theorem Ws:bS cK.P 89=some ⟨.strct [(3,0)],1,8, .agg [.int .i64 0]⟩:=by kernel_rfl
theorem Wr:bS cK.P 90=some ⟨.ptr 93,1,8, .npt⟩:=by kernel_rfl
theorem Wq:bS cK.P 91=some ⟨.slice 134,1,24, .nsl⟩:=by kernel_rfl
theorem Wp:bS cK.P 93=some ⟨.strct [(3,0),(91,1)],2,32, .agg [.int .i64 0, .nsl]⟩:=by kernel_rfl
theorem Wo:bS cK.P 95=some ⟨.ptr 97,1,8, .npt⟩:=by kernel_rfl
theorem Wn:bS cK.P 97=some ⟨.strct [(26,0),(9,3),(3,4),(73,5),(85,6),(74,7),(3,8),(3,9),(3,10)],11,192, .agg [.nsl, .nsl, .nsl, .str [], .int .i64 0, .nsl, .nsl, .nsl, .int .i64 0, .int .i64 0, .int .i64 0]⟩:=by kernel_rfl
theorem Wm:bS cK.P 99=some ⟨.slice 101,1,24, .nsl⟩:=by kernel_rfl
theorem Sg:bS cK.P 101=some ⟨.strct [(3,0),(3,1),(79,2),(9,3),(99,4)],5,64, .agg [.int .i64 0, .int .i64 0, .int .u32 0, .str [], .nsl]⟩:=by kernel_rfl
theorem Sf:bS cK.P 103=some ⟨.strct [(3,0),(9,1),(99,2),(55,3),(55,4)],5,96, .agg [.int .i64 0, .str [], .nsl, .nsl, .nsl]⟩:=by kernel_rfl
theorem Se:bS cK.P 111=some ⟨.slice 169,1,24, .nsl⟩:=by kernel_rfl
theorem Sd:bS cK.P 114=some ⟨.strct [(3,0),(3,1),(3,2),(111,3),(49,4),(49,5)],6,96, .agg [.int .i64 0, .int .i64 0, .int .i64 0, .nsl, .nsl, .nsl]⟩:=by kernel_rfl
theorem Sc:bS cK.P 123=some ⟨.ptr 114,1,8, .npt⟩:=by kernel_rfl
theorem Sb:bS cK.P 124=some ⟨.map 9 126,1,8, .nmp⟩:=by kernel_rfl
theorem Sa:bS cK.P 126=some ⟨.strct [(4,0),(3,1)],2,16, .agg [.bool false, .int .i64 0]⟩:=by kernel_rfl
theorem Ry:bS cK.P 128=some ⟨.strct [(124,0),(124,1)],2,16, .agg [.nmp, .nmp]⟩:=by kernel_rfl
theorem Rx:bS cK.P 131=some ⟨.ptr 134,1,8, .npt⟩:=by kernel_rfl
theorem Rw:bS cK.P 132=some ⟨.slice 183,1,24, .nsl⟩:=by kernel_rfl
theorem Rv:bS cK.P 134=some ⟨.strct [(3,0),(4,1),(3,2),(132,3),(91,4),(91,5)],6,96, .agg [.int .i64 0, .bool false, .int .i64 0, .nsl, .nsl, .nsl]⟩:=by kernel_rfl
theorem Ru:bS cK.P 135=some ⟨.ptr 137,1,8, .npt⟩:=by kernel_rfl
theorem Rt:bS cK.P 137=some ⟨.strct [(3,0),(73,1),(4,2),(79,3)],4,40, .agg [.int .i64 0, .nsl, .bool false, .int .u32 0]⟩:=by kernel_rfl
theorem Rs:bS cK.P 144=some ⟨.slice 147,1,24, .nsl⟩:=by kernel_rfl
theorem Rr:bS cK.P 147=some ⟨.strct [(9,0),(3,1),(3,2)],3,32, .agg [.str [], .int .i64 0, .int .i64 0]⟩:=by kernel_rfl
theorem Rq:bS cK.P 150=some ⟨.map 9 160,1,8, .nmp⟩:=by kernel_rfl
theorem Rp:bS cK.P 155=some ⟨.strct [(150,0),(150,1)],2,16, .agg [.nmp, .nmp]⟩:=by kernel_rfl
theorem Ro:bS cK.P 158=some ⟨.strct [(3,0),(9,1),(3,2)],3,32, .agg [.int .i64 0, .str [], .int .i64 0]⟩:=by kernel_rfl
theorem Rn:bS cK.P 160=some ⟨.strct [(3,0),(3,1)],2,16, .agg [.int .i64 0, .int .i64 0]⟩:=by kernel_rfl
theorem Rm:bS cK.P 162=some ⟨.func,1,8, .nfn⟩:=by kernel_rfl
theorem Rl:bS cK.P 163=some ⟨.ptr 204,1,8, .npt⟩:=by kernel_rfl
theorem Rk:bS cK.P 169=some ⟨.strct [(3,0),(3,1),(79,2),(3,3),(3,4),(111,5)],6,64, .agg [.int .i64 0, .int .i64 0, .int .u32 0, .int .i64 0, .int .i64 0, .nsl]⟩:=by kernel_rfl
theorem Rj:bS cK.P 174=some ⟨.ptr 169,1,8, .npt⟩:=by kernel_rfl
theorem Ri:bS cK.P 181=some ⟨.ptr 183,1,8, .npt⟩:=by kernel_rfl
theorem Rh:bS cK.P 183=some ⟨.strct [(3,0),(3,1),(79,2),(4,3),(3,4),(132,5)],6,56, .agg [.int .i64 0, .int .i64 0, .int .u32 0, .bool false, .int .i64 0, .nsl]⟩:=by kernel_rfl
theorem Rg:bS cK.P 188=some ⟨.func,1,8, .nfn⟩:=by kernel_rfl
theorem Rf:bS cK.P 198=some ⟨.func,1,8, .nfn⟩:=by kernel_rfl
theorem Re:bS cK.P 199=some ⟨.func,1,8, .nfn⟩:=by kernel_rfl
theorem Rd:bS cK.P 200=some ⟨.map 9 57,1,8, .nmp⟩:=by kernel_rfl
theorem Rc:bS cK.P 201=some ⟨.func,1,8, .nfn⟩:=by kernel_rfl
theorem Rb:bS cK.P 202=some ⟨.array 10 201,10,80, .agg [.nfn, .nfn, .nfn, .nfn, .nfn, .nfn, .nfn, .nfn, .nfn, .nfn]⟩:=by kernel_rfl
theorem Ra:bS cK.P 204=some ⟨.strct [(200,0),(202,1)],11,88, .agg [.nmp, .nfn, .nfn, .nfn, .nfn, .nfn, .nfn, .nfn, .nfn, .nfn, .nfn]⟩:=by kernel_rfl
theorem Qz:bS cK.P 211=some ⟨.int .u64,1,8, .int .u64 0⟩:=by kernel_rfl
theorem Qy:bS cK.P 212=some ⟨.array 6 79,6,24, .agg [.int .u32 0, .int .u32 0, .int .u32 0, .int .u32 0, .int .u32 0, .int .u32 0]⟩:=by kernel_rfl
theorem Qx:bS cK.P 221=some ⟨.array 10 9,10,160, .agg [.str [], .str [], .str [], .str [], .str [], .str [], .str [], .str [], .str [], .str []]⟩:=by kernel_rfl
theorem TY:type_of% (And.intro D7<|And.intro D6<|And.intro D0<|And.intro C9<|And.intro Xv<|And.intro Xu<|And.intro Xt<|And.intro Xs<|And.intro Xr<|And.intro Xq<|And.intro Xp<|And.intro Xo<|And.intro Xn<|And.intro Xm<|And.intro Xl<|And.intro Xk<|And.intro Xj<|And.intro Xi<|And.intro Xh<|And.intro Xg<|And.intro Xf<|And.intro Xe<|And.intro Xd<|And.intro Xc<|And.intro Xb<|And.intro Xa<|And.intro Wz<|And.intro Wy<|And.intro Wx<|And.intro Ww<|And.intro Wv<|And.intro Wu<|And.intro Wt<|And.intro Ws<|And.intro Wr<|And.intro Wq<|And.intro Wp<|And.intro Wo<|And.intro Wn<|And.intro Wm<|And.intro Sg<|And.intro Sf<|And.intro Se<|And.intro Sd<|And.intro Sc<|And.intro Sb<|And.intro Sa<|And.intro Ry<|And.intro Rx<|And.intro Rw<|And.intro Rv<|And.intro Ru<|And.intro Rt<|And.intro Rs<|And.intro Rr<|And.intro Rq<|And.intro Rp<|And.intro Ro<|And.intro Rn<|And.intro Rm<|And.intro Rl<|And.intro Rk<|And.intro Rj<|And.intro Ri<|And.intro Rh<|And.intro Rg<|And.intro Rf<|And.intro Re<|And.intro Rd<|And.intro Rc<|And.intro Rb<|And.intro Ra<|And.intro Qz<|And.intro Qy<|And.intro Qx<|Zm):=And.intro D7<|And.intro D6<|And.intro D0<|And.intro C9<|And.intro Xv<|And.intro Xu<|And.intro Xt<|And.intro Xs<|And.intro Xr<|And.intro Xq<|And.intro Xp<|And.intro Xo<|And.intro Xn<|And.intro Xm<|And.intro Xl<|And.intro Xk<|And.intro Xj<|And.intro Xi<|And.intro Xh<|And.intro Xg<|And.intro Xf<|And.intro Xe<|And.intro Xd<|And.intro Xc<|And.intro Xb<|And.intro Xa<|And.intro Wz<|And.intro Wy<|And.intro Wx<|And.intro Ww<|And.intro Wv<|And.intro Wu<|And.intro Wt<|And.intro Ws<|And.intro Wr<|And.intro Wq<|And.intro Wp<|And.intro Wo<|And.intro Wn<|And.intro Wm<|And.intro Sg<|And.intro Sf<|And.intro Se<|And.intro Sd<|And.intro Sc<|And.intro Sb<|And.intro Sa<|And.intro Ry<|And.intro Rx<|And.intro Rw<|And.intro Rv<|And.intro Ru<|And.intro Rt<|And.intro Rs<|And.intro Rr<|And.intro Rq<|And.intro Rp<|And.intro Ro<|And.intro Rn<|And.intro Rm<|And.intro Rl<|And.intro Rk<|And.intro Rj<|And.intro Ri<|And.intro Rh<|And.intro Rg<|And.intro Rf<|And.intro Re<|And.intro Rd<|And.intro Rc<|And.intro Rb<|And.intro Ra<|And.intro Qz<|And.intro Qy<|And.intro Qx<|Zm
theorem Mw:Vv 0=some (dL.map .str):=rfl
theorem RR:type_of% (And.intro AX<|And.intro Mw TY):=And.intro AX<|And.intro Mw TY
noncomputable def L3:Q4 cK.P where
 int:=3
 u32:=79
 str:=9
 bool:=4
 strs:=22
 ex:=101
 exs:=99
 sm:=103
 sms:=55
 ar:=54
 ars:=23
 fu:=57
 fus:=24
 pg:=26
 uInt:=by kernel_rfl
 uU32:=by kernel_rfl
 uStr:=by kernel_rfl
 uBool:=by kernel_rfl
 uStrs:=by kernel_rfl
 uEx:=by kernel_rfl
 uExs:=by kernel_rfl
 uSm:=by kernel_rfl
 uSms:=by kernel_rfl
 uAr:=by kernel_rfl
 uArs:=by kernel_rfl
 uFu:=by kernel_rfl
 uFus:=by kernel_rfl
 uPg:=by kernel_rfl
 c1:=by kernel_rfl
 cEx:=by kernel_rfl
 cSm:=by kernel_rfl
 cAr:=by kernel_rfl
 cFu:=by kernel_rfl
 cPg:=by kernel_rfl
end Go.Proofs.YtnfbbjhdflhmjaaGreatDoor
namespace Go.Proofs.YtnfbbjhdflhmjaaGreatDoor
open Go.Al
def Ua (c:Int):Bool:=decide (48≤c)&&decide (c≤57)
def rY (c:Int):Bool:=decide (97≤c)&&decide (c≤122)||decide (65≤c)&&decide (c≤90)
def Zi (c:Int):Bool:=rY c||Ua c||decide (c=95)
def Mt (c:UInt8):Bool:=Zi c.toNat
theorem Jp (c:Int):cJ cK 111 [.int .u8 c] (.bool (Ua c)):=by
 refine bI 9 [.tmp 2] Tryz.func111 rfl rfl rfl rfl ?_;refine aB fun K y=>?_;refine aA rfl ?_;simp only[RR,seval];apply y;clear y;refine aB fun K y=>?_;refine aA rfl ?_;simp only[RR,seval]
 repeat' ((first|refine aR (fun h=>?_) (fun h=>?_)|refine aV (fun h=>?_) (fun h=>?_))<;>simp only[h,RR,seval])
 all_goals
  apply y;clear y;refine aO ?_;simp only[bB,aL,bH,RR,seval];refine aZ.pure ?_;simp [Ua, *]
theorem xJ (c:Int):cJ cK 108 [.int .u8 c] (.bool (rY c)):=by
 refine bI 17 [.tmp 2] Tryz.func108 rfl rfl rfl rfl ?_;refine aB fun K y=>?_;refine aA rfl ?_;simp only[RR,seval];apply y;clear y;refine aB fun K y=>?_;refine aA rfl ?_;simp only[RR,seval]
 repeat' ((first|refine aR (fun h=>?_) (fun h=>?_)|refine aV (fun h=>?_) (fun h=>?_))<;>simp only[h,RR,seval])
 all_goals
  apply y;clear y;refine aO ?_;simp only[bB,aL,bH,RR,seval];refine aZ.pure ?_;simp [rY, *]
theorem Oc:cJ cK 110 [] (.isl 1 (dL.map fun w=>[.str w])):=by
 refine bI 2 [.tmp 0] Tryz.func110 rfl rfl rfl rfl ?_;refine aB fun K y=>?_;refine aA rfl ?_;simp only[RR,seval];apply y;clear y;refine aB fun K y=>?_;refine aA rfl ?_;simp only[RR,seval];refine cY ?_;simp only[RR,seval];apply y;clear y;refine aO ?_;simp only[bB,aL,bH,RR,seval];refine aZ.pure ?_;rfl
theorem Zh (ws:List (List UInt8)) (s:List UInt8) (hl:ws.length≤1000000):cJ cK 109 [.isl 1 (ws.map fun w=>[.str w]), .str s] (.bool (ws.contains s)):=by
 refine bI 18 [.tmp 4] Tryz.func109 rfl rfl rfl rfl ?_;refine aB fun K y=>?_;refine aA rfl ?_;simp only[RR,seval];apply y;clear y;refine tH (fun fr H=>ws.contains s=false) ?_ ?_
 ·refine aB fun K y=>?_;refine aA rfl ?_;simp only[RR,seval]
  apply y;clear y;refine aM ?_;refine tG (fun n fr H=> ∃i:Nat,n=ws.length-i∧i≤ws.length∧(ws.take i).contains s=false∧fr 0= .isl 1 (ws.map fun w=>[.str w])∧fr 1= .str s∧fr 5= .int .i64 i) ws.length ⟨0,rfl,by omega,rfl,rfl,rfl,rfl⟩ ?_;rintro n fr H ⟨i,rfl,hi,hw,h0,h1,h5⟩;refine aI ?_;refine aB fun K y=>?_;refine aA rfl ?_;simp only[RR,seval];simp only[h0,h5,RR,seval];apply y;clear y;refine aH _ rfl (fun hc=>?_) (fun hc=>?_)
  ·refine aK ?_;simp only[aT]
   have hi2:(i:Int)<(ws.map fun w=>[AV.str w]).length:=aC hc;simp only[aD]at hi2;have hl:i<ws.length:=by omega
   have hg:(ws.map fun w=>[AV.str w])[i]?=some [.str ws[i]]:=by rw[cC,aG hl];rfl
   refine aI ?_;refine aM ?_;refine aB fun K y=>?_;refine aA rfl ?_;simp only[RR,seval];simp only[h0,h1,h5,hg,RR,seval];apply y;clear y;refine aH _ rfl (fun hc=>?_) (fun hc=>?_)
   ·refine aB fun K y=>?_;refine aA rfl ?_;simp only[RR,seval]
    apply y;clear y;refine aO ?_;simp only[aT,aX,bB,aL,bH,RR,seval];refine aZ.pure ?_;have :ws[i]=s:=aC hc;rw[←this];simp
   refine aK ?_;simp only[aT,aX];refine aA rfl ?_;simp only[RR,seval];simp only[h0,h1,h5,RR,seval];refine⟨ws.length-(i+1),by omega,i+1,rfl,by omega, ?_, ?_⟩
   ·have hne: ¬ws[i]=s:=aF hc
    rw[bR hl];simp only[List.contains_append,hw,Bool.false_or];simp [Ne.symm hne]
   rw[aQ _ (by omega)];rfl
  refine bF ?_;simp only[aT,aX,reduceIte];have hi2: ¬(i:Int)<(ws.map fun w=>[AV.str w]).length:=aF hc;simp only[aD]at hi2;have :i=ws.length:=by omega
  subst this;rw[List.take_length]at hw;exact hw
 intro fr H h;refine aB fun K y=>?_;refine aA rfl ?_;simp only[RR,seval];apply y;clear y;refine aO ?_;simp only[bB,aL,bH,RR,seval];refine aZ.pure ?_;rw[h]
def dE (s:List UInt8):Bool:=match s with
 |[]=>false
 |c::r=>decide ((c::r).length≤20)&&(rY c.toNat&&(decide ((c::r).takeWhile Mt=c::r)&& !dL.contains (c::r)))
theorem rK (p:UInt8→Bool): ∀s:List UInt8,decide (s.takeWhile p=s)=s.all p
 |[]=>rfl
 |c::s=>by
  cases h:p c with
  |true=>
   simp only[List.takeWhile,h,List.all_cons,Bool.true_and,List.cons.injEq,true_and];exact rK p s
  |false=>simp [List.takeWhile,h]
theorem Ou (s:List UInt8) (hs:cI s):cJ cK 69 [.str s] (.bool (dE s)):=by
 have hs:s.length≤9223372036854775807:=hs;refine bI 47 [.tmp 2] Tryz.func69 rfl rfl rfl rfl ?_;refine aB fun K y=>?_;refine aA rfl ?_;simp only[RR,seval];apply y;clear y;refine aI ?_;refine bQ (fun fr H=> ∃t,fr 22= .bool t∧fr 0= .str s∧(t=true→dE s=false)∧(t=false→dE s=s.all Mt)) (fun K y=>?_) ?_
 ·cases hsc:s with
  |nil=>
   refine aA rfl ?_;simp only[RR,seval];exact y _ _ ⟨true,rfl,by rw[hsc];rfl,fun _=>by rw[hsc];rfl,fun e=>by cases e⟩
  |cons c r=>
   have h0:(c::r)[0]?=some c:=rfl;have hne:decide (((c::r).length:Int)=0)=false:=aU (by simp only[bU];omega);rw[←hsc]at h0 hne⊢;have hB:dE s=(decide (s.length≤20)&&(rY c.toNat&&(s.all Mt&& !dL.contains s))):=by rw[←rK,hsc];rfl
   clear hsc;refine aA rfl ?_;simp only[RR,seval];simp only[hne,RR,seval];refine aR (fun h=>?_) (fun h=>?_)<;>simp only[h,h0,RR,seval]
   ·have hl:decide (s.length≤20)=true:=bG (by have:=aF h;omega)
    refine aN (xJ _) ?_;simp only[RR,seval];refine aR (fun ha=>?_) (fun ha=>?_)
    ·have ha:rY c.toNat=true:=by simpa using ha
     simp only[ha,RR,seval];refine aN Oc ?_;simp only[RR,seval];refine aN (Zh dL s (by decide)) ?_;simp only[RR,seval];refine y _ _ ⟨_,rfl,rfl,fun e=>?_,fun e=>?_⟩
     ·rw[hB,e];simp
     rw[hB,e,hl,ha];simp
    have ha:rY c.toNat=false:=by simpa using ha
    simp only[ha,RR,seval];exact y _ _ ⟨_,rfl,rfl,fun e=>by rw[hB,ha];simp,fun e=>by cases e⟩
   have hl:decide (s.length≤20)=false:=aU (by have:=aC h;omega);exact y _ _ ⟨_,rfl,rfl,fun e=>by rw[hB,hl];rfl,fun e=>by cases e⟩
 rintro fr H ⟨t,h22,h0,ht,hf⟩;refine aH _ h22 (fun hc=>?_) (fun hc=>?_)
 ·refine aB fun K y=>?_;refine aA rfl ?_;simp only[RR,seval]
  apply y;clear y;refine aO ?_;simp only[aT,bB,aL,bH,RR,seval];refine aZ.pure ?_;rw[ht hc]
 have hall:=hf hc;refine aK ?_;simp only[aT];refine bQ (fun fr H=>s.all Mt=true) (fun K y=>?_) ?_
 ·refine aB fun K y=>?_;refine aA rfl ?_;simp only[RR,seval]
  apply y;clear y;refine aM ?_;refine cR (fun n fr H=> ∃i:Nat,n=s.length-i∧i≤s.length∧fr 0= .str s∧fr 3= .int .i64 i∧s.all Mt=(s.drop i).all Mt) s.length ⟨0,rfl,by omega,h0,rfl,by simp⟩ ?_;rintro n fr H ⟨i,rfl,hi,h0,h3,hsall⟩ K2 hK2;refine aI ?_;refine aB fun K y=>?_;refine aA rfl ?_;simp only[RR,seval];simp only[h0,h3,RR,seval];apply y;clear y;refine aH _ rfl (fun hc=>?_) (fun hc=>?_)
  ·have hl:i<s.length:=by have:=aC hc;omega
   have hg:s[i]?=some s[i]:=aG hl;rw[bD hl]at hsall;simp only[List.all_cons]at hsall;generalize s[i]=e at hg hsall;refine aK ?_;simp only[aT];refine aI ?_;refine aM ?_;refine bQ (fun fr H=>fr 46= .bool (!Mt e)∧fr 0= .str s∧fr 3= .int .i64 i) (fun K y=>?_) ?_
   ·refine aA rfl ?_;simp only[RR,seval]
    simp only[h0,h3,hg,RR,seval];refine aN (xJ _) ?_;simp only[RR,seval];refine aR (fun ha=>?_) (fun ha=>?_)<;>simp only[ha,h0,h3,hg,RR,seval]
    ·refine aN (Jp _) ?_
     simp only[RR,seval];refine aR (fun hd=>?_) (fun hd=>?_)<;>simp only[hd,h0,h3,hg,RR,seval]
     ·repeat' ((first|refine aR (fun h=>?_) (fun h=>?_)|refine aV (fun h=>?_) (fun h=>?_))<;>simp only[h,h0,h3,hg,RR,seval])
      all_goals exact y _ _ ⟨by simp [upd,Mt,Zi,ha,hd],h0,h3⟩
     exact y _ _ ⟨by simp [upd,Mt,Zi,ha,hd],h0,h3⟩
    exact y _ _ ⟨by simp [upd,Mt,Zi,ha],h0,h3⟩
   rintro fr H ⟨h46,h0,h3⟩;refine aH _ h46 (fun hc=>?_) (fun hc=>?_)
   ·have he:Mt e=false:=by simpa using hc
    refine aB fun K y=>?_;refine aA rfl ?_;simp only[RR,seval];apply y;clear y;refine aO ?_;simp only[aT,aX,bB,aL,bH,RR,seval];refine aZ.pure ?_;rw[hall,hsall,he];rfl
   have he:Mt e=true:=by simpa using hc
   rw[he,Bool.true_and]at hsall;refine aK ?_;simp only[aT,aX];refine aA rfl ?_;simp only[RR,seval];simp only[h3,RR,seval];rw[aQ _ (by omega)];exact hK2 (s.length-(i+1)) _ _ (by omega) ⟨i+1,rfl,by omega,h0,rfl,hsall⟩
  refine bF ?_;simp only[aT,aX,reduceIte];have :i=s.length:=by have:=aF hc;omega
  subst this;rw[List.drop_length]at hsall;exact y _ _ hsall
 intro fr H h;refine aB fun K y=>?_;refine aA rfl ?_;simp only[RR,seval];apply y;clear y;refine aO ?_;simp only[bB,aL,bH,RR,seval];refine aZ.pure ?_;rw[hall,h]
end Go.Proofs.YtnfbbjhdflhmjaaGreatDoor
namespace Go.Al
def iO (l:List dD):Bool:=l.all (fun s=>decide (s.length≤60))&&decide (l.length≤200)
def eS:List Ex→Int→Int→Int
 |[],left,_=>left
 | .mk _ _ _ s kids::l,left,cB=>if left<0 then left else if cB≤0∨60<s.length then -1 else eS l (eS kids (left- 1) (cB- 1)) cB
def eP:List Sm→Int→Int→Int
 |[],left,_=>left
 | .mk _ s es t u::l,left,cB=>if left<0 then left else if cB≤0∨60<s.length then -1 else eP l (eP u (eP t (eS es (left- 1) (cB- 1)) (cB- 1)) (cB- 1)) cB
theorem lF (e:Ex) (l:List Ex) (left cB:Int):eS (e::l) left cB=if left<0 then left else if cB≤0∨60<e.name.length then -1 else eS l (eS e.kids (left- 1) (cB- 1)) cB:=by
 cases e;rw[eS];rfl
theorem lE (e:Sm) (l:List Sm) (left cB:Int):eP (e::l) left cB=if left<0 then left else if cB≤0∨60<e.name.length then -1 else eP l (eP e.els (eP e.thn (eS e.es (left- 1) (cB- 1)) (cB- 1)) (cB- 1)) cB:=by
 cases e;rw[eP];rfl
theorem nF (l:List Ex) (left cB:Int) (h:left<0):eS l left cB=left:=by
 cases l with
 |nil=>rw[eS]
 |cons e l=>rw[lF,if_pos h]
theorem nD (l:List Sm) (left cB:Int) (h:left<0):eP l left cB=left:=by
 cases l with
 |nil=>rw[eP]
 |cons e l=>rw[lE,if_pos h]
theorem Tf (n:Nat): ∀(l:List Ex) (left cB:Int),iA l≤n→0≤left→ -1≤eS l left cB∧eS l left cB≤left:=by
 induction n with
 |zero=>
  intro l left cB hn h
  cases l with
  |nil=>rw[eS];omega
  |cons e l=>have:=e.sz_eq;simp only[iA]at hn;omega
 |succ n ih=>
  intro l
  induction l with
  |nil=>intro left cB _ h;rw[eS];omega
  |cons e l ihl=>
   intro left cB hn h;have hs:=e.sz_eq;simp only[iA]at hn;rw[lF,if_neg (by omega)];split
   ·omega
   by_cases h0:left=0
   ·rw[h0,nF e.kids _ _ (by omega),nF l _ _ (by omega)];omega
   have h1:=ih e.kids (left- 1) (cB- 1) (by omega) (by omega);by_cases h2:eS e.kids (left- 1) (cB- 1)<0
   ·rw[nF l _ _ h2];omega
   have:=ihl (eS e.kids (left- 1) (cB- 1)) cB (by omega) (by omega);omega
theorem uJ (l:List Ex) (left cB:Int) (h: -1≤left): -1≤eS l left cB∧eS l left cB≤left:=by
 by_cases h0:left<0
 ·rw[nF _ _ _ h0];omega
 exact Tf (iA l) l left cB (aY _) (by omega)
theorem Te (n:Nat): ∀(l:List Sm) (left cB:Int),fE l≤n→0≤left→ -1≤eP l left cB∧eP l left cB≤left:=by
 induction n with
 |zero=>
  intro l left cB hn h
  cases l with
  |nil=>rw[eP];omega
  |cons e l=>have:=e.sz_eq;simp only[fE]at hn;omega
 |succ n ih=>
  have ih': ∀(l:List Sm) (left cB:Int),fE l≤n→ -1≤left→ -1≤eP l left cB∧eP l left cB≤left:=fun l left cB hl h=>by
   by_cases h0:left<0
   ·rw[nD _ _ _ h0];omega
   exact ih l left cB hl (by omega)
  intro l
  induction l with
  |nil=>intro left cB _ h;rw[eP];omega
  |cons e l ihl=>
   intro left cB hn h;have hs:=e.sz_eq;simp only[fE]at hn;rw[lE,if_neg (by omega)];split
   ·omega
   have h1:=uJ e.es (left- 1) (cB- 1) (by omega);have h2:=ih' e.thn _ (cB- 1) (by omega) h1.1;have h3:=ih' e.els _ (cB- 1) (by omega) h2.1;generalize eP e.els (eP e.thn (eS e.es (left- 1) (cB- 1)) (cB- 1)) (cB- 1)=z at *;by_cases hz:z<0
   ·rw[nD l _ _ hz];omega
   have:=ihl z cB (by omega) (by omega);omega
theorem uI (l:List Sm) (left cB:Int) (h: -1≤left): -1≤eP l left cB∧eP l left cB≤left:=by
 by_cases h0:left<0
 ·rw[nD _ _ _ h0];omega
 exact Te (fE l) l left cB (aY _) (by omega)
end Go.Al
namespace Go.Proofs.YtnfbbjhdflhmjaaGreatDoor
open Go.Al
theorem tY (l:List dD) (hl:cI l):cJ cK 41 [.isl 1 (l.map bK)] (.bool (iO l)):=by
 have hl:l.length≤9223372036854775807:=hl;refine bI 19 [.tmp 2] Tryz.func41 rfl rfl rfl rfl ?_;refine aB fun K y=>?_;refine aA rfl ?_;simp only[RR,seval];apply y;clear y;refine bQ (fun fr H=>fr 0= .isl 1 (l.map bK)∧l.all (fun s=>decide (s.length≤60))=true) (fun K y=>?_) ?_
 ·refine aB fun K y=>?_;refine aA rfl ?_;simp only[RR,seval]
  apply y;clear y;refine aM ?_;refine cR (fun mm fr H=> ∃k:Nat,mm=l.length-k∧k≤l.length∧fr 3= .int .i64 k∧fr 0= .isl 1 (l.map bK)∧l.all (fun s=>decide (s.length≤60))=(l.drop k).all (fun s=>decide (s.length≤60))) (l.length) ⟨0,rfl,Nat.zero_le _,rfl,rfl,by rw[List.drop_zero]⟩ ?_;rintro mm fr H ⟨k,rfl,hkk,hik,h0,hall⟩ K2 hK2;refine aI ?_;refine aB fun K y=>?_;refine aA rfl ?_;simp only[RR,seval];simp only[hik,h0,aD,RR,seval];apply y;clear y;refine aH _ rfl (fun hc=>?_) (fun hc=>?_)
  ·have hltk:k<l.length:=by have:=aC hc;omega
   clear hc;refine aK ?_;simp only[aT];refine aI ?_;refine aM ?_;have hg:=yE (aG hltk);rw[bD hltk,List.all_cons]at hall;generalize l[k]=s at hg hall;refine aB fun K y=>?_;refine aA rfl ?_;simp only[RR,seval];simp only[h0,hik,hg,RR,seval];apply y;clear y;refine aH _ rfl (fun hc=>?_) (fun hc=>?_)
   ·refine aB fun K y=>?_;refine aA rfl ?_;simp only[RR,seval]
    apply y;clear y;refine aO ?_;simp only[aT,aX,bB,aL,bH,RR,seval];refine aZ.pure ?_;have :decide (s.length≤60)=false:=aU (by have:=aC hc;omega);rw[iO,hall,this];rfl
   refine aK ?_;simp only[aT,aX];have :decide (s.length≤60)=true:=bG (by have:=aF hc;omega);rw[this,Bool.true_and]at hall;refine aA rfl ?_;simp only[RR,seval];simp only[hik,aT,RR,seval];rw[aQ _ (by omega)];refine hK2 (l.length-(k+1)) _ _ (by omega) ⟨k+1,rfl,by omega,rfl,h0,hall⟩
  refine bF ?_;simp only[aT,aX,reduceIte];have hknk:k=l.length:=by have:=aF hc;omega
  clear hc;subst hknk;rw[List.drop_length]at hall;exact y _ _ ⟨h0,hall⟩
 rintro fr H ⟨h0,hall⟩;refine aB fun K y=>?_;refine aA rfl ?_;simp only[RR,seval];simp only[h0,aD,RR,seval];apply y;clear y;refine aO ?_;simp only[bB,aL,bH,RR,seval];refine aZ.pure ?_;rw[iO,hall,Bool.true_and];congr 1;rw[Bool.eq_iff_iff];simp only[aW];omega
theorem Ax (n:Nat): ∀(l:List Ex) (left cB:Int),iA l≤n→xQ l→ -1000000≤left→left≤1000000→ -1000000≤cB→cB≤1000000→
  cJ cK 67 [.isl 5 (l.map Ex.row), .int .i64 left, .int .i64 cB] (.int .i64 (eS l left cB)):=by
 induction n with
 |zero=>
  intro l left cB hn hok h1 h2 h3 h4;have :l=[]:=by cases l with |nil=>rfl|cons e l=>have:=e.sz_eq;simp only[iA]at hn;omega
  subst this;refine bI 41 [.tmp 6] Tryz.func67 rfl rfl rfl rfl ?_;refine aB fun K y=>?_;refine aA rfl ?_;simp only[RR,seval];apply y;clear y;refine bQ (fun fr H=>fr 1= .int .i64 left) (fun K y=>?_) ?_
  ·refine aB fun K y=>?_;refine aA rfl ?_;simp only[RR,seval]
   apply y;clear y;refine aM ?_;refine cR (fun m fr H=>fr 0= .isl 5 []∧fr 1= .int .i64 left∧fr 7= .int .i64 0) 0 ⟨rfl,rfl,rfl⟩ ?_;rintro m fr H ⟨h0,h1,h7⟩ K2 hK2;refine aI ?_;refine aB fun K y=>?_;refine aA rfl ?_;simp only[RR,seval];simp only[h0,h7,RR,seval];apply y;clear y;refine aH false rfl (fun hc=>by cases hc) (fun _=>?_);refine bF ?_;simp only[aT,aX,reduceIte];exact y _ _ h1
  rintro fr H h1;refine aB fun K y=>?_;refine aA rfl ?_;simp only[RR,seval];simp only[h1,seval];apply y;clear y;refine aO ?_;simp only[bB,aL,bH,RR,seval];refine aZ.pure ?_;rw[eS]
 |succ n ih=>
  intro l left cB hn hok h1 h2 h3 h4;have hfit:l.length≤9223372036854775807:=hok.fit;refine bI 41 [.tmp 6] Tryz.func67 rfl rfl rfl rfl ?_;refine aB fun K y=>?_;refine aA rfl ?_;simp only[RR,seval];apply y;clear y;refine bQ (fun fr H=>fr 1= .int .i64 (eS l left cB)) (fun K y=>?_) ?_
  ·refine aB fun K y=>?_;refine aA rfl ?_;simp only[RR,seval]
   apply y;clear y;refine aM ?_;refine cR (fun m fr H=> ∃(k:Nat) (x:Int),m=l.length-k∧k≤l.length∧fr 0= .isl 5 (l.map Ex.row)∧fr 1= .int .i64 x∧fr 2= .int .i64 cB∧fr 7= .int .i64 k∧eS l left cB=eS (l.drop k) x cB∧ -1000000≤x∧x≤1000000) l.length ⟨0,left,rfl,by omega,rfl,rfl,rfl,rfl,by simp,h1,h2⟩ ?_;rintro m fr H ⟨k,x,rfl,hk,f0,f1,f2,f7,heq,hx1,hx2⟩ K2 hK2;refine aI ?_;by_cases hkl:k<l.length
   ·have e1:decide ((k:Int)<l.length)=true:=bG (by omega)
    refine aB fun K y=>?_;refine aA rfl ?_;simp only[RR,seval];simp only[f0,f1,f7,aD,e1,RR,seval];apply y;clear y;refine aH _ rfl (fun hc=>?_) (fun hc=>?_)
    ·have hx0:0≤x:=by simpa using hc
     have hmem:=bA hkl;have hgl:=uL (aG hkl);rw[bD hkl,lF,if_neg (by omega)]at heq;have hsz:=iI hmem;have hoke:=hok.all _ hmem;generalize l[k]=e at hgl heq hsz hoke;have hse:=e.sz_eq;have w1:IntKind.wrap .i64 (x- 1)=x- 1:=aQ _ (by omega);have w2:IntKind.wrap .i64 (cB- 1)=cB- 1:=aQ _ (by omega);refine aK ?_;simp only[aT];refine aI ?_;refine aM ?_;refine aB fun K y=>?_;refine aA rfl ?_;simp only[RR,seval];simp only[f1,w1,RR,seval];apply y;clear y;refine aI ?_;refine bQ (fun fr H=> ∃t,fr 30= .bool t∧(t=decide (cB≤0∨60<e.name.length))∧fr 0= .isl 5 (l.map Ex.row)∧fr 1= .int .i64 (x- 1)∧fr 2= .int .i64 cB∧fr 7= .int .i64 k) (fun K y=>?_) ?_
     ·refine aA rfl ?_;simp only[RR,seval]
      simp only[f2,RR,seval]
      repeat' ((first|refine aR (fun h=>?_) (fun h=>?_)|refine aV (fun h=>?_) (fun h=>?_))<;>simp only[h,f0,f7,hgl,RR,seval])
      all_goals
       refine y _ _ ⟨_,rfl, ?_,f0,rfl,f2,f7⟩;clear y hK2;simp only[aW,decide_eq_false_iff_not]at *;symm
       first
        |(rw[aW];omega)
        |(rw[Bool.eq_iff_iff];simp only[aW];omega)
     rintro fr H ⟨t,f30,ht,f0,f1,f2,f7⟩;refine aH _ f30 (fun hc=>?_) (fun hc=>?_)
     ·refine aB fun K y=>?_;refine aA rfl ?_;simp only[RR,seval]
      apply y;clear y;refine aO ?_;simp only[aT,aX,bB,aL,bH,RR,seval];refine aZ.pure ?_;rw[heq,if_pos (by rw[hc]at ht;simpa using ht.symm)]
     have hno: ¬(cB≤0∨60<e.name.length):=by rw[hc]at ht;simpa using ht.symm
     rw[if_neg hno]at heq;refine aK ?_;simp only[aT];have hbd:=uJ e.kids (x- 1) (cB- 1) (by omega);refine aA rfl ?_;simp only[f0,f1,f2,f7,hgl,w2,RR,seval];refine aN (ih e.kids (x- 1) (cB- 1) (by omega) hoke.kids (by omega) (by omega) (by omega) (by omega)) ?_;simp only[RR,seval]
     try simp only[aT,aX]
     refine aA rfl ?_;simp only[f7,aT,RR,seval];rw[aQ _ (by omega)];exact hK2 (l.length-(k+1)) _ _ (by omega) ⟨k+1,_,rfl,by omega,f0,rfl,f2,rfl,heq,by omega,by omega⟩
    have hx0:x<0:=by simpa using hc
    rw[nF _ _ _ hx0]at heq;refine bF ?_;simp only[aT,aX,reduceIte];exact y _ _ (by rw[heq];exact f1)
   have hkn:k=l.length:=by omega
   subst hkn;rw[List.drop_length,eS]at heq;have e1:decide ((l.length:Int)<l.length)=false:=aU (by omega);refine aB fun K y=>?_;refine aA rfl ?_;simp only[RR,seval];simp only[f0,f7,aD,e1,RR,seval];apply y;clear y;refine aH false rfl (fun hc=>by cases hc) (fun _=>?_);refine bF ?_;simp only[aT,aX,reduceIte];exact y _ _ (by rw[heq];exact f1)
  rintro fr H h1;refine aB fun K y=>?_;refine aA rfl ?_;simp only[RR,seval];simp only[h1,seval];apply y;clear y;refine aO ?_;simp only[bB,aL,bH,RR,seval];refine aZ.pure ?_;rfl
end Go.Proofs.YtnfbbjhdflhmjaaGreatDoor
namespace Go.Al
def kO:List Fu→Int→Int
 |[],left=>left
 |f::l,left=>kO l (eP f.body (left-f.params.length-f.locs.length) 60)
def rH (f:Fu):Bool:=iO f.params&&iO f.locs&&decide (f.name.length≤60)
def yL (p:Pg) (most:Int):Bool:=
 iO p.vars&&decide (p.arrs.length≤200)&&decide (p.funs.length≤70)&&p.arrs.all (fun a=>decide (a.name.length≤60))&&p.funs.all rH&&
  decide (0≤kO p.funs (most-p.vars.length-p.arrs.length-p.funs.length))
theorem fX {l:List dD} (h:iO l=true):l.length≤200∧ ∀s∈l,s.length≤60:=by
 simp only[iO,aS,List.all_eq_true,aW]at h;exact⟨h.2,h.1⟩
end Go.Al
namespace Go.Proofs.YtnfbbjhdflhmjaaGreatDoor
open Go.Al
theorem Aw (n:Nat): ∀(l:List Sm) (left cB:Int),fE l=n→Bq l→ -1000000≤left→left≤1000000→ -1000000≤cB→cB≤1000000→
  cJ cK 42 [.isl 5 (l.map Sm.row), .int .i64 left, .int .i64 cB] (.int .i64 (eP l left cB)):=by
 induction n using Nat.strongRecOn with
 |_ n ih=>
  intro l left cB hn hok h1 h2 h3 h4;have hfit:l.length≤9223372036854775807:=hok.fit;refine bI 59 [.tmp 6] Tryz.func42 rfl rfl rfl rfl ?_;refine aB fun K y=>?_;refine aA rfl ?_;simp only[RR,seval];apply y;clear y;refine bQ (fun fr H=>fr 1= .int .i64 (eP l left cB)) (fun K y=>?_) ?_
  ·refine aB fun K y=>?_;refine aA rfl ?_;simp only[RR,seval]
   apply y;clear y;refine aM ?_;refine cR (fun m fr H=> ∃(k:Nat) (x:Int),m=l.length-k∧k≤l.length∧fr 0= .isl 5 (l.map Sm.row)∧fr 1= .int .i64 x∧fr 2= .int .i64 cB∧fr 7= .int .i64 k∧eP l left cB=eP (l.drop k) x cB∧ -1000000≤x∧x≤1000000) l.length ⟨0,left,rfl,by omega,rfl,rfl,rfl,rfl,by simp,h1,h2⟩ ?_;rintro m fr H ⟨k,x,rfl,hk,f0,f1,f2,f7,heq,hx1,hx2⟩ K2 hK2;refine aI ?_;by_cases hkl:k<l.length
   ·have e1:decide ((k:Int)<l.length)=true:=bG (by omega)
    refine aB fun K y=>?_;refine aA rfl ?_;simp only[RR,seval];simp only[f0,f1,f7,aD,e1,RR,seval];apply y;clear y;refine aH _ rfl (fun hc=>?_) (fun hc=>?_)
    ·have hx0:0≤x:=by simpa using hc
     have hmem:=bA hkl;have hgl:=An (aG hkl);rw[bD hkl,lE,if_neg (by omega)]at heq;have hsz:=fT hmem;have hoke:=hok.all _ hmem;generalize l[k]=e at hgl heq hsz hoke;have hse:=e.sz_eq;have w1:IntKind.wrap .i64 (x- 1)=x- 1:=aQ _ (by omega);have w2:IntKind.wrap .i64 (cB- 1)=cB- 1:=aQ _ (by omega);refine aK ?_;simp only[aT];refine aI ?_;refine aM ?_;refine aB fun K y=>?_;refine aA rfl ?_;simp only[RR,seval];simp only[f1,w1,RR,seval];apply y;clear y;refine aI ?_;refine bQ (fun fr H=> ∃t,fr 30= .bool t∧(t=decide (cB≤0∨60<e.name.length))∧fr 0= .isl 5 (l.map Sm.row)∧fr 1= .int .i64 (x- 1)∧fr 2= .int .i64 cB∧fr 7= .int .i64 k) (fun K y=>?_) ?_
     ·refine aA rfl ?_;simp only[RR,seval]
      simp only[f2,RR,seval]
      repeat' ((first|refine aR (fun h=>?_) (fun h=>?_)|refine aV (fun h=>?_) (fun h=>?_))<;>simp only[h,f0,f7,hgl,RR,seval])
      all_goals
       refine y _ _ ⟨_,rfl, ?_,f0,rfl,f2,f7⟩;clear y hK2;simp only[aW,decide_eq_false_iff_not]at *;symm
       first
        |(rw[aW];omega)
        |(rw[Bool.eq_iff_iff];simp only[aW];omega)
     rintro fr H ⟨t,f30,ht,f0,f1,f2,f7⟩;refine aH _ f30 (fun hc=>?_) (fun hc=>?_)
     ·refine aB fun K y=>?_;refine aA rfl ?_;simp only[RR,seval]
      apply y;clear y;refine aO ?_;simp only[aT,aX,bB,aL,bH,RR,seval];refine aZ.pure ?_;rw[heq,if_pos (by rw[hc]at ht;simpa using ht.symm)]
     have hno: ¬(cB≤0∨60<e.name.length):=by rw[hc]at ht;simpa using ht.symm
     rw[if_neg hno]at heq;refine aK ?_;simp only[aT];have hbd:=uJ e.es (x- 1) (cB- 1) (by omega);have hbd2:=uI e.thn _ (cB- 1) hbd.1;have hbd3:=uI e.els _ (cB- 1) hbd2.1;refine aB fun K y=>?_;refine aA rfl ?_;simp only[RR,seval];simp only[f0,f1,f2,f7,hgl,w2,RR,seval];refine aN (Ax _ e.es (x- 1) (cB- 1) (aY _) hoke.es (by omega) (by omega) (by omega) (by omega)) ?_;simp only[RR,seval];apply y;clear y;refine aB fun K y=>?_;refine aA rfl ?_;simp only[RR,seval];simp only[f0,f2,f7,hgl,w2,RR,seval];refine aN (ih _ (by omega) e.thn (eS e.es (x- 1) (cB- 1)) (cB- 1) rfl hoke.thn (by omega) (by omega) (by omega) (by omega)) ?_;simp only[RR,seval];apply y;clear y;refine aA rfl ?_;simp only[f0,f2,f7,hgl,w2,RR,seval];refine aN (ih _ (by omega) e.els (eP e.thn (eS e.es (x- 1) (cB- 1)) (cB- 1)) (cB- 1) rfl hoke.els (by omega) (by omega) (by omega) (by omega)) ?_;simp only[RR,seval]
     try simp only[aT,aX]
     refine aA rfl ?_;simp only[f7,aT,RR,seval];rw[aQ _ (by omega)];exact hK2 (l.length-(k+1)) _ _ (by omega) ⟨k+1,_,rfl,by omega,f0,rfl,f2,rfl,heq,by omega,by omega⟩
    have hx0:x<0:=by simpa using hc
    rw[nD _ _ _ hx0]at heq;refine bF ?_;simp only[aT,aX,reduceIte];exact y _ _ (by rw[heq];exact f1)
   have hkn:k=l.length:=by omega
   subst hkn;rw[List.drop_length,eP]at heq;have e1:decide ((l.length:Int)<l.length)=false:=aU (by omega);refine aB fun K y=>?_;refine aA rfl ?_;simp only[RR,seval];simp only[f0,f7,aD,e1,RR,seval];apply y;clear y;refine aH false rfl (fun hc=>by cases hc) (fun _=>?_);refine bF ?_;simp only[aT,aX,reduceIte];exact y _ _ (by rw[heq];exact f1)
  rintro fr H h1;refine aB fun K y=>?_;refine aA rfl ?_;simp only[RR,seval];simp only[h1,seval];apply y;clear y;refine aO ?_;simp only[bB,aL,bH,RR,seval];refine aZ.pure ?_;rfl
theorem Td (l:List Sm) (left cB:Int):eP l left cB≤(if left<0 then left else left)∧(0≤left→ -1≤eP l left cB)∧(left<0→eP l left cB=left):=by
 by_cases h:left<0
 ·rw[nD _ _ _ h];simp;omega
 have:=uI l left cB (by omega);simp;omega
theorem Wj (p:Pg) (hp:p.ok) (most:Int) (hm:0≤most) (hm2:most≤100000):cJ cK 22 [p.av, .int .i64 most] (.bool (yL p most)):=by
 have fv:p.vars.length≤9223372036854775807:=hp.vars.fit;have fa:p.arrs.length≤9223372036854775807:=hp.afit;have ff:p.funs.length≤9223372036854775807:=hp.ffit;obtain⟨vs,aa,fs⟩:=p;simp only at fv fa ff;simp only[Pg.av,Pg.row];refine bI 95 [.tmp 4] Tryz.func22 rfl rfl rfl rfl ?_;refine bQ (fun fr H=> ∃b,fr 1= .int .i64 most∧fr 2= .ptr 3 b 0 0∧H b=some (.rows 3 [[.isl 1 (vs.map bK), .isl 2 (aa.map Ar.row), .isl 5 (fs.map Fu.row)]])) (fun K y=>?_) ?_
 ·refine aA rfl ?_;simp only[RR,seval]
  refine aP fun b hb=>?_;simp only[RR,seval];exact y _ _ ⟨b,rfl,rfl,bO _ _ _⟩
 rintro fr H ⟨b,h1,h2,hb⟩;have hshort:=tY vs hp.vars.fit;refine aI ?_;refine bQ (fun fr H=> ∃t,fr 24= .bool t∧(t= !(iO vs&&decide (aa.length≤200)&&decide (fs.length≤70)))∧fr 1= .int .i64 most∧fr 2= .ptr 3 b 0 0∧H b=some (.rows 3 [[.isl 1 (vs.map bK), .isl 2 (aa.map Ar.row), .isl 5 (fs.map Fu.row)]])) (fun K y=>?_) ?_
 ·refine aA rfl ?_;simp only[RR,seval]
  simp only[h2,hb,RR,seval];refine aN hshort ?_;simp only[RR,seval]
  cases hs:iO vs with
  |false=>
   simp only[RR,seval];exact y _ _ ⟨_,rfl,by rw[hs];rfl,h1,h2,hb⟩
  |true=>
   simp only[h2,hb,aD,RR,seval];refine aR (fun h=>?_) (fun h=>?_)<;>simp only[h,h2,hb,aD,RR,seval]
   ·refine y _ _ ⟨_,rfl, ?_,h1,h2,hb⟩
    have :decide (aa.length≤200)=true:=bG (by have:=aF h;omega);rw[hs,this,Bool.true_and,Bool.true_and,Bool.eq_iff_iff];simp only[aW,Bool.not_eq_true',decide_eq_false_iff_not];omega
   refine y _ _ ⟨_,rfl, ?_,h1,h2,hb⟩;have :decide (aa.length≤200)=false:=aU (by have:=aC h;omega);rw[hs,this];rfl
 rintro fr H ⟨t,h24,ht,h1,h2,hb⟩;refine aH _ h24 (fun hc=>?_) (fun hc=>?_)
 ·refine aB fun K y=>?_;refine aA rfl ?_;simp only[RR,seval]
  apply y;clear y;refine aO ?_;simp only[aT,bB,aL,bH,RR,seval];refine aZ.pure ?_;rw[hc]at ht
  have :(iO vs&&decide (aa.length≤200)&&decide (fs.length≤70))=false:=by
   cases e:(iO vs&&decide (aa.length≤200)&&decide (fs.length≤70))with
   |false=>rfl
   |true=>rw[e]at ht;cases ht
  simp only[yL,this,Bool.false_and]
 rw[hc]at ht
 have ht3:(iO vs&&decide (aa.length≤200)&&decide (fs.length≤70))=true:=by
  cases e:(iO vs&&decide (aa.length≤200)&&decide (fs.length≤70))with
  |true=>rfl
  |false=>rw[e]at ht;cases ht
 have hfew:yL ⟨vs,aa,fs⟩ most=(aa.all (fun a=>decide (a.name.length≤60))&&fs.all rH&&decide (0≤kO fs (most-vs.length-aa.length-fs.length))):=by
  simp only[yL,ht3,Bool.true_and]
 simp only[aS,aW]at ht3;obtain⟨⟨hsv,hal⟩,hfl⟩:=ht3;have hvl:=(fX hsv).1;rw[hfew];refine aK ?_;simp only[aT];refine bQ (fun fr H=>fr 5= .int .i64 (most-vs.length-aa.length-fs.length)∧fr 2= .ptr 3 b 0 0∧H b=some (.rows 3 [[.isl 1 (vs.map bK), .isl 2 (aa.map Ar.row), .isl 5 (fs.map Fu.row)]])) (fun K y=>?_) ?_
 ·have w1:IntKind.wrap .i64 (most-vs.length)=most-vs.length:=aQ _ (by omega)
  have w2:IntKind.wrap .i64 (most-vs.length-aa.length)=most-vs.length-aa.length:=aQ _ (by omega);have w3:IntKind.wrap .i64 (most-vs.length-aa.length-fs.length)=most-vs.length-aa.length-fs.length:=aQ _ (by omega);refine aA rfl ?_;simp only[RR,seval];simp only[h1,h2,hb,aD,w1,w2,w3,RR,seval];exact y _ _ ⟨rfl,h2,hb⟩
 rintro fr H ⟨h5,h2,hb⟩;refine bQ (fun fr H=>aa.all (fun a=>decide (a.name.length≤60))=true∧fr 5= .int .i64 (most-vs.length-aa.length-fs.length)∧fr 2= .ptr 3 b 0 0∧H b=some (.rows 3 [[.isl 1 (vs.map bK), .isl 2 (aa.map Ar.row), .isl 5 (fs.map Fu.row)]])) (fun K y=>?_) ?_
 ·refine aB fun K y=>?_;refine aA rfl ?_;simp only[RR,seval]
  apply y;clear y;refine aM ?_;refine cR (fun mm fr H=> ∃k:Nat,mm=aa.length-k∧k≤aa.length∧fr 6= .int .i64 k∧aa.all (fun a=>decide (a.name.length≤60))=(aa.drop k).all (fun a=>decide (a.name.length≤60))∧fr 5= .int .i64 (most-vs.length-aa.length-fs.length)∧fr 2= .ptr 3 b 0 0∧H b=some (.rows 3 [[.isl 1 (vs.map bK), .isl 2 (aa.map Ar.row), .isl 5 (fs.map Fu.row)]])) (aa.length) ⟨0,rfl,Nat.zero_le _,rfl,by rw[List.drop_zero],h5,h2,hb⟩ ?_;rintro mm fr H ⟨k,rfl,hkk,hik,hall,h5,h2,hb⟩ K2 hK2;refine aI ?_;refine aB fun K y=>?_;refine aA rfl ?_;simp only[RR,seval];simp only[hik,h2,hb,aD,RR,seval];apply y;clear y;refine aH _ rfl (fun hc=>?_) (fun hc=>?_)
  ·have hltk:k<aa.length:=by have:=aC hc;omega
   clear hc;refine aK ?_;simp only[aT];refine aI ?_;refine aM ?_;have hg:=Dt (aG hltk);rw[bD hltk,List.all_cons]at hall;generalize aa[k]=a at hg hall;refine aB fun K y=>?_;refine aA rfl ?_;simp only[RR,seval];simp only[h2,hb,hik,hg,RR,seval];apply y;clear y;refine aH _ rfl (fun hc=>?_) (fun hc=>?_)
   ·refine aB fun K y=>?_;refine aA rfl ?_;simp only[RR,seval]
    apply y;clear y;refine aO ?_;simp only[aT,aX,bB,aL,bH,RR,seval];refine aZ.pure ?_;have :decide (a.name.length≤60)=false:=aU (by have:=aC hc;omega);rw[hall,this];rfl
   have :decide (a.name.length≤60)=true:=bG (by have:=aF hc;omega);rw[this,Bool.true_and]at hall;refine aK ?_;simp only[aT,aX];refine aA rfl ?_;simp only[RR,seval];simp only[hik,aT,RR,seval];rw[aQ _ (by omega)];refine hK2 (aa.length-(k+1)) _ _ (by omega) ⟨k+1,rfl,by omega,rfl,hall,h5,h2,hb⟩
  refine bF ?_;simp only[aT,aX,reduceIte];have hknk:k=aa.length:=by have:=aF hc;omega
  clear hc;subst hknk;rw[List.drop_length]at hall;exact y _ _ ⟨hall,h5,h2,hb⟩
 rintro fr H ⟨hall,h5,h2,hb⟩;rw[hall,Bool.true_and];generalize hleft:most-(vs.length:Int)-aa.length-fs.length=left0 at h5⊢;have hl0: -100000≤left0∧left0≤100000:=by omega
 refine bQ (fun fr H=>fs.all rH=true∧fr 5= .int .i64 (kO fs left0)) (fun K y=>?_) ?_
 ·refine aB fun K y=>?_;refine aA rfl ?_;simp only[RR,seval]
  apply y;clear y;refine aM ?_;refine cR (fun mm fr H=> ∃k:Nat,mm=fs.length-k∧k≤fs.length∧fr 7= .int .i64 k∧ ∃x:Int,fs.all rH=(fs.drop k).all rH∧kO fs left0=kO (fs.drop k) x∧ -100000 - 401 *(k:Int)≤x∧x≤100000∧fr 5= .int .i64 x∧fr 2= .ptr 3 b 0 0∧H b=some (.rows 3 [[.isl 1 (vs.map bK), .isl 2 (aa.map Ar.row), .isl 5 (fs.map Fu.row)]])) (fs.length) ⟨0,rfl,Nat.zero_le _,rfl,left0,by rw[List.drop_zero],by rw[List.drop_zero],by omega,by omega,h5,h2,hb⟩ ?_;rintro mm fr H ⟨k,rfl,hkk,hik,x,hall2,hlf,hx1,hx2,h5,h2,hb⟩ K2 hK2;refine aI ?_;refine aB fun K y=>?_;refine aA rfl ?_;simp only[RR,seval];simp only[hik,h2,hb,aD,RR,seval];apply y;clear y;refine aH _ rfl (fun hc=>?_) (fun hc=>?_)
  ·have hltk:k<fs.length:=by have:=aC hc;omega
   clear hc;refine aK ?_;simp only[aT];refine aI ?_;refine aM ?_;have hg:=kK (aG hltk);have hokf:=hp.funs _ (bA hltk);rw[bD hltk,List.all_cons]at hall2;rw[bD hltk,kO]at hlf;generalize fs[k]=f at hg hall2 hlf hokf;refine aB fun K y=>?_;refine aA rfl ?_;simp only[RR,seval];simp only[h2,hb,hik,hg,RR,seval];refine aP fun b1 hb1=>?_;simp only[RR,seval];apply y;clear y;have hne:b≠b1:=fun e=>by rw[e,hb1]at hb;cases hb
   have hH1:(upd (upd H b1 (some (.rows 5 [[.str [], .nsl, .nsl, .bool false, .nsl]]))) b1 (some (.rows 5 [[.str f.name, .isl 1 (f.params.map bK), .isl 1 (f.locs.map bK), .bool f.word, .isl 5 (f.body.map Sm.row)]]))) b1=some (.rows 5 [[.str f.name, .isl 1 (f.params.map bK), .isl 1 (f.locs.map bK), .bool f.word, .isl 5 (f.body.map Sm.row)]]):=bO _ _ _;have hHb:(upd (upd H b1 (some (.rows 5 [[.str [], .nsl, .nsl, .bool false, .nsl]]))) b1 (some (.rows 5 [[.str f.name, .isl 1 (f.params.map bK), .isl 1 (f.locs.map bK), .bool f.word, .isl 5 (f.body.map Sm.row)]]))) b=some (.rows 3 [[.isl 1 (vs.map bK), .isl 2 (aa.map Ar.row), .isl 5 (fs.map Fu.row)]]):=by simp only[upd,if_neg hne];exact hb
   generalize(upd (upd H b1 (some (.rows 5 [[.str [], .nsl, .nsl, .bool false, .nsl]]))) b1 (some (.rows 5 [[.str f.name, .isl 1 (f.params.map bK), .isl 1 (f.locs.map bK), .bool f.word, .isl 5 (f.body.map Sm.row)]])))=H1 at hH1 hHb⊢;have c1:=tY f.params hokf.params.fit;have c2:=tY f.locs hokf.locs.fit;refine aI ?_;refine bQ (fun fr H=> ∃t,fr 80= .bool t∧(t= !rH f)∧fr 8= .ptr 5 b1 0 0∧fr 7= .int .i64 k∧fr 5= .int .i64 x∧fr 2= .ptr 3 b 0 0∧H b=some (.rows 3 [[.isl 1 (vs.map bK), .isl 2 (aa.map Ar.row), .isl 5 (fs.map Fu.row)]])∧H b1=some (.rows 5 [[.str f.name, .isl 1 (f.params.map bK), .isl 1 (f.locs.map bK), .bool f.word, .isl 5 (f.body.map Sm.row)]])) (fun K y=>?_) ?_
   ·refine aA rfl ?_;simp only[RR,seval]
    simp only[hH1,RR,seval];refine aN c1 ?_;simp only[RR,seval]
    cases hs1:iO f.params with
    |false=>
     simp only[RR,seval];exact y _ _ ⟨_,rfl,by simp only[rH,hs1];rfl,rfl,hik,h5,h2,hHb,hH1⟩
    |true=>
     simp only[hH1,RR,seval];refine aN c2 ?_;simp only[RR,seval]
     cases hs2:iO f.locs with
     |false=>
      simp only[RR,seval];exact y _ _ ⟨_,rfl,by simp only[rH,hs1,hs2];rfl,rfl,hik,h5,h2,hHb,hH1⟩
     |true=>
      simp only[hH1,RR,seval];refine y _ _ ⟨_,rfl, ?_,rfl,hik,h5,h2,hHb,hH1⟩;rw[rH,hs1,hs2,Bool.true_and,Bool.true_and,Bool.eq_iff_iff];simp only[aW,Bool.not_eq_true',decide_eq_false_iff_not];omega
   rintro fr H ⟨t,h80,ht,h8,hik,h5,h2,hb,hb1⟩;refine aH _ h80 (fun hc=>?_) (fun hc=>?_)
   ·have hff:rH f=false:=by rw[hc]at ht;simpa using ht.symm
    refine aB fun K y=>?_;refine aA rfl ?_;simp only[RR,seval];apply y;clear y;refine aO ?_;simp only[aT,aX,bB,aL,bH,RR,seval];refine aZ.pure ?_;rw[hall2,hff];rfl
   have hff:rH f=true:=by
    rw[hc]at ht
    cases e:rH f with
    |true=>rfl
    |false=>rw[e]at ht;cases ht
   rw[hff,Bool.true_and]at hall2;simp only[rH,aS,aW]at hff;have l1:=(fX hff.1.1).1;have l2:=(fX hff.1.2).1;have w1:IntKind.wrap .i64 (x-f.params.length)=x-f.params.length:=aQ _ (by omega);have w2:IntKind.wrap .i64 (x-f.params.length-f.locs.length)=x-f.params.length-f.locs.length:=aQ _ (by omega);have hbd:=Td f.body (x-f.params.length-f.locs.length) 60;simp only[ite_self]at hbd;have hkf:k<70:=by omega
   refine aK ?_;simp only[aT];refine aA rfl ?_;simp only[h8,hb1,h5,aD,w1,w2,RR,seval];refine aN (Aw _ f.body (x-f.params.length-f.locs.length) 60 rfl hokf.body (by omega) (by omega) (by omega) (by omega)) ?_;simp only[RR,seval]
   try simp only[aT,aX]
   refine aA rfl ?_;simp only[RR,seval];simp only[hik,aT,RR,seval];rw[aQ _ (by omega)];refine hK2 (fs.length-(k+1)) _ _ (by omega) ⟨k+1,rfl,by omega,rfl,_,hall2,hlf, ?_,by omega,rfl,h2,hb⟩;by_cases hneg:x-f.params.length-f.locs.length<0
   ·rw[hbd.2.2 hneg];omega
   have:=hbd.2.1 (by omega);omega
  refine bF ?_;simp only[aT,aX,reduceIte];have hknk:k=fs.length:=by have:=aF hc;omega
  clear hc;subst hknk;rw[List.drop_length]at hall2 hlf;rw[kO]at hlf;exact y _ _ ⟨hall2,by rw[hlf];exact h5⟩
 rintro fr H ⟨hall2,h5⟩;refine aB fun K y=>?_;refine aA rfl ?_;simp only[RR,seval];simp only[h5,RR,seval];apply y;clear y;refine aO ?_;simp only[bB,aL,bH,RR,seval];refine aZ.pure ?_;rw[hall2,Bool.true_and]
end Go.Proofs.YtnfbbjhdflhmjaaGreatDoor
namespace Go.Proofs.YtnfbbjhdflhmjaaGreatDoor
open Go.Al
theorem vH {s:dD} (h:dL.contains s=true):dE s=false:=by
 cases s with
 |nil=>rfl
 |cons c r=>simp only[dE,h,Bool.not_true,Bool.and_false]
theorem El:cJ cK 68 [] (.isl 1 (dL.map fun w=>[.str w])):=by
 refine bI 2 [.tmp 0] Tryz.func68 rfl rfl rfl rfl ?_;refine aB fun K y=>?_;refine aA rfl ?_;simp only[RR,seval];apply y;clear y;refine aB fun K y=>?_;refine aA rfl ?_;simp only[RR,seval];refine cY ?_;simp only[RR,seval];apply y;clear y;refine aO ?_;simp only[bB,aL,bH,RR,seval];refine aZ.pure ?_;rfl
theorem lN (s:dD) (hs:cI s):cJ cK 44 [.str s] (.bool (dE s)):=by
 refine bI 20 [.tmp 2] Tryz.func44 rfl rfl rfl rfl ?_;refine aB fun K y=>?_;refine aA rfl ?_;simp only[RR,seval];apply y;clear y;refine aB fun K y=>?_;refine aA rfl ?_;simp only[RR,seval];refine aN El ?_;simp only[RR,seval];apply y;clear y;refine bQ (fun fr H=>fr 0= .str s) (fun K y=>?_) ?_
 ·refine aB fun K y=>?_;refine aA rfl ?_;simp only[RR,seval]
  apply y;clear y;refine aM ?_;refine cR (fun mm fr H=> ∃k:Nat,mm=dL.length-k∧k≤dL.length∧fr 4= .int .i64 k∧fr 0= .str s∧fr 3= .isl 1 (dL.map fun w=>[.str w])) (dL.length) ⟨0,rfl,Nat.zero_le _,rfl,rfl,rfl⟩ ?_;rintro mm fr H ⟨k,rfl,hkk,hik,h0,h3⟩ K2 hK2;refine aI ?_;refine aB fun K y=>?_;refine aA rfl ?_;simp only[RR,seval];simp only[hik,h3,aD,RR,seval];apply y;clear y;refine aH _ rfl (fun hc=>?_) (fun hc=>?_)
  ·have hltk:k<dL.length:=by have:=aC hc;omega
   clear hc;refine aK ?_;simp only[aT];refine aI ?_;refine aM ?_;have hg:(dL.map fun w=>[AV.str w])[k]?=some [.str dL[k]]:=by rw[cC,aG hltk];rfl
   have hmem:=bA hltk;generalize dL[k]=w at hg hmem;refine aB fun K y=>?_;refine aA rfl ?_;simp only[RR,seval];simp only[h0,h3,hik,hg,RR,seval];apply y;clear y;refine aH _ rfl (fun hc=>?_) (fun hc=>?_)
   ·refine aB fun K y=>?_;refine aA rfl ?_;simp only[RR,seval]
    apply y;clear y;refine aO ?_;simp only[aT,aX,bB,aL,bH,RR,seval];refine aZ.pure ?_;have :s=w:=aC hc;subst this;rw[vH (by simpa using hmem)]
   have hwl:dL.length=10:=rfl;refine aK ?_;simp only[aT,aX];refine aA rfl ?_;simp only[RR,seval];simp only[hik,aT,RR,seval];rw[aQ _ (by omega)];refine hK2 (dL.length-(k+1)) _ _ (by omega) ⟨k+1,rfl,by omega,rfl,h0,h3⟩
  refine bF ?_;simp only[aT,aX,reduceIte];have hknk:k=dL.length:=by have:=aF hc;omega
  clear hc;subst hknk;exact y _ _ h0
 rintro fr H h0;refine aB fun K y=>?_;refine aA rfl ?_;simp only[RR,seval];simp only[h0,seval];refine aN (Ou s hs) ?_;simp only[RR,seval];apply y;clear y;refine aO ?_;simp only[bB,aL,bH,RR,seval];refine aZ.pure ?_;rfl
theorem pJ (l:List dD) (hl:E5 l):cJ cK 43 [.isl 1 (l.map bK)] (.bool (l.all dE)):=by
 have hfit:l.length≤9223372036854775807:=hl.fit;refine bI 16 [.tmp 2] Tryz.func43 rfl rfl rfl rfl ?_;refine aB fun K y=>?_;refine aA rfl ?_;simp only[RR,seval];apply y;clear y;refine bQ (fun fr H=>l.all dE=true) (fun K y=>?_) ?_
 ·refine aB fun K y=>?_;refine aA rfl ?_;simp only[RR,seval]
  apply y;clear y;refine aM ?_;refine cR (fun mm fr H=> ∃k:Nat,mm=l.length-k∧k≤l.length∧fr 3= .int .i64 k∧fr 0= .isl 1 (l.map bK)∧l.all dE=(l.drop k).all dE) (l.length) ⟨0,rfl,Nat.zero_le _,rfl,rfl,by rw[List.drop_zero]⟩ ?_;rintro mm fr H ⟨k,rfl,hkk,hik,h0,hall⟩ K2 hK2;refine aI ?_;refine aB fun K y=>?_;refine aA rfl ?_;simp only[RR,seval];simp only[hik,h0,aD,RR,seval];apply y;clear y;refine aH _ rfl (fun hc=>?_) (fun hc=>?_)
  ·have hltk:k<l.length:=by have:=aC hc;omega
   clear hc;refine aK ?_;simp only[aT];refine aI ?_;refine aM ?_;have hg:=yE (aG hltk);have hf:=hl.all _ (bA hltk);rw[bD hltk,List.all_cons]at hall;generalize l[k]=s at hg hall hf;refine aB fun K y=>?_;refine aA rfl ?_;simp only[RR,seval];simp only[h0,hik,hg,RR,seval];refine aN (lN s hf) ?_;simp only[RR,seval];apply y;clear y;refine aH (!dE s) rfl (fun hc=>?_) (fun hc=>?_)
   ·refine aB fun K y=>?_;refine aA rfl ?_;simp only[RR,seval]
    apply y;clear y;refine aO ?_;simp only[aT,aX,bB,aL,bH,RR,seval];refine aZ.pure ?_;rw[hall,show dE s=false by simpa using hc];rfl
   refine aK ?_;simp only[aT,aX];rw[show dE s=true by simpa using hc,Bool.true_and]at hall;refine aA rfl ?_;simp only[RR,seval];simp only[hik,aT,RR,seval];rw[aQ _ (by omega)];refine hK2 (l.length-(k+1)) _ _ (by omega) ⟨k+1,rfl,by omega,rfl,h0,hall⟩
  refine bF ?_;simp only[aT,aX,reduceIte];have hknk:k=l.length:=by have:=aF hc;omega
  clear hc;subst hknk;rw[List.drop_length]at hall;exact y _ _ hall
 rintro fr H h0;refine aB fun K y=>?_;refine aA rfl ?_;simp only[RR,seval];apply y;clear y;refine aO ?_;simp only[bB,aL,bH,RR,seval];refine aZ.pure ?_;rw[h0]
def pO (e:Ex) (level:Int):Bool:=
 decide (level≤24)&&(decide (e.kind=6)||decide (e.op=0))&&(decide (e.kind=1)||decide (e.num=0))&&
  (if e.kind=2∨e.kind=3∨e.kind=4 then dE e.name else decide (e.name=[]))
def gY (k o:Int) (n:Nat):Bool:=
 if k=1∨k=2∨k=5 then decide (n=0)else if k=3∨k=7 then decide (n=1)else if k=4 then decide (n≤6)
 else if k=6 then decide (4≤o)&&decide (o≤15)&&decide (n=2)else if k=8∨k=9 then decide (n=2)else false
def eN:List Ex→Int→Bool
 |[],_=>true
 | .mk k o n s kids::l,level=>pO (.mk k o n s kids) level&&gY k o kids.length&&eN kids (level+1)&&eN l level
def iP (e:Ex) (level:Int):Bool:=pO e level&&gY e.kind e.op e.kids.length&&eN e.kids (level+1)
theorem gJ (e:Ex) (l:List Ex) (level:Int):eN (e::l) level=(iP e level&&eN l level):=by
 cases e;rw[eN];rfl
theorem iD (level:Int):eN [] level=true:=by rw[eN]
set_option maxHeartbeats 4000000 in
theorem qK (e:Ex) (he:e.ok) (level:Int) (h1: -1000000≤level) (h2:level≤1000000)
  (ih:level≤24→cJ cK 112 [.isl 5 (e.kids.map Ex.row), .int .i64 (level+1)] (.bool (eN e.kids (level+1)))):
  cJ cK 139 [.agg e.row, .int .i64 level] (.bool (iP e level)):=by
 have hname:=lN e.name he.name;have hrow:=e.row_eq;generalize he2:iP e level=res;rw[hrow];have hkids:e.kids.length≤9223372036854775807:=he.kids.fit;obtain⟨k,o,n,s,l⟩:=e;simp only[Ex.kind,Ex.op,Ex.num,Ex.name,Ex.kids]at ih hname hkids⊢;clear hrow he;have hX:iP (.mk k o n s l) level=((decide (level≤24)&&(decide (k=6)||decide (o=0))&&(decide (k=1)||decide (n=0)))&&(if k=2∨k=3∨k=4 then dE s else decide (s=[]))&&gY k o l.length&&eN l (level+1)):=rfl;refine bI 123 [.tmp 4] Tryz.func139 rfl rfl rfl rfl ?_;refine bQ (fun fr H=> ∃b,fr 1= .int .i64 level∧fr 2= .ptr 5 b 0 0∧H b=some (.rows 5 [[.int .i64 k, .int .i64 o, .int .u32 n, .str s, .isl 5 (l.map Ex.row)]])) (fun K y=>?_) ?_
 ·refine aA rfl ?_;simp only[RR,seval]
  refine aP fun b hb=>?_;simp only[RR,seval];exact y _ _ ⟨b,rfl,rfl,bO _ _ _⟩
 rintro fr H ⟨b,f1,f2,hb⟩;refine aI ?_;refine bQ (fun fr H=> ∃t,fr 28= .bool t∧(t= !(decide (level≤24)&&(decide (k=6)||decide (o=0))&&(decide (k=1)||decide (n=0))))∧fr 1= .int .i64 level∧fr 2= .ptr 5 b 0 0∧H b=some (.rows 5 [[.int .i64 k, .int .i64 o, .int .u32 n, .str s, .isl 5 (l.map Ex.row)]])) (fun K y=>?_) ?_
 ·refine aA rfl ?_;simp only[RR,seval]
  simp only[f1,RR,seval]
  repeat' ((first|refine aR (fun h=>?_) (fun h=>?_)|refine aV (fun h=>?_) (fun h=>?_))<;>simp only[h,f2,hb,RR,seval])
  all_goals
   refine y _ _ ⟨_,rfl, ?_,f1,f2,hb⟩;clear y;simp_all<;>omega
 rintro fr H ⟨t,f28,ht,f1,f2,hb⟩;refine aH _ f28 (fun hc=>?_) (fun hc=>?_)
 ·refine aB fun K y=>?_;refine aA rfl ?_;simp only[RR,seval]
  apply y;clear y;refine aO ?_;simp only[aT,bB,aL,bH,RR,seval];refine aZ.pure ?_;rw[←he2]
  have :(decide (level≤24)&&(decide (k=6)||decide (o=0))&&(decide (k=1)||decide (n=0)))=false:=by
   cases e:(decide (level≤24)&&(decide (k=6)||decide (o=0))&&(decide (k=1)||decide (n=0)))with
   |false=>rfl
   |true=>rw[e,hc]at ht;cases ht
  rw[hX,this];rfl
 have h3:(decide (level≤24)&&(decide (k=6)||decide (o=0))&&(decide (k=1)||decide (n=0)))=true:=by
  cases e:(decide (level≤24)&&(decide (k=6)||decide (o=0))&&(decide (k=1)||decide (n=0)))with
  |true=>rfl
  |false=>rw[e,hc]at ht;cases ht
 have hlev:level≤24:=by simp only[aS,aW]at h3;exact h3.1.1
 have hres:res=((if k=2∨k=3∨k=4 then dE s else decide (s=[]))&&gY k o l.length&&eN l (level+1)):=by
  rw[←he2,hX,h3,Bool.true_and]
 have ih2:=ih hlev;clear ht hc f28 t;refine aK ?_;simp only[aT];refine bQ (fun fr H=>fr 5= .bool (decide (k=2∨k=3∨k=4))∧fr 1= .int .i64 level∧fr 2= .ptr 5 b 0 0∧H b=some (.rows 5 [[.int .i64 k, .int .i64 o, .int .u32 n, .str s, .isl 5 (l.map Ex.row)]])) (fun K y=>?_) ?_
 ·refine aA rfl ?_;simp only[RR,seval]
  simp only[f2,hb,RR,seval]
  repeat' ((first|refine aR (fun h=>?_) (fun h=>?_)|refine aV (fun h=>?_) (fun h=>?_))<;>simp only[h,f2,hb,RR,seval])
  all_goals
   refine y _ _ ⟨?_,f1,f2,hb⟩;clear y;simp [upd];simp_all
 rintro fr H ⟨f5,f1,f2,hb⟩;refine aI ?_;refine bQ (fun fr H=> ∃t,fr 55= .bool t∧(t= !(if k=2∨k=3∨k=4 then dE s else decide (s=[])))∧fr 1= .int .i64 level∧fr 2= .ptr 5 b 0 0∧H b=some (.rows 5 [[.int .i64 k, .int .i64 o, .int .u32 n, .str s, .isl 5 (l.map Ex.row)]])) (fun K y=>?_) ?_
 ·by_cases hk:k=2∨k=3∨k=4
  ·have e1:decide (k=2∨k=3∨k=4)=true:=bG hk
   rw[e1]at f5;by_cases hsn:s=[]
   ·have e2:decide (s=[])=true:=bG hsn
    refine aA rfl ?_;simp only[RR,seval];simp only[f2,f5,hb,e2,RR,seval];exact y _ _ ⟨_,rfl,by rw[if_pos hk,hsn];rfl,f1,f2,hb⟩
   have e2:decide (s=[])=false:=aU hsn;refine aA rfl ?_;simp only[RR,seval];simp only[f2,f5,hb,e2,RR,seval];refine aN hname ?_;simp only[RR,seval];refine y _ _ ⟨_,rfl,by rw[if_pos hk],f1,f2,hb⟩
  have e1:decide (k=2∨k=3∨k=4)=false:=aU hk;rw[e1]at f5;by_cases hsn:s=[]
  ·have e2:decide (s=[])=true:=bG hsn
   refine aA rfl ?_;simp only[RR,seval];simp only[f2,f5,hb,e2,RR,seval];exact y _ _ ⟨_,rfl,by rw[if_neg hk,e2];rfl,f1,f2,hb⟩
  have e2:decide (s=[])=false:=aU hsn;refine aA rfl ?_;simp only[RR,seval];simp only[f2,f5,hb,e2,RR,seval];exact y _ _ ⟨_,rfl,by rw[if_neg hk,e2];rfl,f1,f2,hb⟩
 rintro fr H ⟨t,f55,ht,f1,f2,hb⟩;refine aH _ f55 (fun hc=>?_) (fun hc=>?_)
 ·refine aB fun K y=>?_;refine aA rfl ?_;simp only[RR,seval]
  apply y;clear y;refine aO ?_;simp only[aT,bB,aL,bH,RR,seval];refine aZ.pure ?_
  have :(if k=2∨k=3∨k=4 then dE s else decide (s=[]))=false:=by
   rw[hc]at ht
   cases e:(if k=2∨k=3∨k=4 then dE s else decide (s=[]))with
   |false=>rfl
   |true=>rw[e]at ht;cases ht
  rw[hres,this];rfl
 have hnm:(if k=2∨k=3∨k=4 then dE s else decide (s=[]))=true:=by
  rw[hc]at ht
  cases e:(if k=2∨k=3∨k=4 then dE s else decide (s=[]))with
  |true=>rfl
  |false=>rw[e]at ht;cases ht
 rw[hnm,Bool.true_and]at hres;clear ht hc f55 t h3 hnm he2;refine aK ?_;simp only[aT];refine aB fun K y=>?_;refine aA rfl ?_;simp only[RR,seval];simp only[f2,hb,aD,RR,seval];apply y;clear y;have w1:IntKind.wrap .i64 (level+1)=level+1:=aQ _ (by omega);have l0: ∀m:Nat,decide ((l.length:Int)=m)=decide (l.length=m):=fun m=>by rw[Bool.eq_iff_iff];simp only[aW];omega
 have l6:decide ((l.length:Int)≤6)=decide (l.length≤6):=by rw[Bool.eq_iff_iff];simp only[aW];omega
 have d0:decide ((l.length:Int)=0)=decide (l.length=0):=l0 0;have d1:decide ((l.length:Int)=1)=decide (l.length=1):=l0 1;have d2:decide ((l.length:Int)=2)=decide (l.length=2):=l0 2;clear l0;subst hres;by_cases k1:k=1
 ·subst k1
  repeat' (first|(refine aB fun K y=>?_;refine aA rfl ?_;simp only[f2,hb,d0,RR,seval];apply y;clear y)|(refine aI ?_)|(refine aM ?_)|(refine aH true rfl (fun _=>?_) (fun hc=>by cases hc))|(refine aH false rfl (fun hc=>by cases hc) (fun _=>?_))|(refine aK ?_;simp only[aT])|(refine bF ?_;simp only[aT,aX,reduceIte,Nat.reduceEqDiff])|(refine aA rfl ?_;simp only[f1,f2,hb,d0,aT,aX,RR,seval])|(refine aR (fun h=>?_) (fun h=>?_)<;>simp only[h,f1,f2,hb,d0,aT,aX,RR,seval])|(refine aV (fun h=>?_) (fun h=>?_)<;>simp only[h,f1,f2,hb,d0,aT,aX,RR,seval])|(refine aH _ rfl (fun h=>?_) (fun h=>?_))|(refine aO ?_;simp only[aT,aX,bB,aL,bH,RR,seval];refine aZ.pure ?_))
  cases l with
  |nil=>simp only[gY,iD];rfl
  |cons=>simp [gY]
 by_cases k1:k=2
 ·subst k1
  repeat' (first|(refine aB fun K y=>?_;refine aA rfl ?_;simp only[f2,hb,d0,RR,seval];apply y;clear y)|(refine aI ?_)|(refine aM ?_)|(refine aH true rfl (fun _=>?_) (fun hc=>by cases hc))|(refine aH false rfl (fun hc=>by cases hc) (fun _=>?_))|(refine aK ?_;simp only[aT])|(refine bF ?_;simp only[aT,aX,reduceIte,Nat.reduceEqDiff])|(refine aA rfl ?_;simp only[f1,f2,hb,d0,aT,aX,RR,seval])|(refine aR (fun h=>?_) (fun h=>?_)<;>simp only[h,f1,f2,hb,d0,aT,aX,RR,seval])|(refine aV (fun h=>?_) (fun h=>?_)<;>simp only[h,f1,f2,hb,d0,aT,aX,RR,seval])|(refine aH _ rfl (fun h=>?_) (fun h=>?_))|(refine aO ?_;simp only[aT,aX,bB,aL,bH,RR,seval];refine aZ.pure ?_))
  cases l with
  |nil=>simp only[gY,iD];rfl
  |cons=>simp [gY]
 by_cases k1:k=5
 ·subst k1
  repeat' (first|(refine aB fun K y=>?_;refine aA rfl ?_;simp only[f2,hb,d0,RR,seval];apply y;clear y)|(refine aI ?_)|(refine aM ?_)|(refine aH true rfl (fun _=>?_) (fun hc=>by cases hc))|(refine aH false rfl (fun hc=>by cases hc) (fun _=>?_))|(refine aK ?_;simp only[aT,aX])|(refine bF ?_;simp only[aT,aX,reduceIte,Nat.reduceEqDiff])|(refine aA rfl ?_;simp only[aT,RR,seval])|(refine aR (fun h=>?_) (fun h=>?_)<;>simp only[h,f1,f2,hb,d0,aT,aX,RR,seval])|(refine aV (fun h=>?_) (fun h=>?_)<;>simp only[h,f1,f2,hb,d0,aT,aX,RR,seval])|(refine aH _ rfl (fun h=>?_) (fun h=>?_))|(refine aO ?_;simp only[aT,aX,bB,aL,bH,RR,seval];refine aZ.pure ?_))
  cases l with
  |nil=>simp only[gY,iD];rfl
  |cons=>simp [gY]
 by_cases k1:k=3
 ·subst k1
  repeat' (first|(refine aB fun K y=>?_;refine aA rfl ?_;simp only[f2,hb,d1,RR,seval];apply y;clear y)|(refine aI ?_)|(refine aM ?_)|(refine aH true rfl (fun _=>?_) (fun hc=>by cases hc))|(refine aH false rfl (fun hc=>by cases hc) (fun _=>?_))|(refine aK ?_;simp only[aT])|(refine bF ?_;simp only[aT,aX,reduceIte,Nat.reduceEqDiff])|(refine aA rfl ?_;simp only[d1,aT,RR,seval])|(refine aR (fun h=>?_) (fun h=>?_)<;>simp only[h,f1,f2,hb,d1,w1,aT,aX,RR,seval])|(refine aV (fun h=>?_) (fun h=>?_)<;>simp only[h,f1,f2,hb,w1,aT,RR,seval])|(refine aH _ rfl (fun h=>?_) (fun h=>?_))|(refine aO ?_;simp only[aT,aX,bB,aL,bH,RR,seval];refine aZ.pure ?_)|(refine aN (ih2) ?_;simp only[aT,RR,seval]))
  all_goals simp [gY, *]
 by_cases k1:k=7
 ·subst k1
  repeat' (first|(refine aB fun K y=>?_;refine aA rfl ?_;simp only[f2,hb,d1,RR,seval];apply y;clear y)|(refine aI ?_)|(refine aM ?_)|(refine aH true rfl (fun _=>?_) (fun hc=>by cases hc))|(refine aH false rfl (fun hc=>by cases hc) (fun _=>?_))|(refine aK ?_;simp only[aT,aX])|(refine bF ?_;simp only[aT,aX,reduceIte,Nat.reduceEqDiff])|(refine aA rfl ?_;simp only[d1,aT,RR,seval])|(refine aR (fun h=>?_) (fun h=>?_)<;>simp only[h,f1,f2,hb,d1,w1,aT,aX,RR,seval])|(refine aV (fun h=>?_) (fun h=>?_)<;>simp only[h,f1,f2,hb,w1,aT,RR,seval])|(refine aH _ rfl (fun h=>?_) (fun h=>?_))|(refine aO ?_;simp only[aT,aX,bB,aL,bH,RR,seval];refine aZ.pure ?_)|(refine aN (ih2) ?_;simp only[aT,RR,seval]))
  all_goals simp [gY, *]
 by_cases k1:k=4
 ·subst k1
  repeat' (first|(refine aB fun K y=>?_;refine aA rfl ?_;simp only[f2,hb,l6,RR,seval];apply y;clear y)|(refine aI ?_)|(refine aM ?_)|(refine aH true rfl (fun _=>?_) (fun hc=>by cases hc))|(refine aH false rfl (fun hc=>by cases hc) (fun _=>?_))|(refine aK ?_;simp only[aT,aX])|(refine bF ?_;simp only[aT,aX,reduceIte,Nat.reduceEqDiff])|(refine aA rfl ?_;simp only[l6,aT,RR,seval])|(refine aR (fun h=>?_) (fun h=>?_)<;>simp only[h,f1,f2,hb,l6,w1,aT,aX,RR,seval])|(refine aV (fun h=>?_) (fun h=>?_)<;>simp only[h,f1,f2,hb,w1,aT,RR,seval])|(refine aH _ rfl (fun h=>?_) (fun h=>?_))|(refine aO ?_;simp only[aT,aX,bB,aL,bH,RR,seval];refine aZ.pure ?_)|(refine aN (ih2) ?_;simp only[aT,RR,seval]))
  all_goals simp [gY, *]
 by_cases k1:k=6
 ·subst k1
  repeat' (first|(refine aB fun K y=>?_;refine aA rfl ?_;simp only[f2,hb,RR,seval];apply y;clear y)|(refine aI ?_)|(refine aM ?_)|(refine aH true rfl (fun _=>?_) (fun hc=>by cases hc))|(refine aH false rfl (fun hc=>by cases hc) (fun _=>?_))|(refine aK ?_;simp only[aT,aX])|(refine bF ?_;simp only[aT,aX,reduceIte,Nat.reduceEqDiff])|(refine aA rfl ?_;simp only[f2,hb,aT,RR,seval])|(refine aR (fun h=>?_) (fun h=>?_)<;>simp only[h,f1,f2,hb,d2,w1,aT,aX,RR,seval])|(refine aV (fun h=>?_) (fun h=>?_)<;>simp only[h,f1,f2,hb,d2,w1,aT,RR,seval])|(refine aH _ rfl (fun h=>?_) (fun h=>?_))|(refine aO ?_;simp only[aT,aX,bB,aL,bH,RR,seval];refine aZ.pure ?_)|(refine aN (ih2) ?_;simp only[aT,RR,seval]))
  all_goals simp [gY, *]
 by_cases k1:k=8
 ·subst k1
  repeat' (first|(refine aB fun K y=>?_;refine aA rfl ?_;simp only[f2,hb,d2,RR,seval];apply y;clear y)|(refine aI ?_)|(refine aM ?_)|(refine aH true rfl (fun _=>?_) (fun hc=>by cases hc))|(refine aH false rfl (fun hc=>by cases hc) (fun _=>?_))|(refine aK ?_;simp only[aT])|(refine bF ?_;simp only[aT,aX,reduceIte,Nat.reduceEqDiff])|(refine aA rfl ?_;simp only[d2,aT,RR,seval])|(refine aR (fun h=>?_) (fun h=>?_)<;>simp only[h,f1,f2,hb,d2,w1,aT,aX,RR,seval])|(refine aV (fun h=>?_) (fun h=>?_)<;>simp only[h,f1,f2,hb,w1,aT,RR,seval])|(refine aH _ rfl (fun h=>?_) (fun h=>?_))|(refine aO ?_;simp only[aT,aX,bB,aL,bH,RR,seval];refine aZ.pure ?_)|(refine aN (ih2) ?_;simp only[aT,RR,seval]))
  all_goals simp [gY, *]
 by_cases k1:k=9
 ·subst k1
  repeat' (first|(refine aB fun K y=>?_;refine aA rfl ?_;simp only[f2,hb,d2,RR,seval];apply y;clear y)|(refine aI ?_)|(refine aM ?_)|(refine aH true rfl (fun _=>?_) (fun hc=>by cases hc))|(refine aH false rfl (fun hc=>by cases hc) (fun _=>?_))|(refine aK ?_;simp only[aT,aX])|(refine bF ?_;simp only[aT,aX,reduceIte,Nat.reduceEqDiff])|(refine aA rfl ?_;simp only[d2,aT,RR,seval])|(refine aR (fun h=>?_) (fun h=>?_)<;>simp only[h,f1,f2,hb,d2,w1,aT,aX,RR,seval])|(refine aV (fun h=>?_) (fun h=>?_)<;>simp only[h,f1,f2,hb,w1,aT,RR,seval])|(refine aH _ rfl (fun h=>?_) (fun h=>?_))|(refine aO ?_;simp only[aT,aX,bB,aL,bH,RR,seval];refine aZ.pure ?_)|(refine aN (ih2) ?_;simp only[aT,RR,seval]))
  all_goals simp [gY, *]
 have g1:decide (k=1)=false:=aU (by assumption);have g2:decide (k=2)=false:=aU (by assumption);have g3:decide (k=3)=false:=aU (by assumption);have g4:decide (k=4)=false:=aU (by assumption);have g5:decide (k=5)=false:=aU (by assumption);have g6:decide (k=6)=false:=aU (by assumption);have g7:decide (k=7)=false:=aU (by assumption);have g8:decide (k=8)=false:=aU (by assumption);have g9:decide (k=9)=false:=aU (by assumption)
 repeat' (first|(refine aB fun K y=>?_;refine aA rfl ?_;simp only[f2,hb,g1,g2,g3,g4,g6,g8,RR,seval];apply y;clear y)|(refine aI ?_)|(refine aM ?_)|(refine aH true rfl (fun _=>?_) (fun hc=>by cases hc))|(refine aH false rfl (fun hc=>by cases hc) (fun _=>?_))|(refine aK ?_;simp only[aT,aX])|(refine bF ?_;simp only[aT,aX,reduceIte,Nat.reduceEqDiff])|(refine aA rfl ?_;simp only[g5,g7,g9,aT,RR,seval])|(refine aR (fun h=>?_) (fun h=>?_)<;>simp only[h,f1,f2,hb,g1,g2,g3,g4,g5,g6,g7,g8,g9,aT,aX,RR,seval])|(refine aV (fun h=>?_) (fun h=>?_)<;>simp only[h,f1,f2,hb,g1,g2,g3,g4,g5,g6,g7,g8,g9,aT,aX,RR,seval])|(refine aH _ rfl (fun h=>?_) (fun h=>?_))|(refine aO ?_;simp only[bB,aL,bH,RR,seval];refine aZ.pure ?_))
 simp [gY, *]
theorem qJ (n:Nat): ∀(l:List Ex) (level:Int),iA l=n→xQ l→ -1000000≤level→level≤1000000→cJ cK 112 [.isl 5 (l.map Ex.row), .int .i64 level] (.bool (eN l level)):=by
 induction n using Nat.strongRecOn with
 |_ n ih=>
  intro l level hn hok h1 h2;have hfit:l.length≤9223372036854775807:=hok.fit;refine bI 19 [.tmp 4] Tryz.func112 rfl rfl rfl rfl ?_;refine aB fun K y=>?_;refine aA rfl ?_;simp only[RR,seval];apply y;clear y;refine bQ (fun fr H=>eN l level=true) (fun K y=>?_) ?_
  ·refine aB fun K y=>?_;refine aA rfl ?_;simp only[RR,seval]
   apply y;clear y;refine aM ?_;refine cR (fun mm fr H=> ∃k:Nat,mm=l.length-k∧k≤l.length∧fr 5= .int .i64 k∧fr 0= .isl 5 (l.map Ex.row)∧fr 1= .int .i64 level∧eN l level=eN (l.drop k) level) (l.length) ⟨0,rfl,Nat.zero_le _,rfl,rfl,rfl,by rw[List.drop_zero]⟩ ?_;rintro mm fr H ⟨k,rfl,hkk,hik,h0,f1,hall⟩ K2 hK2;refine aI ?_;refine aB fun K y=>?_;refine aA rfl ?_;simp only[RR,seval];simp only[hik,h0,aD,RR,seval];apply y;clear y;refine aH _ rfl (fun hc=>?_) (fun hc=>?_)
   ·have hltk:k<l.length:=by have:=aC hc;omega
    clear hc;refine aK ?_;simp only[aT];refine aI ?_;refine aM ?_;have hg:=kB Ex.row (aG hltk);have hmem:=bA hltk;have he:=hok.all _ hmem;have hsz:=iI hmem;rw[bD hltk,gJ]at hall;generalize l[k]=e at hg hall he hsz;have hse:=e.sz_eq;have hl5:=e.row_len;have hcon:=qK e he level h1 h2 (fun hle=>ih _ (by omega) e.kids (level+1) rfl he.kids (by omega) (by omega));refine aB fun K y=>?_;refine aA rfl ?_;simp only[RR,seval];simp only[h0,f1,hik,hg,hl5,RR,seval];rw[List.take_of_length_le (by omega)];refine aN hcon ?_;simp only[RR,seval];apply y;clear y;refine aH (!iP e level) rfl (fun hc=>?_) (fun hc=>?_)
    ·refine aB fun K y=>?_;refine aA rfl ?_;simp only[RR,seval]
     apply y;clear y;refine aO ?_;simp only[aT,aX,bB,aL,bH,RR,seval];refine aZ.pure ?_;rw[hall,show iP e level=false by simpa using hc];rfl
    refine aK ?_;simp only[aT,aX];rw[show iP e level=true by simpa using hc,Bool.true_and]at hall;refine aA rfl ?_;simp only[RR,seval];simp only[hik,aT,RR,seval];rw[aQ _ (by omega)];refine hK2 (l.length-(k+1)) _ _ (by omega) ⟨k+1,rfl,by omega,rfl,h0,f1,hall⟩
   refine bF ?_;simp only[aT,aX,reduceIte];have hknk:k=l.length:=by have:=aF hc;omega
   clear hc;subst hknk;rw[List.drop_length,iD]at hall;exact y _ _ hall
  rintro fr H h0;refine aB fun K y=>?_;refine aA rfl ?_;simp only[RR,seval];apply y;clear y;refine aO ?_;simp only[bB,aL,bH,RR,seval];refine aZ.pure ?_;rw[h0]
end Go.Proofs.YtnfbbjhdflhmjaaGreatDoor
namespace Go.Proofs.YtnfbbjhdflhmjaaGreatDoor
open Go.Al
def rP (s:Sm) (level:Int):Bool:=
 decide (level≤24)&&(decide (s.kind=4)||decide (s.els.length=0))&&(decide (s.kind=4)||decide (s.kind=5)||decide (s.thn.length=0))&&
  (if s.kind=1∨s.kind=2∨s.kind=6 then dE s.name else decide (s.name=[]))
def uO (k:Int) (n:Nat):Bool:=
 if k=1∨k=3∨k=4∨k=5 then decide (n=1)else if k=2 then decide (n=2)else if k=6 then decide (n≤6)else if k=7 then decide (n≤1)else false
def eH:List Sm→Int→Bool
 |[],_=>true
 | .mk k s es t u::l,level=>rP (.mk k s es t u) level&&uO k es.length&&eN es (level+1)&&eH t (level+1)&&eH u (level+1)&&eH l level
def iZ (s:Sm) (level:Int):Bool:=rP s level&&uO s.kind s.es.length&&eN s.es (level+1)&&eH s.thn (level+1)&&eH s.els (level+1)
theorem gI (e:Sm) (l:List Sm) (level:Int):eH (e::l) level=(iZ e level&&eH l level):=by
 cases e;rw[eH];rfl
theorem lB (level:Int):eH [] level=true:=by rw[eH]
def fO (a:Ar):Bool:=dE a.name&&decide (1≤a.size)&&decide (a.size≤4096)
def eT (f:Fu):Bool:=dE f.name&&decide (f.params.length≤6)&&f.params.all dE&&f.locs.all dE&&eH f.body 1
def eD (p:Pg):Bool:=p.vars.all dE&&decide (1≤p.funs.length)&&decide (p.funs.length≤64)&&p.arrs.all fO&&p.funs.all eT
theorem Zu {a b:Bool} (h:a= !b) (ha:a=true):b=false:=by subst ha;cases b<;>simp_all
theorem Zr {a b:Bool} (h:a= !b) (ha:a=false):b=true:=by subst ha;cases b<;>simp_all
set_option maxHeartbeats 4000000 in
theorem zT (e:Sm) (he:e.ok) (level:Int) (h1: -1000000≤level) (h2:level≤1000000)
  (ih:level≤24→ ∀x,x=e.thn∨x=e.els→cJ cK 45 [.isl 5 (x.map Sm.row), .int .i64 (level+1)] (.bool (eH x (level+1)))):
  cJ cK 70 [.agg e.row, .int .i64 level] (.bool (iZ e level)):=by
 have hname:=lN e.name he.name;have hexs:=fun h=>qJ _ e.es (level+1) rfl he.es (by omega) h;have hrow:=e.row_eq;generalize he2:iZ e level=res;rw[hrow];have f3:e.es.length≤9223372036854775807:=he.es.fit;have f4:e.thn.length≤9223372036854775807:=he.thn.fit;have f5:e.els.length≤9223372036854775807:=he.els.fit;obtain⟨k,s,l,tt,u⟩:=e;simp only[Sm.kind,Sm.name,Sm.es,Sm.thn,Sm.els]at ih hname hexs f3 f4 f5⊢;clear hrow he;have hX:iZ (.mk k s l tt u) level=((decide (level≤24)&&(decide (k=4)||decide (u.length=0))&&(decide (k=4)||decide (k=5)||decide (tt.length=0)))&&(if k=1∨k=2∨k=6 then dE s else decide (s=[]))&&uO k l.length&&eN l (level+1)&&eH tt (level+1)&&eH u (level+1)):=rfl;rw[he2]at hX;clear he2;refine bI 110 [.tmp 4] Tryz.func70 rfl rfl rfl rfl ?_;refine bQ (fun fr H=> ∃b,fr 1= .int .i64 level∧fr 2= .ptr 5 b 0 0∧H b=some (.rows 5 [[.int .i64 k, .str s, .isl 5 (l.map Ex.row), .isl 5 (tt.map Sm.row), .isl 5 (u.map Sm.row)]])) (fun K y=>?_) ?_
 ·refine aA rfl ?_;simp only[RR,seval]
  refine aP fun b hb=>?_;simp only[RR,seval];exact y _ _ ⟨b,rfl,rfl,bO _ _ _⟩
 rintro fr H ⟨b,f1,f2,hb⟩;refine aI ?_;refine bQ (fun fr H=> ∃t,fr 36= .bool t∧(t= !(decide (level≤24)&&(decide (k=4)||decide (u.length=0))&&(decide (k=4)||decide (k=5)||decide (tt.length=0))))∧fr 1= .int .i64 level∧fr 2= .ptr 5 b 0 0∧H b=some (.rows 5 [[.int .i64 k, .str s, .isl 5 (l.map Ex.row), .isl 5 (tt.map Sm.row), .isl 5 (u.map Sm.row)]])) (fun K y=>?_) ?_
 ·have d1:decide ((0:Int)<u.length)= !decide (u.length=0):=by rw[Bool.eq_iff_iff];simp only[aW,Bool.not_eq_true',decide_eq_false_iff_not];omega
  have d2:decide ((0:Int)<tt.length)= !decide (tt.length=0):=by rw[Bool.eq_iff_iff];simp only[aW,Bool.not_eq_true',decide_eq_false_iff_not];omega
  refine aA rfl ?_;simp only[RR,seval];simp only[f1,RR,seval]
  repeat' ((first|refine aR (fun h=>?_) (fun h=>?_)|refine aV (fun h=>?_) (fun h=>?_))<;>simp only[h,f2,hb,aD,d1,d2,RR,seval])
  all_goals
   refine y _ _ ⟨_,rfl, ?_,f1,f2,hb⟩;clear y;simp_all<;>omega
 rintro fr H ⟨t,f36,ht,f1,f2,hb⟩;refine aH _ f36 (fun hc=>?_) (fun hc=>?_)
 ·have:=Zu ht hc
  refine aB fun K y=>?_;refine aA rfl ?_;simp only[RR,seval];apply y;clear y;refine aO ?_;simp only[aT,bB,aL,bH,RR,seval];refine aZ.pure ?_;rw[hX,this];rfl
 have h3:=Zr ht hc;have hlev:level≤24:=by simp only[aS,aW]at h3;exact h3.1.1
 rw[h3,Bool.true_and]at hX;have ih2:=ih hlev;have hexs2:=hexs (by omega);clear ht hc f36 t;refine aK ?_;simp only[aT];refine bQ (fun fr H=>fr 5= .bool (decide (k=1∨k=2∨k=6))∧fr 1= .int .i64 level∧fr 2= .ptr 5 b 0 0∧H b=some (.rows 5 [[.int .i64 k, .str s, .isl 5 (l.map Ex.row), .isl 5 (tt.map Sm.row), .isl 5 (u.map Sm.row)]])) (fun K y=>?_) ?_
 ·refine aA rfl ?_;simp only[RR,seval]
  simp only[f2,hb,RR,seval]
  repeat' ((first|refine aR (fun h=>?_) (fun h=>?_)|refine aV (fun h=>?_) (fun h=>?_))<;>simp only[h,f2,hb,RR,seval])
  all_goals
   refine y _ _ ⟨?_,f1,f2,hb⟩;clear y;simp [upd];simp_all
 rintro fr H ⟨f5,f1,f2,hb⟩;refine aI ?_;refine bQ (fun fr H=> ∃t,fr 63= .bool t∧(t= !(if k=1∨k=2∨k=6 then dE s else decide (s=[])))∧fr 1= .int .i64 level∧fr 2= .ptr 5 b 0 0∧H b=some (.rows 5 [[.int .i64 k, .str s, .isl 5 (l.map Ex.row), .isl 5 (tt.map Sm.row), .isl 5 (u.map Sm.row)]])) (fun K y=>?_) ?_
 ·by_cases hk:k=1∨k=2∨k=6
  ·have e1:decide (k=1∨k=2∨k=6)=true:=bG hk
   rw[e1]at f5;by_cases hsn:s=[]
   ·have e2:decide (s=[])=true:=bG hsn
    refine aA rfl ?_;simp only[RR,seval];simp only[f2,f5,hb,e2,RR,seval];exact y _ _ ⟨_,rfl,by rw[if_pos hk,hsn];rfl,f1,f2,hb⟩
   have e2:decide (s=[])=false:=aU hsn;refine aA rfl ?_;simp only[RR,seval];simp only[f2,f5,hb,e2,RR,seval];refine aN hname ?_;simp only[RR,seval];refine y _ _ ⟨_,rfl,by rw[if_pos hk],f1,f2,hb⟩
  have e1:decide (k=1∨k=2∨k=6)=false:=aU hk;rw[e1]at f5;by_cases hsn:s=[]
  ·have e2:decide (s=[])=true:=bG hsn
   refine aA rfl ?_;simp only[RR,seval];simp only[f2,f5,hb,e2,RR,seval];exact y _ _ ⟨_,rfl,by rw[if_neg hk,e2];rfl,f1,f2,hb⟩
  have e2:decide (s=[])=false:=aU hsn;refine aA rfl ?_;simp only[RR,seval];simp only[f2,f5,hb,e2,RR,seval];exact y _ _ ⟨_,rfl,by rw[if_neg hk,e2];rfl,f1,f2,hb⟩
 rintro fr H ⟨t,f63,ht,f1,f2,hb⟩;refine aH _ f63 (fun hc=>?_) (fun hc=>?_)
 ·have:=Zu ht hc
  refine aB fun K y=>?_;refine aA rfl ?_;simp only[RR,seval];apply y;clear y;refine aO ?_;simp only[aT,bB,aL,bH,RR,seval];refine aZ.pure ?_;rw[hX,this];rfl
 rw[Zr ht hc,Bool.true_and]at hX;clear ht hc f63 t h3;refine aK ?_;simp only[aT];refine aB fun K y=>?_;refine aA rfl ?_;simp only[RR,seval];simp only[f2,hb,aD,RR,seval];apply y;clear y;refine aB fun K y=>?_;refine aA rfl ?_;simp only[RR,seval];apply y;clear y;have w1:IntKind.wrap .i64 (level+1)=level+1:=aQ _ (by omega);refine bQ (fun fr H=>fr 7= .bool (uO k l.length)∧fr 1= .int .i64 level∧fr 2= .ptr 5 b 0 0∧H b=some (.rows 5 [[.int .i64 k, .str s, .isl 5 (l.map Ex.row), .isl 5 (tt.map Sm.row), .isl 5 (u.map Sm.row)]])) (fun K y=>?_) ?_
 ·have d1:decide ((l.length:Int)=1)=decide (l.length=1):=by rw[Bool.eq_iff_iff];simp only[aW];omega
  have d2:decide ((l.length:Int)=2)=decide (l.length=2):=by rw[Bool.eq_iff_iff];simp only[aW];omega
  have d6:decide ((l.length:Int)≤6)=decide (l.length≤6):=by rw[Bool.eq_iff_iff];simp only[aW];omega
  have d7:decide ((l.length:Int)≤1)=decide (l.length≤1):=by rw[Bool.eq_iff_iff];simp only[aW];omega
  by_cases k1:k=1
  ·subst k1
   repeat' (first|(refine aB fun K y=>?_;refine aA rfl ?_;simp only[f2,hb,RR,seval];apply y;clear y)|(refine aI ?_)|(refine aM ?_)|(refine aH true rfl (fun _=>?_) (fun hc=>by cases hc))|(refine aH false rfl (fun hc=>by cases hc) (fun _=>?_))|(refine aK ?_;simp only[aT])|(refine bF ?_;simp only[aT,aX,reduceIte,Nat.reduceEqDiff])|(refine aA rfl ?_;simp only[d1,aT,aX,RR,seval])|(refine aR (fun h=>?_) (fun h=>?_)<;>simp only[h,f2,hb,d1,aT,aX,RR,seval])|(refine aV (fun h=>?_) (fun h=>?_)<;>simp only[h,f2,hb,d1,aT,aX,RR,seval])|(refine aH _ rfl (fun h=>?_) (fun h=>?_))|(refine aO ?_;simp only[aT,aX,bB,aL,bH,oK,f2,hb,d1,RR,seval];refine aZ.pure ?_))
   exact y _ _ ⟨rfl,f1,f2,hb⟩
  by_cases k1:k=3
  ·subst k1
   repeat' (first|(refine aB fun K y=>?_;refine aA rfl ?_;simp only[f2,hb,RR,seval];apply y;clear y)|(refine aI ?_)|(refine aM ?_)|(refine aH true rfl (fun _=>?_) (fun hc=>by cases hc))|(refine aH false rfl (fun hc=>by cases hc) (fun _=>?_))|(refine aK ?_;simp only[aT])|(refine bF ?_;simp only[aT,aX,reduceIte,Nat.reduceEqDiff])|(refine aA rfl ?_;simp only[d1,aT,aX,RR,seval])|(refine aR (fun h=>?_) (fun h=>?_)<;>simp only[h,f2,hb,d1,aT,aX,RR,seval])|(refine aV (fun h=>?_) (fun h=>?_)<;>simp only[h,f2,hb,d1,aT,aX,RR,seval])|(refine aH _ rfl (fun h=>?_) (fun h=>?_))|(refine aO ?_;simp only[aT,aX,bB,aL,bH,oK,f2,hb,d1,RR,seval];refine aZ.pure ?_))
   exact y _ _ ⟨rfl,f1,f2,hb⟩
  by_cases k1:k=4
  ·subst k1
   repeat' (first|(refine aB fun K y=>?_;refine aA rfl ?_;simp only[f2,hb,RR,seval];apply y;clear y)|(refine aI ?_)|(refine aM ?_)|(refine aH true rfl (fun _=>?_) (fun hc=>by cases hc))|(refine aH false rfl (fun hc=>by cases hc) (fun _=>?_))|(refine aK ?_;simp only[aT])|(refine bF ?_;simp only[aT,aX,reduceIte,Nat.reduceEqDiff])|(refine aA rfl ?_;simp only[d1,aT,aX,RR,seval])|(refine aR (fun h=>?_) (fun h=>?_)<;>simp only[h,f2,hb,d1,aT,aX,RR,seval])|(refine aV (fun h=>?_) (fun h=>?_)<;>simp only[h,f2,hb,d1,aT,aX,RR,seval])|(refine aH _ rfl (fun h=>?_) (fun h=>?_))|(refine aO ?_;simp only[aT,aX,bB,aL,bH,oK,f2,hb,d1,RR,seval];refine aZ.pure ?_))
   exact y _ _ ⟨rfl,f1,f2,hb⟩
  by_cases k1:k=5
  ·subst k1
   repeat' (first|(refine aB fun K y=>?_;refine aA rfl ?_;simp only[f2,hb,RR,seval];apply y;clear y)|(refine aI ?_)|(refine aM ?_)|(refine aH true rfl (fun _=>?_) (fun hc=>by cases hc))|(refine aH false rfl (fun hc=>by cases hc) (fun _=>?_))|(refine aK ?_;simp only[aT,aX])|(refine bF ?_;simp only[aT,aX,reduceIte,Nat.reduceEqDiff])|(refine aA rfl ?_;simp only[d1,aT,aX,RR,seval])|(refine aR (fun h=>?_) (fun h=>?_)<;>simp only[h,f2,hb,d1,aT,aX,RR,seval])|(refine aV (fun h=>?_) (fun h=>?_)<;>simp only[h,f2,hb,d1,aT,aX,RR,seval])|(refine aH _ rfl (fun h=>?_) (fun h=>?_))|(refine aO ?_;simp only[aT,aX,bB,aL,bH,oK,f2,hb,d1,RR,seval];refine aZ.pure ?_))
   exact y _ _ ⟨rfl,f1,f2,hb⟩
  by_cases k1:k=2
  ·subst k1
   repeat' (first|(refine aB fun K y=>?_;refine aA rfl ?_;simp only[f2,hb,RR,seval];apply y;clear y)|(refine aI ?_)|(refine aM ?_)|(refine aH true rfl (fun _=>?_) (fun hc=>by cases hc))|(refine aH false rfl (fun hc=>by cases hc) (fun _=>?_))|(refine aK ?_;simp only[aT,aX])|(refine bF ?_;simp only[aT,aX,reduceIte,Nat.reduceEqDiff])|(refine aA rfl ?_;simp only[d2,aT,aX,RR,seval])|(refine aR (fun h=>?_) (fun h=>?_)<;>simp only[h,f2,hb,d2,aT,aX,RR,seval])|(refine aV (fun h=>?_) (fun h=>?_)<;>simp only[h,f2,hb,d2,aT,aX,RR,seval])|(refine aH _ rfl (fun h=>?_) (fun h=>?_))|(refine aO ?_;simp only[aT,aX,bB,aL,bH,oK,f2,hb,d2,RR,seval];refine aZ.pure ?_))
   exact y _ _ ⟨rfl,f1,f2,hb⟩
  by_cases k1:k=6
  ·subst k1
   repeat' (first|(refine aB fun K y=>?_;refine aA rfl ?_;simp only[f2,hb,RR,seval];apply y;clear y)|(refine aI ?_)|(refine aM ?_)|(refine aH true rfl (fun _=>?_) (fun hc=>by cases hc))|(refine aH false rfl (fun hc=>by cases hc) (fun _=>?_))|(refine aK ?_;simp only[aT,aX])|(refine bF ?_;simp only[aT,aX,reduceIte,Nat.reduceEqDiff])|(refine aA rfl ?_;simp only[d6,aT,aX,RR,seval])|(refine aR (fun h=>?_) (fun h=>?_)<;>simp only[h,f2,hb,d6,aT,aX,RR,seval])|(refine aV (fun h=>?_) (fun h=>?_)<;>simp only[h,f2,hb,d6,aT,aX,RR,seval])|(refine aH _ rfl (fun h=>?_) (fun h=>?_))|(refine aO ?_;simp only[aT,aX,bB,aL,bH,oK,f2,hb,d6,RR,seval];refine aZ.pure ?_))
   exact y _ _ ⟨rfl,f1,f2,hb⟩
  by_cases k1:k=7
  ·subst k1
   repeat' (first|(refine aB fun K y=>?_;refine aA rfl ?_;simp only[f2,hb,RR,seval];apply y;clear y)|(refine aI ?_)|(refine aM ?_)|(refine aH true rfl (fun _=>?_) (fun hc=>by cases hc))|(refine aH false rfl (fun hc=>by cases hc) (fun _=>?_))|(refine aK ?_;simp only[aT,aX])|(refine bF ?_;simp only[aT,aX,reduceIte,Nat.reduceEqDiff])|(refine aA rfl ?_;simp only[d7,aT,aX,RR,seval])|(refine aR (fun h=>?_) (fun h=>?_)<;>simp only[h,f2,hb,d7,aT,aX,RR,seval])|(refine aV (fun h=>?_) (fun h=>?_)<;>simp only[h,f2,hb,d7,aT,aX,RR,seval])|(refine aH _ rfl (fun h=>?_) (fun h=>?_))|(refine aO ?_;simp only[aT,aX,bB,aL,bH,oK,f2,hb,d7,RR,seval];refine aZ.pure ?_))
   exact y _ _ ⟨rfl,f1,f2,hb⟩
  have g1:decide (k=1)=false:=aU (by assumption);have g2:decide (k=2)=false:=aU (by assumption);have g3:decide (k=3)=false:=aU (by assumption);have g4:decide (k=4)=false:=aU (by assumption);have g5:decide (k=5)=false:=aU (by assumption);have g6:decide (k=6)=false:=aU (by assumption);have g7:decide (k=7)=false:=aU (by assumption)
  repeat' (first|(refine aB fun K y=>?_;refine aA rfl ?_;simp only[f2,hb,g1,g2,g3,g4,g6,g7,RR,seval];apply y;clear y)|(refine aI ?_)|(refine aM ?_)|(refine aH true rfl (fun _=>?_) (fun hc=>by cases hc))|(refine aH false rfl (fun hc=>by cases hc) (fun _=>?_))|(refine aK ?_;simp only[aT,aX])|(refine bF ?_;simp only[aT,aX,reduceIte,Nat.reduceEqDiff])|(refine aA rfl ?_;simp only[g5,aT,RR,seval])|(refine aR (fun h=>?_) (fun h=>?_)<;>simp only[h,f2,hb,g1,g2,g3,g4,g5,g6,g7,aT,aX,RR,seval])|(refine aV (fun h=>?_) (fun h=>?_)<;>simp only[h,f2,hb,g1,g2,g3,g4,g5,g6,g7,aT,aX,RR,seval])|(refine aH _ rfl (fun h=>?_) (fun h=>?_))|(refine aO ?_;simp only[aT,aX,bB,aL,bH,oK,f2,hb,g1,g2,g3,g4,g5,g6,g7,RR,seval];refine aZ.pure ?_))
  exact y _ _ ⟨by simp [uO, *,upd],f1,f2,hb⟩
 rintro fr H ⟨f7,f1,f2,hb⟩;subst hX
 cases hf:uO k l.length with
 |false=>
  rw[hf]at f7
  repeat' (first|(refine aB fun K y=>?_;refine aA rfl ?_;simp only[f7,RR,seval];apply y;clear y)|(refine aI ?_)|(refine aM ?_)|(refine aH true rfl (fun _=>?_) (fun hc=>by cases hc))|(refine aH false rfl (fun hc=>by cases hc) (fun _=>?_))|(refine aK ?_;simp only[aT,aX])|(refine bF ?_;simp only[aT,aX,reduceIte,Nat.reduceEqDiff])|(refine aA rfl ?_;simp only[f7,aT,aX,RR,seval])|(refine aR (fun h=>?_) (fun h=>?_)<;>simp only[h,f7,aT,aX,RR,seval])|(refine aV (fun h=>?_) (fun h=>?_)<;>simp only[h,f7,aT,aX,RR,seval])|(refine aH _ rfl (fun h=>?_) (fun h=>?_))|(refine aO ?_;simp only[bB,aL,bH,RR,seval];refine aZ.pure ?_))
  rfl
 |true=>
  rw[hf]at f7
  cases hx:eN l (level+1)with
  |false=>
   rw[hx]at hexs2
   repeat' (first|(refine aB fun K y=>?_;refine aA rfl ?_;simp only[f1,f2,f7,hb,w1,RR,seval];apply y;clear y)|(refine aI ?_)|(refine aM ?_)|(refine aH true rfl (fun _=>?_) (fun hc=>by cases hc))|(refine aH false rfl (fun hc=>by cases hc) (fun _=>?_))|(refine aK ?_;simp only[aT,aX])|(refine bF ?_;simp only[aT,aX,reduceIte,Nat.reduceEqDiff])|(refine aA rfl ?_;simp only[f1,f2,f7,hb,w1,RR,seval])|(refine aR (fun h=>?_) (fun h=>?_)<;>simp only[h,f1,f2,f7,hb,w1,aT,aX,RR,seval])|(refine aV (fun h=>?_) (fun h=>?_)<;>simp only[h,f1,f2,f7,hb,w1,aT,aX,RR,seval])|(refine aH _ rfl (fun h=>?_) (fun h=>?_))|(refine aO ?_;simp only[bB,aL,bH,RR,seval];refine aZ.pure ?_)|(refine aN (hexs2) ?_;simp only[aT,RR,seval]))
   rfl
  |true=>
   rw[hx]at hexs2;have c1:=ih2 tt (.inl rfl);have c2:=ih2 u (.inr rfl);refine aB fun K y=>?_;refine aA rfl ?_;simp only[RR,seval];simp only[f1,f2,f7,hb,w1,RR,seval];refine aN hexs2 ?_;simp only[RR,seval];simp only[f1,f2,hb,w1,RR,seval];refine aN c1 ?_;simp only[RR,seval]
   cases ht:eH tt (level+1)with
   |false=>
    simp only[RR,seval];apply y;clear y;refine aO ?_;simp only[bB,aL,bH,RR,seval];refine aZ.pure ?_;rw[ht];rfl
   |true=>
    simp only[f1,f2,hb,w1,RR,seval];refine aN c2 ?_;simp only[RR,seval];apply y;clear y;refine aO ?_;simp only[bB,aL,bH,RR,seval];refine aZ.pure ?_;rw[ht];rfl
theorem zS (n:Nat): ∀(l:List Sm) (level:Int),fE l=n→Bq l→ -1000000≤level→level≤1000000→cJ cK 45 [.isl 5 (l.map Sm.row), .int .i64 level] (.bool (eH l level)):=by
 induction n using Nat.strongRecOn with
 |_ n ih=>
  intro l level hn hok h1 h2;have hfit:l.length≤9223372036854775807:=hok.fit;refine bI 19 [.tmp 4] Tryz.func45 rfl rfl rfl rfl ?_;refine aB fun K y=>?_;refine aA rfl ?_;simp only[RR,seval];apply y;clear y;refine bQ (fun fr H=>eH l level=true) (fun K y=>?_) ?_
  ·refine aB fun K y=>?_;refine aA rfl ?_;simp only[RR,seval]
   apply y;clear y;refine aM ?_;refine cR (fun mm fr H=> ∃k:Nat,mm=l.length-k∧k≤l.length∧fr 5= .int .i64 k∧fr 0= .isl 5 (l.map Sm.row)∧fr 1= .int .i64 level∧eH l level=eH (l.drop k) level) (l.length) ⟨0,rfl,Nat.zero_le _,rfl,rfl,rfl,by rw[List.drop_zero]⟩ ?_;rintro mm fr H ⟨k,rfl,hkk,hik,h0,f1,hall⟩ K2 hK2;refine aI ?_;refine aB fun K y=>?_;refine aA rfl ?_;simp only[RR,seval];simp only[hik,h0,aD,RR,seval];apply y;clear y;refine aH _ rfl (fun hc=>?_) (fun hc=>?_)
   ·have hltk:k<l.length:=by have:=aC hc;omega
    clear hc;refine aK ?_;simp only[aT];refine aI ?_;refine aM ?_;have hg:=kB Sm.row (aG hltk);have hmem:=bA hltk;have he:=hok.all _ hmem;have hsz:=fT hmem;rw[bD hltk,gI]at hall;generalize l[k]=e at hg hall he hsz;have hse:=e.sz_eq;have hl5:=e.row_len
    have hcon:=zT e he level h1 h2 (fun hle x hx=>by
     rcases hx with rfl|rfl
     ·exact ih _ (by omega) e.thn (level+1) rfl he.thn (by omega) (by omega)
     exact ih _ (by omega) e.els (level+1) rfl he.els (by omega) (by omega))
    refine aB fun K y=>?_;refine aA rfl ?_;simp only[RR,seval];simp only[h0,f1,hik,hg,hl5,RR,seval];rw[List.take_of_length_le (by omega)];refine aN hcon ?_;simp only[RR,seval];apply y;clear y;refine aH (!iZ e level) rfl (fun hc=>?_) (fun hc=>?_)
    ·refine aB fun K y=>?_;refine aA rfl ?_;simp only[RR,seval]
     apply y;clear y;refine aO ?_;simp only[aT,aX,bB,aL,bH,RR,seval];refine aZ.pure ?_;rw[hall,show iZ e level=false by simpa using hc];rfl
    refine aK ?_;simp only[aT,aX];rw[show iZ e level=true by simpa using hc,Bool.true_and]at hall;refine aA rfl ?_;simp only[RR,seval];simp only[hik,aT,RR,seval];rw[aQ _ (by omega)];refine hK2 (l.length-(k+1)) _ _ (by omega) ⟨k+1,rfl,by omega,rfl,h0,f1,hall⟩
   refine bF ?_;simp only[aT,aX,reduceIte];have hknk:k=l.length:=by have:=aF hc;omega
   clear hc;subst hknk;rw[List.drop_length,lB]at hall;exact y _ _ hall
  rintro fr H h0;refine aB fun K y=>?_;refine aA rfl ?_;simp only[RR,seval];apply y;clear y;refine aO ?_;simp only[bB,aL,bH,RR,seval];refine aZ.pure ?_;rw[h0]
end Go.Proofs.YtnfbbjhdflhmjaaGreatDoor
namespace Go.Proofs.YtnfbbjhdflhmjaaGreatDoor
open Go.Al
set_option maxHeartbeats 4000000 in
theorem Cz (p:Pg) (hp:p.ok) (hsize: ∀f∈p.funs,f.params.length≤1100000):cJ cK 23 [p.av] (.bool (eD p)):=by
 have fv:p.vars.length≤9223372036854775807:=hp.vars.fit;have fa:p.arrs.length≤9223372036854775807:=hp.afit;have ff:p.funs.length≤9223372036854775807:=hp.ffit;have hnv:=pJ p.vars hp.vars;obtain⟨vs,aa,fs⟩:=p;simp only at fv fa ff hnv;simp only[Pg.av,Pg.row];refine bI 95 [.tmp 2] Tryz.func23 rfl rfl rfl rfl ?_;refine bQ (fun fr H=> ∃b,fr 1= .ptr 3 b 0 0∧H b=some (.rows 3 [[.isl 1 (vs.map bK), .isl 2 (aa.map Ar.row), .isl 5 (fs.map Fu.row)]])) (fun K y=>?_) ?_
 ·refine aA rfl ?_;simp only[RR,seval]
  refine aP fun b hb=>?_;simp only[RR,seval];exact y _ _ ⟨b,rfl,bO _ _ _⟩
 rintro fr H ⟨b,h2,hb⟩;have hR:eD ⟨vs,aa,fs⟩=((vs.all dE&&decide (1≤fs.length)&&decide (fs.length≤64))&&aa.all fO&&fs.all eT):=rfl;generalize eD ⟨vs,aa,fs⟩=res at hR⊢;refine aI ?_;refine bQ (fun fr H=> ∃t,fr 21= .bool t∧(t= !(vs.all dE&&decide (1≤fs.length)&&decide (fs.length≤64)))∧fr 1= .ptr 3 b 0 0∧H b=some (.rows 3 [[.isl 1 (vs.map bK), .isl 2 (aa.map Ar.row), .isl 5 (fs.map Fu.row)]])) (fun K y=>?_) ?_
 ·have d1:decide ((fs.length:Int)<1)= !decide (1≤fs.length):=by rw[Bool.eq_iff_iff];simp only[aW,Bool.not_eq_true',decide_eq_false_iff_not];omega
  have d2:decide ((64:Int)<fs.length)= !decide (fs.length≤64):=by rw[Bool.eq_iff_iff];simp only[aW,Bool.not_eq_true',decide_eq_false_iff_not];omega
  refine aA rfl ?_;simp only[RR,seval];simp only[h2,hb,RR,seval];refine aN hnv ?_;simp only[RR,seval]
  cases hv:vs.all dE with
  |false=>
   simp only[RR,seval];exact y _ _ ⟨_,rfl,by rw[hv];rfl,h2,hb⟩
  |true=>
   simp only[h2,hb,aD,d1,RR,seval]
   cases h1:decide (1≤fs.length)with
   |false=>
    simp only[RR,seval];exact y _ _ ⟨_,rfl,by rw[hv,h1];rfl,h2,hb⟩
   |true=>
    simp only[h2,hb,aD,d2,RR,seval];exact y _ _ ⟨_,rfl,by rw[hv,h1];rfl,h2,hb⟩
 rintro fr H ⟨t,h21,ht,h2,hb⟩;refine aH _ h21 (fun hc=>?_) (fun hc=>?_)
 ·have:=Zu ht hc
  refine aB fun K y=>?_;refine aA rfl ?_;simp only[RR,seval];apply y;clear y;refine aO ?_;simp only[aT,bB,aL,bH,RR,seval];refine aZ.pure ?_;rw[hR,this];rfl
 have h3:=Zr ht hc;rw[h3,Bool.true_and]at hR;clear ht hc h21 t;refine aK ?_;simp only[aT];refine bQ (fun fr H=>aa.all fO=true∧fr 1= .ptr 3 b 0 0∧H b=some (.rows 3 [[.isl 1 (vs.map bK), .isl 2 (aa.map Ar.row), .isl 5 (fs.map Fu.row)]])) (fun K y=>?_) ?_
 ·refine aB fun K y=>?_;refine aA rfl ?_;simp only[RR,seval]
  apply y;clear y;refine aM ?_;refine cR (fun mm fr H=> ∃k:Nat,mm=aa.length-k∧k≤aa.length∧fr 3= .int .i64 k∧aa.all fO=(aa.drop k).all fO∧fr 1= .ptr 3 b 0 0∧H b=some (.rows 3 [[.isl 1 (vs.map bK), .isl 2 (aa.map Ar.row), .isl 5 (fs.map Fu.row)]])) (aa.length) ⟨0,rfl,Nat.zero_le _,rfl,by rw[List.drop_zero],h2,hb⟩ ?_;rintro mm fr H ⟨k,rfl,hkk,hik,hall,h2,hb⟩ K2 hK2;refine aI ?_;refine aB fun K y=>?_;refine aA rfl ?_;simp only[RR,seval];simp only[hik,h2,hb,aD,RR,seval];apply y;clear y;refine aH _ rfl (fun hc=>?_) (fun hc=>?_)
  ·have hltk:k<aa.length:=by have:=aC hc;omega
   clear hc;refine aK ?_;simp only[aT];refine aI ?_;refine aM ?_;have hg:=Dt (aG hltk);have hoka:=hp.arrs _ (bA hltk);rw[bD hltk,List.all_cons]at hall;generalize aa[k]=a at hg hall hoka;have hcon:=lN a.name hoka.1;have d1:decide (a.size<1)= !decide (1≤a.size):=by rw[Bool.eq_iff_iff];simp only[aW,Bool.not_eq_true',decide_eq_false_iff_not];omega
   have d2:decide (4096<a.size)= !decide (a.size≤4096):=by rw[Bool.eq_iff_iff];simp only[aW,Bool.not_eq_true',decide_eq_false_iff_not];omega
   refine bQ (fun fr H=>fr 54= .bool (!fO a)∧fr 3= .int .i64 k∧fr 1= .ptr 3 b 0 0∧H b=some (.rows 3 [[.isl 1 (vs.map bK), .isl 2 (aa.map Ar.row), .isl 5 (fs.map Fu.row)]])) (fun K y=>?_) ?_
   ·refine aA rfl ?_;simp only[RR,seval]
    simp only[h2,hb,hik,hg,RR,seval];refine aN hcon ?_;simp only[RR,seval]
    cases hv:dE a.name with
    |false=>
     simp only[RR,seval];exact y _ _ ⟨by simp only[fO,hv];rfl,hik,h2,hb⟩
    |true=>
     simp only[h2,hb,hik,hg,d1,RR,seval]
     cases h1:decide (1≤a.size)with
     |false=>
      simp only[RR,seval];exact y _ _ ⟨by simp only[fO,hv,h1];rfl,hik,h2,hb⟩
     |true=>
      simp only[h2,hb,hik,hg,d2,RR,seval];exact y _ _ ⟨by simp only[fO,hv,h1];rfl,hik,h2,hb⟩
   rintro fr H ⟨h54,hik,h2,hb⟩;refine aH (!fO a) h54 (fun hc=>?_) (fun hc=>?_)
   ·refine aB fun K y=>?_;refine aA rfl ?_;simp only[RR,seval]
    apply y;clear y;refine aO ?_;simp only[aT,aX,bB,aL,bH,RR,seval];refine aZ.pure ?_;rw[hR,hall,show fO a=false by simpa using hc];rfl
   refine aK ?_;simp only[aT,aX];rw[show fO a=true by simpa using hc,Bool.true_and]at hall;refine aA rfl ?_;simp only[RR,seval];simp only[hik,aT,RR,seval];rw[aQ _ (by omega)];refine hK2 (aa.length-(k+1)) _ _ (by omega) ⟨k+1,rfl,by omega,rfl,hall,h2,hb⟩
  refine bF ?_;simp only[aT,aX,reduceIte];have hknk:k=aa.length:=by have:=aF hc;omega
  clear hc;subst hknk;rw[List.drop_length]at hall;exact y _ _ ⟨hall,h2,hb⟩
 rintro fr H ⟨hall,h2,hb⟩;rw[hall,Bool.true_and]at hR;refine bQ (fun fr H=>fs.all eT=true) (fun K y=>?_) ?_
 ·refine aB fun K y=>?_;refine aA rfl ?_;simp only[RR,seval]
  apply y;clear y;refine aM ?_;refine cR (fun mm fr H=> ∃k:Nat,mm=fs.length-k∧k≤fs.length∧fr 4= .int .i64 k∧fs.all eT=(fs.drop k).all eT∧fr 1= .ptr 3 b 0 0∧H b=some (.rows 3 [[.isl 1 (vs.map bK), .isl 2 (aa.map Ar.row), .isl 5 (fs.map Fu.row)]])) (fs.length) ⟨0,rfl,Nat.zero_le _,rfl,by rw[List.drop_zero],h2,hb⟩ ?_;rintro mm fr H ⟨k,rfl,hkk,hik,hall2,h2,hb⟩ K2 hK2;refine aI ?_;refine aB fun K y=>?_;refine aA rfl ?_;simp only[RR,seval];simp only[hik,h2,hb,aD,RR,seval];apply y;clear y;refine aH _ rfl (fun hc=>?_) (fun hc=>?_)
  ·have hltk:k<fs.length:=by have:=aC hc;omega
   clear hc;refine aK ?_;simp only[aT];refine aI ?_;refine aM ?_;have hg:=kK (aG hltk);have hokf:=hp.funs _ (bA hltk);have hsz:=hsize _ (bA hltk);rw[bD hltk,List.all_cons]at hall2;generalize fs[k]=f at hg hall2 hokf hsz;refine aB fun K y=>?_;refine aA rfl ?_;simp only[RR,seval];simp only[h2,hb,hik,hg,RR,seval];refine aP fun b1 hb1=>?_;simp only[RR,seval];apply y;clear y;have hne:b≠b1:=fun e=>by rw[e,hb1]at hb;cases hb
   have hH1:(upd (upd H b1 (some (.rows 5 [[.str [], .nsl, .nsl, .bool false, .nsl]]))) b1 (some (.rows 5 [[.str f.name, .isl 1 (f.params.map bK), .isl 1 (f.locs.map bK), .bool f.word, .isl 5 (f.body.map Sm.row)]]))) b1=some (.rows 5 [[.str f.name, .isl 1 (f.params.map bK), .isl 1 (f.locs.map bK), .bool f.word, .isl 5 (f.body.map Sm.row)]]):=bO _ _ _;have hHb:(upd (upd H b1 (some (.rows 5 [[.str [], .nsl, .nsl, .bool false, .nsl]]))) b1 (some (.rows 5 [[.str f.name, .isl 1 (f.params.map bK), .isl 1 (f.locs.map bK), .bool f.word, .isl 5 (f.body.map Sm.row)]]))) b=some (.rows 3 [[.isl 1 (vs.map bK), .isl 2 (aa.map Ar.row), .isl 5 (fs.map Fu.row)]]):=by simp only[upd,if_neg hne];exact hb
   generalize(upd (upd H b1 (some (.rows 5 [[.str [], .nsl, .nsl, .bool false, .nsl]]))) b1 (some (.rows 5 [[.str f.name, .isl 1 (f.params.map bK), .isl 1 (f.locs.map bK), .bool f.word, .isl 5 (f.body.map Sm.row)]])))=H1 at hH1 hHb⊢;have c0:=lN f.name hokf.name;have c1:=pJ f.params hokf.params;have c2:=pJ f.locs hokf.locs;have c3:=zS _ f.body 1 rfl hokf.body (by omega) (by omega);have d1:decide ((6:Int)<f.params.length)= !decide (f.params.length≤6):=by rw[Bool.eq_iff_iff];simp only[aW,Bool.not_eq_true',decide_eq_false_iff_not];omega
   refine bQ (fun fr H=>fr 94= .bool (!eT f)∧fr 4= .int .i64 k∧fr 1= .ptr 3 b 0 0∧H b=some (.rows 3 [[.isl 1 (vs.map bK), .isl 2 (aa.map Ar.row), .isl 5 (fs.map Fu.row)]])) (fun K y=>?_) ?_
   ·refine aA rfl ?_;simp only[RR,seval]
    simp only[hH1,RR,seval];refine aN c0 ?_;simp only[RR,seval]
    cases v0:dE f.name with
    |false=>
     simp only[RR,seval];exact y _ _ ⟨by simp only[eT,v0];rfl,hik,h2,hHb⟩
    |true=>
     simp only[hH1,aD,d1,RR,seval]
     cases v1:decide (f.params.length≤6)with
     |false=>
      simp only[RR,seval];exact y _ _ ⟨by simp only[eT,v0,v1];rfl,hik,h2,hHb⟩
     |true=>
      simp only[hH1,RR,seval];refine aN c1 ?_;simp only[RR,seval]
      cases v2:f.params.all dE with
      |false=>
       simp only[RR,seval];exact y _ _ ⟨by simp only[eT,v0,v1,v2];rfl,hik,h2,hHb⟩
      |true=>
       simp only[hH1,RR,seval];refine aN c2 ?_;simp only[RR,seval]
       cases v3:f.locs.all dE with
       |false=>
        simp only[RR,seval];exact y _ _ ⟨by simp only[eT,v0,v1,v2,v3];rfl,hik,h2,hHb⟩
       |true=>
        simp only[hH1,RR,seval];refine aN c3 ?_;simp only[RR,seval];exact y _ _ ⟨by simp only[eT,v0,v1,v2,v3];rfl,hik,h2,hHb⟩
   rintro fr H ⟨h94,hik,h2,hb⟩;refine aH (!eT f) h94 (fun hc=>?_) (fun hc=>?_)
   ·refine aB fun K y=>?_;refine aA rfl ?_;simp only[RR,seval]
    apply y;clear y;refine aO ?_;simp only[aT,aX,bB,aL,bH,RR,seval];refine aZ.pure ?_;rw[hR,hall2,show eT f=false by simpa using hc];rfl
   refine aK ?_;simp only[aT,aX];rw[show eT f=true by simpa using hc,Bool.true_and]at hall2;refine aA rfl ?_;simp only[RR,seval];simp only[hik,aT,RR,seval];rw[aQ _ (by omega)];refine hK2 (fs.length-(k+1)) _ _ (by omega) ⟨k+1,rfl,by omega,rfl,hall2,h2,hb⟩
  refine bF ?_;simp only[aT,aX,reduceIte];have hknk:k=fs.length:=by have:=aF hc;omega
  clear hc;subst hknk;rw[List.drop_length]at hall2;exact y _ _ hall2
 rintro fr H h0;refine aB fun K y=>?_;refine aA rfl ?_;simp only[RR,seval];apply y;clear y;refine aO ?_;simp only[bB,aL,bH,RR,seval];refine aZ.pure ?_;rw[hR,h0]
end Go.Proofs.YtnfbbjhdflhmjaaGreatDoor
