/- The types that are met, and the environment: two tables are looked at. The names of the language: the judge's small functions of chapter 13. Chapter 14, the judge's: may an expression be? Chapter 14, the judge's: may a program be? Chapter 14, the judge's: may a program be? Second part. -/
import Derived.Test.YtaecpjgmcffliaaGreatDoorSy1
import Derived.Test.YtaecpjgmcffliaaGreatDoorAl4
import Derived.Test.YtaecpjgmcffliaaGreatDoorRows
set_option linter.unusedSimpArgs false
set_option linter.unusedVariables false
set_option maxRecDepth 10000
namespace Go.Proofs.YtaecpjgmcffliaaGreatDoor
open Go.Al
def dA:List (List UInt8):=[[118,97,114],[97,114,114,97,121],[102,117,110,99],[119,111,114,100],[105,102],[101,108,115,101],[119,104,105,108,101],[114,101,116,117,114,110],[112,117,116],[103,101,116]]
def gE:List (List UInt8):=[[60,60],[62,62],[61,61],[38,38],[124,124],[40],[41],[123],[125],[91],[93],[59],[44],[61],[43],[45],[42],[47],[37],[38],[124],[94],[60],[33]]
def Zo:List AV:=[.int .u64 1, .int .u64 10, .int .u64 100, .int .u64 1000, .int .u64 10000, .int .u64 100000, .int .u64 1000000, .int .u64 10000000, .int .u64 100000000, .int .u64 1000000000, .int .u64 10000000000, .int .u64 100000000000, .int .u64 1000000000000, .int .u64 10000000000000, .int .u64 100000000000000, .int .u64 1000000000000000, .int .u64 10000000000000000, .int .u64 100000000000000000, .int .u64 1000000000000000000, .int .u64 10000000000000000000]
def D7:Nat→Option (List AV)
 |0=>some (dA.map .str)
 |1=>some Zo
 |_=>none
noncomputable def cG:fR:=⟨Tryz.prog,D7⟩
theorem Y7:cG.G=D7:=rfl
theorem cX:cG.P.follows .mixedOrders=true:=by kernel_rfl
theorem AE:bP cG.P 3=some ⟨.int .i64,1,8, .int .i64 0⟩:=by kernel_rfl
theorem AD:bP cG.P 4=some ⟨.bool,1,1, .bool false⟩:=by kernel_rfl
theorem AC:bP cG.P 5=some ⟨.int .u8,1,1, .int .u8 0⟩:=by kernel_rfl
theorem AB:bP cG.P 9=some ⟨.str,1,16, .str []⟩:=by kernel_rfl
theorem V7:bP cG.P 22=some ⟨.slice 9,1,24, .nsl⟩:=by kernel_rfl
theorem V6:bP cG.P 23=some ⟨.slice 82,1,24, .nsl⟩:=by kernel_rfl
theorem V5:bP cG.P 24=some ⟨.slice 58,1,24, .nsl⟩:=by kernel_rfl
theorem V4:bP cG.P 26=some ⟨.strct [(22,0),(23,1),(24,2)],3,72, .agg [.nsl, .nsl, .nsl]⟩:=by kernel_rfl
theorem V3:bP cG.P 29=some ⟨.int .i64,1,8, .int .i64 0⟩:=by kernel_rfl
theorem V2:bP cG.P 34=some ⟨.slice 46,1,24, .nsl⟩:=by kernel_rfl
theorem V1:bP cG.P 36=some ⟨.strct [(34,0),(3,1)],2,32, .agg [.nsl, .int .i64 0]⟩:=by kernel_rfl
theorem V0:bP cG.P 40=some ⟨.strct [(3,0),(9,1),(3,2)],3,32, .agg [.int .i64 0, .str [], .int .i64 0]⟩:=by kernel_rfl
theorem U9:bP cG.P 45=some ⟨.slice 3,1,24, .nsl⟩:=by kernel_rfl
theorem U8:bP cG.P 46=some ⟨.int .u32,1,4, .int .u32 0⟩:=by kernel_rfl
theorem U7:bP cG.P 48=some ⟨.array 4 46,4,16, .agg [.int .u32 0, .int .u32 0, .int .u32 0, .int .u32 0]⟩:=by kernel_rfl
theorem U6:bP cG.P 50=some ⟨.strct [(3,0),(45,1),(9,2),(3,3),(48,4),(9,8)],9,88, .agg [.int .i64 0, .nsl, .str [], .int .i64 0, .int .u32 0, .int .u32 0, .int .u32 0, .int .u32 0, .str []]⟩:=by kernel_rfl
theorem U5:bP cG.P 56=some ⟨.slice 64,1,24, .nsl⟩:=by kernel_rfl
theorem U4:bP cG.P 58=some ⟨.strct [(9,0),(22,1),(22,2),(4,3),(56,4)],5,96, .agg [.str [], .nsl, .nsl, .bool false, .nsl]⟩:=by kernel_rfl
theorem U3:bP cG.P 60=some ⟨.slice 62,1,24, .nsl⟩:=by kernel_rfl
theorem U2:bP cG.P 62=some ⟨.strct [(3,0),(3,1),(46,2),(9,3),(60,4)],5,64, .agg [.int .i64 0, .int .i64 0, .int .u32 0, .str [], .nsl]⟩:=by kernel_rfl
theorem U1:bP cG.P 64=some ⟨.strct [(3,0),(9,1),(60,2),(56,3),(56,4)],5,96, .agg [.int .i64 0, .str [], .nsl, .nsl, .nsl]⟩:=by kernel_rfl
theorem U0:bP cG.P 68=some ⟨.ptr 71,1,8, .npt⟩:=by kernel_rfl
theorem T9:bP cG.P 69=some ⟨.slice 5,1,24, .nsl⟩:=by kernel_rfl
theorem T8:bP cG.P 71=some ⟨.strct [(68,0),(69,1)],2,32, .agg [.npt, .nsl]⟩:=by kernel_rfl
theorem Vn:bP cG.P 73=some ⟨.strct [(71,0)],2,32, .agg [.npt, .nsl]⟩:=by kernel_rfl
theorem T0:bP cG.P 74=some ⟨.func,1,8, .nfn⟩:=by kernel_rfl
theorem S9:bP cG.P 82=some ⟨.strct [(9,0),(3,1)],2,24, .agg [.str [], .int .i64 0]⟩:=by kernel_rfl
theorem S8:bP cG.P 86=some ⟨.ptr 89,1,8, .npt⟩:=by kernel_rfl
theorem S7:bP cG.P 87=some ⟨.slice 34,1,24, .nsl⟩:=by kernel_rfl
theorem S5:bP cG.P 89=some ⟨.strct [(26,0),(9,3),(3,4),(34,5),(87,6),(69,7),(3,8),(3,9),(3,10)],11,192, .agg [.nsl, .nsl, .nsl, .str [], .int .i64 0, .nsl, .nsl, .nsl, .int .i64 0, .int .i64 0, .int .i64 0]⟩:=by kernel_rfl
theorem S4:bP cG.P 91=some ⟨.array 16 46,16,64, .agg [.int .u32 0, .int .u32 0, .int .u32 0, .int .u32 0, .int .u32 0, .int .u32 0, .int .u32 0, .int .u32 0, .int .u32 0, .int .u32 0, .int .u32 0, .int .u32 0, .int .u32 0, .int .u32 0, .int .u32 0, .int .u32 0]⟩:=by kernel_rfl
theorem S3:bP cG.P 93=some ⟨.strct [(3,0),(91,1),(34,17),(3,18),(9,19),(3,20),(3,21)],22,136, .agg [.int .i64 0, .int .u32 0, .int .u32 0, .int .u32 0, .int .u32 0, .int .u32 0, .int .u32 0, .int .u32 0, .int .u32 0, .int .u32 0, .int .u32 0, .int .u32 0, .int .u32 0, .int .u32 0, .int .u32 0, .int .u32 0, .int .u32 0, .nsl, .int .i64 0, .str [], .int .i64 0, .int .i64 0]⟩:=by kernel_rfl
theorem Yq:bP cG.P 108=some ⟨.ptr 73,1,8, .npt⟩:=by kernel_rfl
theorem Yp:bP cG.P 110=some ⟨.ptr 5,1,8, .npt⟩:=by kernel_rfl
theorem Yo:bP cG.P 113=some ⟨.slice 159,1,24, .nsl⟩:=by kernel_rfl
theorem Yn:bP cG.P 116=some ⟨.ptr 118,1,8, .npt⟩:=by kernel_rfl
theorem Ym:bP cG.P 118=some ⟨.strct [(113,0),(3,1),(4,2)],3,40, .agg [.nsl, .int .i64 0, .bool false]⟩:=by kernel_rfl
theorem Yk:bP cG.P 120=some ⟨.ptr 122,1,8, .npt⟩:=by kernel_rfl
theorem Yj:bP cG.P 122=some ⟨.strct [(3,0),(34,1),(4,2),(46,3)],4,40, .agg [.int .i64 0, .nsl, .bool false, .int .u32 0]⟩:=by kernel_rfl
theorem Yi:bP cG.P 136=some ⟨.other,1,8, .npt⟩:=by kernel_rfl
theorem Yh:bP cG.P 139=some ⟨.map 9 149,1,8, .nmp⟩:=by kernel_rfl
theorem Yg:bP cG.P 144=some ⟨.strct [(139,0),(139,1)],2,16, .agg [.nmp, .nmp]⟩:=by kernel_rfl
theorem Ye:bP cG.P 147=some ⟨.strct [(3,0),(9,1),(3,2)],3,32, .agg [.int .i64 0, .str [], .int .i64 0]⟩:=by kernel_rfl
theorem Yd:bP cG.P 149=some ⟨.strct [(3,0),(3,1)],2,16, .agg [.int .i64 0, .int .i64 0]⟩:=by kernel_rfl
theorem Yc:bP cG.P 151=some ⟨.func,1,8, .nfn⟩:=by kernel_rfl
theorem Yb:bP cG.P 152=some ⟨.ptr 210,1,8, .npt⟩:=by kernel_rfl
theorem Ya:bP cG.P 159=some ⟨.strct [(3,0),(9,1),(46,2),(3,3)],4,40, .agg [.int .i64 0, .str [], .int .u32 0, .int .i64 0]⟩:=by kernel_rfl
theorem Xz:bP cG.P 166=some ⟨.slice 231,1,24, .nsl⟩:=by kernel_rfl
theorem Xy:bP cG.P 167=some ⟨.slice 4,1,24, .nsl⟩:=by kernel_rfl
theorem Xx:bP cG.P 171=some ⟨.strct [(93,0),(69,22),(166,23),(167,24),(34,25),(9,26),(45,27)],28,272, .agg [.int .i64 0, .int .u32 0, .int .u32 0, .int .u32 0, .int .u32 0, .int .u32 0, .int .u32 0, .int .u32 0, .int .u32 0, .int .u32 0, .int .u32 0, .int .u32 0, .int .u32 0, .int .u32 0, .int .u32 0, .int .u32 0, .int .u32 0, .nsl, .int .i64 0, .str [], .int .i64 0, .int .i64 0, .nsl, .nsl, .nsl, .nsl, .str [], .nsl]⟩:=by kernel_rfl
theorem Xw:bP cG.P 172=some ⟨.int .u64,1,8, .int .u64 0⟩:=by kernel_rfl
theorem Xv:bP cG.P 175=some ⟨.int .u64,1,8, .int .u64 0⟩:=by kernel_rfl
theorem Xu:bP cG.P 176=some ⟨.array 8 46,8,32, .agg [.int .u32 0, .int .u32 0, .int .u32 0, .int .u32 0, .int .u32 0, .int .u32 0, .int .u32 0, .int .u32 0]⟩:=by kernel_rfl
theorem Xt:bP cG.P 178=some ⟨.slice 247,1,24, .nsl⟩:=by kernel_rfl
theorem Xs:bP cG.P 180=some ⟨.strct [(3,0),(178,1)],2,32, .agg [.int .i64 0, .nsl]⟩:=by kernel_rfl
theorem Xr:bP cG.P 183=some ⟨.slice 255,1,24, .nsl⟩:=by kernel_rfl
theorem Xq:bP cG.P 185=some ⟨.strct [(3,0),(183,1)],2,32, .agg [.int .i64 0, .nsl]⟩:=by kernel_rfl
theorem Xp:bP cG.P 188=some ⟨.slice 262,1,24, .nsl⟩:=by kernel_rfl
theorem Xo:bP cG.P 193=some ⟨.slice 283,1,24, .nsl⟩:=by kernel_rfl
theorem Xn:bP cG.P 195=some ⟨.strct [(3,0),(193,1)],2,32, .agg [.int .i64 0, .nsl]⟩:=by kernel_rfl
theorem Xm:bP cG.P 197=some ⟨.func,1,8, .nfn⟩:=by kernel_rfl
theorem Xl:bP cG.P 205=some ⟨.func,1,8, .nfn⟩:=by kernel_rfl
theorem Xk:bP cG.P 206=some ⟨.map 9 58,1,8, .nmp⟩:=by kernel_rfl
theorem Xj:bP cG.P 207=some ⟨.func,1,8, .nfn⟩:=by kernel_rfl
theorem Xi:bP cG.P 208=some ⟨.array 10 207,10,80, .agg [.nfn, .nfn, .nfn, .nfn, .nfn, .nfn, .nfn, .nfn, .nfn, .nfn]⟩:=by kernel_rfl
theorem Xh:bP cG.P 210=some ⟨.strct [(206,0),(208,1)],11,88, .agg [.nmp, .nfn, .nfn, .nfn, .nfn, .nfn, .nfn, .nfn, .nfn, .nfn, .nfn]⟩:=by kernel_rfl
theorem Xg:bP cG.P 215=some ⟨.slice 220,1,24, .nsl⟩:=by kernel_rfl
theorem Xf:bP cG.P 220=some ⟨.strct [(9,0),(3,1),(3,2)],3,32, .agg [.str [], .int .i64 0, .int .i64 0]⟩:=by kernel_rfl
theorem Xe:bP cG.P 231=some ⟨.strct [(3,0),(3,1),(3,2),(3,3)],4,32, .agg [.int .i64 0, .int .i64 0, .int .i64 0, .int .i64 0]⟩:=by kernel_rfl
theorem Xd:bP cG.P 234=some ⟨.ptr 171,1,8, .npt⟩:=by kernel_rfl
theorem Xc:bP cG.P 244=some ⟨.slice 312,1,24, .nsl⟩:=by kernel_rfl
theorem Xb:bP cG.P 247=some ⟨.strct [(3,0),(3,1),(3,2),(4,3),(244,4)],5,56, .agg [.int .i64 0, .int .i64 0, .int .i64 0, .bool false, .nsl]⟩:=by kernel_rfl
theorem Xa:bP cG.P 248=some ⟨.ptr 251,1,8, .npt⟩:=by kernel_rfl
theorem Wz:bP cG.P 249=some ⟨.slice 267,1,24, .nsl⟩:=by kernel_rfl
theorem Wy:bP cG.P 251=some ⟨.strct [(180,0),(3,2),(249,3),(3,4),(3,5)],6,80, .agg [.int .i64 0, .nsl, .int .i64 0, .nsl, .int .i64 0, .int .i64 0]⟩:=by kernel_rfl
theorem Wx:bP cG.P 255=some ⟨.strct [(3,0),(249,1)],2,32, .agg [.int .i64 0, .nsl]⟩:=by kernel_rfl
theorem Ww:bP cG.P 256=some ⟨.ptr 259,1,8, .npt⟩:=by kernel_rfl
theorem Wv:bP cG.P 257=some ⟨.slice 273,1,24, .nsl⟩:=by kernel_rfl
theorem Wu:bP cG.P 259=some ⟨.strct [(185,0),(188,2),(3,3),(34,4),(257,5),(45,6),(45,7),(3,8)],9,168, .agg [.int .i64 0, .nsl, .nsl, .int .i64 0, .nsl, .nsl, .nsl, .nsl, .int .i64 0]⟩:=by kernel_rfl
theorem Wt:bP cG.P 262=some ⟨.strct [(45,0)],1,24, .agg [.nsl]⟩:=by kernel_rfl
theorem Ws:bP cG.P 264=some ⟨.slice 45,1,24, .nsl⟩:=by kernel_rfl
theorem Wq:bP cG.P 265=some ⟨.slice 270,1,24, .nsl⟩:=by kernel_rfl
theorem Wn:bP cG.P 267=some ⟨.strct [(265,0),(3,1),(3,2),(3,3),(3,4)],5,56, .agg [.nsl, .int .i64 0, .int .i64 0, .int .i64 0, .int .i64 0]⟩:=by kernel_rfl
theorem Wm:bP cG.P 270=some ⟨.strct [(3,0),(3,1),(3,2),(3,3),(3,4),(3,5),(3,6),(46,7)],8,64, .agg [.int .i64 0, .int .i64 0, .int .i64 0, .int .i64 0, .int .i64 0, .int .i64 0, .int .i64 0, .int .u32 0]⟩:=by kernel_rfl
theorem Wl:bP cG.P 273=some ⟨.strct [(3,0),(3,1),(3,2)],3,24, .agg [.int .i64 0, .int .i64 0, .int .i64 0]⟩:=by kernel_rfl
theorem Wj:bP cG.P 274=some ⟨.ptr 277,1,8, .npt⟩:=by kernel_rfl
theorem Wi:bP cG.P 275=some ⟨.slice 288,1,24, .nsl⟩:=by kernel_rfl
theorem Wh:bP cG.P 277=some ⟨.strct [(195,0),(34,2),(275,3),(264,4),(45,5),(45,6),(3,7)],8,160, .agg [.int .i64 0, .nsl, .nsl, .nsl, .nsl, .nsl, .nsl, .int .i64 0]⟩:=by kernel_rfl
theorem Wg:bP cG.P 281=some ⟨.slice 286,1,24, .nsl⟩:=by kernel_rfl
theorem We:bP cG.P 283=some ⟨.strct [(3,0),(3,1),(3,2),(4,3),(281,4)],5,56, .agg [.int .i64 0, .int .i64 0, .int .i64 0, .bool false, .nsl]⟩:=by kernel_rfl
theorem Wc:bP cG.P 286=some ⟨.strct [(3,0),(3,1),(3,2),(46,3)],4,32, .agg [.int .i64 0, .int .i64 0, .int .i64 0, .int .u32 0]⟩:=by kernel_rfl
theorem Wb:bP cG.P 288=some ⟨.strct [(3,0),(3,1),(3,2)],3,24, .agg [.int .i64 0, .int .i64 0, .int .i64 0]⟩:=by kernel_rfl
theorem Wa:bP cG.P 306=some ⟨.array 4 3,4,32, .agg [.int .i64 0, .int .i64 0, .int .i64 0, .int .i64 0]⟩:=by kernel_rfl
theorem Vz:bP cG.P 309=some ⟨.slice 336,1,24, .nsl⟩:=by kernel_rfl
theorem Vy:bP cG.P 312=some ⟨.strct [(3,0),(3,1),(3,2),(309,3),(244,4),(244,5)],6,96, .agg [.int .i64 0, .int .i64 0, .int .i64 0, .nsl, .nsl, .nsl]⟩:=by kernel_rfl
theorem Vx:bP cG.P 315=some ⟨.slice 167,1,24, .nsl⟩:=by kernel_rfl
theorem Vw:bP cG.P 317=some ⟨.strct [(315,0),(315,1)],2,48, .agg [.nsl, .nsl]⟩:=by kernel_rfl
theorem Vv:bP cG.P 324=some ⟨.slice 281,1,24, .nsl⟩:=by kernel_rfl
theorem Vu:bP cG.P 327=some ⟨.array 10 9,10,160, .agg [.str [], .str [], .str [], .str [], .str [], .str [], .str [], .str [], .str [], .str []]⟩:=by kernel_rfl
theorem Vt:bP cG.P 336=some ⟨.strct [(3,0),(3,1),(46,2),(3,3),(3,4),(309,5)],6,64, .agg [.int .i64 0, .int .i64 0, .int .u32 0, .int .i64 0, .int .i64 0, .nsl]⟩:=by kernel_rfl
theorem Vs:bP cG.P 344=some ⟨.array 24 5,24,24, .agg [.int .u8 0, .int .u8 0, .int .u8 0, .int .u8 0, .int .u8 0, .int .u8 0, .int .u8 0, .int .u8 0, .int .u8 0, .int .u8 0, .int .u8 0, .int .u8 0, .int .u8 0, .int .u8 0, .int .u8 0, .int .u8 0, .int .u8 0, .int .u8 0, .int .u8 0, .int .u8 0, .int .u8 0, .int .u8 0, .int .u8 0, .int .u8 0]⟩:=by kernel_rfl
theorem Vr:bP cG.P 353=some ⟨.array 20 172,20,160, .agg [.int .u64 0, .int .u64 0, .int .u64 0, .int .u64 0, .int .u64 0, .int .u64 0, .int .u64 0, .int .u64 0, .int .u64 0, .int .u64 0, .int .u64 0, .int .u64 0, .int .u64 0, .int .u64 0, .int .u64 0, .int .u64 0, .int .u64 0, .int .u64 0, .int .u64 0, .int .u64 0]⟩:=by kernel_rfl
theorem Vq:bP cG.P 354=some ⟨.array 65 5,65,65, .agg [.int .u8 0, .int .u8 0, .int .u8 0, .int .u8 0, .int .u8 0, .int .u8 0, .int .u8 0, .int .u8 0, .int .u8 0, .int .u8 0, .int .u8 0, .int .u8 0, .int .u8 0, .int .u8 0, .int .u8 0, .int .u8 0, .int .u8 0, .int .u8 0, .int .u8 0, .int .u8 0, .int .u8 0, .int .u8 0, .int .u8 0, .int .u8 0, .int .u8 0, .int .u8 0, .int .u8 0, .int .u8 0, .int .u8 0, .int .u8 0, .int .u8 0, .int .u8 0, .int .u8 0, .int .u8 0, .int .u8 0, .int .u8 0, .int .u8 0, .int .u8 0, .int .u8 0, .int .u8 0, .int .u8 0, .int .u8 0, .int .u8 0, .int .u8 0, .int .u8 0, .int .u8 0, .int .u8 0, .int .u8 0, .int .u8 0, .int .u8 0, .int .u8 0, .int .u8 0, .int .u8 0, .int .u8 0, .int .u8 0, .int .u8 0, .int .u8 0, .int .u8 0, .int .u8 0, .int .u8 0, .int .u8 0, .int .u8 0, .int .u8 0, .int .u8 0, .int .u8 0]⟩:=by kernel_rfl
theorem Vp:bP cG.P 359=some ⟨.array 32 5,32,32, .agg [.int .u8 0, .int .u8 0, .int .u8 0, .int .u8 0, .int .u8 0, .int .u8 0, .int .u8 0, .int .u8 0, .int .u8 0, .int .u8 0, .int .u8 0, .int .u8 0, .int .u8 0, .int .u8 0, .int .u8 0, .int .u8 0, .int .u8 0, .int .u8 0, .int .u8 0, .int .u8 0, .int .u8 0, .int .u8 0, .int .u8 0, .int .u8 0, .int .u8 0, .int .u8 0, .int .u8 0, .int .u8 0, .int .u8 0, .int .u8 0, .int .u8 0, .int .u8 0]⟩:=by kernel_rfl
theorem Vo:bP cG.P 360=some ⟨.array 64 5,64,64, .agg [.int .u8 0, .int .u8 0, .int .u8 0, .int .u8 0, .int .u8 0, .int .u8 0, .int .u8 0, .int .u8 0, .int .u8 0, .int .u8 0, .int .u8 0, .int .u8 0, .int .u8 0, .int .u8 0, .int .u8 0, .int .u8 0, .int .u8 0, .int .u8 0, .int .u8 0, .int .u8 0, .int .u8 0, .int .u8 0, .int .u8 0, .int .u8 0, .int .u8 0, .int .u8 0, .int .u8 0, .int .u8 0, .int .u8 0, .int .u8 0, .int .u8 0, .int .u8 0, .int .u8 0, .int .u8 0, .int .u8 0, .int .u8 0, .int .u8 0, .int .u8 0, .int .u8 0, .int .u8 0, .int .u8 0, .int .u8 0, .int .u8 0, .int .u8 0, .int .u8 0, .int .u8 0, .int .u8 0, .int .u8 0, .int .u8 0, .int .u8 0, .int .u8 0, .int .u8 0, .int .u8 0, .int .u8 0, .int .u8 0, .int .u8 0, .int .u8 0, .int .u8 0, .int .u8 0, .int .u8 0, .int .u8 0, .int .u8 0, .int .u8 0, .int .u8 0]⟩:=by kernel_rfl
theorem W6:vN cG.P 82=some [.str, .int .i64]:=by kernel_rfl
theorem TY:type_of% (And.intro AE<|And.intro AD<|And.intro AC<|And.intro AB<|And.intro V7<|And.intro V6<|And.intro V5<|And.intro V4<|And.intro V3<|And.intro V2<|And.intro V1<|And.intro V0<|And.intro U9<|And.intro U8<|And.intro U7<|And.intro U6<|And.intro U5<|And.intro U4<|And.intro U3<|And.intro U2<|And.intro U1<|And.intro U0<|And.intro T9<|And.intro T8<|And.intro Vn<|And.intro T0<|And.intro S9<|And.intro S8<|And.intro S7<|And.intro S5<|And.intro S4<|And.intro S3<|And.intro Yq<|And.intro Yp<|And.intro Yo<|And.intro Yn<|And.intro Ym<|And.intro Yk<|And.intro Yj<|And.intro Yi<|And.intro Yh<|And.intro Yg<|And.intro Ye<|And.intro Yd<|And.intro Yc<|And.intro Yb<|And.intro Ya<|And.intro Xz<|And.intro Xy<|And.intro Xx<|And.intro Xw<|And.intro Xv<|And.intro Xu<|And.intro Xt<|And.intro Xs<|And.intro Xr<|And.intro Xq<|And.intro Xp<|And.intro Xo<|And.intro Xn<|And.intro Xm<|And.intro Xl<|And.intro Xk<|And.intro Xj<|And.intro Xi<|And.intro Xh<|And.intro Xg<|And.intro Xf<|And.intro Xe<|And.intro Xd<|And.intro Xc<|And.intro Xb<|And.intro Xa<|And.intro Wz<|And.intro Wy<|And.intro Wx<|And.intro Ww<|And.intro Wv<|And.intro Wu<|And.intro Wt<|And.intro Ws<|And.intro Wq<|And.intro Wn<|And.intro Wm<|And.intro Wl<|And.intro Wj<|And.intro Wi<|And.intro Wh<|And.intro Wg<|And.intro We<|And.intro Wc<|And.intro Wb<|And.intro Wa<|And.intro Vz<|And.intro Vy<|And.intro Vx<|And.intro Vw<|And.intro Vv<|And.intro Vu<|And.intro Vt<|And.intro Vs<|And.intro Vr<|And.intro Vq<|And.intro Vp<|And.intro Vo<|And.intro W6<|Y7):=And.intro AE<|And.intro AD<|And.intro AC<|And.intro AB<|And.intro V7<|And.intro V6<|And.intro V5<|And.intro V4<|And.intro V3<|And.intro V2<|And.intro V1<|And.intro V0<|And.intro U9<|And.intro U8<|And.intro U7<|And.intro U6<|And.intro U5<|And.intro U4<|And.intro U3<|And.intro U2<|And.intro U1<|And.intro U0<|And.intro T9<|And.intro T8<|And.intro Vn<|And.intro T0<|And.intro S9<|And.intro S8<|And.intro S7<|And.intro S5<|And.intro S4<|And.intro S3<|And.intro Yq<|And.intro Yp<|And.intro Yo<|And.intro Yn<|And.intro Ym<|And.intro Yk<|And.intro Yj<|And.intro Yi<|And.intro Yh<|And.intro Yg<|And.intro Ye<|And.intro Yd<|And.intro Yc<|And.intro Yb<|And.intro Ya<|And.intro Xz<|And.intro Xy<|And.intro Xx<|And.intro Xw<|And.intro Xv<|And.intro Xu<|And.intro Xt<|And.intro Xs<|And.intro Xr<|And.intro Xq<|And.intro Xp<|And.intro Xo<|And.intro Xn<|And.intro Xm<|And.intro Xl<|And.intro Xk<|And.intro Xj<|And.intro Xi<|And.intro Xh<|And.intro Xg<|And.intro Xf<|And.intro Xe<|And.intro Xd<|And.intro Xc<|And.intro Xb<|And.intro Xa<|And.intro Wz<|And.intro Wy<|And.intro Wx<|And.intro Ww<|And.intro Wv<|And.intro Wu<|And.intro Wt<|And.intro Ws<|And.intro Wq<|And.intro Wn<|And.intro Wm<|And.intro Wl<|And.intro Wj<|And.intro Wi<|And.intro Wh<|And.intro Wg<|And.intro We<|And.intro Wc<|And.intro Wb<|And.intro Wa<|And.intro Vz<|And.intro Vy<|And.intro Vx<|And.intro Vw<|And.intro Vv<|And.intro Vu<|And.intro Vt<|And.intro Vs<|And.intro Vr<|And.intro Vq<|And.intro Vp<|And.intro Vo<|And.intro W6<|Y7
theorem Qh:D7 0=some (dA.map .str):=rfl
theorem BE:D7 1=some Zo:=rfl
theorem RR:type_of% (And.intro AX<|And.intro Qh TY):=And.intro AX<|And.intro Qh TY
noncomputable def AA:BQ cG.P where
 int:=3
 u32:=46
 str:=9
 bool:=4
 strs:=22
 ex:=62
 exs:=60
 sm:=64
 sms:=56
 ar:=82
 ars:=23
 fu:=58
 fus:=24
 pg:=26
 uInt:=by kernel_rfl
 uU32:=by kernel_rfl
 uStr:=by kernel_rfl
 uBool:=by kernel_rfl
 uStrs:=by kernel_rfl
 uEx:=by kernel_rfl
 uExs:=by kernel_rfl
 uSm:=by kernel_rfl
 uSms:=by kernel_rfl
 uAr:=by kernel_rfl
 uArs:=by kernel_rfl
 uFu:=by kernel_rfl
 uFus:=by kernel_rfl
 uPg:=by kernel_rfl
 c1:=by kernel_rfl
 cEx:=by kernel_rfl
 cSm:=by kernel_rfl
 cAr:=by kernel_rfl
 cFu:=by kernel_rfl
 cPg:=by kernel_rfl
end Go.Proofs.YtaecpjgmcffliaaGreatDoor
namespace Go.Proofs.YtaecpjgmcffliaaGreatDoor
open Go.Al
def xQ (c:Int):Bool:=decide (48≤c)&&decide (c≤57)
def oD (c:Int):Bool:=decide (97≤c)&&decide (c≤122)||decide (65≤c)&&decide (c≤90)
def C9 (c:Int):Bool:=oD c||xQ c||decide (c=95)
def oL (c:UInt8):Bool:=C9 c.toNat
theorem nD (c:Int):cM cG 120 [.int .u8 c] (.bool (xQ c)):=by
 refine bM 9 [.tmp 2] Tryz.func120 rfl rfl rfl rfl ?_;refine aB fun K y=>?_;refine aA rfl ?_;simp only[RR,seval];apply y;clear y;refine aB fun K y=>?_;refine aA rfl ?_;simp only[RR,seval]
 repeat' ((first|refine aO (fun h=>?_) (fun h=>?_)|refine aR (fun h=>?_) (fun h=>?_))<;>simp only[h,RR,seval])
 all_goals
  apply y;clear y;refine aM ?_;simp only[aZ,aL,bJ,RR,seval];refine bB.pure ?_;simp [xQ, *]
theorem nE (c:Int):cM cG 117 [.int .u8 c] (.bool (oD c)):=by
 refine bM 17 [.tmp 2] Tryz.func117 rfl rfl rfl rfl ?_;refine aB fun K y=>?_;refine aA rfl ?_;simp only[RR,seval];apply y;clear y;refine aB fun K y=>?_;refine aA rfl ?_;simp only[RR,seval]
 repeat' ((first|refine aO (fun h=>?_) (fun h=>?_)|refine aR (fun h=>?_) (fun h=>?_))<;>simp only[h,RR,seval])
 all_goals
  apply y;clear y;refine aM ?_;simp only[aZ,aL,bJ,RR,seval];refine bB.pure ?_;simp [oD, *]
theorem Aa:cM cG 119 [] (.isl 1 (dA.map fun w=>[.str w])):=by
 refine bM 2 [.tmp 0] Tryz.func119 rfl rfl rfl rfl ?_;refine aB fun K y=>?_;refine aA rfl ?_;simp only[RR,seval];apply y;clear y;refine aB fun K y=>?_;refine aA rfl ?_;simp only[RR,seval];refine cK ?_;simp only[RR,seval];apply y;clear y;refine aM ?_;simp only[aZ,aL,bJ,RR,seval];refine bB.pure ?_;rfl
theorem C7 (ws:List (List UInt8)) (s:List UInt8) (hl:ws.length≤1000000):cM cG 118 [.isl 1 (ws.map fun w=>[.str w]), .str s] (.bool (ws.contains s)):=by
 refine bM 18 [.tmp 4] Tryz.func118 rfl rfl rfl rfl ?_;refine aB fun K y=>?_;refine aA rfl ?_;simp only[RR,seval];apply y;clear y;refine sP (fun fr H=>ws.contains s=false) ?_ ?_
 ·refine aB fun K y=>?_;refine aA rfl ?_;simp only[RR,seval]
  apply y;clear y;refine aN ?_;refine sO (fun n fr H=> ∃i:Nat,n=ws.length-i∧i≤ws.length∧(ws.take i).contains s=false∧fr 0= .isl 1 (ws.map fun w=>[.str w])∧fr 1= .str s∧fr 5= .int .i64 i) ws.length ⟨0,rfl,by omega,rfl,rfl,rfl,rfl⟩ ?_;rintro n fr H ⟨i,rfl,hi,hw,h0,h1,h5⟩;refine aJ ?_;refine aB fun K y=>?_;refine aA rfl ?_;simp only[RR,seval];simp only[h0,h5,RR,seval];apply y;clear y;refine aH _ rfl (fun hc=>?_) (fun hc=>?_)
  ·refine aK ?_;simp only[aU]
   have hi2:(i:Int)<(ws.map fun w=>[AV.str w]).length:=aD hc;simp only[aC]at hi2;have hl:i<ws.length:=by omega
   have hg:(ws.map fun w=>[AV.str w])[i]?=some [.str ws[i]]:=by rw[cE,aG hl];rfl
   refine aJ ?_;refine aN ?_;refine aB fun K y=>?_;refine aA rfl ?_;simp only[RR,seval];simp only[h0,h1,h5,hg,RR,seval];apply y;clear y;refine aH _ rfl (fun hc=>?_) (fun hc=>?_)
   ·refine aB fun K y=>?_;refine aA rfl ?_;simp only[RR,seval]
    apply y;clear y;refine aM ?_;simp only[aU,aW,aZ,aL,bJ,RR,seval];refine bB.pure ?_;have :ws[i]=s:=aD hc;rw[←this];simp
   refine aK ?_;simp only[aU,aW];refine aA rfl ?_;simp only[RR,seval];simp only[h0,h1,h5,RR,seval];refine⟨ws.length-(i+1),by omega,i+1,rfl,by omega, ?_, ?_⟩
   ·have hne: ¬ws[i]=s:=aE hc
    rw[bL hl];simp only[List.contains_append,hw,Bool.false_or];simp [Ne.symm hne]
   rw[aV _ (by omega)];rfl
  refine bI ?_;simp only[aU,aW,reduceIte];have hi2: ¬(i:Int)<(ws.map fun w=>[AV.str w]).length:=aE hc;simp only[aC]at hi2;have :i=ws.length:=by omega
  subst this;rw[List.take_length]at hw;exact hw
 intro fr H h;refine aB fun K y=>?_;refine aA rfl ?_;simp only[RR,seval];apply y;clear y;refine aM ?_;simp only[aZ,aL,bJ,RR,seval];refine bB.pure ?_;rw[h]
def cV (s:List UInt8):Bool:=match s with
 |[]=>false
 |c::r=>decide ((c::r).length≤20)&&(oD c.toNat&&(decide ((c::r).takeWhile oL=c::r)&& !dA.contains (c::r)))
theorem qF (p:UInt8→Bool): ∀s:List UInt8,decide (s.takeWhile p=s)=s.all p
 |[]=>rfl
 |c::s=>by
  cases h:p c with
  |true=>
   simp only[List.takeWhile,h,List.all_cons,Bool.true_and,List.cons.injEq,true_and];exact qF p s
  |false=>simp [List.takeWhile,h]
theorem Sl (s:List UInt8) (hs:cQ s):cM cG 76 [.str s] (.bool (cV s)):=by
 have hs:s.length≤9223372036854775807:=hs;refine bM 47 [.tmp 2] Tryz.func76 rfl rfl rfl rfl ?_;refine aB fun K y=>?_;refine aA rfl ?_;simp only[RR,seval];apply y;clear y;refine aJ ?_;refine bT (fun fr H=> ∃t,fr 22= .bool t∧fr 0= .str s∧(t=true→cV s=false)∧(t=false→cV s=s.all oL)) (fun K y=>?_) ?_
 ·cases hsc:s with
  |nil=>
   refine aA rfl ?_;simp only[RR,seval];exact y _ _ ⟨true,rfl,by rw[hsc];rfl,fun _=>by rw[hsc];rfl,fun e=>by cases e⟩
  |cons c r=>
   have h0:(c::r)[0]?=some c:=rfl;have hne:decide (((c::r).length:Int)=0)=false:=aX (by simp only[aQ];omega);rw[←hsc]at h0 hne⊢;have hB:cV s=(decide (s.length≤20)&&(oD c.toNat&&(s.all oL&& !dA.contains s))):=by rw[←qF,hsc];rfl
   clear hsc;refine aA rfl ?_;simp only[RR,seval];simp only[hne,RR,seval];refine aO (fun h=>?_) (fun h=>?_)<;>simp only[h,h0,RR,seval]
   ·have hl:decide (s.length≤20)=true:=bQ (by have:=aE h;omega)
    refine aP (nE _) ?_;simp only[RR,seval];refine aO (fun ha=>?_) (fun ha=>?_)
    ·have ha:oD c.toNat=true:=by simpa using ha
     simp only[ha,RR,seval];refine aP Aa ?_;simp only[RR,seval];refine aP (C7 dA s (by decide)) ?_;simp only[RR,seval];refine y _ _ ⟨_,rfl,rfl,fun e=>?_,fun e=>?_⟩
     ·rw[hB,e];simp
     rw[hB,e,hl,ha];simp
    have ha:oD c.toNat=false:=by simpa using ha
    simp only[ha,RR,seval];exact y _ _ ⟨_,rfl,rfl,fun e=>by rw[hB,ha];simp,fun e=>by cases e⟩
   have hl:decide (s.length≤20)=false:=aX (by have:=aD h;omega);exact y _ _ ⟨_,rfl,rfl,fun e=>by rw[hB,hl];rfl,fun e=>by cases e⟩
 rintro fr H ⟨t,h22,h0,ht,hf⟩;refine aH _ h22 (fun hc=>?_) (fun hc=>?_)
 ·refine aB fun K y=>?_;refine aA rfl ?_;simp only[RR,seval]
  apply y;clear y;refine aM ?_;simp only[aU,aZ,aL,bJ,RR,seval];refine bB.pure ?_;rw[ht hc]
 have hall:=hf hc;refine aK ?_;simp only[aU];refine bT (fun fr H=>s.all oL=true) (fun K y=>?_) ?_
 ·refine aB fun K y=>?_;refine aA rfl ?_;simp only[RR,seval]
  apply y;clear y;refine aN ?_;refine cJ (fun n fr H=> ∃i:Nat,n=s.length-i∧i≤s.length∧fr 0= .str s∧fr 3= .int .i64 i∧s.all oL=(s.drop i).all oL) s.length ⟨0,rfl,by omega,h0,rfl,by simp⟩ ?_;rintro n fr H ⟨i,rfl,hi,h0,h3,hsall⟩ K2 hK2;refine aJ ?_;refine aB fun K y=>?_;refine aA rfl ?_;simp only[RR,seval];simp only[h0,h3,RR,seval];apply y;clear y;refine aH _ rfl (fun hc=>?_) (fun hc=>?_)
  ·have hl:i<s.length:=by have:=aD hc;omega
   have hg:s[i]?=some s[i]:=aG hl;rw[bD hl]at hsall;simp only[List.all_cons]at hsall;generalize s[i]=e at hg hsall;refine aK ?_;simp only[aU];refine aJ ?_;refine aN ?_;refine bT (fun fr H=>fr 46= .bool (!oL e)∧fr 0= .str s∧fr 3= .int .i64 i) (fun K y=>?_) ?_
   ·refine aA rfl ?_;simp only[RR,seval]
    simp only[h0,h3,hg,RR,seval];refine aP (nE _) ?_;simp only[RR,seval];refine aO (fun ha=>?_) (fun ha=>?_)<;>simp only[ha,h0,h3,hg,RR,seval]
    ·refine aP (nD _) ?_
     simp only[RR,seval];refine aO (fun hd=>?_) (fun hd=>?_)<;>simp only[hd,h0,h3,hg,RR,seval]
     ·repeat' ((first|refine aO (fun h=>?_) (fun h=>?_)|refine aR (fun h=>?_) (fun h=>?_))<;>simp only[h,h0,h3,hg,RR,seval])
      all_goals exact y _ _ ⟨by simp [upd,oL,C9,ha,hd],h0,h3⟩
     exact y _ _ ⟨by simp [upd,oL,C9,ha,hd],h0,h3⟩
    exact y _ _ ⟨by simp [upd,oL,C9,ha],h0,h3⟩
   rintro fr H ⟨h46,h0,h3⟩;refine aH _ h46 (fun hc=>?_) (fun hc=>?_)
   ·have he:oL e=false:=by simpa using hc
    refine aB fun K y=>?_;refine aA rfl ?_;simp only[RR,seval];apply y;clear y;refine aM ?_;simp only[aU,aW,aZ,aL,bJ,RR,seval];refine bB.pure ?_;rw[hall,hsall,he];rfl
   have he:oL e=true:=by simpa using hc
   rw[he,Bool.true_and]at hsall;refine aK ?_;simp only[aU,aW];refine aA rfl ?_;simp only[RR,seval];simp only[h3,RR,seval];rw[aV _ (by omega)];exact hK2 (s.length-(i+1)) _ _ (by omega) ⟨i+1,rfl,by omega,h0,rfl,hsall⟩
  refine bI ?_;simp only[aU,aW,reduceIte];have :i=s.length:=by have:=aE hc;omega
  subst this;rw[List.drop_length]at hsall;exact y _ _ hsall
 intro fr H h;refine aB fun K y=>?_;refine aA rfl ?_;simp only[RR,seval];apply y;clear y;refine aM ?_;simp only[aZ,aL,bJ,RR,seval];refine bB.pure ?_;rw[hall,h]
end Go.Proofs.YtaecpjgmcffliaaGreatDoor
namespace Go.Proofs.YtaecpjgmcffliaaGreatDoor
open Go.Al
theorem uI {s:cN} (h:dA.contains s=true):cV s=false:=by
 cases s with
 |nil=>rfl
 |cons c r=>simp only[cV,h,Bool.not_true,Bool.and_false]
theorem Fo:cM cG 75 [] (.isl 1 (dA.map fun w=>[.str w])):=by
 refine bM 2 [.tmp 0] Tryz.func75 rfl rfl rfl rfl ?_;refine aB fun K y=>?_;refine aA rfl ?_;simp only[RR,seval];apply y;clear y;refine aB fun K y=>?_;refine aA rfl ?_;simp only[RR,seval];refine cK ?_;simp only[RR,seval];apply y;clear y;refine aM ?_;simp only[aZ,aL,bJ,RR,seval];refine bB.pure ?_;rfl
theorem lB (s:cN) (hs:cQ s):cM cG 51 [.str s] (.bool (cV s)):=by
 refine bM 20 [.tmp 2] Tryz.func51 rfl rfl rfl rfl ?_;refine aB fun K y=>?_;refine aA rfl ?_;simp only[RR,seval];apply y;clear y;refine aB fun K y=>?_;refine aA rfl ?_;simp only[RR,seval];refine aP Fo ?_;simp only[RR,seval];apply y;clear y;refine bT (fun fr H=>fr 0= .str s) (fun K y=>?_) ?_
 ·refine aB fun K y=>?_;refine aA rfl ?_;simp only[RR,seval]
  apply y;clear y;refine aN ?_;refine cJ (fun mm fr H=> ∃k:Nat,mm=dA.length-k∧k≤dA.length∧fr 4= .int .i64 k∧fr 0= .str s∧fr 3= .isl 1 (dA.map fun w=>[.str w])) (dA.length) ⟨0,rfl,Nat.zero_le _,rfl,rfl,rfl⟩ ?_;rintro mm fr H ⟨k,rfl,hkk,hik,h0,h3⟩ K2 hK2;refine aJ ?_;refine aB fun K y=>?_;refine aA rfl ?_;simp only[RR,seval];simp only[hik,h3,aC,RR,seval];apply y;clear y;refine aH _ rfl (fun hc=>?_) (fun hc=>?_)
  ·have hltk:k<dA.length:=by have:=aD hc;omega
   clear hc;refine aK ?_;simp only[aU];refine aJ ?_;refine aN ?_;have hg:(dA.map fun w=>[AV.str w])[k]?=some [.str dA[k]]:=by rw[cE,aG hltk];rfl
   have hmem:=bE hltk;generalize dA[k]=w at hg hmem;refine aB fun K y=>?_;refine aA rfl ?_;simp only[RR,seval];simp only[h0,h3,hik,hg,RR,seval];apply y;clear y;refine aH _ rfl (fun hc=>?_) (fun hc=>?_)
   ·refine aB fun K y=>?_;refine aA rfl ?_;simp only[RR,seval]
    apply y;clear y;refine aM ?_;simp only[aU,aW,aZ,aL,bJ,RR,seval];refine bB.pure ?_;have :s=w:=aD hc;subst this;rw[uI (by simpa using hmem)]
   have hwl:dA.length=10:=rfl;refine aK ?_;simp only[aU,aW];refine aA rfl ?_;simp only[RR,seval];simp only[hik,aU,RR,seval];rw[aV _ (by omega)];refine hK2 (dA.length-(k+1)) _ _ (by omega) ⟨k+1,rfl,by omega,rfl,h0,h3⟩
  refine bI ?_;simp only[aU,aW,reduceIte];have hknk:k=dA.length:=by have:=aE hc;omega
  clear hc;subst hknk;exact y _ _ h0
 rintro fr H h0;refine aB fun K y=>?_;refine aA rfl ?_;simp only[RR,seval];simp only[h0,seval];refine aP (Sl s hs) ?_;simp only[RR,seval];apply y;clear y;refine aM ?_;simp only[aZ,aL,bJ,RR,seval];refine bB.pure ?_;rfl
theorem oU (l:List cN) (hl:X8 l):cM cG 50 [.isl 1 (l.map bG)] (.bool (l.all cV)):=by
 have hfit:l.length≤9223372036854775807:=hl.fit;refine bM 16 [.tmp 2] Tryz.func50 rfl rfl rfl rfl ?_;refine aB fun K y=>?_;refine aA rfl ?_;simp only[RR,seval];apply y;clear y;refine bT (fun fr H=>l.all cV=true) (fun K y=>?_) ?_
 ·refine aB fun K y=>?_;refine aA rfl ?_;simp only[RR,seval]
  apply y;clear y;refine aN ?_;refine cJ (fun mm fr H=> ∃k:Nat,mm=l.length-k∧k≤l.length∧fr 3= .int .i64 k∧fr 0= .isl 1 (l.map bG)∧l.all cV=(l.drop k).all cV) (l.length) ⟨0,rfl,Nat.zero_le _,rfl,rfl,by rw[List.drop_zero]⟩ ?_;rintro mm fr H ⟨k,rfl,hkk,hik,h0,hall⟩ K2 hK2;refine aJ ?_;refine aB fun K y=>?_;refine aA rfl ?_;simp only[RR,seval];simp only[hik,h0,aC,RR,seval];apply y;clear y;refine aH _ rfl (fun hc=>?_) (fun hc=>?_)
  ·have hltk:k<l.length:=by have:=aD hc;omega
   clear hc;refine aK ?_;simp only[aU];refine aJ ?_;refine aN ?_;have hg:=vH (aG hltk);have hf:=hl.all _ (bE hltk);rw[bD hltk,List.all_cons]at hall;generalize l[k]=s at hg hall hf;refine aB fun K y=>?_;refine aA rfl ?_;simp only[RR,seval];simp only[h0,hik,hg,RR,seval];refine aP (lB s hf) ?_;simp only[RR,seval];apply y;clear y;refine aH (!cV s) rfl (fun hc=>?_) (fun hc=>?_)
   ·refine aB fun K y=>?_;refine aA rfl ?_;simp only[RR,seval]
    apply y;clear y;refine aM ?_;simp only[aU,aW,aZ,aL,bJ,RR,seval];refine bB.pure ?_;rw[hall,show cV s=false by simpa using hc];rfl
   refine aK ?_;simp only[aU,aW];rw[show cV s=true by simpa using hc,Bool.true_and]at hall;refine aA rfl ?_;simp only[RR,seval];simp only[hik,aU,RR,seval];rw[aV _ (by omega)];refine hK2 (l.length-(k+1)) _ _ (by omega) ⟨k+1,rfl,by omega,rfl,h0,hall⟩
  refine bI ?_;simp only[aU,aW,reduceIte];have hknk:k=l.length:=by have:=aE hc;omega
  clear hc;subst hknk;rw[List.drop_length]at hall;exact y _ _ hall
 rintro fr H h0;refine aB fun K y=>?_;refine aA rfl ?_;simp only[RR,seval];apply y;clear y;refine aM ?_;simp only[aZ,aL,bJ,RR,seval];refine bB.pure ?_;rw[h0]
def rZ (e:Ex) (level:Int):Bool:=
 decide (level≤24)&&(decide (e.kind=6)||decide (e.op=0))&&(decide (e.kind=1)||decide (e.num=0))&&
  (if e.kind=2∨e.kind=3∨e.kind=4 then cV e.name else decide (e.name=[]))
def fV (k o:Int) (n:Nat):Bool:=
 if k=1∨k=2∨k=5 then decide (n=0)else if k=3∨k=7 then decide (n=1)else if k=4 then decide (n≤6)
 else if k=6 then decide (4≤o)&&decide (o≤15)&&decide (n=2)else if k=8∨k=9 then decide (n=2)else false
def eG:List Ex→Int→Bool
 |[],_=>true
 | .mk k o n s kids::l,level=>rZ (.mk k o n s kids) level&&fV k o kids.length&&eG kids (level+1)&&eG l level
def fO (e:Ex) (level:Int):Bool:=rZ e level&&fV e.kind e.op e.kids.length&&eG e.kids (level+1)
theorem iT (e:Ex) (l:List Ex) (level:Int):eG (e::l) level=(fO e level&&eG l level):=by
 cases e;rw[eG];rfl
theorem iO (level:Int):eG [] level=true:=by rw[eG]
set_option maxHeartbeats 4000000 in
theorem yU (e:Ex) (he:e.ok) (level:Int) (h1: -1000000≤level) (h2:level≤1000000)
  (ih:level≤24→cM cG 121 [.isl 5 (e.kids.map Ex.row), .int .i64 (level+1)] (.bool (eG e.kids (level+1)))):
  cM cG 181 [.agg e.row, .int .i64 level] (.bool (fO e level)):=by
 have hname:=lB e.name he.name;have hrow:=e.row_eq;generalize he2:fO e level=res;rw[hrow];have hkids:e.kids.length≤9223372036854775807:=he.kids.fit;obtain⟨k,o,n,s,l⟩:=e;simp only[Ex.kind,Ex.op,Ex.num,Ex.name,Ex.kids]at ih hname hkids⊢;clear hrow he;have hX:fO (.mk k o n s l) level=((decide (level≤24)&&(decide (k=6)||decide (o=0))&&(decide (k=1)||decide (n=0)))&&(if k=2∨k=3∨k=4 then cV s else decide (s=[]))&&fV k o l.length&&eG l (level+1)):=rfl;refine bM 123 [.tmp 4] Tryz.func181 rfl rfl rfl rfl ?_;refine bT (fun fr H=> ∃b,fr 1= .int .i64 level∧fr 2= .ptr 5 b 0 0∧H b=some (.rows 5 [[.int .i64 k, .int .i64 o, .int .u32 n, .str s, .isl 5 (l.map Ex.row)]])) (fun K y=>?_) ?_
 ·refine aA rfl ?_;simp only[RR,seval]
  refine aT fun b hb=>?_;simp only[RR,seval];exact y _ _ ⟨b,rfl,rfl,aS _ _ _⟩
 rintro fr H ⟨b,f1,f2,hb⟩;refine aJ ?_;refine bT (fun fr H=> ∃t,fr 28= .bool t∧(t= !(decide (level≤24)&&(decide (k=6)||decide (o=0))&&(decide (k=1)||decide (n=0))))∧fr 1= .int .i64 level∧fr 2= .ptr 5 b 0 0∧H b=some (.rows 5 [[.int .i64 k, .int .i64 o, .int .u32 n, .str s, .isl 5 (l.map Ex.row)]])) (fun K y=>?_) ?_
 ·refine aA rfl ?_;simp only[RR,seval]
  simp only[f1,RR,seval]
  repeat' ((first|refine aO (fun h=>?_) (fun h=>?_)|refine aR (fun h=>?_) (fun h=>?_))<;>simp only[h,f2,hb,RR,seval])
  all_goals
   refine y _ _ ⟨_,rfl, ?_,f1,f2,hb⟩;clear y;simp_all<;>omega
 rintro fr H ⟨t,f28,ht,f1,f2,hb⟩;refine aH _ f28 (fun hc=>?_) (fun hc=>?_)
 ·refine aB fun K y=>?_;refine aA rfl ?_;simp only[RR,seval]
  apply y;clear y;refine aM ?_;simp only[aU,aZ,aL,bJ,RR,seval];refine bB.pure ?_;rw[←he2]
  have :(decide (level≤24)&&(decide (k=6)||decide (o=0))&&(decide (k=1)||decide (n=0)))=false:=by
   cases e:(decide (level≤24)&&(decide (k=6)||decide (o=0))&&(decide (k=1)||decide (n=0)))with
   |false=>rfl
   |true=>rw[e,hc]at ht;cases ht
  rw[hX,this];rfl
 have h3:(decide (level≤24)&&(decide (k=6)||decide (o=0))&&(decide (k=1)||decide (n=0)))=true:=by
  cases e:(decide (level≤24)&&(decide (k=6)||decide (o=0))&&(decide (k=1)||decide (n=0)))with
  |true=>rfl
  |false=>rw[e,hc]at ht;cases ht
 have hlev:level≤24:=by simp only[bA,bC]at h3;exact h3.1.1
 have hres:res=((if k=2∨k=3∨k=4 then cV s else decide (s=[]))&&fV k o l.length&&eG l (level+1)):=by
  rw[←he2,hX,h3,Bool.true_and]
 have ih2:=ih hlev;clear ht hc f28 t;refine aK ?_;simp only[aU];refine bT (fun fr H=>fr 5= .bool (decide (k=2∨k=3∨k=4))∧fr 1= .int .i64 level∧fr 2= .ptr 5 b 0 0∧H b=some (.rows 5 [[.int .i64 k, .int .i64 o, .int .u32 n, .str s, .isl 5 (l.map Ex.row)]])) (fun K y=>?_) ?_
 ·refine aA rfl ?_;simp only[RR,seval]
  simp only[f2,hb,RR,seval]
  repeat' ((first|refine aO (fun h=>?_) (fun h=>?_)|refine aR (fun h=>?_) (fun h=>?_))<;>simp only[h,f2,hb,RR,seval])
  all_goals
   refine y _ _ ⟨?_,f1,f2,hb⟩;clear y;simp [upd];simp_all
 rintro fr H ⟨f5,f1,f2,hb⟩;refine aJ ?_;refine bT (fun fr H=> ∃t,fr 55= .bool t∧(t= !(if k=2∨k=3∨k=4 then cV s else decide (s=[])))∧fr 1= .int .i64 level∧fr 2= .ptr 5 b 0 0∧H b=some (.rows 5 [[.int .i64 k, .int .i64 o, .int .u32 n, .str s, .isl 5 (l.map Ex.row)]])) (fun K y=>?_) ?_
 ·by_cases hk:k=2∨k=3∨k=4
  ·have e1:decide (k=2∨k=3∨k=4)=true:=bQ hk
   rw[e1]at f5;by_cases hsn:s=[]
   ·have e2:decide (s=[])=true:=bQ hsn
    refine aA rfl ?_;simp only[RR,seval];simp only[f2,f5,hb,e2,RR,seval];exact y _ _ ⟨_,rfl,by rw[if_pos hk,hsn];rfl,f1,f2,hb⟩
   have e2:decide (s=[])=false:=aX hsn;refine aA rfl ?_;simp only[RR,seval];simp only[f2,f5,hb,e2,RR,seval];refine aP hname ?_;simp only[RR,seval];refine y _ _ ⟨_,rfl,by rw[if_pos hk],f1,f2,hb⟩
  have e1:decide (k=2∨k=3∨k=4)=false:=aX hk;rw[e1]at f5;by_cases hsn:s=[]
  ·have e2:decide (s=[])=true:=bQ hsn
   refine aA rfl ?_;simp only[RR,seval];simp only[f2,f5,hb,e2,RR,seval];exact y _ _ ⟨_,rfl,by rw[if_neg hk,e2];rfl,f1,f2,hb⟩
  have e2:decide (s=[])=false:=aX hsn;refine aA rfl ?_;simp only[RR,seval];simp only[f2,f5,hb,e2,RR,seval];exact y _ _ ⟨_,rfl,by rw[if_neg hk,e2];rfl,f1,f2,hb⟩
 rintro fr H ⟨t,f55,ht,f1,f2,hb⟩;refine aH _ f55 (fun hc=>?_) (fun hc=>?_)
 ·refine aB fun K y=>?_;refine aA rfl ?_;simp only[RR,seval]
  apply y;clear y;refine aM ?_;simp only[aU,aZ,aL,bJ,RR,seval];refine bB.pure ?_
  have :(if k=2∨k=3∨k=4 then cV s else decide (s=[]))=false:=by
   rw[hc]at ht
   cases e:(if k=2∨k=3∨k=4 then cV s else decide (s=[]))with
   |false=>rfl
   |true=>rw[e]at ht;cases ht
  rw[hres,this];rfl
 have hnm:(if k=2∨k=3∨k=4 then cV s else decide (s=[]))=true:=by
  rw[hc]at ht
  cases e:(if k=2∨k=3∨k=4 then cV s else decide (s=[]))with
  |true=>rfl
  |false=>rw[e]at ht;cases ht
 rw[hnm,Bool.true_and]at hres;clear ht hc f55 t h3 hnm he2;refine aK ?_;simp only[aU];refine aB fun K y=>?_;refine aA rfl ?_;simp only[RR,seval];simp only[f2,hb,aC,RR,seval];apply y;clear y;have w1:IntKind.wrap .i64 (level+1)=level+1:=aV _ (by omega);have l0: ∀m:Nat,decide ((l.length:Int)=m)=decide (l.length=m):=fun m=>by rw[Bool.eq_iff_iff];simp only[bC];omega
 have l6:decide ((l.length:Int)≤6)=decide (l.length≤6):=by rw[Bool.eq_iff_iff];simp only[bC];omega
 have d0:decide ((l.length:Int)=0)=decide (l.length=0):=l0 0;have d1:decide ((l.length:Int)=1)=decide (l.length=1):=l0 1;have d2:decide ((l.length:Int)=2)=decide (l.length=2):=l0 2;clear l0;subst hres;by_cases k1:k=1
 ·subst k1
  repeat' (first|(refine aB fun K y=>?_;refine aA rfl ?_;simp only[f2,hb,d0,RR,seval];apply y;clear y)|(refine aJ ?_)|(refine aN ?_)|(refine aH true rfl (fun _=>?_) (fun hc=>by cases hc))|(refine aH false rfl (fun hc=>by cases hc) (fun _=>?_))|(refine aK ?_;simp only[aU])|(refine bI ?_;simp only[aU,aW,reduceIte,Nat.reduceEqDiff])|(refine aA rfl ?_;simp only[f1,f2,hb,d0,aU,aW,RR,seval])|(refine aO (fun h=>?_) (fun h=>?_)<;>simp only[h,f1,f2,hb,d0,aU,aW,RR,seval])|(refine aR (fun h=>?_) (fun h=>?_)<;>simp only[h,f1,f2,hb,d0,aU,aW,RR,seval])|(refine aH _ rfl (fun h=>?_) (fun h=>?_))|(refine aM ?_;simp only[aU,aW,aZ,aL,bJ,RR,seval];refine bB.pure ?_))
  cases l with
  |nil=>simp only[fV,iO];rfl
  |cons=>simp [fV]
 by_cases k1:k=2
 ·subst k1
  repeat' (first|(refine aB fun K y=>?_;refine aA rfl ?_;simp only[f2,hb,d0,RR,seval];apply y;clear y)|(refine aJ ?_)|(refine aN ?_)|(refine aH true rfl (fun _=>?_) (fun hc=>by cases hc))|(refine aH false rfl (fun hc=>by cases hc) (fun _=>?_))|(refine aK ?_;simp only[aU])|(refine bI ?_;simp only[aU,aW,reduceIte,Nat.reduceEqDiff])|(refine aA rfl ?_;simp only[f1,f2,hb,d0,aU,aW,RR,seval])|(refine aO (fun h=>?_) (fun h=>?_)<;>simp only[h,f1,f2,hb,d0,aU,aW,RR,seval])|(refine aR (fun h=>?_) (fun h=>?_)<;>simp only[h,f1,f2,hb,d0,aU,aW,RR,seval])|(refine aH _ rfl (fun h=>?_) (fun h=>?_))|(refine aM ?_;simp only[aU,aW,aZ,aL,bJ,RR,seval];refine bB.pure ?_))
  cases l with
  |nil=>simp only[fV,iO];rfl
  |cons=>simp [fV]
 by_cases k1:k=5
 ·subst k1
  repeat' (first|(refine aB fun K y=>?_;refine aA rfl ?_;simp only[f2,hb,d0,RR,seval];apply y;clear y)|(refine aJ ?_)|(refine aN ?_)|(refine aH true rfl (fun _=>?_) (fun hc=>by cases hc))|(refine aH false rfl (fun hc=>by cases hc) (fun _=>?_))|(refine aK ?_;simp only[aU,aW])|(refine bI ?_;simp only[aU,aW,reduceIte,Nat.reduceEqDiff])|(refine aA rfl ?_;simp only[aU,RR,seval])|(refine aO (fun h=>?_) (fun h=>?_)<;>simp only[h,f1,f2,hb,d0,aU,aW,RR,seval])|(refine aR (fun h=>?_) (fun h=>?_)<;>simp only[h,f1,f2,hb,d0,aU,aW,RR,seval])|(refine aH _ rfl (fun h=>?_) (fun h=>?_))|(refine aM ?_;simp only[aU,aW,aZ,aL,bJ,RR,seval];refine bB.pure ?_))
  cases l with
  |nil=>simp only[fV,iO];rfl
  |cons=>simp [fV]
 by_cases k1:k=3
 ·subst k1
  repeat' (first|(refine aB fun K y=>?_;refine aA rfl ?_;simp only[f2,hb,d1,RR,seval];apply y;clear y)|(refine aJ ?_)|(refine aN ?_)|(refine aH true rfl (fun _=>?_) (fun hc=>by cases hc))|(refine aH false rfl (fun hc=>by cases hc) (fun _=>?_))|(refine aK ?_;simp only[aU])|(refine bI ?_;simp only[aU,aW,reduceIte,Nat.reduceEqDiff])|(refine aA rfl ?_;simp only[d1,aU,RR,seval])|(refine aO (fun h=>?_) (fun h=>?_)<;>simp only[h,f1,f2,hb,d1,w1,aU,aW,RR,seval])|(refine aR (fun h=>?_) (fun h=>?_)<;>simp only[h,f1,f2,hb,w1,aU,RR,seval])|(refine aH _ rfl (fun h=>?_) (fun h=>?_))|(refine aM ?_;simp only[aU,aW,aZ,aL,bJ,RR,seval];refine bB.pure ?_)|(refine aP (ih2) ?_;simp only[aU,RR,seval]))
  all_goals simp [fV, *]
 by_cases k1:k=7
 ·subst k1
  repeat' (first|(refine aB fun K y=>?_;refine aA rfl ?_;simp only[f2,hb,d1,RR,seval];apply y;clear y)|(refine aJ ?_)|(refine aN ?_)|(refine aH true rfl (fun _=>?_) (fun hc=>by cases hc))|(refine aH false rfl (fun hc=>by cases hc) (fun _=>?_))|(refine aK ?_;simp only[aU,aW])|(refine bI ?_;simp only[aU,aW,reduceIte,Nat.reduceEqDiff])|(refine aA rfl ?_;simp only[d1,aU,RR,seval])|(refine aO (fun h=>?_) (fun h=>?_)<;>simp only[h,f1,f2,hb,d1,w1,aU,aW,RR,seval])|(refine aR (fun h=>?_) (fun h=>?_)<;>simp only[h,f1,f2,hb,w1,aU,RR,seval])|(refine aH _ rfl (fun h=>?_) (fun h=>?_))|(refine aM ?_;simp only[aU,aW,aZ,aL,bJ,RR,seval];refine bB.pure ?_)|(refine aP (ih2) ?_;simp only[aU,RR,seval]))
  all_goals simp [fV, *]
 by_cases k1:k=4
 ·subst k1
  repeat' (first|(refine aB fun K y=>?_;refine aA rfl ?_;simp only[f2,hb,l6,RR,seval];apply y;clear y)|(refine aJ ?_)|(refine aN ?_)|(refine aH true rfl (fun _=>?_) (fun hc=>by cases hc))|(refine aH false rfl (fun hc=>by cases hc) (fun _=>?_))|(refine aK ?_;simp only[aU,aW])|(refine bI ?_;simp only[aU,aW,reduceIte,Nat.reduceEqDiff])|(refine aA rfl ?_;simp only[l6,aU,RR,seval])|(refine aO (fun h=>?_) (fun h=>?_)<;>simp only[h,f1,f2,hb,l6,w1,aU,aW,RR,seval])|(refine aR (fun h=>?_) (fun h=>?_)<;>simp only[h,f1,f2,hb,w1,aU,RR,seval])|(refine aH _ rfl (fun h=>?_) (fun h=>?_))|(refine aM ?_;simp only[aU,aW,aZ,aL,bJ,RR,seval];refine bB.pure ?_)|(refine aP (ih2) ?_;simp only[aU,RR,seval]))
  all_goals simp [fV, *]
 by_cases k1:k=6
 ·subst k1
  repeat' (first|(refine aB fun K y=>?_;refine aA rfl ?_;simp only[f2,hb,RR,seval];apply y;clear y)|(refine aJ ?_)|(refine aN ?_)|(refine aH true rfl (fun _=>?_) (fun hc=>by cases hc))|(refine aH false rfl (fun hc=>by cases hc) (fun _=>?_))|(refine aK ?_;simp only[aU,aW])|(refine bI ?_;simp only[aU,aW,reduceIte,Nat.reduceEqDiff])|(refine aA rfl ?_;simp only[f2,hb,aU,RR,seval])|(refine aO (fun h=>?_) (fun h=>?_)<;>simp only[h,f1,f2,hb,d2,w1,aU,aW,RR,seval])|(refine aR (fun h=>?_) (fun h=>?_)<;>simp only[h,f1,f2,hb,d2,w1,aU,RR,seval])|(refine aH _ rfl (fun h=>?_) (fun h=>?_))|(refine aM ?_;simp only[aU,aW,aZ,aL,bJ,RR,seval];refine bB.pure ?_)|(refine aP (ih2) ?_;simp only[aU,RR,seval]))
  all_goals simp [fV, *]
 by_cases k1:k=8
 ·subst k1
  repeat' (first|(refine aB fun K y=>?_;refine aA rfl ?_;simp only[f2,hb,d2,RR,seval];apply y;clear y)|(refine aJ ?_)|(refine aN ?_)|(refine aH true rfl (fun _=>?_) (fun hc=>by cases hc))|(refine aH false rfl (fun hc=>by cases hc) (fun _=>?_))|(refine aK ?_;simp only[aU])|(refine bI ?_;simp only[aU,aW,reduceIte,Nat.reduceEqDiff])|(refine aA rfl ?_;simp only[d2,aU,RR,seval])|(refine aO (fun h=>?_) (fun h=>?_)<;>simp only[h,f1,f2,hb,d2,w1,aU,aW,RR,seval])|(refine aR (fun h=>?_) (fun h=>?_)<;>simp only[h,f1,f2,hb,w1,aU,RR,seval])|(refine aH _ rfl (fun h=>?_) (fun h=>?_))|(refine aM ?_;simp only[aU,aW,aZ,aL,bJ,RR,seval];refine bB.pure ?_)|(refine aP (ih2) ?_;simp only[aU,RR,seval]))
  all_goals simp [fV, *]
 by_cases k1:k=9
 ·subst k1
  repeat' (first|(refine aB fun K y=>?_;refine aA rfl ?_;simp only[f2,hb,d2,RR,seval];apply y;clear y)|(refine aJ ?_)|(refine aN ?_)|(refine aH true rfl (fun _=>?_) (fun hc=>by cases hc))|(refine aH false rfl (fun hc=>by cases hc) (fun _=>?_))|(refine aK ?_;simp only[aU,aW])|(refine bI ?_;simp only[aU,aW,reduceIte,Nat.reduceEqDiff])|(refine aA rfl ?_;simp only[d2,aU,RR,seval])|(refine aO (fun h=>?_) (fun h=>?_)<;>simp only[h,f1,f2,hb,d2,w1,aU,aW,RR,seval])|(refine aR (fun h=>?_) (fun h=>?_)<;>simp only[h,f1,f2,hb,w1,aU,RR,seval])|(refine aH _ rfl (fun h=>?_) (fun h=>?_))|(refine aM ?_;simp only[aU,aW,aZ,aL,bJ,RR,seval];refine bB.pure ?_)|(refine aP (ih2) ?_;simp only[aU,RR,seval]))
  all_goals simp [fV, *]
 have g1:decide (k=1)=false:=aX (by assumption);have g2:decide (k=2)=false:=aX (by assumption);have g3:decide (k=3)=false:=aX (by assumption);have g4:decide (k=4)=false:=aX (by assumption);have g5:decide (k=5)=false:=aX (by assumption);have g6:decide (k=6)=false:=aX (by assumption);have g7:decide (k=7)=false:=aX (by assumption);have g8:decide (k=8)=false:=aX (by assumption);have g9:decide (k=9)=false:=aX (by assumption)
 repeat' (first|(refine aB fun K y=>?_;refine aA rfl ?_;simp only[f2,hb,g1,g2,g3,g4,g6,g8,RR,seval];apply y;clear y)|(refine aJ ?_)|(refine aN ?_)|(refine aH true rfl (fun _=>?_) (fun hc=>by cases hc))|(refine aH false rfl (fun hc=>by cases hc) (fun _=>?_))|(refine aK ?_;simp only[aU,aW])|(refine bI ?_;simp only[aU,aW,reduceIte,Nat.reduceEqDiff])|(refine aA rfl ?_;simp only[g5,g7,g9,aU,RR,seval])|(refine aO (fun h=>?_) (fun h=>?_)<;>simp only[h,f1,f2,hb,g1,g2,g3,g4,g5,g6,g7,g8,g9,aU,aW,RR,seval])|(refine aR (fun h=>?_) (fun h=>?_)<;>simp only[h,f1,f2,hb,g1,g2,g3,g4,g5,g6,g7,g8,g9,aU,aW,RR,seval])|(refine aH _ rfl (fun h=>?_) (fun h=>?_))|(refine aM ?_;simp only[aZ,aL,bJ,RR,seval];refine bB.pure ?_))
 simp [fV, *]
theorem yT (n:Nat): ∀(l:List Ex) (level:Int),jA l=n→rT l→ -1000000≤level→level≤1000000→cM cG 121 [.isl 5 (l.map Ex.row), .int .i64 level] (.bool (eG l level)):=by
 induction n using Nat.strongRecOn with
 |_ n ih=>
  intro l level hn hok h1 h2;have hfit:l.length≤9223372036854775807:=hok.fit;refine bM 19 [.tmp 4] Tryz.func121 rfl rfl rfl rfl ?_;refine aB fun K y=>?_;refine aA rfl ?_;simp only[RR,seval];apply y;clear y;refine bT (fun fr H=>eG l level=true) (fun K y=>?_) ?_
  ·refine aB fun K y=>?_;refine aA rfl ?_;simp only[RR,seval]
   apply y;clear y;refine aN ?_;refine cJ (fun mm fr H=> ∃k:Nat,mm=l.length-k∧k≤l.length∧fr 5= .int .i64 k∧fr 0= .isl 5 (l.map Ex.row)∧fr 1= .int .i64 level∧eG l level=eG (l.drop k) level) (l.length) ⟨0,rfl,Nat.zero_le _,rfl,rfl,rfl,by rw[List.drop_zero]⟩ ?_;rintro mm fr H ⟨k,rfl,hkk,hik,h0,f1,hall⟩ K2 hK2;refine aJ ?_;refine aB fun K y=>?_;refine aA rfl ?_;simp only[RR,seval];simp only[hik,h0,aC,RR,seval];apply y;clear y;refine aH _ rfl (fun hc=>?_) (fun hc=>?_)
   ·have hltk:k<l.length:=by have:=aD hc;omega
    clear hc;refine aK ?_;simp only[aU];refine aJ ?_;refine aN ?_;have hg:=nL Ex.row (aG hltk);have hmem:=bE hltk;have he:=hok.all _ hmem;have hsz:=fH hmem;rw[bD hltk,iT]at hall;generalize l[k]=e at hg hall he hsz;have hse:=e.sz_eq;have hl5:=e.row_len;have hcon:=yU e he level h1 h2 (fun hle=>ih _ (by omega) e.kids (level+1) rfl he.kids (by omega) (by omega));refine aB fun K y=>?_;refine aA rfl ?_;simp only[RR,seval];simp only[h0,f1,hik,hg,hl5,RR,seval];rw[List.take_of_length_le (by omega)];refine aP hcon ?_;simp only[RR,seval];apply y;clear y;refine aH (!fO e level) rfl (fun hc=>?_) (fun hc=>?_)
    ·refine aB fun K y=>?_;refine aA rfl ?_;simp only[RR,seval]
     apply y;clear y;refine aM ?_;simp only[aU,aW,aZ,aL,bJ,RR,seval];refine bB.pure ?_;rw[hall,show fO e level=false by simpa using hc];rfl
    refine aK ?_;simp only[aU,aW];rw[show fO e level=true by simpa using hc,Bool.true_and]at hall;refine aA rfl ?_;simp only[RR,seval];simp only[hik,aU,RR,seval];rw[aV _ (by omega)];refine hK2 (l.length-(k+1)) _ _ (by omega) ⟨k+1,rfl,by omega,rfl,h0,f1,hall⟩
   refine bI ?_;simp only[aU,aW,reduceIte];have hknk:k=l.length:=by have:=aE hc;omega
   clear hc;subst hknk;rw[List.drop_length,iO]at hall;exact y _ _ hall
  rintro fr H h0;refine aB fun K y=>?_;refine aA rfl ?_;simp only[RR,seval];apply y;clear y;refine aM ?_;simp only[aZ,aL,bJ,RR,seval];refine bB.pure ?_;rw[h0]
end Go.Proofs.YtaecpjgmcffliaaGreatDoor
namespace Go.Proofs.YtaecpjgmcffliaaGreatDoor
open Go.Al
def sA (s:Sm) (level:Int):Bool:=
 decide (level≤24)&&(decide (s.kind=4)||decide (s.els.length=0))&&(decide (s.kind=4)||decide (s.kind=5)||decide (s.thn.length=0))&&
  (if s.kind=1∨s.kind=2∨s.kind=6 then cV s.name else decide (s.name=[]))
def sH (k:Int) (n:Nat):Bool:=
 if k=1∨k=3∨k=4∨k=5 then decide (n=1)else if k=2 then decide (n=2)else if k=6 then decide (n≤6)else if k=7 then decide (n≤1)else false
def dW:List Sm→Int→Bool
 |[],_=>true
 | .mk k s es t u::l,level=>sA (.mk k s es t u) level&&sH k es.length&&eG es (level+1)&&dW t (level+1)&&dW u (level+1)&&dW l level
def fP (s:Sm) (level:Int):Bool:=sA s level&&sH s.kind s.es.length&&eG s.es (level+1)&&dW s.thn (level+1)&&dW s.els (level+1)
theorem iS (e:Sm) (l:List Sm) (level:Int):dW (e::l) level=(fP e level&&dW l level):=by
 cases e;rw[dW];rfl
theorem nC (level:Int):dW [] level=true:=by rw[dW]
def gW (a:Ar):Bool:=cV a.name&&decide (1≤a.size)&&decide (a.size≤4096)
def eT (f:Fu):Bool:=cV f.name&&decide (f.params.length≤6)&&f.params.all cV&&f.locs.all cV&&dW f.body 1
def dH (p:Pg):Bool:=p.vars.all cV&&decide (1≤p.funs.length)&&decide (p.funs.length≤64)&&p.arrs.all gW&&p.funs.all eT
theorem Z0 {a b:Bool} (h:a= !b) (ha:a=true):b=false:=by subst ha;cases b<;>simp_all
theorem Y9 {a b:Bool} (h:a= !b) (ha:a=false):b=true:=by subst ha;cases b<;>simp_all
set_option maxHeartbeats 4000000 in
theorem yS (e:Sm) (he:e.ok) (level:Int) (h1: -1000000≤level) (h2:level≤1000000)
  (ih:level≤24→ ∀x,x=e.thn∨x=e.els→cM cG 52 [.isl 5 (x.map Sm.row), .int .i64 (level+1)] (.bool (dW x (level+1)))):
  cM cG 77 [.agg e.row, .int .i64 level] (.bool (fP e level)):=by
 have hname:=lB e.name he.name;have hexs:=fun h=>yT _ e.es (level+1) rfl he.es (by omega) h;have hrow:=e.row_eq;generalize he2:fP e level=res;rw[hrow];have f3:e.es.length≤9223372036854775807:=he.es.fit;have f4:e.thn.length≤9223372036854775807:=he.thn.fit;have f5:e.els.length≤9223372036854775807:=he.els.fit;obtain⟨k,s,l,tt,u⟩:=e;simp only[Sm.kind,Sm.name,Sm.es,Sm.thn,Sm.els]at ih hname hexs f3 f4 f5⊢;clear hrow he;have hX:fP (.mk k s l tt u) level=((decide (level≤24)&&(decide (k=4)||decide (u.length=0))&&(decide (k=4)||decide (k=5)||decide (tt.length=0)))&&(if k=1∨k=2∨k=6 then cV s else decide (s=[]))&&sH k l.length&&eG l (level+1)&&dW tt (level+1)&&dW u (level+1)):=rfl;rw[he2]at hX;clear he2;refine bM 110 [.tmp 4] Tryz.func77 rfl rfl rfl rfl ?_;refine bT (fun fr H=> ∃b,fr 1= .int .i64 level∧fr 2= .ptr 5 b 0 0∧H b=some (.rows 5 [[.int .i64 k, .str s, .isl 5 (l.map Ex.row), .isl 5 (tt.map Sm.row), .isl 5 (u.map Sm.row)]])) (fun K y=>?_) ?_
 ·refine aA rfl ?_;simp only[RR,seval]
  refine aT fun b hb=>?_;simp only[RR,seval];exact y _ _ ⟨b,rfl,rfl,aS _ _ _⟩
 rintro fr H ⟨b,f1,f2,hb⟩;refine aJ ?_;refine bT (fun fr H=> ∃t,fr 36= .bool t∧(t= !(decide (level≤24)&&(decide (k=4)||decide (u.length=0))&&(decide (k=4)||decide (k=5)||decide (tt.length=0))))∧fr 1= .int .i64 level∧fr 2= .ptr 5 b 0 0∧H b=some (.rows 5 [[.int .i64 k, .str s, .isl 5 (l.map Ex.row), .isl 5 (tt.map Sm.row), .isl 5 (u.map Sm.row)]])) (fun K y=>?_) ?_
 ·have d1:decide ((0:Int)<u.length)= !decide (u.length=0):=by rw[Bool.eq_iff_iff];simp only[bC,Bool.not_eq_true',decide_eq_false_iff_not];omega
  have d2:decide ((0:Int)<tt.length)= !decide (tt.length=0):=by rw[Bool.eq_iff_iff];simp only[bC,Bool.not_eq_true',decide_eq_false_iff_not];omega
  refine aA rfl ?_;simp only[RR,seval];simp only[f1,RR,seval]
  repeat' ((first|refine aO (fun h=>?_) (fun h=>?_)|refine aR (fun h=>?_) (fun h=>?_))<;>simp only[h,f2,hb,aC,d1,d2,RR,seval])
  all_goals
   refine y _ _ ⟨_,rfl, ?_,f1,f2,hb⟩;clear y;simp_all<;>omega
 rintro fr H ⟨t,f36,ht,f1,f2,hb⟩;refine aH _ f36 (fun hc=>?_) (fun hc=>?_)
 ·have:=Z0 ht hc
  refine aB fun K y=>?_;refine aA rfl ?_;simp only[RR,seval];apply y;clear y;refine aM ?_;simp only[aU,aZ,aL,bJ,RR,seval];refine bB.pure ?_;rw[hX,this];rfl
 have h3:=Y9 ht hc;have hlev:level≤24:=by simp only[bA,bC]at h3;exact h3.1.1
 rw[h3,Bool.true_and]at hX;have ih2:=ih hlev;have hexs2:=hexs (by omega);clear ht hc f36 t;refine aK ?_;simp only[aU];refine bT (fun fr H=>fr 5= .bool (decide (k=1∨k=2∨k=6))∧fr 1= .int .i64 level∧fr 2= .ptr 5 b 0 0∧H b=some (.rows 5 [[.int .i64 k, .str s, .isl 5 (l.map Ex.row), .isl 5 (tt.map Sm.row), .isl 5 (u.map Sm.row)]])) (fun K y=>?_) ?_
 ·refine aA rfl ?_;simp only[RR,seval]
  simp only[f2,hb,RR,seval]
  repeat' ((first|refine aO (fun h=>?_) (fun h=>?_)|refine aR (fun h=>?_) (fun h=>?_))<;>simp only[h,f2,hb,RR,seval])
  all_goals
   refine y _ _ ⟨?_,f1,f2,hb⟩;clear y;simp [upd];simp_all
 rintro fr H ⟨f5,f1,f2,hb⟩;refine aJ ?_;refine bT (fun fr H=> ∃t,fr 63= .bool t∧(t= !(if k=1∨k=2∨k=6 then cV s else decide (s=[])))∧fr 1= .int .i64 level∧fr 2= .ptr 5 b 0 0∧H b=some (.rows 5 [[.int .i64 k, .str s, .isl 5 (l.map Ex.row), .isl 5 (tt.map Sm.row), .isl 5 (u.map Sm.row)]])) (fun K y=>?_) ?_
 ·by_cases hk:k=1∨k=2∨k=6
  ·have e1:decide (k=1∨k=2∨k=6)=true:=bQ hk
   rw[e1]at f5;by_cases hsn:s=[]
   ·have e2:decide (s=[])=true:=bQ hsn
    refine aA rfl ?_;simp only[RR,seval];simp only[f2,f5,hb,e2,RR,seval];exact y _ _ ⟨_,rfl,by rw[if_pos hk,hsn];rfl,f1,f2,hb⟩
   have e2:decide (s=[])=false:=aX hsn;refine aA rfl ?_;simp only[RR,seval];simp only[f2,f5,hb,e2,RR,seval];refine aP hname ?_;simp only[RR,seval];refine y _ _ ⟨_,rfl,by rw[if_pos hk],f1,f2,hb⟩
  have e1:decide (k=1∨k=2∨k=6)=false:=aX hk;rw[e1]at f5;by_cases hsn:s=[]
  ·have e2:decide (s=[])=true:=bQ hsn
   refine aA rfl ?_;simp only[RR,seval];simp only[f2,f5,hb,e2,RR,seval];exact y _ _ ⟨_,rfl,by rw[if_neg hk,e2];rfl,f1,f2,hb⟩
  have e2:decide (s=[])=false:=aX hsn;refine aA rfl ?_;simp only[RR,seval];simp only[f2,f5,hb,e2,RR,seval];exact y _ _ ⟨_,rfl,by rw[if_neg hk,e2];rfl,f1,f2,hb⟩
 rintro fr H ⟨t,f63,ht,f1,f2,hb⟩;refine aH _ f63 (fun hc=>?_) (fun hc=>?_)
 ·have:=Z0 ht hc
  refine aB fun K y=>?_;refine aA rfl ?_;simp only[RR,seval];apply y;clear y;refine aM ?_;simp only[aU,aZ,aL,bJ,RR,seval];refine bB.pure ?_;rw[hX,this];rfl
 rw[Y9 ht hc,Bool.true_and]at hX;clear ht hc f63 t h3;refine aK ?_;simp only[aU];refine aB fun K y=>?_;refine aA rfl ?_;simp only[RR,seval];simp only[f2,hb,aC,RR,seval];apply y;clear y;refine aB fun K y=>?_;refine aA rfl ?_;simp only[RR,seval];apply y;clear y;have w1:IntKind.wrap .i64 (level+1)=level+1:=aV _ (by omega);refine bT (fun fr H=>fr 7= .bool (sH k l.length)∧fr 1= .int .i64 level∧fr 2= .ptr 5 b 0 0∧H b=some (.rows 5 [[.int .i64 k, .str s, .isl 5 (l.map Ex.row), .isl 5 (tt.map Sm.row), .isl 5 (u.map Sm.row)]])) (fun K y=>?_) ?_
 ·have d1:decide ((l.length:Int)=1)=decide (l.length=1):=by rw[Bool.eq_iff_iff];simp only[bC];omega
  have d2:decide ((l.length:Int)=2)=decide (l.length=2):=by rw[Bool.eq_iff_iff];simp only[bC];omega
  have d6:decide ((l.length:Int)≤6)=decide (l.length≤6):=by rw[Bool.eq_iff_iff];simp only[bC];omega
  have d7:decide ((l.length:Int)≤1)=decide (l.length≤1):=by rw[Bool.eq_iff_iff];simp only[bC];omega
  by_cases k1:k=1
  ·subst k1
   repeat' (first|(refine aB fun K y=>?_;refine aA rfl ?_;simp only[f2,hb,RR,seval];apply y;clear y)|(refine aJ ?_)|(refine aN ?_)|(refine aH true rfl (fun _=>?_) (fun hc=>by cases hc))|(refine aH false rfl (fun hc=>by cases hc) (fun _=>?_))|(refine aK ?_;simp only[aU])|(refine bI ?_;simp only[aU,aW,reduceIte,Nat.reduceEqDiff])|(refine aA rfl ?_;simp only[d1,aU,aW,RR,seval])|(refine aO (fun h=>?_) (fun h=>?_)<;>simp only[h,f2,hb,d1,aU,aW,RR,seval])|(refine aR (fun h=>?_) (fun h=>?_)<;>simp only[h,f2,hb,d1,aU,aW,RR,seval])|(refine aH _ rfl (fun h=>?_) (fun h=>?_))|(refine aM ?_;simp only[aU,aW,aZ,aL,bJ,tV,f2,hb,d1,RR,seval];refine bB.pure ?_))
   exact y _ _ ⟨rfl,f1,f2,hb⟩
  by_cases k1:k=3
  ·subst k1
   repeat' (first|(refine aB fun K y=>?_;refine aA rfl ?_;simp only[f2,hb,RR,seval];apply y;clear y)|(refine aJ ?_)|(refine aN ?_)|(refine aH true rfl (fun _=>?_) (fun hc=>by cases hc))|(refine aH false rfl (fun hc=>by cases hc) (fun _=>?_))|(refine aK ?_;simp only[aU])|(refine bI ?_;simp only[aU,aW,reduceIte,Nat.reduceEqDiff])|(refine aA rfl ?_;simp only[d1,aU,aW,RR,seval])|(refine aO (fun h=>?_) (fun h=>?_)<;>simp only[h,f2,hb,d1,aU,aW,RR,seval])|(refine aR (fun h=>?_) (fun h=>?_)<;>simp only[h,f2,hb,d1,aU,aW,RR,seval])|(refine aH _ rfl (fun h=>?_) (fun h=>?_))|(refine aM ?_;simp only[aU,aW,aZ,aL,bJ,tV,f2,hb,d1,RR,seval];refine bB.pure ?_))
   exact y _ _ ⟨rfl,f1,f2,hb⟩
  by_cases k1:k=4
  ·subst k1
   repeat' (first|(refine aB fun K y=>?_;refine aA rfl ?_;simp only[f2,hb,RR,seval];apply y;clear y)|(refine aJ ?_)|(refine aN ?_)|(refine aH true rfl (fun _=>?_) (fun hc=>by cases hc))|(refine aH false rfl (fun hc=>by cases hc) (fun _=>?_))|(refine aK ?_;simp only[aU])|(refine bI ?_;simp only[aU,aW,reduceIte,Nat.reduceEqDiff])|(refine aA rfl ?_;simp only[d1,aU,aW,RR,seval])|(refine aO (fun h=>?_) (fun h=>?_)<;>simp only[h,f2,hb,d1,aU,aW,RR,seval])|(refine aR (fun h=>?_) (fun h=>?_)<;>simp only[h,f2,hb,d1,aU,aW,RR,seval])|(refine aH _ rfl (fun h=>?_) (fun h=>?_))|(refine aM ?_;simp only[aU,aW,aZ,aL,bJ,tV,f2,hb,d1,RR,seval];refine bB.pure ?_))
   exact y _ _ ⟨rfl,f1,f2,hb⟩
  by_cases k1:k=5
  ·subst k1
   repeat' (first|(refine aB fun K y=>?_;refine aA rfl ?_;simp only[f2,hb,RR,seval];apply y;clear y)|(refine aJ ?_)|(refine aN ?_)|(refine aH true rfl (fun _=>?_) (fun hc=>by cases hc))|(refine aH false rfl (fun hc=>by cases hc) (fun _=>?_))|(refine aK ?_;simp only[aU,aW])|(refine bI ?_;simp only[aU,aW,reduceIte,Nat.reduceEqDiff])|(refine aA rfl ?_;simp only[d1,aU,aW,RR,seval])|(refine aO (fun h=>?_) (fun h=>?_)<;>simp only[h,f2,hb,d1,aU,aW,RR,seval])|(refine aR (fun h=>?_) (fun h=>?_)<;>simp only[h,f2,hb,d1,aU,aW,RR,seval])|(refine aH _ rfl (fun h=>?_) (fun h=>?_))|(refine aM ?_;simp only[aU,aW,aZ,aL,bJ,tV,f2,hb,d1,RR,seval];refine bB.pure ?_))
   exact y _ _ ⟨rfl,f1,f2,hb⟩
  by_cases k1:k=2
  ·subst k1
   repeat' (first|(refine aB fun K y=>?_;refine aA rfl ?_;simp only[f2,hb,RR,seval];apply y;clear y)|(refine aJ ?_)|(refine aN ?_)|(refine aH true rfl (fun _=>?_) (fun hc=>by cases hc))|(refine aH false rfl (fun hc=>by cases hc) (fun _=>?_))|(refine aK ?_;simp only[aU,aW])|(refine bI ?_;simp only[aU,aW,reduceIte,Nat.reduceEqDiff])|(refine aA rfl ?_;simp only[d2,aU,aW,RR,seval])|(refine aO (fun h=>?_) (fun h=>?_)<;>simp only[h,f2,hb,d2,aU,aW,RR,seval])|(refine aR (fun h=>?_) (fun h=>?_)<;>simp only[h,f2,hb,d2,aU,aW,RR,seval])|(refine aH _ rfl (fun h=>?_) (fun h=>?_))|(refine aM ?_;simp only[aU,aW,aZ,aL,bJ,tV,f2,hb,d2,RR,seval];refine bB.pure ?_))
   exact y _ _ ⟨rfl,f1,f2,hb⟩
  by_cases k1:k=6
  ·subst k1
   repeat' (first|(refine aB fun K y=>?_;refine aA rfl ?_;simp only[f2,hb,RR,seval];apply y;clear y)|(refine aJ ?_)|(refine aN ?_)|(refine aH true rfl (fun _=>?_) (fun hc=>by cases hc))|(refine aH false rfl (fun hc=>by cases hc) (fun _=>?_))|(refine aK ?_;simp only[aU,aW])|(refine bI ?_;simp only[aU,aW,reduceIte,Nat.reduceEqDiff])|(refine aA rfl ?_;simp only[d6,aU,aW,RR,seval])|(refine aO (fun h=>?_) (fun h=>?_)<;>simp only[h,f2,hb,d6,aU,aW,RR,seval])|(refine aR (fun h=>?_) (fun h=>?_)<;>simp only[h,f2,hb,d6,aU,aW,RR,seval])|(refine aH _ rfl (fun h=>?_) (fun h=>?_))|(refine aM ?_;simp only[aU,aW,aZ,aL,bJ,tV,f2,hb,d6,RR,seval];refine bB.pure ?_))
   exact y _ _ ⟨rfl,f1,f2,hb⟩
  by_cases k1:k=7
  ·subst k1
   repeat' (first|(refine aB fun K y=>?_;refine aA rfl ?_;simp only[f2,hb,RR,seval];apply y;clear y)|(refine aJ ?_)|(refine aN ?_)|(refine aH true rfl (fun _=>?_) (fun hc=>by cases hc))|(refine aH false rfl (fun hc=>by cases hc) (fun _=>?_))|(refine aK ?_;simp only[aU,aW])|(refine bI ?_;simp only[aU,aW,reduceIte,Nat.reduceEqDiff])|(refine aA rfl ?_;simp only[d7,aU,aW,RR,seval])|(refine aO (fun h=>?_) (fun h=>?_)<;>simp only[h,f2,hb,d7,aU,aW,RR,seval])|(refine aR (fun h=>?_) (fun h=>?_)<;>simp only[h,f2,hb,d7,aU,aW,RR,seval])|(refine aH _ rfl (fun h=>?_) (fun h=>?_))|(refine aM ?_;simp only[aU,aW,aZ,aL,bJ,tV,f2,hb,d7,RR,seval];refine bB.pure ?_))
   exact y _ _ ⟨rfl,f1,f2,hb⟩
  have g1:decide (k=1)=false:=aX (by assumption);have g2:decide (k=2)=false:=aX (by assumption);have g3:decide (k=3)=false:=aX (by assumption);have g4:decide (k=4)=false:=aX (by assumption);have g5:decide (k=5)=false:=aX (by assumption);have g6:decide (k=6)=false:=aX (by assumption);have g7:decide (k=7)=false:=aX (by assumption)
  repeat' (first|(refine aB fun K y=>?_;refine aA rfl ?_;simp only[f2,hb,g1,g2,g3,g4,g6,g7,RR,seval];apply y;clear y)|(refine aJ ?_)|(refine aN ?_)|(refine aH true rfl (fun _=>?_) (fun hc=>by cases hc))|(refine aH false rfl (fun hc=>by cases hc) (fun _=>?_))|(refine aK ?_;simp only[aU,aW])|(refine bI ?_;simp only[aU,aW,reduceIte,Nat.reduceEqDiff])|(refine aA rfl ?_;simp only[g5,aU,RR,seval])|(refine aO (fun h=>?_) (fun h=>?_)<;>simp only[h,f2,hb,g1,g2,g3,g4,g5,g6,g7,aU,aW,RR,seval])|(refine aR (fun h=>?_) (fun h=>?_)<;>simp only[h,f2,hb,g1,g2,g3,g4,g5,g6,g7,aU,aW,RR,seval])|(refine aH _ rfl (fun h=>?_) (fun h=>?_))|(refine aM ?_;simp only[aU,aW,aZ,aL,bJ,tV,f2,hb,g1,g2,g3,g4,g5,g6,g7,RR,seval];refine bB.pure ?_))
  exact y _ _ ⟨by simp [sH, *,upd],f1,f2,hb⟩
 rintro fr H ⟨f7,f1,f2,hb⟩;subst hX
 cases hf:sH k l.length with
 |false=>
  rw[hf]at f7
  repeat' (first|(refine aB fun K y=>?_;refine aA rfl ?_;simp only[f7,RR,seval];apply y;clear y)|(refine aJ ?_)|(refine aN ?_)|(refine aH true rfl (fun _=>?_) (fun hc=>by cases hc))|(refine aH false rfl (fun hc=>by cases hc) (fun _=>?_))|(refine aK ?_;simp only[aU,aW])|(refine bI ?_;simp only[aU,aW,reduceIte,Nat.reduceEqDiff])|(refine aA rfl ?_;simp only[f7,aU,aW,RR,seval])|(refine aO (fun h=>?_) (fun h=>?_)<;>simp only[h,f7,aU,aW,RR,seval])|(refine aR (fun h=>?_) (fun h=>?_)<;>simp only[h,f7,aU,aW,RR,seval])|(refine aH _ rfl (fun h=>?_) (fun h=>?_))|(refine aM ?_;simp only[aZ,aL,bJ,RR,seval];refine bB.pure ?_))
  rfl
 |true=>
  rw[hf]at f7
  cases hx:eG l (level+1)with
  |false=>
   rw[hx]at hexs2
   repeat' (first|(refine aB fun K y=>?_;refine aA rfl ?_;simp only[f1,f2,f7,hb,w1,RR,seval];apply y;clear y)|(refine aJ ?_)|(refine aN ?_)|(refine aH true rfl (fun _=>?_) (fun hc=>by cases hc))|(refine aH false rfl (fun hc=>by cases hc) (fun _=>?_))|(refine aK ?_;simp only[aU,aW])|(refine bI ?_;simp only[aU,aW,reduceIte,Nat.reduceEqDiff])|(refine aA rfl ?_;simp only[f1,f2,f7,hb,w1,RR,seval])|(refine aO (fun h=>?_) (fun h=>?_)<;>simp only[h,f1,f2,f7,hb,w1,aU,aW,RR,seval])|(refine aR (fun h=>?_) (fun h=>?_)<;>simp only[h,f1,f2,f7,hb,w1,aU,aW,RR,seval])|(refine aH _ rfl (fun h=>?_) (fun h=>?_))|(refine aM ?_;simp only[aZ,aL,bJ,RR,seval];refine bB.pure ?_)|(refine aP (hexs2) ?_;simp only[aU,RR,seval]))
   rfl
  |true=>
   rw[hx]at hexs2;have c1:=ih2 tt (.inl rfl);have c2:=ih2 u (.inr rfl);refine aB fun K y=>?_;refine aA rfl ?_;simp only[RR,seval];simp only[f1,f2,f7,hb,w1,RR,seval];refine aP hexs2 ?_;simp only[RR,seval];simp only[f1,f2,hb,w1,RR,seval];refine aP c1 ?_;simp only[RR,seval]
   cases ht:dW tt (level+1)with
   |false=>
    simp only[RR,seval];apply y;clear y;refine aM ?_;simp only[aZ,aL,bJ,RR,seval];refine bB.pure ?_;rw[ht];rfl
   |true=>
    simp only[f1,f2,hb,w1,RR,seval];refine aP c2 ?_;simp only[RR,seval];apply y;clear y;refine aM ?_;simp only[aZ,aL,bJ,RR,seval];refine bB.pure ?_;rw[ht];rfl
theorem yR (n:Nat): ∀(l:List Sm) (level:Int),gH l=n→rI l→ -1000000≤level→level≤1000000→cM cG 52 [.isl 5 (l.map Sm.row), .int .i64 level] (.bool (dW l level)):=by
 induction n using Nat.strongRecOn with
 |_ n ih=>
  intro l level hn hok h1 h2;have hfit:l.length≤9223372036854775807:=hok.fit;refine bM 19 [.tmp 4] Tryz.func52 rfl rfl rfl rfl ?_;refine aB fun K y=>?_;refine aA rfl ?_;simp only[RR,seval];apply y;clear y;refine bT (fun fr H=>dW l level=true) (fun K y=>?_) ?_
  ·refine aB fun K y=>?_;refine aA rfl ?_;simp only[RR,seval]
   apply y;clear y;refine aN ?_;refine cJ (fun mm fr H=> ∃k:Nat,mm=l.length-k∧k≤l.length∧fr 5= .int .i64 k∧fr 0= .isl 5 (l.map Sm.row)∧fr 1= .int .i64 level∧dW l level=dW (l.drop k) level) (l.length) ⟨0,rfl,Nat.zero_le _,rfl,rfl,rfl,by rw[List.drop_zero]⟩ ?_;rintro mm fr H ⟨k,rfl,hkk,hik,h0,f1,hall⟩ K2 hK2;refine aJ ?_;refine aB fun K y=>?_;refine aA rfl ?_;simp only[RR,seval];simp only[hik,h0,aC,RR,seval];apply y;clear y;refine aH _ rfl (fun hc=>?_) (fun hc=>?_)
   ·have hltk:k<l.length:=by have:=aD hc;omega
    clear hc;refine aK ?_;simp only[aU];refine aJ ?_;refine aN ?_;have hg:=nL Sm.row (aG hltk);have hmem:=bE hltk;have he:=hok.all _ hmem;have hsz:=eS hmem;rw[bD hltk,iS]at hall;generalize l[k]=e at hg hall he hsz;have hse:=e.sz_eq;have hl5:=e.row_len
    have hcon:=yS e he level h1 h2 (fun hle x hx=>by
     rcases hx with rfl|rfl
     ·exact ih _ (by omega) e.thn (level+1) rfl he.thn (by omega) (by omega)
     exact ih _ (by omega) e.els (level+1) rfl he.els (by omega) (by omega))
    refine aB fun K y=>?_;refine aA rfl ?_;simp only[RR,seval];simp only[h0,f1,hik,hg,hl5,RR,seval];rw[List.take_of_length_le (by omega)];refine aP hcon ?_;simp only[RR,seval];apply y;clear y;refine aH (!fP e level) rfl (fun hc=>?_) (fun hc=>?_)
    ·refine aB fun K y=>?_;refine aA rfl ?_;simp only[RR,seval]
     apply y;clear y;refine aM ?_;simp only[aU,aW,aZ,aL,bJ,RR,seval];refine bB.pure ?_;rw[hall,show fP e level=false by simpa using hc];rfl
    refine aK ?_;simp only[aU,aW];rw[show fP e level=true by simpa using hc,Bool.true_and]at hall;refine aA rfl ?_;simp only[RR,seval];simp only[hik,aU,RR,seval];rw[aV _ (by omega)];refine hK2 (l.length-(k+1)) _ _ (by omega) ⟨k+1,rfl,by omega,rfl,h0,f1,hall⟩
   refine bI ?_;simp only[aU,aW,reduceIte];have hknk:k=l.length:=by have:=aE hc;omega
   clear hc;subst hknk;rw[List.drop_length,nC]at hall;exact y _ _ hall
  rintro fr H h0;refine aB fun K y=>?_;refine aA rfl ?_;simp only[RR,seval];apply y;clear y;refine aM ?_;simp only[aZ,aL,bJ,RR,seval];refine bB.pure ?_;rw[h0]
end Go.Proofs.YtaecpjgmcffliaaGreatDoor
namespace Go.Proofs.YtaecpjgmcffliaaGreatDoor
open Go.Al
set_option maxHeartbeats 4000000 in
theorem rH (p:Pg) (hp:p.ok):cM cG 25 [p.av] (.bool (dH p)):=by
 have fv:p.vars.length≤9223372036854775807:=hp.vars.fit;have fa:p.arrs.length≤9223372036854775807:=hp.afit;have ff:p.funs.length≤9223372036854775807:=hp.ffit;have hnv:=oU p.vars hp.vars;obtain⟨vs,aa,fs⟩:=p;simp only at fv fa ff hnv;simp only[Pg.av,Pg.row];refine bM 95 [.tmp 2] Tryz.func25 rfl rfl rfl rfl ?_;refine bT (fun fr H=> ∃b,fr 1= .ptr 3 b 0 0∧H b=some (.rows 3 [[.isl 1 (vs.map bG), .isl 2 (aa.map Ar.row), .isl 5 (fs.map Fu.row)]])) (fun K y=>?_) ?_
 ·refine aA rfl ?_;simp only[RR,seval]
  refine aT fun b hb=>?_;simp only[RR,seval];exact y _ _ ⟨b,rfl,aS _ _ _⟩
 rintro fr H ⟨b,h2,hb⟩;have hR:dH ⟨vs,aa,fs⟩=((vs.all cV&&decide (1≤fs.length)&&decide (fs.length≤64))&&aa.all gW&&fs.all eT):=rfl;generalize dH ⟨vs,aa,fs⟩=res at hR⊢;refine aJ ?_;refine bT (fun fr H=> ∃t,fr 21= .bool t∧(t= !(vs.all cV&&decide (1≤fs.length)&&decide (fs.length≤64)))∧fr 1= .ptr 3 b 0 0∧H b=some (.rows 3 [[.isl 1 (vs.map bG), .isl 2 (aa.map Ar.row), .isl 5 (fs.map Fu.row)]])) (fun K y=>?_) ?_
 ·have d1:decide ((fs.length:Int)<1)= !decide (1≤fs.length):=by rw[Bool.eq_iff_iff];simp only[bC,Bool.not_eq_true',decide_eq_false_iff_not];omega
  have d2:decide ((64:Int)<fs.length)= !decide (fs.length≤64):=by rw[Bool.eq_iff_iff];simp only[bC,Bool.not_eq_true',decide_eq_false_iff_not];omega
  refine aA rfl ?_;simp only[RR,seval];simp only[h2,hb,RR,seval];refine aP hnv ?_;simp only[RR,seval]
  cases hv:vs.all cV with
  |false=>
   simp only[RR,seval];exact y _ _ ⟨_,rfl,by rw[hv];rfl,h2,hb⟩
  |true=>
   simp only[h2,hb,aC,d1,RR,seval]
   cases h1:decide (1≤fs.length)with
   |false=>
    simp only[RR,seval];exact y _ _ ⟨_,rfl,by rw[hv,h1];rfl,h2,hb⟩
   |true=>
    simp only[h2,hb,aC,d2,RR,seval];exact y _ _ ⟨_,rfl,by rw[hv,h1];rfl,h2,hb⟩
 rintro fr H ⟨t,h21,ht,h2,hb⟩;refine aH _ h21 (fun hc=>?_) (fun hc=>?_)
 ·have:=Z0 ht hc
  refine aB fun K y=>?_;refine aA rfl ?_;simp only[RR,seval];apply y;clear y;refine aM ?_;simp only[aU,aZ,aL,bJ,RR,seval];refine bB.pure ?_;rw[hR,this];rfl
 have h3:=Y9 ht hc;rw[h3,Bool.true_and]at hR;clear ht hc h21 t;refine aK ?_;simp only[aU];refine bT (fun fr H=>aa.all gW=true∧fr 1= .ptr 3 b 0 0∧H b=some (.rows 3 [[.isl 1 (vs.map bG), .isl 2 (aa.map Ar.row), .isl 5 (fs.map Fu.row)]])) (fun K y=>?_) ?_
 ·refine aB fun K y=>?_;refine aA rfl ?_;simp only[RR,seval]
  apply y;clear y;refine aN ?_;refine cJ (fun mm fr H=> ∃k:Nat,mm=aa.length-k∧k≤aa.length∧fr 3= .int .i64 k∧aa.all gW=(aa.drop k).all gW∧fr 1= .ptr 3 b 0 0∧H b=some (.rows 3 [[.isl 1 (vs.map bG), .isl 2 (aa.map Ar.row), .isl 5 (fs.map Fu.row)]])) (aa.length) ⟨0,rfl,Nat.zero_le _,rfl,by rw[List.drop_zero],h2,hb⟩ ?_;rintro mm fr H ⟨k,rfl,hkk,hik,hall,h2,hb⟩ K2 hK2;refine aJ ?_;refine aB fun K y=>?_;refine aA rfl ?_;simp only[RR,seval];simp only[hik,h2,hb,aC,RR,seval];apply y;clear y;refine aH _ rfl (fun hc=>?_) (fun hc=>?_)
  ·have hltk:k<aa.length:=by have:=aD hc;omega
   clear hc;refine aK ?_;simp only[aU];refine aJ ?_;refine aN ?_;have hg:=Ip (aG hltk);have hoka:=hp.arrs _ (bE hltk);rw[bD hltk,List.all_cons]at hall;generalize aa[k]=a at hg hall hoka;have hcon:=lB a.name hoka.1;have d1:decide (a.size<1)= !decide (1≤a.size):=by rw[Bool.eq_iff_iff];simp only[bC,Bool.not_eq_true',decide_eq_false_iff_not];omega
   have d2:decide (4096<a.size)= !decide (a.size≤4096):=by rw[Bool.eq_iff_iff];simp only[bC,Bool.not_eq_true',decide_eq_false_iff_not];omega
   refine bT (fun fr H=>fr 54= .bool (!gW a)∧fr 3= .int .i64 k∧fr 1= .ptr 3 b 0 0∧H b=some (.rows 3 [[.isl 1 (vs.map bG), .isl 2 (aa.map Ar.row), .isl 5 (fs.map Fu.row)]])) (fun K y=>?_) ?_
   ·refine aA rfl ?_;simp only[RR,seval]
    simp only[h2,hb,hik,hg,RR,seval];refine aP hcon ?_;simp only[RR,seval]
    cases hv:cV a.name with
    |false=>
     simp only[RR,seval];exact y _ _ ⟨by simp only[gW,hv];rfl,hik,h2,hb⟩
    |true=>
     simp only[h2,hb,hik,hg,d1,RR,seval]
     cases h1:decide (1≤a.size)with
     |false=>
      simp only[RR,seval];exact y _ _ ⟨by simp only[gW,hv,h1];rfl,hik,h2,hb⟩
     |true=>
      simp only[h2,hb,hik,hg,d2,RR,seval];exact y _ _ ⟨by simp only[gW,hv,h1];rfl,hik,h2,hb⟩
   rintro fr H ⟨h54,hik,h2,hb⟩;refine aH (!gW a) h54 (fun hc=>?_) (fun hc=>?_)
   ·refine aB fun K y=>?_;refine aA rfl ?_;simp only[RR,seval]
    apply y;clear y;refine aM ?_;simp only[aU,aW,aZ,aL,bJ,RR,seval];refine bB.pure ?_;rw[hR,hall,show gW a=false by simpa using hc];rfl
   refine aK ?_;simp only[aU,aW];rw[show gW a=true by simpa using hc,Bool.true_and]at hall;refine aA rfl ?_;simp only[RR,seval];simp only[hik,aU,RR,seval];rw[aV _ (by omega)];refine hK2 (aa.length-(k+1)) _ _ (by omega) ⟨k+1,rfl,by omega,rfl,hall,h2,hb⟩
  refine bI ?_;simp only[aU,aW,reduceIte];have hknk:k=aa.length:=by have:=aE hc;omega
  clear hc;subst hknk;rw[List.drop_length]at hall;exact y _ _ ⟨hall,h2,hb⟩
 rintro fr H ⟨hall,h2,hb⟩;rw[hall,Bool.true_and]at hR;refine bT (fun fr H=>fs.all eT=true) (fun K y=>?_) ?_
 ·refine aB fun K y=>?_;refine aA rfl ?_;simp only[RR,seval]
  apply y;clear y;refine aN ?_;refine cJ (fun mm fr H=> ∃k:Nat,mm=fs.length-k∧k≤fs.length∧fr 4= .int .i64 k∧fs.all eT=(fs.drop k).all eT∧fr 1= .ptr 3 b 0 0∧H b=some (.rows 3 [[.isl 1 (vs.map bG), .isl 2 (aa.map Ar.row), .isl 5 (fs.map Fu.row)]])) (fs.length) ⟨0,rfl,Nat.zero_le _,rfl,by rw[List.drop_zero],h2,hb⟩ ?_;rintro mm fr H ⟨k,rfl,hkk,hik,hall2,h2,hb⟩ K2 hK2;refine aJ ?_;refine aB fun K y=>?_;refine aA rfl ?_;simp only[RR,seval];simp only[hik,h2,hb,aC,RR,seval];apply y;clear y;refine aH _ rfl (fun hc=>?_) (fun hc=>?_)
  ·have hltk:k<fs.length:=by have:=aD hc;omega
   clear hc;refine aK ?_;simp only[aU];refine aJ ?_;refine aN ?_;have hg:=jK (aG hltk);have hokf:=hp.funs _ (bE hltk);rw[bD hltk,List.all_cons]at hall2;generalize fs[k]=f at hg hall2 hokf;refine aB fun K y=>?_;refine aA rfl ?_;simp only[RR,seval];simp only[h2,hb,hik,hg,RR,seval];refine aT fun b1 hb1=>?_;simp only[RR,seval];apply y;clear y;have hne:b≠b1:=fun e=>by rw[e,hb1]at hb;cases hb
   have hH1:(upd (upd H b1 (some (.rows 5 [[.str [], .nsl, .nsl, .bool false, .nsl]]))) b1 (some (.rows 5 [[.str f.name, .isl 1 (f.params.map bG), .isl 1 (f.locs.map bG), .bool f.word, .isl 5 (f.body.map Sm.row)]]))) b1=some (.rows 5 [[.str f.name, .isl 1 (f.params.map bG), .isl 1 (f.locs.map bG), .bool f.word, .isl 5 (f.body.map Sm.row)]]):=aS _ _ _;have hHb:(upd (upd H b1 (some (.rows 5 [[.str [], .nsl, .nsl, .bool false, .nsl]]))) b1 (some (.rows 5 [[.str f.name, .isl 1 (f.params.map bG), .isl 1 (f.locs.map bG), .bool f.word, .isl 5 (f.body.map Sm.row)]]))) b=some (.rows 3 [[.isl 1 (vs.map bG), .isl 2 (aa.map Ar.row), .isl 5 (fs.map Fu.row)]]):=by simp only[upd,if_neg hne];exact hb
   generalize(upd (upd H b1 (some (.rows 5 [[.str [], .nsl, .nsl, .bool false, .nsl]]))) b1 (some (.rows 5 [[.str f.name, .isl 1 (f.params.map bG), .isl 1 (f.locs.map bG), .bool f.word, .isl 5 (f.body.map Sm.row)]])))=H1 at hH1 hHb⊢;have c0:=lB f.name hokf.name;have c1:=oU f.params hokf.params;have c2:=oU f.locs hokf.locs;have c3:=yR _ f.body 1 rfl hokf.body (by omega) (by omega);have d1:decide ((6:Int)<f.params.length)= !decide (f.params.length≤6):=by rw[Bool.eq_iff_iff];simp only[bC,Bool.not_eq_true',decide_eq_false_iff_not];omega
   refine bT (fun fr H=>fr 94= .bool (!eT f)∧fr 4= .int .i64 k∧fr 1= .ptr 3 b 0 0∧H b=some (.rows 3 [[.isl 1 (vs.map bG), .isl 2 (aa.map Ar.row), .isl 5 (fs.map Fu.row)]])) (fun K y=>?_) ?_
   ·refine aA rfl ?_;simp only[RR,seval]
    simp only[hH1,RR,seval];refine aP c0 ?_;simp only[RR,seval]
    cases v0:cV f.name with
    |false=>
     simp only[RR,seval];exact y _ _ ⟨by simp only[eT,v0];rfl,hik,h2,hHb⟩
    |true=>
     simp only[hH1,aC,d1,RR,seval]
     cases v1:decide (f.params.length≤6)with
     |false=>
      simp only[RR,seval];exact y _ _ ⟨by simp only[eT,v0,v1];rfl,hik,h2,hHb⟩
     |true=>
      simp only[hH1,RR,seval];refine aP c1 ?_;simp only[RR,seval]
      cases v2:f.params.all cV with
      |false=>
       simp only[RR,seval];exact y _ _ ⟨by simp only[eT,v0,v1,v2];rfl,hik,h2,hHb⟩
      |true=>
       simp only[hH1,RR,seval];refine aP c2 ?_;simp only[RR,seval]
       cases v3:f.locs.all cV with
       |false=>
        simp only[RR,seval];exact y _ _ ⟨by simp only[eT,v0,v1,v2,v3];rfl,hik,h2,hHb⟩
       |true=>
        simp only[hH1,RR,seval];refine aP c3 ?_;simp only[RR,seval];exact y _ _ ⟨by simp only[eT,v0,v1,v2,v3];rfl,hik,h2,hHb⟩
   rintro fr H ⟨h94,hik,h2,hb⟩;refine aH (!eT f) h94 (fun hc=>?_) (fun hc=>?_)
   ·refine aB fun K y=>?_;refine aA rfl ?_;simp only[RR,seval]
    apply y;clear y;refine aM ?_;simp only[aU,aW,aZ,aL,bJ,RR,seval];refine bB.pure ?_;rw[hR,hall2,show eT f=false by simpa using hc];rfl
   refine aK ?_;simp only[aU,aW];rw[show eT f=true by simpa using hc,Bool.true_and]at hall2;refine aA rfl ?_;simp only[RR,seval];simp only[hik,aU,RR,seval];rw[aV _ (by omega)];refine hK2 (fs.length-(k+1)) _ _ (by omega) ⟨k+1,rfl,by omega,rfl,hall2,h2,hb⟩
  refine bI ?_;simp only[aU,aW,reduceIte];have hknk:k=fs.length:=by have:=aE hc;omega
  clear hc;subst hknk;rw[List.drop_length]at hall2;exact y _ _ hall2
 rintro fr H h0;refine aB fun K y=>?_;refine aA rfl ?_;simp only[RR,seval];apply y;clear y;refine aM ?_;simp only[aZ,aL,bJ,RR,seval];refine bB.pure ?_;rw[hR,h0]
theorem Vd (p:Pg) (hp:p.ok) (_: ∀f∈p.funs,f.params.length≤1100000):cM cG 25 [p.av] (.bool (dH p)):=rH p hp
end Go.Proofs.YtaecpjgmcffliaaGreatDoor
