/- Sy2 -/
import Derived.Test.YtaecpjgmcffliaaGreatDoorAl3
import Derived.Test.YtaecpjgmcffliaaGreatDoorRows
set_option linter.unusedSimpArgs false
set_option linter.unusedVariables false
set_option maxRecDepth 10000
set_option maxHeartbeats 4000000
namespace Go.Proofs.YtaecpjgmcffliaaGreatDoor
open Go.Al Go.Proofs.Tryz
def gU:List (List UInt8):=[[118,97,114],[97,114,114,97,121],[102,117,110,99],[119,111,114,100],[105,102],[101,108,115,101],[119,104,105,108,101],[114,101,116,117,114,110],[112,117,116],[103,101,116]]
def lV:List (List UInt8):=[[60,60],[62,62],[61,61],[38,38],[124,124],[40],[41],[123],[125],[91],[93],[59],[44],[61],[43],[45],[42],[47],[37],[38],[124],[94],[60],[33]]
def IW:List AV:=[.int .u64 1, .int .u64 10, .int .u64 100, .int .u64 1000, .int .u64 10000, .int .u64 100000, .int .u64 1000000, .int .u64 10000000, .int .u64 100000000, .int .u64 1000000000, .int .u64 10000000000, .int .u64 100000000000, .int .u64 1000000000000, .int .u64 10000000000000, .int .u64 100000000000000, .int .u64 1000000000000000, .int .u64 10000000000000000, .int .u64 100000000000000000, .int .u64 1000000000000000000, .int .u64 10000000000000000000]
def KG:Nat→Option (List AV)
 |0=>some (gU.map .str)
 |1=>some IW
 |_=>none
noncomputable def dV:kC:=⟨Tryz.prog,KG⟩
theorem UG:dV.G=KG:=rfl
theorem eF:dV.P.follows .mixedOrders=true:=by kernel_rfl
theorem VR:cG dV.P 3=some ⟨.int .i64,1,8, .int .i64 0⟩:=by kernel_rfl
theorem VQ:cG dV.P 4=some ⟨.bool,1,1, .bool false⟩:=by kernel_rfl
theorem VP:cG dV.P 5=some ⟨.int .u8,1,1, .int .u8 0⟩:=by kernel_rfl
theorem VO:cG dV.P 9=some ⟨.str,1,16, .str []⟩:=by kernel_rfl
theorem RL:cG dV.P 22=some ⟨.slice 9,1,24, .nsl⟩:=by kernel_rfl
theorem RJ:cG dV.P 23=some ⟨.slice 82,1,24, .nsl⟩:=by kernel_rfl
theorem RI:cG dV.P 24=some ⟨.slice 58,1,24, .nsl⟩:=by kernel_rfl
theorem RH:cG dV.P 26=some ⟨.strct [(22,0),(23,1),(24,2)],3,72, .agg [.nsl, .nsl, .nsl]⟩:=by kernel_rfl
theorem RG:cG dV.P 29=some ⟨.int .i64,1,8, .int .i64 0⟩:=by kernel_rfl
theorem RF:cG dV.P 34=some ⟨.slice 46,1,24, .nsl⟩:=by kernel_rfl
theorem RE:cG dV.P 36=some ⟨.strct [(34,0),(3,1)],2,32, .agg [.nsl, .int .i64 0]⟩:=by kernel_rfl
theorem RD:cG dV.P 40=some ⟨.strct [(3,0),(9,1),(3,2)],3,32, .agg [.int .i64 0, .str [], .int .i64 0]⟩:=by kernel_rfl
theorem RB:cG dV.P 45=some ⟨.slice 3,1,24, .nsl⟩:=by kernel_rfl
theorem RA:cG dV.P 46=some ⟨.int .u32,1,4, .int .u32 0⟩:=by kernel_rfl
theorem QZ:cG dV.P 48=some ⟨.array 4 46,4,16, .agg [.int .u32 0, .int .u32 0, .int .u32 0, .int .u32 0]⟩:=by kernel_rfl
theorem QY:cG dV.P 50=some ⟨.strct [(3,0),(45,1),(9,2),(3,3),(48,4),(9,8)],9,88, .agg [.int .i64 0, .nsl, .str [], .int .i64 0, .int .u32 0, .int .u32 0, .int .u32 0, .int .u32 0, .str []]⟩:=by kernel_rfl
theorem QX:cG dV.P 56=some ⟨.slice 64,1,24, .nsl⟩:=by kernel_rfl
theorem QW:cG dV.P 58=some ⟨.strct [(9,0),(22,1),(22,2),(4,3),(56,4)],5,96, .agg [.str [], .nsl, .nsl, .bool false, .nsl]⟩:=by kernel_rfl
theorem QV:cG dV.P 60=some ⟨.slice 62,1,24, .nsl⟩:=by kernel_rfl
theorem QU:cG dV.P 62=some ⟨.strct [(3,0),(3,1),(46,2),(9,3),(60,4)],5,64, .agg [.int .i64 0, .int .i64 0, .int .u32 0, .str [], .nsl]⟩:=by kernel_rfl
theorem QT:cG dV.P 64=some ⟨.strct [(3,0),(9,1),(60,2),(56,3),(56,4)],5,96, .agg [.int .i64 0, .str [], .nsl, .nsl, .nsl]⟩:=by kernel_rfl
theorem QS:cG dV.P 68=some ⟨.ptr 71,1,8, .npt⟩:=by kernel_rfl
theorem QR:cG dV.P 69=some ⟨.slice 5,1,24, .nsl⟩:=by kernel_rfl
theorem QQ:cG dV.P 71=some ⟨.strct [(68,0),(69,1)],2,32, .agg [.npt, .nsl]⟩:=by kernel_rfl
theorem DZ:cG dV.P 73=some ⟨.strct [(71,0)],2,32, .agg [.npt, .nsl]⟩:=by kernel_rfl
theorem QP:cG dV.P 74=some ⟨.func,1,8, .nfn⟩:=by kernel_rfl
theorem QO:cG dV.P 82=some ⟨.strct [(9,0),(3,1)],2,24, .agg [.str [], .int .i64 0]⟩:=by kernel_rfl
theorem QN:cG dV.P 86=some ⟨.ptr 89,1,8, .npt⟩:=by kernel_rfl
theorem QM:cG dV.P 87=some ⟨.slice 34,1,24, .nsl⟩:=by kernel_rfl
theorem QL:cG dV.P 89=some ⟨.strct [(26,0),(9,3),(3,4),(34,5),(87,6),(69,7),(3,8),(3,9),(3,10)],11,192, .agg [.nsl, .nsl, .nsl, .str [], .int .i64 0, .nsl, .nsl, .nsl, .int .i64 0, .int .i64 0, .int .i64 0]⟩:=by kernel_rfl
theorem QK:cG dV.P 91=some ⟨.array 16 46,16,64, .agg [.int .u32 0, .int .u32 0, .int .u32 0, .int .u32 0, .int .u32 0, .int .u32 0, .int .u32 0, .int .u32 0, .int .u32 0, .int .u32 0, .int .u32 0, .int .u32 0, .int .u32 0, .int .u32 0, .int .u32 0, .int .u32 0]⟩:=by kernel_rfl
theorem QJ:cG dV.P 93=some ⟨.strct [(3,0),(91,1),(34,17),(3,18),(9,19),(3,20),(3,21)],22,136, .agg [.int .i64 0, .int .u32 0, .int .u32 0, .int .u32 0, .int .u32 0, .int .u32 0, .int .u32 0, .int .u32 0, .int .u32 0, .int .u32 0, .int .u32 0, .int .u32 0, .int .u32 0, .int .u32 0, .int .u32 0, .int .u32 0, .int .u32 0, .nsl, .int .i64 0, .str [], .int .i64 0, .int .i64 0]⟩:=by kernel_rfl
theorem HF:cG dV.P 108=some ⟨.ptr 73,1,8, .npt⟩:=by kernel_rfl
theorem HE:cG dV.P 110=some ⟨.ptr 5,1,8, .npt⟩:=by kernel_rfl
theorem HD:cG dV.P 113=some ⟨.slice 159,1,24, .nsl⟩:=by kernel_rfl
theorem HC:cG dV.P 116=some ⟨.ptr 118,1,8, .npt⟩:=by kernel_rfl
theorem HB:cG dV.P 118=some ⟨.strct [(113,0),(3,1),(4,2)],3,40, .agg [.nsl, .int .i64 0, .bool false]⟩:=by kernel_rfl
theorem HA:cG dV.P 120=some ⟨.ptr 122,1,8, .npt⟩:=by kernel_rfl
theorem GZ:cG dV.P 122=some ⟨.strct [(3,0),(34,1),(4,2),(46,3)],4,40, .agg [.int .i64 0, .nsl, .bool false, .int .u32 0]⟩:=by kernel_rfl
theorem GY:cG dV.P 136=some ⟨.other,1,8, .npt⟩:=by kernel_rfl
theorem GX:cG dV.P 139=some ⟨.map 9 149,1,8, .nmp⟩:=by kernel_rfl
theorem GW:cG dV.P 144=some ⟨.strct [(139,0),(139,1)],2,16, .agg [.nmp, .nmp]⟩:=by kernel_rfl
theorem GV:cG dV.P 147=some ⟨.strct [(3,0),(9,1),(3,2)],3,32, .agg [.int .i64 0, .str [], .int .i64 0]⟩:=by kernel_rfl
theorem GU:cG dV.P 149=some ⟨.strct [(3,0),(3,1)],2,16, .agg [.int .i64 0, .int .i64 0]⟩:=by kernel_rfl
theorem GT:cG dV.P 151=some ⟨.func,1,8, .nfn⟩:=by kernel_rfl
theorem GR:cG dV.P 152=some ⟨.ptr 210,1,8, .npt⟩:=by kernel_rfl
theorem GQ:cG dV.P 159=some ⟨.strct [(3,0),(9,1),(46,2),(3,3)],4,40, .agg [.int .i64 0, .str [], .int .u32 0, .int .i64 0]⟩:=by kernel_rfl
theorem GP:cG dV.P 166=some ⟨.slice 231,1,24, .nsl⟩:=by kernel_rfl
theorem GO:cG dV.P 167=some ⟨.slice 4,1,24, .nsl⟩:=by kernel_rfl
theorem GN:cG dV.P 171=some ⟨.strct [(93,0),(69,22),(166,23),(167,24),(34,25),(9,26),(45,27)],28,272, .agg [.int .i64 0, .int .u32 0, .int .u32 0, .int .u32 0, .int .u32 0, .int .u32 0, .int .u32 0, .int .u32 0, .int .u32 0, .int .u32 0, .int .u32 0, .int .u32 0, .int .u32 0, .int .u32 0, .int .u32 0, .int .u32 0, .int .u32 0, .nsl, .int .i64 0, .str [], .int .i64 0, .int .i64 0, .nsl, .nsl, .nsl, .nsl, .str [], .nsl]⟩:=by kernel_rfl
theorem GM:cG dV.P 172=some ⟨.int .u64,1,8, .int .u64 0⟩:=by kernel_rfl
theorem GL:cG dV.P 175=some ⟨.int .u64,1,8, .int .u64 0⟩:=by kernel_rfl
theorem GK:cG dV.P 176=some ⟨.array 8 46,8,32, .agg [.int .u32 0, .int .u32 0, .int .u32 0, .int .u32 0, .int .u32 0, .int .u32 0, .int .u32 0, .int .u32 0]⟩:=by kernel_rfl
theorem GI:cG dV.P 178=some ⟨.slice 247,1,24, .nsl⟩:=by kernel_rfl
theorem GH:cG dV.P 180=some ⟨.strct [(3,0),(178,1)],2,32, .agg [.int .i64 0, .nsl]⟩:=by kernel_rfl
theorem GG:cG dV.P 183=some ⟨.slice 255,1,24, .nsl⟩:=by kernel_rfl
theorem GF:cG dV.P 185=some ⟨.strct [(3,0),(183,1)],2,32, .agg [.int .i64 0, .nsl]⟩:=by kernel_rfl
theorem GE:cG dV.P 188=some ⟨.slice 262,1,24, .nsl⟩:=by kernel_rfl
theorem GB:cG dV.P 193=some ⟨.slice 283,1,24, .nsl⟩:=by kernel_rfl
theorem GA:cG dV.P 195=some ⟨.strct [(3,0),(193,1)],2,32, .agg [.int .i64 0, .nsl]⟩:=by kernel_rfl
theorem FZ:cG dV.P 197=some ⟨.func,1,8, .nfn⟩:=by kernel_rfl
theorem FY:cG dV.P 205=some ⟨.func,1,8, .nfn⟩:=by kernel_rfl
theorem FX:cG dV.P 206=some ⟨.map 9 58,1,8, .nmp⟩:=by kernel_rfl
theorem FW:cG dV.P 207=some ⟨.func,1,8, .nfn⟩:=by kernel_rfl
theorem FV:cG dV.P 208=some ⟨.array 10 207,10,80, .agg [.nfn, .nfn, .nfn, .nfn, .nfn, .nfn, .nfn, .nfn, .nfn, .nfn]⟩:=by kernel_rfl
theorem FU:cG dV.P 210=some ⟨.strct [(206,0),(208,1)],11,88, .agg [.nmp, .nfn, .nfn, .nfn, .nfn, .nfn, .nfn, .nfn, .nfn, .nfn, .nfn]⟩:=by kernel_rfl
theorem FR:cG dV.P 215=some ⟨.slice 220,1,24, .nsl⟩:=by kernel_rfl
theorem FQ:cG dV.P 220=some ⟨.strct [(9,0),(3,1),(3,2)],3,32, .agg [.str [], .int .i64 0, .int .i64 0]⟩:=by kernel_rfl
theorem FP:cG dV.P 231=some ⟨.strct [(3,0),(3,1),(3,2),(3,3)],4,32, .agg [.int .i64 0, .int .i64 0, .int .i64 0, .int .i64 0]⟩:=by kernel_rfl
theorem FO:cG dV.P 234=some ⟨.ptr 171,1,8, .npt⟩:=by kernel_rfl
theorem FN:cG dV.P 244=some ⟨.slice 312,1,24, .nsl⟩:=by kernel_rfl
theorem FM:cG dV.P 247=some ⟨.strct [(3,0),(3,1),(3,2),(4,3),(244,4)],5,56, .agg [.int .i64 0, .int .i64 0, .int .i64 0, .bool false, .nsl]⟩:=by kernel_rfl
theorem FL:cG dV.P 248=some ⟨.ptr 251,1,8, .npt⟩:=by kernel_rfl
theorem FK:cG dV.P 249=some ⟨.slice 267,1,24, .nsl⟩:=by kernel_rfl
theorem FI:cG dV.P 251=some ⟨.strct [(180,0),(3,2),(249,3),(3,4),(3,5)],6,80, .agg [.int .i64 0, .nsl, .int .i64 0, .nsl, .int .i64 0, .int .i64 0]⟩:=by kernel_rfl
theorem FH:cG dV.P 255=some ⟨.strct [(3,0),(249,1)],2,32, .agg [.int .i64 0, .nsl]⟩:=by kernel_rfl
theorem FG:cG dV.P 256=some ⟨.ptr 259,1,8, .npt⟩:=by kernel_rfl
theorem FD:cG dV.P 257=some ⟨.slice 273,1,24, .nsl⟩:=by kernel_rfl
theorem FC:cG dV.P 259=some ⟨.strct [(185,0),(188,2),(3,3),(34,4),(257,5),(45,6),(45,7),(3,8)],9,168, .agg [.int .i64 0, .nsl, .nsl, .int .i64 0, .nsl, .nsl, .nsl, .nsl, .int .i64 0]⟩:=by kernel_rfl
theorem FB:cG dV.P 262=some ⟨.strct [(45,0)],1,24, .agg [.nsl]⟩:=by kernel_rfl
theorem FA:cG dV.P 264=some ⟨.slice 45,1,24, .nsl⟩:=by kernel_rfl
theorem EZ:cG dV.P 265=some ⟨.slice 270,1,24, .nsl⟩:=by kernel_rfl
theorem EY:cG dV.P 267=some ⟨.strct [(265,0),(3,1),(3,2),(3,3),(3,4)],5,56, .agg [.nsl, .int .i64 0, .int .i64 0, .int .i64 0, .int .i64 0]⟩:=by kernel_rfl
theorem EX:cG dV.P 270=some ⟨.strct [(3,0),(3,1),(3,2),(3,3),(3,4),(3,5),(3,6),(46,7)],8,64, .agg [.int .i64 0, .int .i64 0, .int .i64 0, .int .i64 0, .int .i64 0, .int .i64 0, .int .i64 0, .int .u32 0]⟩:=by kernel_rfl
theorem EW:cG dV.P 273=some ⟨.strct [(3,0),(3,1),(3,2)],3,24, .agg [.int .i64 0, .int .i64 0, .int .i64 0]⟩:=by kernel_rfl
theorem EV:cG dV.P 274=some ⟨.ptr 277,1,8, .npt⟩:=by kernel_rfl
theorem EU:cG dV.P 275=some ⟨.slice 288,1,24, .nsl⟩:=by kernel_rfl
theorem ET:cG dV.P 277=some ⟨.strct [(195,0),(34,2),(275,3),(264,4),(45,5),(45,6),(3,7)],8,160, .agg [.int .i64 0, .nsl, .nsl, .nsl, .nsl, .nsl, .nsl, .int .i64 0]⟩:=by kernel_rfl
theorem ES:cG dV.P 281=some ⟨.slice 286,1,24, .nsl⟩:=by kernel_rfl
theorem EQ:cG dV.P 283=some ⟨.strct [(3,0),(3,1),(3,2),(4,3),(281,4)],5,56, .agg [.int .i64 0, .int .i64 0, .int .i64 0, .bool false, .nsl]⟩:=by kernel_rfl
theorem EP:cG dV.P 286=some ⟨.strct [(3,0),(3,1),(3,2),(46,3)],4,32, .agg [.int .i64 0, .int .i64 0, .int .i64 0, .int .u32 0]⟩:=by kernel_rfl
theorem EO:cG dV.P 288=some ⟨.strct [(3,0),(3,1),(3,2)],3,24, .agg [.int .i64 0, .int .i64 0, .int .i64 0]⟩:=by kernel_rfl
theorem EN:cG dV.P 306=some ⟨.array 4 3,4,32, .agg [.int .i64 0, .int .i64 0, .int .i64 0, .int .i64 0]⟩:=by kernel_rfl
theorem EL:cG dV.P 309=some ⟨.slice 336,1,24, .nsl⟩:=by kernel_rfl
theorem EK:cG dV.P 312=some ⟨.strct [(3,0),(3,1),(3,2),(309,3),(244,4),(244,5)],6,96, .agg [.int .i64 0, .int .i64 0, .int .i64 0, .nsl, .nsl, .nsl]⟩:=by kernel_rfl
theorem EJ:cG dV.P 315=some ⟨.slice 167,1,24, .nsl⟩:=by kernel_rfl
theorem EI:cG dV.P 317=some ⟨.strct [(315,0),(315,1)],2,48, .agg [.nsl, .nsl]⟩:=by kernel_rfl
theorem EH:cG dV.P 324=some ⟨.slice 281,1,24, .nsl⟩:=by kernel_rfl
theorem EG:cG dV.P 327=some ⟨.array 10 9,10,160, .agg [.str [], .str [], .str [], .str [], .str [], .str [], .str [], .str [], .str [], .str []]⟩:=by kernel_rfl
theorem EF:cG dV.P 336=some ⟨.strct [(3,0),(3,1),(46,2),(3,3),(3,4),(309,5)],6,64, .agg [.int .i64 0, .int .i64 0, .int .u32 0, .int .i64 0, .int .i64 0, .nsl]⟩:=by kernel_rfl
theorem EE:cG dV.P 344=some ⟨.array 24 5,24,24, .agg [.int .u8 0, .int .u8 0, .int .u8 0, .int .u8 0, .int .u8 0, .int .u8 0, .int .u8 0, .int .u8 0, .int .u8 0, .int .u8 0, .int .u8 0, .int .u8 0, .int .u8 0, .int .u8 0, .int .u8 0, .int .u8 0, .int .u8 0, .int .u8 0, .int .u8 0, .int .u8 0, .int .u8 0, .int .u8 0, .int .u8 0, .int .u8 0]⟩:=by kernel_rfl
theorem ED:cG dV.P 353=some ⟨.array 20 172,20,160, .agg [.int .u64 0, .int .u64 0, .int .u64 0, .int .u64 0, .int .u64 0, .int .u64 0, .int .u64 0, .int .u64 0, .int .u64 0, .int .u64 0, .int .u64 0, .int .u64 0, .int .u64 0, .int .u64 0, .int .u64 0, .int .u64 0, .int .u64 0, .int .u64 0, .int .u64 0, .int .u64 0]⟩:=by kernel_rfl
theorem EC:cG dV.P 354=some ⟨.array 65 5,65,65, .agg [.int .u8 0, .int .u8 0, .int .u8 0, .int .u8 0, .int .u8 0, .int .u8 0, .int .u8 0, .int .u8 0, .int .u8 0, .int .u8 0, .int .u8 0, .int .u8 0, .int .u8 0, .int .u8 0, .int .u8 0, .int .u8 0, .int .u8 0, .int .u8 0, .int .u8 0, .int .u8 0, .int .u8 0, .int .u8 0, .int .u8 0, .int .u8 0, .int .u8 0, .int .u8 0, .int .u8 0, .int .u8 0, .int .u8 0, .int .u8 0, .int .u8 0, .int .u8 0, .int .u8 0, .int .u8 0, .int .u8 0, .int .u8 0, .int .u8 0, .int .u8 0, .int .u8 0, .int .u8 0, .int .u8 0, .int .u8 0, .int .u8 0, .int .u8 0, .int .u8 0, .int .u8 0, .int .u8 0, .int .u8 0, .int .u8 0, .int .u8 0, .int .u8 0, .int .u8 0, .int .u8 0, .int .u8 0, .int .u8 0, .int .u8 0, .int .u8 0, .int .u8 0, .int .u8 0, .int .u8 0, .int .u8 0, .int .u8 0, .int .u8 0, .int .u8 0, .int .u8 0]⟩:=by kernel_rfl
theorem EB:cG dV.P 359=some ⟨.array 32 5,32,32, .agg [.int .u8 0, .int .u8 0, .int .u8 0, .int .u8 0, .int .u8 0, .int .u8 0, .int .u8 0, .int .u8 0, .int .u8 0, .int .u8 0, .int .u8 0, .int .u8 0, .int .u8 0, .int .u8 0, .int .u8 0, .int .u8 0, .int .u8 0, .int .u8 0, .int .u8 0, .int .u8 0, .int .u8 0, .int .u8 0, .int .u8 0, .int .u8 0, .int .u8 0, .int .u8 0, .int .u8 0, .int .u8 0, .int .u8 0, .int .u8 0, .int .u8 0, .int .u8 0]⟩:=by kernel_rfl
theorem EA:cG dV.P 360=some ⟨.array 64 5,64,64, .agg [.int .u8 0, .int .u8 0, .int .u8 0, .int .u8 0, .int .u8 0, .int .u8 0, .int .u8 0, .int .u8 0, .int .u8 0, .int .u8 0, .int .u8 0, .int .u8 0, .int .u8 0, .int .u8 0, .int .u8 0, .int .u8 0, .int .u8 0, .int .u8 0, .int .u8 0, .int .u8 0, .int .u8 0, .int .u8 0, .int .u8 0, .int .u8 0, .int .u8 0, .int .u8 0, .int .u8 0, .int .u8 0, .int .u8 0, .int .u8 0, .int .u8 0, .int .u8 0, .int .u8 0, .int .u8 0, .int .u8 0, .int .u8 0, .int .u8 0, .int .u8 0, .int .u8 0, .int .u8 0, .int .u8 0, .int .u8 0, .int .u8 0, .int .u8 0, .int .u8 0, .int .u8 0, .int .u8 0, .int .u8 0, .int .u8 0, .int .u8 0, .int .u8 0, .int .u8 0, .int .u8 0, .int .u8 0, .int .u8 0, .int .u8 0, .int .u8 0, .int .u8 0, .int .u8 0, .int .u8 0, .int .u8 0, .int .u8 0, .int .u8 0, .int .u8 0]⟩:=by kernel_rfl
theorem RZ:Ha dV.P 82=some [.str, .int .i64]:=by kernel_rfl
theorem TY:type_of% (And.intro VR<|And.intro VQ<|And.intro VP<|And.intro VO<|And.intro RL<|And.intro RJ<|And.intro RI<|And.intro RH<|And.intro RG<|And.intro RF<|And.intro RE<|And.intro RD<|And.intro RB<|And.intro RA<|And.intro QZ<|And.intro QY<|And.intro QX<|And.intro QW<|And.intro QV<|And.intro QU<|And.intro QT<|And.intro QS<|And.intro QR<|And.intro QQ<|And.intro DZ<|And.intro QP<|And.intro QO<|And.intro QN<|And.intro QM<|And.intro QL<|And.intro QK<|And.intro QJ<|And.intro HF<|And.intro HE<|And.intro HD<|And.intro HC<|And.intro HB<|And.intro HA<|And.intro GZ<|And.intro GY<|And.intro GX<|And.intro GW<|And.intro GV<|And.intro GU<|And.intro GT<|And.intro GR<|And.intro GQ<|And.intro GP<|And.intro GO<|And.intro GN<|And.intro GM<|And.intro GL<|And.intro GK<|And.intro GI<|And.intro GH<|And.intro GG<|And.intro GF<|And.intro GE<|And.intro GB<|And.intro GA<|And.intro FZ<|And.intro FY<|And.intro FX<|And.intro FW<|And.intro FV<|And.intro FU<|And.intro FR<|And.intro FQ<|And.intro FP<|And.intro FO<|And.intro FN<|And.intro FM<|And.intro FL<|And.intro FK<|And.intro FI<|And.intro FH<|And.intro FG<|And.intro FD<|And.intro FC<|And.intro FB<|And.intro FA<|And.intro EZ<|And.intro EY<|And.intro EX<|And.intro EW<|And.intro EV<|And.intro EU<|And.intro ET<|And.intro ES<|And.intro EQ<|And.intro EP<|And.intro EO<|And.intro EN<|And.intro EL<|And.intro EK<|And.intro EJ<|And.intro EI<|And.intro EH<|And.intro EG<|And.intro EF<|And.intro EE<|And.intro ED<|And.intro EC<|And.intro EB<|And.intro EA<|And.intro RZ<|UG):=And.intro VR<|And.intro VQ<|And.intro VP<|And.intro VO<|And.intro RL<|And.intro RJ<|And.intro RI<|And.intro RH<|And.intro RG<|And.intro RF<|And.intro RE<|And.intro RD<|And.intro RB<|And.intro RA<|And.intro QZ<|And.intro QY<|And.intro QX<|And.intro QW<|And.intro QV<|And.intro QU<|And.intro QT<|And.intro QS<|And.intro QR<|And.intro QQ<|And.intro DZ<|And.intro QP<|And.intro QO<|And.intro QN<|And.intro QM<|And.intro QL<|And.intro QK<|And.intro QJ<|And.intro HF<|And.intro HE<|And.intro HD<|And.intro HC<|And.intro HB<|And.intro HA<|And.intro GZ<|And.intro GY<|And.intro GX<|And.intro GW<|And.intro GV<|And.intro GU<|And.intro GT<|And.intro GR<|And.intro GQ<|And.intro GP<|And.intro GO<|And.intro GN<|And.intro GM<|And.intro GL<|And.intro GK<|And.intro GI<|And.intro GH<|And.intro GG<|And.intro GF<|And.intro GE<|And.intro GB<|And.intro GA<|And.intro FZ<|And.intro FY<|And.intro FX<|And.intro FW<|And.intro FV<|And.intro FU<|And.intro FR<|And.intro FQ<|And.intro FP<|And.intro FO<|And.intro FN<|And.intro FM<|And.intro FL<|And.intro FK<|And.intro FI<|And.intro FH<|And.intro FG<|And.intro FD<|And.intro FC<|And.intro FB<|And.intro FA<|And.intro EZ<|And.intro EY<|And.intro EX<|And.intro EW<|And.intro EV<|And.intro EU<|And.intro ET<|And.intro ES<|And.intro EQ<|And.intro EP<|And.intro EO<|And.intro EN<|And.intro EL<|And.intro EK<|And.intro EJ<|And.intro EI<|And.intro EH<|And.intro EG<|And.intro EF<|And.intro EE<|And.intro ED<|And.intro EC<|And.intro EB<|And.intro EA<|And.intro RZ<|UG
theorem V4:KG 0=some (gU.map .str):=rfl
theorem XC:KG 1=some IW:=rfl
theorem RR:type_of% (And.intro AX<|And.intro V4 TY):=And.intro AX<|And.intro V4 TY
def Jp (c:Int):Bool:=decide (48≤c)&&decide (c≤57)
def vL (c:Int):Bool:=decide (97≤c)&&decide (c≤122)||decide (65≤c)&&decide (c≤90)
def KE (c:Int):Bool:=vL c||Jp c||decide (c=95)
def vU (c:UInt8):Bool:=KE c.toNat
theorem uC (c:Int):eN dV 120 [.int .u8 c] (.bool (Jp c)):=by
 refine bX 9 [.tmp 2] func120 ?_;refine aC fun K a=>?_;refine aG ?_;simp only[RR,seval];apply a;refine aC fun K a=>?_;refine aG ?_;simp only[RR,seval]
 repeat' ((refine eE (fun h=>?_) (fun h=>?_))<;>simp only[h,RR,seval])
 all_goals
  apply a;refine aN ?_;simp only[aW,aJ,bN,RR,seval];refine aY.pure ?_;simp [Jp, *]
theorem uD (c:Int):eN dV 117 [.int .u8 c] (.bool (vL c)):=by
 refine bX 17 [.tmp 2] func117 ?_;refine aC fun K a=>?_;refine aG ?_;simp only[RR,seval];apply a;refine aC fun K a=>?_;refine aG ?_;simp only[RR,seval]
 repeat' ((first|refine bZ (fun h=>?_) (fun h=>?_)|refine eE (fun h=>?_) (fun h=>?_))<;>simp only[h,RR,seval])
 all_goals
  apply a;refine aN ?_;simp only[aW,aJ,bN,RR,seval];refine aY.pure ?_;simp [vL, *]
theorem Oc:eN dV 119 [] (.isl 1 (gU.map fun w=>[.str w])):=by
 refine bX 2 [.tmp 0] func119 ?_;refine aC fun K a=>?_;refine aG ?_;simp only[RR,seval];apply a;refine aC fun K a=>?_;refine aG ?_;simp only[RR,seval];refine eG ?_;simp only[RR,seval];apply a;refine aN ?_;simp only[aW,aJ,bN,RR,seval];refine aY.pure ?_;rfl
theorem KD (ws:List (List UInt8)) (s:List UInt8) (e:ws.length≤1000000):eN dV 118 [.isl 1 (ws.map fun w=>[.str w]), .str s] (.bool (ws.contains s)):=by
 refine bX 18 [.tmp 4] func118 ?_;refine aC fun K a=>?_;refine aG ?_;simp only[RR,seval];refine a _ _ (Ba (fun b H=>ws.contains s=false) ?_ ?_)
 ·refine aC fun K a=>?_;refine aG ?_;simp only[RR,seval]
  refine a _ _ (aP (Az (fun n b H=> ∃i:Nat,n=ws.length-i∧i≤ws.length∧(ws.take i).contains s=false∧b 0= .isl 1 (ws.map fun w=>[.str w])∧b 1= .str s∧b 5= .int .i64 i) ws.length ⟨0,rfl,by omega,rfl,rfl,rfl,rfl⟩ ?_));rintro n b H ⟨i,rfl,p,f,g,k,j⟩;refine aI ?_;refine aC fun K a=>?_;refine aG ?_;simp only[RR,seval];simp only[g,j,RR,seval];refine a _ _ (aU ?_ ?_)<;>intro c
  ·refine aK ?_;simp only[bK]
   have d:(i:Int)<(ws.map fun w=>[AV.str w]).length:=aB c;simp only[aE]at d;have e:i<ws.length:=by omega
   have o:(ws.map fun w=>[AV.str w])[i]?=some [.str ws[i]]:=by rw[dT,aF e];rfl
   refine aI (aP ?_);refine aC fun K a=>?_;refine aG ?_;simp only[RR,seval];simp only[*,RR,seval];refine a _ _ (aU ?_ ?_)<;>intro c
   ·refine aC fun K a=>?_;refine aG ?_;simp only[RR,seval]
    apply a;refine aN ?_;simp only[bK,cM,aW,aJ,bN,RR,seval];refine aY.pure ?_;have :ws[i]=s:=aB c;rw[←this];simp
   refine aK ?_;simp only[bK,cM];refine aG ?_;simp only[RR,seval];simp only[g,k,j,RR,seval];refine⟨ws.length-(i+1),by omega,i+1,rfl,by omega, ?_, ?_⟩
   ·have l: ¬ws[i]=s:=aD c
    rw[cL e];simp only[List.contains_append,f,oJ];simp [Ne.symm l]
   rw[aS _ (by omega)];rfl
  refine cF ?_;simp only[bK,cM,reduceIte];have d: ¬(i:Int)<(ws.map fun w=>[AV.str w]).length:=aD c;simp only[aE]at d;have :i=ws.length:=by omega
  subst this;rw[dD]at f;exact f
 intro b H h;refine aC fun K a=>?_;refine aG ?_;simp only[RR,seval];apply a;refine aN ?_;simp only[aW,aJ,bN,RR,seval];refine aY.pure ?_;rw[h]
def fP (s:List UInt8):Bool:=match s with
 |[]=>false
 |c::r=>decide ((c::r).length≤20)&&(vL c.toNat&&(decide ((c::r).takeWhile vU=c::r)&& !gU.contains (c::r)))
theorem yI (p:UInt8→Bool): ∀s:List UInt8,decide (s.takeWhile p=s)=s.all p
 |[]=>rfl
 |c::s=>by
  cases h:p c with
  |true=>
   simp only[List.takeWhile,h,dG,cB,List.cons.injEq,true_and];exact yI p s
  |false=>simp [List.takeWhile,h]
theorem Z4 (s:List UInt8) (y:fC s):eN dV 76 [.str s] (.bool (fP s)):=by
 have y:s.length≤9223372036854775807:=y;refine bX 47 [.tmp 2] func76 ?_;refine aC fun K a=>?_;refine aG ?_;simp only[RR,seval];apply a;clear a K;refine aI ?_;refine cP (fun f H=> ∃t,f 22= .bool t∧f 0= .str s∧(t=true→fP s=false)∧(t=false→fP s=s.all vU)) (fun K a=>?_) ?_
 ·cases hsc:s with
  |nil=>
   refine aG ?_;simp only[RR,seval];exact a _ _ ⟨true,rfl,by rw[hsc];rfl,fun _=>by rw[hsc];rfl,fun e=>by cases e⟩
  |cons c r=>
   have b:(c::r)[0]?=some c:=rfl;have x:decide (((c::r).length:Int)=0)=false:=bA (by simp only[aQ];omega);rw[←hsc]at b x⊢;have p:fP s=(decide (s.length≤20)&&(vL c.toNat&&(s.all vU&& !gU.contains s))):=by rw[←yI,hsc];rfl
   clear hsc;refine aG ?_;simp only[RR,seval];simp only[x,RR,seval];refine bZ (fun h=>?_) (fun h=>?_)<;>simp only[h,b,RR,seval]
   ·have l:decide (s.length≤20)=true:=cD (by have:=aD h;omega)
    refine aO (uD _) ?_;simp only[RR,seval];refine bZ (fun d=>?_) (fun d=>?_)
    ·have d:vL c.toNat=true:=by simpa using d
     simp only[d,RR,seval];refine aO Oc ?_;simp only[RR,seval];refine aO (KD gU s (by decide)) ?_;simp only[RR,seval];refine a _ _ ⟨_,rfl,rfl,fun e=>?_,fun e=>?_⟩
     ·rw[p,e];simp
     rw[p,e,l,d];simp
    have d:vL c.toNat=false:=by simpa using d
    simp only[d,RR,seval];exact a _ _ ⟨_,rfl,rfl,fun e=>by rw[p,d];simp,fun e=>by cases e⟩
   have l:decide (s.length≤20)=false:=bA (by have:=aB h;omega);exact a _ _ ⟨_,rfl,rfl,fun e=>by rw[p,l];rfl,fun e=>by cases e⟩
 rintro f H ⟨t,z,b,D,C⟩;refine dN _ z (fun j=>?_) (fun j=>?_)
 ·refine aC fun K a=>?_;refine aG ?_;simp only[RR,seval]
  apply a;clear a K;refine aN ?_;simp only[bK,aW,aJ,bN,RR,seval];refine aY.pure ?_;rw[D j]
 have v:=C j;refine aK ?_;simp only[bK];refine cP (fun f H=>s.all vU=true) (fun K a=>?_) ?_
 ·refine aC fun K a=>?_;refine aG ?_;simp only[RR,seval]
  apply a;clear a K;refine aP ?_;refine eS (fun n f H=> ∃i:Nat,n=s.length-i∧i≤s.length∧f 0= .str s∧f 3= .int .i64 i∧s.all vU=(s.drop i).all vU) s.length ⟨0,rfl,by omega,b,rfl,by simp⟩ ?_;rintro n f H ⟨i,rfl,F,b,g,k⟩ E B;refine aI ?_;refine aC fun K a=>?_;refine aG ?_;simp only[RR,seval];simp only[b,g,RR,seval];apply a;clear a K;refine aU ?_ ?_<;>intro j
  ·have l:i<s.length:=by have:=aB j;omega
   have o:s[i]?=some s[i]:=aF l;rw[bG l]at k;simp only[dG]at k;generalize s[i]=e at o k;refine aK ?_;simp only[bK];refine aI ?_;refine aP ?_;refine cP (fun f H=>f 46= .bool (!vU e)∧f 0= .str s∧f 3= .int .i64 i) (fun K a=>?_) ?_
   ·refine aG ?_;simp only[RR,seval]
    simp only[b,g,o,RR,seval];refine aO (uD _) ?_;simp only[RR,seval];refine bZ (fun d=>?_) (fun d=>?_)<;>simp only[d,b,g,o,RR,seval]
    ·refine aO (uC _) ?_
     simp only[RR,seval];refine bZ (fun hd=>?_) (fun hd=>?_)<;>simp only[hd,b,g,o,RR,seval]
     ·repeat' ((refine bZ (fun h=>?_) (fun h=>?_))<;>simp only[h,b,g,o,RR,seval])
      all_goals exact a _ _ ⟨by simp [upd,vU,KE,d,hd],b,g⟩
     exact a _ _ ⟨by simp [upd,vU,KE,d,hd],b,g⟩
    exact a _ _ ⟨by simp [upd,vU,KE,d],b,g⟩
   rintro f H ⟨A,b,g⟩;refine dN _ A (fun j=>?_) (fun j=>?_)
   ·have u:vU e=false:=by simpa using j
    refine aC fun K a=>?_;refine aG ?_;simp only[RR,seval];apply a;clear a K;refine aN ?_;simp only[bK,cM,aW,aJ,bN,RR,seval];refine aY.pure ?_;rw[v,k,u];rfl
   have u:vU e=true:=by simpa using j
   rw[u,cB]at k;refine aK ?_;simp only[bK,cM];refine aG ?_;simp only[RR,seval];simp only[g,RR,seval];rw[aS _ (by omega)];exact B (s.length-(i+1)) _ _ (by omega) ⟨i+1,rfl,by omega,b,rfl,k⟩
  refine cF ?_;simp only[bK,cM,reduceIte];have :i=s.length:=by have:=aD j;omega
  subst this;rw[cX]at k;exact a _ _ k
 intro f H h;refine aC fun K a=>?_;refine aG ?_;simp only[RR,seval];apply a;clear a K;refine aN ?_;simp only[aW,aJ,bN,RR,seval];refine aY.pure ?_;rw[v,h]
theorem En {s:dC} (h:gU.contains s=true):fP s=false:=by
 cases s with
 |nil=>rfl
 |cons c r=>simp only[fP,h,Ri,lG]
theorem Vq:eN dV 75 [] (.isl 1 (gU.map fun w=>[.str w])):=by
 refine bX 2 [.tmp 0] func75 ?_;refine aC fun K a=>?_;refine aG ?_;simp only[RR,seval];apply a;refine aC fun K a=>?_;refine aG ?_;simp only[RR,seval];refine eG ?_;simp only[RR,seval];apply a;refine aN ?_;simp only[aW,aJ,bN,RR,seval];refine aY.pure ?_;rfl
theorem rT (s:dC) (p:fC s):eN dV 51 [.str s] (.bool (fP s)):=by
 refine bX 20 [.tmp 2] func51 ?_;refine aC fun K a=>?_;refine aG ?_;simp only[RR,seval];apply a;clear a K;refine aC fun K a=>?_;refine aG ?_;simp only[RR,seval];refine aO Vq ?_;simp only[RR,seval];apply a;clear a K;refine cP (fun b H=>b 0= .str s) (fun K a=>?_) ?_
 ·refine aC fun K a=>?_;refine aG ?_;simp only[RR,seval]
  apply a;clear a K;refine aP ?_;refine eS (fun l b H=> ∃k:Nat,l=gU.length-k∧k≤gU.length∧b 4= .int .i64 k∧b 0= .str s∧b 3= .isl 1 (gU.map fun w=>[.str w])) (gU.length) ⟨0,rfl,cJ _,rfl,rfl,rfl⟩ ?_;rintro l b H ⟨k,rfl,u,f,d,e⟩ t n;refine aI ?_;refine aC fun K a=>?_;refine aG ?_;simp only[RR,seval];simp only[f,e,aE,RR,seval];apply a;clear a K;refine aU ?_ ?_<;>intro c
  ·have i:k<gU.length:=by have:=aB c;omega
   clear c;refine aK ?_;simp only[bK];refine aI ?_;refine aP ?_;have g:(gU.map fun w=>[AV.str w])[k]?=some [.str gU[k]]:=by rw[dT,aF i];rfl
   have j:=bW i;generalize gU[k]=w at g j;refine aC fun K a=>?_;refine aG ?_;simp only[RR,seval];simp only[d,e,f,g,RR,seval];apply a;clear a K;refine aU ?_ ?_<;>intro c
   ·refine aC fun K a=>?_;refine aG ?_;simp only[RR,seval]
    apply a;clear a K;refine aN ?_;simp only[bK,cM,aW,aJ,bN,RR,seval];refine aY.pure ?_;have :s=w:=aB c;subst this;rw[En (by simpa using j)]
   have v:gU.length=10:=rfl;refine aK ?_;simp only[bK,cM];refine aG ?_;simp only[RR,seval];simp only[f,bK,RR,seval];rw[aS _ (by omega)];refine n (gU.length-(k+1)) _ _ (by omega) ⟨k+1,rfl,by omega,rfl,d,e⟩
  refine cF ?_;simp only[bK,cM,reduceIte];have o:k=gU.length:=by have:=aD c;omega
  clear c;subst o;exact a _ _ d
 rintro b H d;refine aC fun K a=>?_;refine aG ?_;simp only[RR,seval];simp only[d,seval];refine aO (Z4 s p) ?_;simp only[RR,seval];apply a;clear a K;refine aN ?_;simp only[aW,aJ,bN,RR,seval];refine aY.pure ?_;rfl
theorem wF (l:List dC) (n:WI l):eN dV 50 [.isl 1 (l.map bQ)] (.bool (l.all fP)):=by
 have v:l.length≤9223372036854775807:=n.fit;refine bX 16 [.tmp 2] func50 ?_;refine aC fun K a=>?_;refine aG ?_;simp only[RR,seval];apply a;clear a K;refine cP (fun d H=>l.all fP=true) (fun K a=>?_) ?_
 ·refine aC fun K a=>?_;refine aG ?_;simp only[RR,seval]
  apply a;clear a K;refine aP ?_;refine eS (fun o d H=> ∃k:Nat,o=l.length-k∧k≤l.length∧d 3= .int .i64 k∧d 0= .isl 1 (l.map bQ)∧l.all fP=(l.drop k).all fP) (l.length) ⟨0,rfl,cJ _,rfl,rfl,by rw[dL]⟩ ?_;rintro o d H ⟨k,rfl,x,f,e,c⟩ u p;refine aI ?_;refine aC fun K a=>?_;refine aG ?_;simp only[RR,seval];simp only[f,e,aE,RR,seval];apply a;clear a K;refine aU ?_ ?_<;>intro b
  ·have g:k<l.length:=by have:=aB b;omega
   clear b;refine aK ?_;simp only[bK];refine aI ?_;refine aP ?_;have j:=Nv (aF g);have i:=n.all _ (bW g);rw[bG g,dG]at c;generalize l[k]=s at j c i;refine aC fun K a=>?_;refine aG ?_;simp only[RR,seval];simp only[e,f,j,RR,seval];refine aO (rT s i) ?_;simp only[RR,seval];apply a;clear a K;refine dN (!fP s) rfl (fun b=>?_) (fun b=>?_)
   ·refine aC fun K a=>?_;refine aG ?_;simp only[RR,seval]
    apply a;clear a K;refine aN ?_;simp only[bK,cM,aW,aJ,bN,RR,seval];refine aY.pure ?_;rw[c,show fP s=false by simpa using b];rfl
   refine aK ?_;simp only[bK,cM];rw[show fP s=true by simpa using b,cB]at c;refine aG ?_;simp only[RR,seval];simp only[f,bK,RR,seval];rw[aS _ (by omega)];refine p (l.length-(k+1)) _ _ (by omega) ⟨k+1,rfl,by omega,rfl,e,c⟩
  refine cF ?_;simp only[bK,cM,reduceIte];have t:k=l.length:=by have:=aD b;omega
  clear b;subst t;rw[cX]at c;exact a _ _ c
 rintro d H e;refine aC fun K a=>?_;refine aG ?_;simp only[RR,seval];apply a;clear a K;refine aN ?_;simp only[aW,aJ,bN,RR,seval];refine aY.pure ?_;rw[e]
def wM (e:Ex) (level:Int):Bool:=
 decide (level≤24)&&(decide (e.kind=6)||decide (e.op=0))&&(decide (e.kind=1)||decide (e.num=0))&&
  (if e.kind=2∨e.kind=3∨e.kind=4 then fP e.name else decide (e.name=[]))
def lR (k o:Int) (n:Nat):Bool:=
 if k=1∨k=2∨k=5 then decide (n=0)else if k=3∨k=7 then decide (n=1)else if k=4 then decide (n≤6)
 else if k=6 then decide (4≤o)&&decide (o≤15)&&decide (n=2)else if k=8∨k=9 then decide (n=2)else false
def iM:List Ex→Int→Bool
 |[],_=>true
 | .mk k o n s kids::l,level=>wM (.mk k o n s kids) level&&lR k o kids.length&&iM kids (level+1)&&iM l level
def lH (e:Ex) (level:Int):Bool:=wM e level&&lR e.kind e.op e.kids.length&&iM e.kids (level+1)
theorem lQ (e:Ex) (l:List Ex) (a:Int):iM (e::l) a=(lH e a&&iM l a):=by
 cases e;rw[iM];rfl
theorem lW (a:Int):iM [] a=true:=by rw[iM]
theorem Lr (e:Ex) (G:e.ok) (d:Int) (h1: -1000000≤d) (h2:d≤1000000)
  (S:d≤24→eN dV 121 [.isl 5 (e.kids.map Ex.row), .int .i64 (d+1)] (.bool (iM e.kids (d+1)))):
  eN dV 181 [.agg e.row, .int .i64 d] (.bool (lH e d)):=by
 have P:=rT e.name G.name;have R:=e.row_eq;generalize I:lH e d=Z;rw[R];have X:e.kids.length≤9223372036854775807:=G.kids.fit;obtain⟨k,o,n,s,l⟩:=e;simp only[Ex.kind,Ex.op,Ex.num,Ex.name,Ex.kids]at S P X⊢;clear R G;have O:lH (.mk k o n s l) d=((decide (d≤24)&&(decide (k=6)||decide (o=0))&&(decide (k=1)||decide (n=0)))&&(if k=2∨k=3∨k=4 then fP s else decide (s=[]))&&lR k o l.length&&iM l (d+1)):=rfl;refine bX 123 [.tmp 4] func181 ?_;refine cP (fun g H=> ∃b,g 1= .int .i64 d∧g 2= .ptr 5 b 0 0∧H b=some (.rows 5 [[.int .i64 k, .int .i64 o, .int .u32 n, .str s, .isl 5 (l.map Ex.row)]])) (fun K a=>?_) ?_
 ·refine aG ?_;simp only[RR,seval]
  refine aM fun b c=>?_;simp only[RR,seval];exact a _ _ ⟨b,rfl,rfl,bE _ _ _⟩
 rintro g H ⟨b,j,f,c⟩;refine aI (cP (fun g H=> ∃t,g 28= .bool t∧(t= !(decide (d≤24)&&(decide (k=6)||decide (o=0))&&(decide (k=1)||decide (n=0))))∧g 1= .int .i64 d∧g 2= .ptr 5 b 0 0∧H b=some (.rows 5 [[.int .i64 k, .int .i64 o, .int .u32 n, .str s, .isl 5 (l.map Ex.row)]])) (fun K a=>?_) ?_)
 ·refine aG ?_;simp only[RR,seval]
  simp only[j,RR,seval]
  repeat' ((refine bZ (fun h=>?_) (fun h=>?_))<;>simp only[h,f,c,RR,seval])
  all_goals
   refine a _ _ ⟨_,rfl, ?_,j,f,c⟩;simp_all<;>omega
 rintro g H ⟨t,L,i,j,f,c⟩;refine dN _ L (fun p=>?_) (fun p=>?_)
 ·refine aC fun K a=>?_;refine aG ?_;simp only[RR,seval]
  apply a;refine aN ?_;simp only[bK,aW,aJ,bN,RR,seval];refine aY.pure ?_;rw[←I]
  have :(decide (d≤24)&&(decide (k=6)||decide (o=0))&&(decide (k=1)||decide (n=0)))=false:=by
   cases e:(decide (d≤24)&&(decide (k=6)||decide (o=0))&&(decide (k=1)||decide (n=0)))with
   |false=>rfl
   |true=>rw[e,p]at i;cases i
  rw[O,this];rfl
 have C:(decide (d≤24)&&(decide (k=6)||decide (o=0))&&(decide (k=1)||decide (n=0)))=true:=by
  cases e:(decide (d≤24)&&(decide (k=6)||decide (o=0))&&(decide (k=1)||decide (n=0)))with
  |true=>rfl
  |false=>rw[e,p]at i;cases i
 have Y:d≤24:=by simp only[bC,bJ]at C;exact C.1.1
 have J:Z=((if k=2∨k=3∨k=4 then fP s else decide (s=[]))&&lR k o l.length&&iM l (d+1)):=by
  rw[←I,O,C,cB]
 have x:=S Y;clear i p L t;refine aK ?_;simp only[bK];refine cP (fun g H=>g 5= .bool (decide (k=2∨k=3∨k=4))∧g 1= .int .i64 d∧g 2= .ptr 5 b 0 0∧H b=some (.rows 5 [[.int .i64 k, .int .i64 o, .int .u32 n, .str s, .isl 5 (l.map Ex.row)]])) (fun K a=>?_) ?_
 ·refine aG ?_;simp only[RR,seval]
  simp only[f,c,RR,seval]
  repeat' ((refine bZ (fun h=>?_) (fun h=>?_))<;>simp only[h,f,c,RR,seval])
  all_goals
   refine a _ _ ⟨?_,j,f,c⟩;simp [upd];simp_all
 rintro g H ⟨M,j,f,c⟩;refine aI (cP (fun g H=> ∃t,g 55= .bool t∧(t= !(if k=2∨k=3∨k=4 then fP s else decide (s=[])))∧g 1= .int .i64 d∧g 2= .ptr 5 b 0 0∧H b=some (.rows 5 [[.int .i64 k, .int .i64 o, .int .u32 n, .str s, .isl 5 (l.map Ex.row)]])) (fun K a=>?_) ?_)
 ·by_cases u:k=2∨k=3∨k=4
  ·have F:decide (k=2∨k=3∨k=4)=true:=cD u
   rw[F]at M;by_cases v:s=[]
   ·have A:decide (s=[])=true:=cD v
    refine aG ?_;simp only[RR,seval];simp only[*,RR,seval];exact a _ _ ⟨_,rfl,by rw[bH u,v];rfl,j,f,c⟩
   have A:decide (s=[])=false:=bA v;refine aG ?_;simp only[RR,seval];simp only[*,RR,seval];refine aO P ?_;simp only[RR,seval];refine a _ _ ⟨_,rfl,by rw[bH u],j,f,c⟩
  have F:decide (k=2∨k=3∨k=4)=false:=bA u;rw[F]at M;by_cases v:s=[]
  ·have A:decide (s=[])=true:=cD v
   refine aG ?_;simp only[RR,seval];simp only[*,RR,seval];exact a _ _ ⟨_,rfl,by rw[aL u,A];rfl,j,f,c⟩
  have A:decide (s=[])=false:=bA v;refine aG ?_;simp only[RR,seval];simp only[*,RR,seval];exact a _ _ ⟨_,rfl,by rw[aL u,A];rfl,j,f,c⟩
 rintro g H ⟨t,N,i,j,f,c⟩;refine dN _ N (fun p=>?_) (fun p=>?_)
 ·refine aC fun K a=>?_;refine aG ?_;simp only[RR,seval]
  apply a;refine aN ?_;simp only[bK,aW,aJ,bN,RR,seval];refine aY.pure ?_
  have :(if k=2∨k=3∨k=4 then fP s else decide (s=[]))=false:=by
   rw[p]at i
   cases e:(if k=2∨k=3∨k=4 then fP s else decide (s=[]))with
   |false=>rfl
   |true=>rw[e]at i;cases i
  rw[J,this];rfl
 have Q:(if k=2∨k=3∨k=4 then fP s else decide (s=[]))=true:=by
  rw[p]at i
  cases e:(if k=2∨k=3∨k=4 then fP s else decide (s=[]))with
  |true=>rfl
  |false=>rw[e]at i;cases i
 rw[Q,cB]at J;clear i p N t C Q I;refine aK ?_;simp only[bK];refine aC fun K a=>?_;refine aG ?_;simp only[RR,seval];simp only[f,c,aE,RR,seval];apply a;have y:IntKind.wrap .i64 (d+1)=d+1:=aS _ (by omega);have D: ∀m:Nat,decide ((l.length:Int)=m)=decide (l.length=m):=fun m=>by rw[cU];simp only[bJ];omega
 have T:decide ((l.length:Int)≤6)=decide (l.length≤6):=by rw[cU];simp only[bJ];omega
 have E:decide ((l.length:Int)=0)=decide (l.length=0):=D 0;have B:decide ((l.length:Int)=1)=decide (l.length=1):=D 1;have z:decide ((l.length:Int)=2)=decide (l.length=2):=D 2;clear D;subst J;by_cases k1:k=1
 ·subst k1
  repeat' (first|(refine aC fun K a=>?_;refine aG ?_;simp only[f,c,E,RR,seval];apply a;clear a K)|(refine aI ?_)|(refine aP ?_)|(refine cR ?_)|(refine aK ?_;simp only[bK])|(refine aN ?_;simp only[bK,cM,aW,aJ,bN,RR,seval];refine aY.pure ?_))
  cases l with
  |nil=>simp only[lR,lW];rfl
  |cons=>simp [lR]
 by_cases k1:k=2
 ·subst k1
  repeat' (first|(refine aC fun K a=>?_;refine aG ?_;simp only[f,c,E,RR,seval];apply a;clear a K)|(refine aI ?_)|(refine aP ?_)|(refine cR ?_)|(refine bL ?_)|(refine aK ?_;simp only[bK])|(refine aN ?_;simp only[bK,cM,aW,aJ,bN,RR,seval];refine aY.pure ?_))
  cases l with
  |nil=>simp only[lR,lW];rfl
  |cons=>simp [lR]
 by_cases k1:k=5
 ·subst k1
  repeat' (first|(refine aC fun K a=>?_;refine aG ?_;simp only[f,c,E,RR,seval];apply a;clear a K)|(refine aI ?_)|(refine aP ?_)|(refine cR ?_)|(refine bL ?_)|(refine aG ?_;simp only[bK,RR,seval])|(refine aN ?_;simp only[bK,cM,aW,aJ,bN,RR,seval];refine aY.pure ?_))
  cases l with
  |nil=>simp only[lR,lW];rfl
  |cons=>simp [lR]
 by_cases k1:k=3
 ·subst k1
  repeat' (first|(refine aC fun K a=>?_;refine aG ?_;simp only[f,c,B,RR,seval];apply a;clear a K)|(refine aI ?_)|(refine aP ?_)|(refine cR ?_)|(refine bL ?_)|(refine aK ?_;simp only[bK])|(refine aG ?_;simp only[B,bK,RR,seval])|(refine eE (fun h=>?_) (fun h=>?_)<;>simp only[*,y,bK,RR,seval])|(refine aN ?_;simp only[bK,cM,aW,aJ,bN,RR,seval];refine aY.pure ?_)|(refine aO (x) ?_;simp only[bK,RR,seval]))
  all_goals simp [lR, *]
 by_cases k1:k=7
 ·subst k1
  repeat' (first|(refine aC fun K a=>?_;refine aG ?_;simp only[f,c,B,RR,seval];apply a;clear a K)|(refine aI ?_)|(refine aP ?_)|(refine cR ?_)|(refine bL ?_)|(refine aG ?_;simp only[B,bK,RR,seval])|(refine eE (fun h=>?_) (fun h=>?_)<;>simp only[*,y,bK,RR,seval])|(refine aN ?_;simp only[bK,cM,aW,aJ,bN,RR,seval];refine aY.pure ?_)|(refine aO (x) ?_;simp only[bK,RR,seval]))
  all_goals simp [lR, *]
 by_cases k1:k=4
 ·subst k1
  repeat' (first|(refine aC fun K a=>?_;refine aG ?_;simp only[f,c,T,RR,seval];apply a;clear a K)|(refine aI ?_)|(refine aP ?_)|(refine cR ?_)|(refine bL ?_)|(refine aG ?_;simp only[T,bK,RR,seval])|(refine eE (fun h=>?_) (fun h=>?_)<;>simp only[*,y,bK,RR,seval])|(refine aN ?_;simp only[bK,cM,aW,aJ,bN,RR,seval];refine aY.pure ?_)|(refine aO (x) ?_;simp only[bK,RR,seval]))
  all_goals simp [lR, *]
 by_cases k1:k=6
 ·subst k1
  repeat' (first|(refine aC fun K a=>?_;refine aG ?_;simp only[f,c,RR,seval];apply a;clear a K)|(refine aI ?_)|(refine aP ?_)|(refine cR ?_)|(refine bL ?_)|(refine aG ?_;simp only[f,c,bK,RR,seval])|(refine eE (fun h=>?_) (fun h=>?_)<;>simp only[*,z,y,bK,RR,seval])|(refine aN ?_;simp only[bK,cM,aW,aJ,bN,RR,seval];refine aY.pure ?_)|(refine aO (x) ?_;simp only[bK,RR,seval]))
  all_goals simp [lR, *]
 by_cases k1:k=8
 ·subst k1
  repeat' (first|(refine aC fun K a=>?_;refine aG ?_;simp only[f,c,z,RR,seval];apply a;clear a K)|(refine aI ?_)|(refine aP ?_)|(refine cR ?_)|(refine bL ?_)|(refine aK ?_;simp only[bK])|(refine aG ?_;simp only[z,bK,RR,seval])|(refine eE (fun h=>?_) (fun h=>?_)<;>simp only[*,y,bK,RR,seval])|(refine aN ?_;simp only[bK,cM,aW,aJ,bN,RR,seval];refine aY.pure ?_)|(refine aO (x) ?_;simp only[bK,RR,seval]))
  all_goals simp [lR, *]
 by_cases k1:k=9
 ·subst k1
  repeat' (first|(refine aC fun K a=>?_;refine aG ?_;simp only[f,c,z,RR,seval];apply a;clear a K)|(refine aI ?_)|(refine aP ?_)|(refine cR ?_)|(refine bL ?_)|(refine aG ?_;simp only[z,bK,RR,seval])|(refine eE (fun h=>?_) (fun h=>?_)<;>simp only[*,y,bK,RR,seval])|(refine aN ?_;simp only[bK,cM,aW,aJ,bN,RR,seval];refine aY.pure ?_)|(refine aO (x) ?_;simp only[bK,RR,seval]))
  all_goals simp [lR, *]
 have g1:decide (k=1)=false:=bA (by assumption);have g2:decide (k=2)=false:=bA (by assumption);have g3:decide (k=3)=false:=bA (by assumption);have g4:decide (k=4)=false:=bA (by assumption);have U:decide (k=5)=false:=bA (by assumption);have g6:decide (k=6)=false:=bA (by assumption);have V:decide (k=7)=false:=bA (by assumption);have g8:decide (k=8)=false:=bA (by assumption);have W:decide (k=9)=false:=bA (by assumption)
 repeat' (first|(refine aC fun K a=>?_;refine aG ?_;simp only[*,RR,seval];apply a;clear a K)|(refine aI ?_)|(refine aP ?_)|(refine bL ?_)|(refine aK ?_;simp only[bK,cM])|(refine aG ?_;simp only[U,V,W,bK,RR,seval])|(refine aN ?_;simp only[aW,aJ,bN,RR,seval];refine aY.pure ?_))
 simp [lR, *]
theorem Lq (n:Nat): ∀(l:List Ex) (b:Int),sN l=n→Bt l→ -1000000≤b→b≤1000000→eN dV 121 [.isl 5 (l.map Ex.row), .int .i64 b] (.bool (iM l b)):=by
 induction n using Nat.strongRecOn with
 |_ n ih=>
  intro l b L v y z;have G:l.length≤9223372036854775807:=v.fit;refine bX 19 [.tmp 4] func121 ?_;refine aC fun K a=>?_;refine aG ?_;simp only[RR,seval];apply a;clear a K;refine cP (fun f H=>iM l b=true) (fun K a=>?_) ?_
  ·refine aC fun K a=>?_;refine aG ?_;simp only[RR,seval]
   apply a;clear a K;refine aP ?_;refine eS (fun x f H=> ∃k:Nat,x=l.length-k∧k≤l.length∧f 5= .int .i64 k∧f 0= .isl 5 (l.map Ex.row)∧f 1= .int .i64 b∧iM l b=iM (l.drop k) b) (l.length) ⟨0,rfl,cJ _,rfl,rfl,rfl,by rw[dL]⟩ ?_;rintro x f H ⟨k,rfl,I,j,g,p,d⟩ F A;refine aI ?_;refine aC fun K a=>?_;refine aG ?_;simp only[RR,seval];simp only[j,g,aE,RR,seval];apply a;clear a K;refine aU ?_ ?_<;>intro c
   ·have o:k<l.length:=by have:=aB c;omega
    clear c;refine aK ?_;simp only[bK];refine aI ?_;refine aP ?_;have t:=uK Ex.row (aF o);have u:=bW o;have i:=v.all _ u;have E:=nJ u;rw[bG o,lQ]at d;generalize l[k]=e at t d i E;have M:=e.sz_eq;have D:=e.row_len;have B:=Lr e i b y z (fun J=>ih _ (by omega) e.kids (b+1) rfl i.kids (by omega) (by omega));refine aC fun K a=>?_;refine aG ?_;simp only[RR,seval];simp only[g,p,j,t,D,RR,seval];rw[sD (by omega)];refine aO B ?_;simp only[RR,seval];apply a;clear a K;refine dN (!lH e b) rfl (fun c=>?_) (fun c=>?_)
    ·refine aC fun K a=>?_;refine aG ?_;simp only[RR,seval]
     apply a;clear a K;refine aN ?_;simp only[bK,cM,aW,aJ,bN,RR,seval];refine aY.pure ?_;rw[d,show lH e b=false by simpa using c];rfl
    refine aK ?_;simp only[bK,cM];rw[show lH e b=true by simpa using c,cB]at d;refine aG ?_;simp only[RR,seval];simp only[j,bK,RR,seval];rw[aS _ (by omega)];refine A (l.length-(k+1)) _ _ (by omega) ⟨k+1,rfl,by omega,rfl,g,p,d⟩
   refine cF ?_;simp only[bK,cM,reduceIte];have C:k=l.length:=by have:=aD c;omega
   clear c;subst C;rw[cX,lW]at d;exact a _ _ d
  rintro f H g;refine aC fun K a=>?_;refine aG ?_;simp only[RR,seval];apply a;clear a K;refine aN ?_;simp only[aW,aJ,bN,RR,seval];refine aY.pure ?_;rw[g]
def wN (s:Sm) (level:Int):Bool:=
 decide (level≤24)&&(decide (s.kind=4)||decide (s.els.length=0))&&(decide (s.kind=4)||decide (s.kind=5)||decide (s.thn.length=0))&&
  (if s.kind=1∨s.kind=2∨s.kind=6 then fP s.name else decide (s.name=[]))
def zJ (k:Int) (n:Nat):Bool:=
 if k=1∨k=3∨k=4∨k=5 then decide (n=1)else if k=2 then decide (n=2)else if k=6 then decide (n≤6)else if k=7 then decide (n≤1)else false
def gQ:List Sm→Int→Bool
 |[],_=>true
 | .mk k s es t u::l,level=>wN (.mk k s es t u) level&&zJ k es.length&&iM es (level+1)&&gQ t (level+1)&&gQ u (level+1)&&gQ l level
def lI (s:Sm) (level:Int):Bool:=wN s level&&zJ s.kind s.es.length&&iM s.es (level+1)&&gQ s.thn (level+1)&&gQ s.els (level+1)
theorem lP (e:Sm) (l:List Sm) (a:Int):gQ (e::l) a=(lI e a&&gQ l a):=by
 cases e;rw[gQ];rfl
theorem oK (a:Int):gQ [] a=true:=by rw[gQ]
def mK (a:Ar):Bool:=fP a.name&&decide (1≤a.size)&&decide (a.size≤4096)
def jC (f:Fu):Bool:=fP f.name&&decide (f.params.length≤6)&&f.params.all fP&&f.locs.all fP&&gQ f.body 1
def gD (p:Pg):Bool:=p.vars.all fP&&decide (1≤p.funs.length)&&decide (p.funs.length≤64)&&p.arrs.all mK&&p.funs.all jC
theorem UN {a b:Bool} (h:a= !b) (c:a=true):b=false:=by subst c;cases b<;>simp_all
theorem UM {a b:Bool} (h:a= !b) (c:a=false):b=true:=by subst c;cases b<;>simp_all
theorem Lp (e:Sm) (y:e.ok) (f:Int) (h1: -1000000≤f) (h2:f≤1000000)
  (R:f≤24→ ∀x,x=e.thn∨x=e.els→eN dV 52 [.isl 5 (x.map Sm.row), .int .i64 (f+1)] (.bool (gQ x (f+1)))):
  eN dV 77 [.agg e.row, .int .i64 f] (.bool (lI e f)):=by
 have P:=rT e.name y.name;have O:=fun h=>Lq _ e.es (f+1) rfl y.es (by omega) h;have Q:=e.row_eq;generalize N:lI e f=a1;rw[Q];have X:e.es.length≤9223372036854775807:=y.es.fit;have Y:e.thn.length≤9223372036854775807:=y.thn.fit;have C:e.els.length≤9223372036854775807:=y.els.fit;obtain⟨k,s,l,j,u⟩:=e;simp only[Sm.kind,Sm.name,Sm.es,Sm.thn,Sm.els]at R P O X Y C⊢;clear Q y;have v:lI (.mk k s l j u) f=((decide (f≤24)&&(decide (k=4)||decide (u.length=0))&&(decide (k=4)||decide (k=5)||decide (j.length=0)))&&(if k=1∨k=2∨k=6 then fP s else decide (s=[]))&&zJ k l.length&&iM l (f+1)&&gQ j (f+1)&&gQ u (f+1)):=rfl;rw[N]at v;clear N;refine bX 110 [.tmp 4] func77 ?_;refine cP (fun g H=> ∃b,g 1= .int .i64 f∧g 2= .ptr 5 b 0 0∧H b=some (.rows 5 [[.int .i64 k, .str s, .isl 5 (l.map Ex.row), .isl 5 (j.map Sm.row), .isl 5 (u.map Sm.row)]])) (fun K a=>?_) ?_
 ·refine aG ?_;simp only[RR,seval]
  refine aM fun b c=>?_;simp only[RR,seval];exact a _ _ ⟨b,rfl,rfl,bE _ _ _⟩
 rintro g H ⟨b,i,d,c⟩;refine aI (cP (fun g H=> ∃t,g 36= .bool t∧(t= !(decide (f≤24)&&(decide (k=4)||decide (u.length=0))&&(decide (k=4)||decide (k=5)||decide (j.length=0))))∧g 1= .int .i64 f∧g 2= .ptr 5 b 0 0∧H b=some (.rows 5 [[.int .i64 k, .str s, .isl 5 (l.map Ex.row), .isl 5 (j.map Sm.row), .isl 5 (u.map Sm.row)]])) (fun K a=>?_) ?_)
 ·have p:decide ((0:Int)<u.length)= !decide (u.length=0):=by rw[cU];simp only[bJ,dE,cZ];omega
  have G:decide ((0:Int)<j.length)= !decide (j.length=0):=by rw[cU];simp only[bJ,dE,cZ];omega
  refine aG ?_;simp only[RR,seval];simp only[i,RR,seval]
  repeat' ((refine bZ (fun h=>?_) (fun h=>?_))<;>simp only[h,d,c,aE,p,G,RR,seval])
  all_goals
   refine a _ _ ⟨_,rfl, ?_,i,d,c⟩;simp_all<;>omega
 rintro g H ⟨t,L,n,i,d,c⟩;refine dN _ L (fun o=>?_) (fun o=>?_)
 ·have:=UN n o
  refine aC fun K a=>?_;refine aG ?_;simp only[RR,seval];apply a;refine aN ?_;simp only[bK,aW,aJ,bN,RR,seval];refine aY.pure ?_;rw[v,this];rfl
 have D:=UM n o;have a0:f≤24:=by simp only[bC,bJ]at D;exact D.1.1
 rw[D,cB]at v;have S:=R a0;have E:=O (by omega);clear n o L t;refine aK ?_;simp only[bK];refine cP (fun g H=>g 5= .bool (decide (k=1∨k=2∨k=6))∧g 1= .int .i64 f∧g 2= .ptr 5 b 0 0∧H b=some (.rows 5 [[.int .i64 k, .str s, .isl 5 (l.map Ex.row), .isl 5 (j.map Sm.row), .isl 5 (u.map Sm.row)]])) (fun K a=>?_) ?_
 ·refine aG ?_;simp only[RR,seval]
  simp only[d,c,RR,seval]
  repeat' ((refine bZ (fun h=>?_) (fun h=>?_))<;>simp only[h,d,c,RR,seval])
  all_goals
   refine a _ _ ⟨?_,i,d,c⟩;simp [upd];simp_all
 rintro g H ⟨C,i,d,c⟩;refine aI (cP (fun g H=> ∃t,g 63= .bool t∧(t= !(if k=1∨k=2∨k=6 then fP s else decide (s=[])))∧g 1= .int .i64 f∧g 2= .ptr 5 b 0 0∧H b=some (.rows 5 [[.int .i64 k, .str s, .isl 5 (l.map Ex.row), .isl 5 (j.map Sm.row), .isl 5 (u.map Sm.row)]])) (fun K a=>?_) ?_)
 ·by_cases z:k=1∨k=2∨k=6
  ·have I:decide (k=1∨k=2∨k=6)=true:=cD z
   rw[I]at C;by_cases A:s=[]
   ·have B:decide (s=[])=true:=cD A
    refine aG ?_;simp only[RR,seval];simp only[*,RR,seval];exact a _ _ ⟨_,rfl,by rw[bH z,A];rfl,i,d,c⟩
   have B:decide (s=[])=false:=bA A;refine aG ?_;simp only[RR,seval];simp only[*,RR,seval];refine aO P ?_;simp only[RR,seval];refine a _ _ ⟨_,rfl,by rw[bH z],i,d,c⟩
  have I:decide (k=1∨k=2∨k=6)=false:=bA z;rw[I]at C;by_cases A:s=[]
  ·have B:decide (s=[])=true:=cD A
   refine aG ?_;simp only[RR,seval];simp only[*,RR,seval];exact a _ _ ⟨_,rfl,by rw[aL z,B];rfl,i,d,c⟩
  have B:decide (s=[])=false:=bA A;refine aG ?_;simp only[RR,seval];simp only[*,RR,seval];exact a _ _ ⟨_,rfl,by rw[aL z,B];rfl,i,d,c⟩
 rintro g H ⟨t,M,n,i,d,c⟩;refine dN _ M (fun o=>?_) (fun o=>?_)
 ·have:=UN n o
  refine aC fun K a=>?_;refine aG ?_;simp only[RR,seval];apply a;refine aN ?_;simp only[bK,aW,aJ,bN,RR,seval];refine aY.pure ?_;rw[v,this];rfl
 rw[UM n o,cB]at v;clear n o M t D;refine aK ?_;simp only[bK];refine aC fun K a=>?_;refine aG ?_;simp only[RR,seval];simp only[d,c,aE,RR,seval];apply a;refine aC fun K a=>?_;refine aG ?_;simp only[RR,seval];apply a;have F:IntKind.wrap .i64 (f+1)=f+1:=aS _ (by omega);refine cP (fun g H=>g 7= .bool (zJ k l.length)∧g 1= .int .i64 f∧g 2= .ptr 5 b 0 0∧H b=some (.rows 5 [[.int .i64 k, .str s, .isl 5 (l.map Ex.row), .isl 5 (j.map Sm.row), .isl 5 (u.map Sm.row)]])) (fun K a=>?_) ?_
 ·have p:decide ((l.length:Int)=1)=decide (l.length=1):=by rw[cU];simp only[bJ];omega
  have G:decide ((l.length:Int)=2)=decide (l.length=2):=by rw[cU];simp only[bJ];omega
  have V:decide ((l.length:Int)≤6)=decide (l.length≤6):=by rw[cU];simp only[bJ];omega
  have W:decide ((l.length:Int)≤1)=decide (l.length≤1):=by rw[cU];simp only[bJ];omega
  by_cases k1:k=1
  ·subst k1
   repeat' (first|(refine aC fun K a=>?_;refine aG ?_;simp only[d,c,RR,seval];apply a;clear a K)|(refine aI ?_)|(refine aP ?_)|(refine cR ?_)|(refine aK ?_;simp only[bK])|(refine aG ?_;simp only[p,bK,cM,RR,seval]))
   exact a _ _ ⟨rfl,i,d,c⟩
  by_cases k1:k=3
  ·subst k1
   repeat' (first|(refine aC fun K a=>?_;refine aG ?_;simp only[d,c,RR,seval];apply a;clear a K)|(refine aI ?_)|(refine aP ?_)|(refine cR ?_)|(refine bL ?_)|(refine aK ?_;simp only[bK])|(refine aG ?_;simp only[p,bK,cM,RR,seval]))
   exact a _ _ ⟨rfl,i,d,c⟩
  by_cases k1:k=4
  ·subst k1
   repeat' (first|(refine aC fun K a=>?_;refine aG ?_;simp only[d,c,RR,seval];apply a;clear a K)|(refine aI ?_)|(refine aP ?_)|(refine cR ?_)|(refine bL ?_)|(refine aK ?_;simp only[bK])|(refine aG ?_;simp only[p,bK,cM,RR,seval]))
   exact a _ _ ⟨rfl,i,d,c⟩
  by_cases k1:k=5
  ·subst k1
   repeat' (first|(refine aC fun K a=>?_;refine aG ?_;simp only[d,c,RR,seval];apply a;clear a K)|(refine aI ?_)|(refine aP ?_)|(refine cR ?_)|(refine bL ?_)|(refine aG ?_;simp only[p,bK,cM,RR,seval]))
   exact a _ _ ⟨rfl,i,d,c⟩
  by_cases k1:k=2
  ·subst k1
   repeat' (first|(refine aC fun K a=>?_;refine aG ?_;simp only[d,c,RR,seval];apply a;clear a K)|(refine aI ?_)|(refine aP ?_)|(refine cR ?_)|(refine bL ?_)|(refine aG ?_;simp only[G,bK,cM,RR,seval]))
   exact a _ _ ⟨rfl,i,d,c⟩
  by_cases k1:k=6
  ·subst k1
   repeat' (first|(refine aC fun K a=>?_;refine aG ?_;simp only[d,c,RR,seval];apply a;clear a K)|(refine aI ?_)|(refine aP ?_)|(refine cR ?_)|(refine bL ?_)|(refine aG ?_;simp only[V,bK,cM,RR,seval]))
   exact a _ _ ⟨rfl,i,d,c⟩
  by_cases k1:k=7
  ·subst k1
   repeat' (first|(refine aC fun K a=>?_;refine aG ?_;simp only[d,c,RR,seval];apply a;clear a K)|(refine aI ?_)|(refine aP ?_)|(refine cR ?_)|(refine bL ?_)|(refine aG ?_;simp only[W,bK,cM,RR,seval]))
   exact a _ _ ⟨rfl,i,d,c⟩
  have g1:decide (k=1)=false:=bA (by assumption);have g2:decide (k=2)=false:=bA (by assumption);have g3:decide (k=3)=false:=bA (by assumption);have g4:decide (k=4)=false:=bA (by assumption);have Z:decide (k=5)=false:=bA (by assumption);have g6:decide (k=6)=false:=bA (by assumption);have g7:decide (k=7)=false:=bA (by assumption)
  repeat' (first|(refine aC fun K a=>?_;refine aG ?_;simp only[*,RR,seval];apply a;clear a K)|(refine aI ?_)|(refine aP ?_)|(refine bL ?_)|(refine aK ?_;simp only[bK,cM])|(refine aG ?_;simp only[Z,bK,RR,seval]))
  exact a _ _ ⟨by simp [zJ, *,upd],i,d,c⟩
 rintro g H ⟨J,i,d,c⟩;subst v
 cases hf:zJ k l.length with
 |false=>
  rw[hf]at J
  repeat' (first|(refine aC fun K a=>?_;refine aG ?_;simp only[J,RR,seval];apply a;clear a K)|(refine aN ?_;simp only[aW,aJ,bN,RR,seval];refine aY.pure ?_))
  rfl
 |true=>
  rw[hf]at J
  cases hx:iM l (f+1)with
  |false=>
   rw[hx]at E
   repeat' (first|(refine aI ?_)|(refine aG ?_;simp only[*,F,RR,seval])|(refine aN ?_;simp only[aW,aJ,bN,RR,seval];refine aY.pure ?_)|(refine aO (E) ?_;simp only[bK,RR,seval]))
   rfl
  |true=>
   rw[hx]at E;have T:=S j (.inl rfl);have U:=S u (.inr rfl);refine aC fun K a=>?_;refine aG ?_;simp only[RR,seval];simp only[*,F,RR,seval];refine aO E ?_;simp only[RR,seval];simp only[i,d,c,F,RR,seval];refine aO T ?_;simp only[RR,seval]
   cases n:gQ j (f+1)with
   |false=>
    simp only[RR,seval];apply a;clear a K;refine aN ?_;simp only[aW,aJ,bN,RR,seval];refine aY.pure ?_;rw[n];rfl
   |true=>
    simp only[i,d,c,F,RR,seval];refine aO U ?_;simp only[RR,seval];apply a;refine aN ?_;simp only[aW,aJ,bN,RR,seval];refine aY.pure ?_;rw[n];rfl
theorem Lo (n:Nat): ∀(l:List Sm) (b:Int),oZ l=n→yM l→ -1000000≤b→b≤1000000→eN dV 52 [.isl 5 (l.map Sm.row), .int .i64 b] (.bool (gQ l b)):=by
 induction n using Nat.strongRecOn with
 |_ n ih=>
  intro l b N v z A;have J:l.length≤9223372036854775807:=v.fit;refine bX 19 [.tmp 4] func52 ?_;refine aC fun K a=>?_;refine aG ?_;simp only[RR,seval];apply a;clear a K;refine cP (fun f H=>gQ l b=true) (fun K a=>?_) ?_
  ·refine aC fun K a=>?_;refine aG ?_;simp only[RR,seval]
   apply a;clear a K;refine aP ?_;refine eS (fun y f H=> ∃k:Nat,y=l.length-k∧k≤l.length∧f 5= .int .i64 k∧f 0= .isl 5 (l.map Sm.row)∧f 1= .int .i64 b∧gQ l b=gQ (l.drop k) b) (l.length) ⟨0,rfl,cJ _,rfl,rfl,rfl,by rw[dL]⟩ ?_;rintro y f H ⟨k,rfl,L,j,g,p,d⟩ I B;refine aI ?_;refine aC fun K a=>?_;refine aG ?_;simp only[RR,seval];simp only[j,g,aE,RR,seval];apply a;clear a K;refine aU ?_ ?_<;>intro c
   ·have o:k<l.length:=by have:=aB c;omega
    clear c;refine aK ?_;simp only[bK];refine aI ?_;refine aP ?_;have t:=uK Sm.row (aF o);have u:=bW o;have i:=v.all _ u;have F:=lU u;rw[bG o,lP]at d;generalize l[k]=e at t d i F;have O:=e.sz_eq;have E:=e.row_len
    have C:=Lp e i b z A (fun M x G=>by
     rcases G with rfl|rfl
     ·exact ih _ (by omega) e.thn (b+1) rfl i.thn (by omega) (by omega)
     exact ih _ (by omega) e.els (b+1) rfl i.els (by omega) (by omega))
    refine aC fun K a=>?_;refine aG ?_;simp only[RR,seval];simp only[g,p,j,t,E,RR,seval];rw[sD (by omega)];refine aO C ?_;simp only[RR,seval];apply a;clear a K;refine dN (!lI e b) rfl (fun c=>?_) (fun c=>?_)
    ·refine aC fun K a=>?_;refine aG ?_;simp only[RR,seval]
     apply a;clear a K;refine aN ?_;simp only[bK,cM,aW,aJ,bN,RR,seval];refine aY.pure ?_;rw[d,show lI e b=false by simpa using c];rfl
    refine aK ?_;simp only[bK,cM];rw[show lI e b=true by simpa using c,cB]at d;refine aG ?_;simp only[RR,seval];simp only[j,bK,RR,seval];rw[aS _ (by omega)];refine B (l.length-(k+1)) _ _ (by omega) ⟨k+1,rfl,by omega,rfl,g,p,d⟩
   refine cF ?_;simp only[bK,cM,reduceIte];have D:k=l.length:=by have:=aD c;omega
   clear c;subst D;rw[cX,oK]at d;exact a _ _ d
  rintro f H g;refine aC fun K a=>?_;refine aG ?_;simp only[RR,seval];apply a;clear a K;refine aN ?_;simp only[aW,aJ,bN,RR,seval];refine aY.pure ?_;rw[g]
theorem Ln (p:Pg) (D:p.ok):eN dV 25 [p.av] (.bool (gD p)):=by
 have X:p.vars.length≤9223372036854775807:=D.vars.fit;have V:p.arrs.length≤9223372036854775807:=D.afit;have W:p.funs.length≤9223372036854775807:=D.ffit;have O:=wF p.vars D.vars;obtain⟨vs,n,g⟩:=p;simp only at X V W O;simp only[Pg.av,Pg.row];refine bX 95 [.tmp 2] func25 ?_;refine cP (fun j H=> ∃b,j 1= .ptr 3 b 0 0∧H b=some (.rows 3 [[.isl 1 (vs.map bQ), .isl 2 (n.map Ar.row), .isl 5 (g.map Fu.row)]])) (fun K c=>?_) ?_
 ·refine aG ?_;simp only[RR,seval]
  refine aM fun b i=>?_;simp only[RR,seval];exact c _ _ ⟨b,rfl,bE _ _ _⟩
 rintro j H ⟨b,d,i⟩;have x:gD ⟨vs,n,g⟩=((vs.all fP&&decide (1≤g.length)&&decide (g.length≤64))&&n.all mK&&g.all jC):=rfl;generalize gD ⟨vs,n,g⟩=a6 at x⊢;refine aI ?_;refine cP (fun j H=> ∃t,j 21= .bool t∧(t= !(vs.all fP&&decide (1≤g.length)&&decide (g.length≤64)))∧j 1= .ptr 3 b 0 0∧H b=some (.rows 3 [[.isl 1 (vs.map bQ), .isl 2 (n.map Ar.row), .isl 5 (g.map Fu.row)]])) (fun K c=>?_) ?_
 ·have E:decide ((g.length:Int)<1)= !decide (1≤g.length):=by rw[cU];simp only[bJ,dE,cZ];omega
  have I:decide ((64:Int)<g.length)= !decide (g.length≤64):=by rw[cU];simp only[bJ,dE,cZ];omega
  refine aG ?_;simp only[RR,seval];simp only[d,i,RR,seval];refine aO O ?_;simp only[RR,seval]
  cases hv:vs.all fP with
  |false=>
   simp only[RR,seval];exact c _ _ ⟨_,rfl,by rw[hv];rfl,d,i⟩
  |true=>
   simp only[d,i,aE,E,RR,seval]
   cases h1:decide (1≤g.length)with
   |false=>
    simp only[RR,seval];exact c _ _ ⟨_,rfl,by rw[hv,h1];rfl,d,i⟩
   |true=>
    simp only[d,i,aE,I,RR,seval];exact c _ _ ⟨_,rfl,by rw[hv,h1];rfl,d,i⟩
 rintro j H ⟨t,N,M,d,i⟩;refine dN _ N (fun l=>?_) (fun l=>?_)
 ·have:=UN M l
  refine aC fun K c=>?_;refine aG ?_;simp only[RR,seval];apply c;clear c K;refine aN ?_;simp only[bK,aW,aJ,bN,RR,seval];refine aY.pure ?_;rw[x,this];rfl
 have Z:=UM M l;rw[Z,cB]at x;clear M l N t;refine aK ?_;simp only[bK];refine cP (fun j H=>n.all mK=true∧j 1= .ptr 3 b 0 0∧H b=some (.rows 3 [[.isl 1 (vs.map bQ), .isl 2 (n.map Ar.row), .isl 5 (g.map Fu.row)]])) (fun K c=>?_) ?_
 ·refine aC fun K c=>?_;refine aG ?_;simp only[RR,seval]
  apply c;clear c K;refine aP ?_;refine eS (fun G j H=> ∃k:Nat,G=n.length-k∧k≤n.length∧j 3= .int .i64 k∧n.all mK=(n.drop k).all mK∧j 1= .ptr 3 b 0 0∧H b=some (.rows 3 [[.isl 1 (vs.map bQ), .isl 2 (n.map Ar.row), .isl 5 (g.map Fu.row)]])) (n.length) ⟨0,rfl,cJ _,rfl,by rw[dL],d,i⟩ ?_;rintro G j H ⟨k,rfl,a4,o,u,d,i⟩ Q J;refine aI ?_;refine aC fun K c=>?_;refine aG ?_;simp only[RR,seval];simp only[o,d,i,aE,RR,seval];apply c;clear c K;refine aU ?_ ?_<;>intro l
  ·have A:k<n.length:=by have:=aB l;omega
   clear l;refine aK ?_;simp only[bK];refine aI ?_;refine aP ?_;have z:=N2 (aF A);have P:=D.arrs _ (bW A);rw[bG A,dG]at u;generalize n[k]=a at z u P;have a3:=rT a.name P.1;have E:decide (a.size<1)= !decide (1≤a.size):=by rw[cU];simp only[bJ,dE,cZ];omega
   have I:decide (4096<a.size)= !decide (a.size≤4096):=by rw[cU];simp only[bJ,dE,cZ];omega
   refine cP (fun j H=>j 54= .bool (!mK a)∧j 3= .int .i64 k∧j 1= .ptr 3 b 0 0∧H b=some (.rows 3 [[.isl 1 (vs.map bQ), .isl 2 (n.map Ar.row), .isl 5 (g.map Fu.row)]])) (fun K c=>?_) ?_
   ·refine aG ?_;simp only[RR,seval]
    simp only[d,i,o,z,RR,seval];refine aO a3 ?_;simp only[RR,seval]
    cases hv:fP a.name with
    |false=>
     simp only[RR,seval];exact c _ _ ⟨by simp only[mK,hv];rfl,o,d,i⟩
    |true=>
     simp only[d,i,o,z,E,RR,seval]
     cases h1:decide (1≤a.size)with
     |false=>
      simp only[RR,seval];exact c _ _ ⟨by simp only[mK,hv,h1];rfl,o,d,i⟩
     |true=>
      simp only[d,i,o,z,I,RR,seval];exact c _ _ ⟨by simp only[mK,hv,h1];rfl,o,d,i⟩
   rintro j H ⟨a0,o,d,i⟩;refine dN (!mK a) a0 (fun l=>?_) (fun l=>?_)
   ·refine aC fun K c=>?_;refine aG ?_;simp only[RR,seval]
    apply c;clear c K;refine aN ?_;simp only[bK,cM,aW,aJ,bN,RR,seval];refine aY.pure ?_;rw[x,u,show mK a=false by simpa using l];rfl
   refine aK ?_;simp only[bK,cM];rw[show mK a=true by simpa using l,cB]at u;refine aG ?_;simp only[RR,seval];simp only[o,bK,RR,seval];rw[aS _ (by omega)];refine J (n.length-(k+1)) _ _ (by omega) ⟨k+1,rfl,by omega,rfl,u,d,i⟩
  refine cF ?_;simp only[bK,cM,reduceIte];have L:k=n.length:=by have:=aD l;omega
  clear l;subst L;rw[cX]at u;exact c _ _ ⟨u,d,i⟩
 rintro j H ⟨u,d,i⟩;rw[u,cB]at x;refine cP (fun j H=>g.all jC=true) (fun K c=>?_) ?_
 ·refine aC fun K c=>?_;refine aG ?_;simp only[RR,seval]
  apply c;clear c K;refine aP ?_;refine eS (fun G j H=> ∃k:Nat,G=g.length-k∧k≤g.length∧j 4= .int .i64 k∧g.all jC=(g.drop k).all jC∧j 1= .ptr 3 b 0 0∧H b=some (.rows 3 [[.isl 1 (vs.map bQ), .isl 2 (n.map Ar.row), .isl 5 (g.map Fu.row)]])) (g.length) ⟨0,rfl,cJ _,rfl,by rw[dL],d,i⟩ ?_;rintro G j H ⟨k,rfl,a4,o,y,d,i⟩ Q J;refine aI ?_;refine aC fun K c=>?_;refine aG ?_;simp only[RR,seval];simp only[o,d,i,aE,RR,seval];apply c;clear c K;refine aU ?_ ?_<;>intro l
  ·have A:k<g.length:=by have:=aB l;omega
   clear l;refine aK ?_;simp only[bK];refine aI ?_;refine aP ?_;have z:=qF (aF A);have F:=D.funs _ (bW A);rw[bG A,dG]at y;generalize g[k]=f at z y F;refine aC fun K c=>?_;refine aG ?_;simp only[RR,seval];simp only[d,i,o,z,RR,seval];refine aM fun v a2=>?_;simp only[RR,seval];apply c;clear c K;have a5:b≠v:=fun e=>by rw[e,a2]at i;cases i
   have B:(upd (upd H v (some (.rows 5 [[.str [], .nsl, .nsl, .bool false, .nsl]]))) v (some (.rows 5 [[.str f.name, .isl 1 (f.params.map bQ), .isl 1 (f.locs.map bQ), .bool f.word, .isl 5 (f.body.map Sm.row)]]))) v=some (.rows 5 [[.str f.name, .isl 1 (f.params.map bQ), .isl 1 (f.locs.map bQ), .bool f.word, .isl 5 (f.body.map Sm.row)]]):=bE _ _ _;have C:(upd (upd H v (some (.rows 5 [[.str [], .nsl, .nsl, .bool false, .nsl]]))) v (some (.rows 5 [[.str f.name, .isl 1 (f.params.map bQ), .isl 1 (f.locs.map bQ), .bool f.word, .isl 5 (f.body.map Sm.row)]]))) b=some (.rows 3 [[.isl 1 (vs.map bQ), .isl 2 (n.map Ar.row), .isl 5 (g.map Fu.row)]]):=by simp only[upd,aL a5];exact i
   generalize(upd (upd H v (some (.rows 5 [[.str [], .nsl, .nsl, .bool false, .nsl]]))) v (some (.rows 5 [[.str f.name, .isl 1 (f.params.map bQ), .isl 1 (f.locs.map bQ), .bool f.word, .isl 5 (f.body.map Sm.row)]])))=H1 at B C⊢;have R:=rT f.name F.name;have S:=wF f.params F.params;have T:=wF f.locs F.locs;have U:=Lo _ f.body 1 rfl F.body (by omega) (by omega);have E:decide ((6:Int)<f.params.length)= !decide (f.params.length≤6):=by rw[cU];simp only[bJ,dE,cZ];omega
   refine cP (fun j H=>j 94= .bool (!jC f)∧j 4= .int .i64 k∧j 1= .ptr 3 b 0 0∧H b=some (.rows 3 [[.isl 1 (vs.map bQ), .isl 2 (n.map Ar.row), .isl 5 (g.map Fu.row)]])) (fun K c=>?_) ?_
   ·refine aG ?_;simp only[RR,seval]
    simp only[B,RR,seval];refine aO R ?_;simp only[RR,seval]
    cases v0:fP f.name with
    |false=>
     simp only[RR,seval];exact c _ _ ⟨by simp only[jC,v0];rfl,o,d,C⟩
    |true=>
     simp only[B,aE,E,RR,seval]
     cases v1:decide (f.params.length≤6)with
     |false=>
      simp only[RR,seval];exact c _ _ ⟨by simp only[jC,v0,v1];rfl,o,d,C⟩
     |true=>
      simp only[B,RR,seval];refine aO S ?_;simp only[RR,seval]
      cases v2:f.params.all fP with
      |false=>
       simp only[RR,seval];exact c _ _ ⟨by simp only[jC,v0,v1,v2];rfl,o,d,C⟩
      |true=>
       simp only[B,RR,seval];refine aO T ?_;simp only[RR,seval]
       cases v3:f.locs.all fP with
       |false=>
        simp only[RR,seval];exact c _ _ ⟨by simp only[jC,v0,v1,v2,v3];rfl,o,d,C⟩
       |true=>
        simp only[B,RR,seval];refine aO U ?_;simp only[RR,seval];exact c _ _ ⟨by simp only[jC,v0,v1,v2,v3];rfl,o,d,C⟩
   rintro j H ⟨a1,o,d,i⟩;refine dN (!jC f) a1 (fun l=>?_) (fun l=>?_)
   ·refine aC fun K c=>?_;refine aG ?_;simp only[RR,seval]
    apply c;clear c K;refine aN ?_;simp only[bK,cM,aW,aJ,bN,RR,seval];refine aY.pure ?_;rw[x,y,show jC f=false by simpa using l];rfl
   refine aK ?_;simp only[bK,cM];rw[show jC f=true by simpa using l,cB]at y;refine aG ?_;simp only[RR,seval];simp only[o,bK,RR,seval];rw[aS _ (by omega)];refine J (g.length-(k+1)) _ _ (by omega) ⟨k+1,rfl,by omega,rfl,y,d,i⟩
  refine cF ?_;simp only[bK,cM,reduceIte];have L:k=g.length:=by have:=aD l;omega
  clear l;subst L;rw[cX]at y;exact c _ _ y
 rintro j H Y;refine aC fun K c=>?_;refine aG ?_;simp only[RR,seval];apply c;clear c K;refine aN ?_;simp only[aW,aJ,bN,RR,seval];refine aY.pure ?_;rw[x,Y]
theorem CW (p:Pg) (a:p.ok) (_: ∀f∈p.funs,f.params.length≤1100000):eN dV 25 [p.av] (.bool (gD p)):=Ln p a
end Go.Proofs.YtaecpjgmcffliaaGreatDoor
