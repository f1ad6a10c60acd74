/- Sy2 -/
import Derived.Test.YtaecpjgmcffliaaGreatDoorAl3
import Derived.Test.YtaecpjgmcffliaaGreatDoorRows
set_option linter.unusedSimpArgs false
set_option linter.unusedVariables false
set_option maxRecDepth 10000
set_option maxHeartbeats 4000000
namespace Go.Proofs.YtaecpjgmcffliaaGreatDoor
open Go.Al Go.Proofs.Tryz
def jP:List (List UInt8):=[[118,97,114],[97,114,114,97,121],[102,117,110,99],[119,111,114,100],[105,102],[101,108,115,101],[119,104,105,108,101],[114,101,116,117,114,110],[112,117,116],[103,101,116]]
def lJ:List (List UInt8):=[[60,60],[62,62],[61,61],[38,38],[124,124],[40],[41],[123],[125],[91],[93],[59],[44],[61],[43],[45],[42],[47],[37],[38],[124],[94],[60],[33]]
def FR:List AV:=[.int .u64 1, .int .u64 10, .int .u64 100, .int .u64 1000, .int .u64 10000, .int .u64 100000, .int .u64 1000000, .int .u64 10000000, .int .u64 100000000, .int .u64 1000000000, .int .u64 10000000000, .int .u64 100000000000, .int .u64 1000000000000, .int .u64 10000000000000, .int .u64 100000000000000, .int .u64 1000000000000000, .int .u64 10000000000000000, .int .u64 100000000000000000, .int .u64 1000000000000000000, .int .u64 10000000000000000000]
def HO:Nat→Option (List AV)
 |0=>some (jP.map .str)
 |1=>some FR
 |_=>none
noncomputable def dN:jV:=⟨Tryz.prog,HO⟩
theorem QX:dN.G=HO:=rfl
theorem eP:dN.P.follows .mixedOrders=true:=by kernel_rfl
theorem TA:cB dN.P 3=some ⟨.int .i64,1,8, .int .i64 0⟩:=by kernel_rfl
theorem SZ:cB dN.P 4=some ⟨.bool,1,1, .bool false⟩:=by kernel_rfl
theorem SY:cB dN.P 5=some ⟨.int .u8,1,1, .int .u8 0⟩:=by kernel_rfl
theorem SV:cB dN.P 9=some ⟨.str,1,16, .str []⟩:=by kernel_rfl
theorem OP:cB dN.P 22=some ⟨.slice 9,1,24, .nsl⟩:=by kernel_rfl
theorem OO:cB dN.P 23=some ⟨.slice 82,1,24, .nsl⟩:=by kernel_rfl
theorem ON:cB dN.P 24=some ⟨.slice 58,1,24, .nsl⟩:=by kernel_rfl
theorem OM:cB dN.P 26=some ⟨.strct [(22,0),(23,1),(24,2)],3,72, .agg [.nsl, .nsl, .nsl]⟩:=by kernel_rfl
theorem OL:cB dN.P 29=some ⟨.int .i64,1,8, .int .i64 0⟩:=by kernel_rfl
theorem OK:cB dN.P 34=some ⟨.slice 46,1,24, .nsl⟩:=by kernel_rfl
theorem OJ:cB dN.P 36=some ⟨.strct [(34,0),(3,1)],2,32, .agg [.nsl, .int .i64 0]⟩:=by kernel_rfl
theorem OI:cB dN.P 40=some ⟨.strct [(3,0),(9,1),(3,2)],3,32, .agg [.int .i64 0, .str [], .int .i64 0]⟩:=by kernel_rfl
theorem OH:cB dN.P 45=some ⟨.slice 3,1,24, .nsl⟩:=by kernel_rfl
theorem OG:cB dN.P 46=some ⟨.int .u32,1,4, .int .u32 0⟩:=by kernel_rfl
theorem OF:cB dN.P 48=some ⟨.array 4 46,4,16, .agg [.int .u32 0, .int .u32 0, .int .u32 0, .int .u32 0]⟩:=by kernel_rfl
theorem OE:cB dN.P 50=some ⟨.strct [(3,0),(45,1),(9,2),(3,3),(48,4),(9,8)],9,88, .agg [.int .i64 0, .nsl, .str [], .int .i64 0, .int .u32 0, .int .u32 0, .int .u32 0, .int .u32 0, .str []]⟩:=by kernel_rfl
theorem OD:cB dN.P 56=some ⟨.slice 64,1,24, .nsl⟩:=by kernel_rfl
theorem OC:cB dN.P 58=some ⟨.strct [(9,0),(22,1),(22,2),(4,3),(56,4)],5,96, .agg [.str [], .nsl, .nsl, .bool false, .nsl]⟩:=by kernel_rfl
theorem OA:cB dN.P 60=some ⟨.slice 62,1,24, .nsl⟩:=by kernel_rfl
theorem NZ:cB dN.P 62=some ⟨.strct [(3,0),(3,1),(46,2),(9,3),(60,4)],5,64, .agg [.int .i64 0, .int .i64 0, .int .u32 0, .str [], .nsl]⟩:=by kernel_rfl
theorem NY:cB dN.P 64=some ⟨.strct [(3,0),(9,1),(60,2),(56,3),(56,4)],5,96, .agg [.int .i64 0, .str [], .nsl, .nsl, .nsl]⟩:=by kernel_rfl
theorem NX:cB dN.P 68=some ⟨.ptr 71,1,8, .npt⟩:=by kernel_rfl
theorem NW:cB dN.P 69=some ⟨.slice 5,1,24, .nsl⟩:=by kernel_rfl
theorem NV:cB dN.P 71=some ⟨.strct [(68,0),(69,1)],2,32, .agg [.npt, .nsl]⟩:=by kernel_rfl
theorem AI:cB dN.P 73=some ⟨.strct [(71,0)],2,32, .agg [.npt, .nsl]⟩:=by kernel_rfl
theorem NU:cB dN.P 74=some ⟨.func,1,8, .nfn⟩:=by kernel_rfl
theorem NT:cB dN.P 82=some ⟨.strct [(9,0),(3,1)],2,24, .agg [.str [], .int .i64 0]⟩:=by kernel_rfl
theorem NS:cB dN.P 86=some ⟨.ptr 89,1,8, .npt⟩:=by kernel_rfl
theorem NR:cB dN.P 87=some ⟨.slice 34,1,24, .nsl⟩:=by kernel_rfl
theorem NQ:cB dN.P 89=some ⟨.strct [(26,0),(9,3),(3,4),(34,5),(87,6),(69,7),(3,8),(3,9),(3,10)],11,192, .agg [.nsl, .nsl, .nsl, .str [], .int .i64 0, .nsl, .nsl, .nsl, .int .i64 0, .int .i64 0, .int .i64 0]⟩:=by kernel_rfl
theorem NP:cB dN.P 91=some ⟨.array 16 46,16,64, .agg [.int .u32 0, .int .u32 0, .int .u32 0, .int .u32 0, .int .u32 0, .int .u32 0, .int .u32 0, .int .u32 0, .int .u32 0, .int .u32 0, .int .u32 0, .int .u32 0, .int .u32 0, .int .u32 0, .int .u32 0, .int .u32 0]⟩:=by kernel_rfl
theorem NN:cB dN.P 93=some ⟨.strct [(3,0),(91,1),(34,17),(3,18),(9,19),(3,20),(3,21)],22,136, .agg [.int .i64 0, .int .u32 0, .int .u32 0, .int .u32 0, .int .u32 0, .int .u32 0, .int .u32 0, .int .u32 0, .int .u32 0, .int .u32 0, .int .u32 0, .int .u32 0, .int .u32 0, .int .u32 0, .int .u32 0, .int .u32 0, .int .u32 0, .nsl, .int .i64 0, .str [], .int .i64 0, .int .i64 0]⟩:=by kernel_rfl
theorem DZ:cB dN.P 108=some ⟨.ptr 73,1,8, .npt⟩:=by kernel_rfl
theorem DY:cB dN.P 110=some ⟨.ptr 5,1,8, .npt⟩:=by kernel_rfl
theorem DX:cB dN.P 113=some ⟨.slice 159,1,24, .nsl⟩:=by kernel_rfl
theorem DW:cB dN.P 116=some ⟨.ptr 118,1,8, .npt⟩:=by kernel_rfl
theorem DV:cB dN.P 118=some ⟨.strct [(113,0),(3,1),(4,2)],3,40, .agg [.nsl, .int .i64 0, .bool false]⟩:=by kernel_rfl
theorem DU:cB dN.P 120=some ⟨.ptr 122,1,8, .npt⟩:=by kernel_rfl
theorem DT:cB dN.P 122=some ⟨.strct [(3,0),(34,1),(4,2),(46,3)],4,40, .agg [.int .i64 0, .nsl, .bool false, .int .u32 0]⟩:=by kernel_rfl
theorem DR:cB dN.P 136=some ⟨.other,1,8, .npt⟩:=by kernel_rfl
theorem DO:cB dN.P 139=some ⟨.map 9 149,1,8, .nmp⟩:=by kernel_rfl
theorem DN:cB dN.P 144=some ⟨.strct [(139,0),(139,1)],2,16, .agg [.nmp, .nmp]⟩:=by kernel_rfl
theorem DL:cB dN.P 147=some ⟨.strct [(3,0),(9,1),(3,2)],3,32, .agg [.int .i64 0, .str [], .int .i64 0]⟩:=by kernel_rfl
theorem DK:cB dN.P 149=some ⟨.strct [(3,0),(3,1)],2,16, .agg [.int .i64 0, .int .i64 0]⟩:=by kernel_rfl
theorem DJ:cB dN.P 151=some ⟨.func,1,8, .nfn⟩:=by kernel_rfl
theorem DI:cB dN.P 152=some ⟨.ptr 210,1,8, .npt⟩:=by kernel_rfl
theorem DG:cB dN.P 159=some ⟨.strct [(3,0),(9,1),(46,2),(3,3)],4,40, .agg [.int .i64 0, .str [], .int .u32 0, .int .i64 0]⟩:=by kernel_rfl
theorem DF:cB dN.P 166=some ⟨.slice 231,1,24, .nsl⟩:=by kernel_rfl
theorem DD:cB dN.P 167=some ⟨.slice 4,1,24, .nsl⟩:=by kernel_rfl
theorem DC:cB dN.P 171=some ⟨.strct [(93,0),(69,22),(166,23),(167,24),(34,25),(9,26),(45,27)],28,272, .agg [.int .i64 0, .int .u32 0, .int .u32 0, .int .u32 0, .int .u32 0, .int .u32 0, .int .u32 0, .int .u32 0, .int .u32 0, .int .u32 0, .int .u32 0, .int .u32 0, .int .u32 0, .int .u32 0, .int .u32 0, .int .u32 0, .int .u32 0, .nsl, .int .i64 0, .str [], .int .i64 0, .int .i64 0, .nsl, .nsl, .nsl, .nsl, .str [], .nsl]⟩:=by kernel_rfl
theorem CZ:cB dN.P 172=some ⟨.int .u64,1,8, .int .u64 0⟩:=by kernel_rfl
theorem CY:cB dN.P 175=some ⟨.int .u64,1,8, .int .u64 0⟩:=by kernel_rfl
theorem CX:cB dN.P 176=some ⟨.array 8 46,8,32, .agg [.int .u32 0, .int .u32 0, .int .u32 0, .int .u32 0, .int .u32 0, .int .u32 0, .int .u32 0, .int .u32 0]⟩:=by kernel_rfl
theorem CW:cB dN.P 178=some ⟨.slice 247,1,24, .nsl⟩:=by kernel_rfl
theorem CV:cB dN.P 180=some ⟨.strct [(3,0),(178,1)],2,32, .agg [.int .i64 0, .nsl]⟩:=by kernel_rfl
theorem CU:cB dN.P 183=some ⟨.slice 255,1,24, .nsl⟩:=by kernel_rfl
theorem CS:cB dN.P 185=some ⟨.strct [(3,0),(183,1)],2,32, .agg [.int .i64 0, .nsl]⟩:=by kernel_rfl
theorem CQ:cB dN.P 188=some ⟨.slice 262,1,24, .nsl⟩:=by kernel_rfl
theorem CP:cB dN.P 193=some ⟨.slice 283,1,24, .nsl⟩:=by kernel_rfl
theorem CO:cB dN.P 195=some ⟨.strct [(3,0),(193,1)],2,32, .agg [.int .i64 0, .nsl]⟩:=by kernel_rfl
theorem CN:cB dN.P 197=some ⟨.func,1,8, .nfn⟩:=by kernel_rfl
theorem CM:cB dN.P 205=some ⟨.func,1,8, .nfn⟩:=by kernel_rfl
theorem CL:cB dN.P 206=some ⟨.map 9 58,1,8, .nmp⟩:=by kernel_rfl
theorem CJ:cB dN.P 207=some ⟨.func,1,8, .nfn⟩:=by kernel_rfl
theorem CH:cB dN.P 208=some ⟨.array 10 207,10,80, .agg [.nfn, .nfn, .nfn, .nfn, .nfn, .nfn, .nfn, .nfn, .nfn, .nfn]⟩:=by kernel_rfl
theorem CG:cB dN.P 210=some ⟨.strct [(206,0),(208,1)],11,88, .agg [.nmp, .nfn, .nfn, .nfn, .nfn, .nfn, .nfn, .nfn, .nfn, .nfn, .nfn]⟩:=by kernel_rfl
theorem CE:cB dN.P 215=some ⟨.slice 220,1,24, .nsl⟩:=by kernel_rfl
theorem CC:cB dN.P 220=some ⟨.strct [(9,0),(3,1),(3,2)],3,32, .agg [.str [], .int .i64 0, .int .i64 0]⟩:=by kernel_rfl
theorem CB:cB dN.P 231=some ⟨.strct [(3,0),(3,1),(3,2),(3,3)],4,32, .agg [.int .i64 0, .int .i64 0, .int .i64 0, .int .i64 0]⟩:=by kernel_rfl
theorem BZ:cB dN.P 234=some ⟨.ptr 171,1,8, .npt⟩:=by kernel_rfl
theorem BY:cB dN.P 244=some ⟨.slice 312,1,24, .nsl⟩:=by kernel_rfl
theorem BX:cB dN.P 247=some ⟨.strct [(3,0),(3,1),(3,2),(4,3),(244,4)],5,56, .agg [.int .i64 0, .int .i64 0, .int .i64 0, .bool false, .nsl]⟩:=by kernel_rfl
theorem BW:cB dN.P 248=some ⟨.ptr 251,1,8, .npt⟩:=by kernel_rfl
theorem BV:cB dN.P 249=some ⟨.slice 267,1,24, .nsl⟩:=by kernel_rfl
theorem BU:cB dN.P 251=some ⟨.strct [(180,0),(3,2),(249,3),(3,4),(3,5)],6,80, .agg [.int .i64 0, .nsl, .int .i64 0, .nsl, .int .i64 0, .int .i64 0]⟩:=by kernel_rfl
theorem BS:cB dN.P 255=some ⟨.strct [(3,0),(249,1)],2,32, .agg [.int .i64 0, .nsl]⟩:=by kernel_rfl
theorem BR:cB dN.P 256=some ⟨.ptr 259,1,8, .npt⟩:=by kernel_rfl
theorem BQ:cB dN.P 257=some ⟨.slice 273,1,24, .nsl⟩:=by kernel_rfl
theorem BP:cB dN.P 259=some ⟨.strct [(185,0),(188,2),(3,3),(34,4),(257,5),(45,6),(45,7),(3,8)],9,168, .agg [.int .i64 0, .nsl, .nsl, .int .i64 0, .nsl, .nsl, .nsl, .nsl, .int .i64 0]⟩:=by kernel_rfl
theorem BO:cB dN.P 262=some ⟨.strct [(45,0)],1,24, .agg [.nsl]⟩:=by kernel_rfl
theorem BN:cB dN.P 264=some ⟨.slice 45,1,24, .nsl⟩:=by kernel_rfl
theorem BM:cB dN.P 265=some ⟨.slice 270,1,24, .nsl⟩:=by kernel_rfl
theorem BL:cB dN.P 267=some ⟨.strct [(265,0),(3,1),(3,2),(3,3),(3,4)],5,56, .agg [.nsl, .int .i64 0, .int .i64 0, .int .i64 0, .int .i64 0]⟩:=by kernel_rfl
theorem BK:cB dN.P 270=some ⟨.strct [(3,0),(3,1),(3,2),(3,3),(3,4),(3,5),(3,6),(46,7)],8,64, .agg [.int .i64 0, .int .i64 0, .int .i64 0, .int .i64 0, .int .i64 0, .int .i64 0, .int .i64 0, .int .u32 0]⟩:=by kernel_rfl
theorem BJ:cB dN.P 273=some ⟨.strct [(3,0),(3,1),(3,2)],3,24, .agg [.int .i64 0, .int .i64 0, .int .i64 0]⟩:=by kernel_rfl
theorem BI:cB dN.P 274=some ⟨.ptr 277,1,8, .npt⟩:=by kernel_rfl
theorem BH:cB dN.P 275=some ⟨.slice 288,1,24, .nsl⟩:=by kernel_rfl
theorem BG:cB dN.P 277=some ⟨.strct [(195,0),(34,2),(275,3),(264,4),(45,5),(45,6),(3,7)],8,160, .agg [.int .i64 0, .nsl, .nsl, .nsl, .nsl, .nsl, .nsl, .int .i64 0]⟩:=by kernel_rfl
theorem BF:cB dN.P 281=some ⟨.slice 286,1,24, .nsl⟩:=by kernel_rfl
theorem BE:cB dN.P 283=some ⟨.strct [(3,0),(3,1),(3,2),(4,3),(281,4)],5,56, .agg [.int .i64 0, .int .i64 0, .int .i64 0, .bool false, .nsl]⟩:=by kernel_rfl
theorem BD:cB dN.P 286=some ⟨.strct [(3,0),(3,1),(3,2),(46,3)],4,32, .agg [.int .i64 0, .int .i64 0, .int .i64 0, .int .u32 0]⟩:=by kernel_rfl
theorem BC:cB dN.P 288=some ⟨.strct [(3,0),(3,1),(3,2)],3,24, .agg [.int .i64 0, .int .i64 0, .int .i64 0]⟩:=by kernel_rfl
theorem BB:cB dN.P 306=some ⟨.array 4 3,4,32, .agg [.int .i64 0, .int .i64 0, .int .i64 0, .int .i64 0]⟩:=by kernel_rfl
theorem BA:cB dN.P 309=some ⟨.slice 336,1,24, .nsl⟩:=by kernel_rfl
theorem AZ:cB dN.P 312=some ⟨.strct [(3,0),(3,1),(3,2),(309,3),(244,4),(244,5)],6,96, .agg [.int .i64 0, .int .i64 0, .int .i64 0, .nsl, .nsl, .nsl]⟩:=by kernel_rfl
theorem AY:cB dN.P 315=some ⟨.slice 167,1,24, .nsl⟩:=by kernel_rfl
theorem AW:cB dN.P 317=some ⟨.strct [(315,0),(315,1)],2,48, .agg [.nsl, .nsl]⟩:=by kernel_rfl
theorem AU:cB dN.P 324=some ⟨.slice 281,1,24, .nsl⟩:=by kernel_rfl
theorem AS:cB dN.P 327=some ⟨.array 10 9,10,160, .agg [.str [], .str [], .str [], .str [], .str [], .str [], .str [], .str [], .str [], .str []]⟩:=by kernel_rfl
theorem AQ:cB dN.P 336=some ⟨.strct [(3,0),(3,1),(46,2),(3,3),(3,4),(309,5)],6,64, .agg [.int .i64 0, .int .i64 0, .int .u32 0, .int .i64 0, .int .i64 0, .nsl]⟩:=by kernel_rfl
theorem AP:cB dN.P 344=some ⟨.array 24 5,24,24, .agg [.int .u8 0, .int .u8 0, .int .u8 0, .int .u8 0, .int .u8 0, .int .u8 0, .int .u8 0, .int .u8 0, .int .u8 0, .int .u8 0, .int .u8 0, .int .u8 0, .int .u8 0, .int .u8 0, .int .u8 0, .int .u8 0, .int .u8 0, .int .u8 0, .int .u8 0, .int .u8 0, .int .u8 0, .int .u8 0, .int .u8 0, .int .u8 0]⟩:=by kernel_rfl
theorem AO:cB dN.P 353=some ⟨.array 20 172,20,160, .agg [.int .u64 0, .int .u64 0, .int .u64 0, .int .u64 0, .int .u64 0, .int .u64 0, .int .u64 0, .int .u64 0, .int .u64 0, .int .u64 0, .int .u64 0, .int .u64 0, .int .u64 0, .int .u64 0, .int .u64 0, .int .u64 0, .int .u64 0, .int .u64 0, .int .u64 0, .int .u64 0]⟩:=by kernel_rfl
theorem AN:cB dN.P 354=some ⟨.array 65 5,65,65, .agg [.int .u8 0, .int .u8 0, .int .u8 0, .int .u8 0, .int .u8 0, .int .u8 0, .int .u8 0, .int .u8 0, .int .u8 0, .int .u8 0, .int .u8 0, .int .u8 0, .int .u8 0, .int .u8 0, .int .u8 0, .int .u8 0, .int .u8 0, .int .u8 0, .int .u8 0, .int .u8 0, .int .u8 0, .int .u8 0, .int .u8 0, .int .u8 0, .int .u8 0, .int .u8 0, .int .u8 0, .int .u8 0, .int .u8 0, .int .u8 0, .int .u8 0, .int .u8 0, .int .u8 0, .int .u8 0, .int .u8 0, .int .u8 0, .int .u8 0, .int .u8 0, .int .u8 0, .int .u8 0, .int .u8 0, .int .u8 0, .int .u8 0, .int .u8 0, .int .u8 0, .int .u8 0, .int .u8 0, .int .u8 0, .int .u8 0, .int .u8 0, .int .u8 0, .int .u8 0, .int .u8 0, .int .u8 0, .int .u8 0, .int .u8 0, .int .u8 0, .int .u8 0, .int .u8 0, .int .u8 0, .int .u8 0, .int .u8 0, .int .u8 0, .int .u8 0, .int .u8 0]⟩:=by kernel_rfl
theorem AM:cB dN.P 359=some ⟨.array 32 5,32,32, .agg [.int .u8 0, .int .u8 0, .int .u8 0, .int .u8 0, .int .u8 0, .int .u8 0, .int .u8 0, .int .u8 0, .int .u8 0, .int .u8 0, .int .u8 0, .int .u8 0, .int .u8 0, .int .u8 0, .int .u8 0, .int .u8 0, .int .u8 0, .int .u8 0, .int .u8 0, .int .u8 0, .int .u8 0, .int .u8 0, .int .u8 0, .int .u8 0, .int .u8 0, .int .u8 0, .int .u8 0, .int .u8 0, .int .u8 0, .int .u8 0, .int .u8 0, .int .u8 0]⟩:=by kernel_rfl
theorem AK:cB dN.P 360=some ⟨.array 64 5,64,64, .agg [.int .u8 0, .int .u8 0, .int .u8 0, .int .u8 0, .int .u8 0, .int .u8 0, .int .u8 0, .int .u8 0, .int .u8 0, .int .u8 0, .int .u8 0, .int .u8 0, .int .u8 0, .int .u8 0, .int .u8 0, .int .u8 0, .int .u8 0, .int .u8 0, .int .u8 0, .int .u8 0, .int .u8 0, .int .u8 0, .int .u8 0, .int .u8 0, .int .u8 0, .int .u8 0, .int .u8 0, .int .u8 0, .int .u8 0, .int .u8 0, .int .u8 0, .int .u8 0, .int .u8 0, .int .u8 0, .int .u8 0, .int .u8 0, .int .u8 0, .int .u8 0, .int .u8 0, .int .u8 0, .int .u8 0, .int .u8 0, .int .u8 0, .int .u8 0, .int .u8 0, .int .u8 0, .int .u8 0, .int .u8 0, .int .u8 0, .int .u8 0, .int .u8 0, .int .u8 0, .int .u8 0, .int .u8 0, .int .u8 0, .int .u8 0, .int .u8 0, .int .u8 0, .int .u8 0, .int .u8 0, .int .u8 0, .int .u8 0, .int .u8 0, .int .u8 0]⟩:=by kernel_rfl
theorem PD:Ez dN.P 82=some [.str, .int .i64]:=by kernel_rfl
theorem TY:type_of% (And.intro TA<|And.intro SZ<|And.intro SY<|And.intro SV<|And.intro OP<|And.intro OO<|And.intro ON<|And.intro OM<|And.intro OL<|And.intro OK<|And.intro OJ<|And.intro OI<|And.intro OH<|And.intro OG<|And.intro OF<|And.intro OE<|And.intro OD<|And.intro OC<|And.intro OA<|And.intro NZ<|And.intro NY<|And.intro NX<|And.intro NW<|And.intro NV<|And.intro AI<|And.intro NU<|And.intro NT<|And.intro NS<|And.intro NR<|And.intro NQ<|And.intro NP<|And.intro NN<|And.intro DZ<|And.intro DY<|And.intro DX<|And.intro DW<|And.intro DV<|And.intro DU<|And.intro DT<|And.intro DR<|And.intro DO<|And.intro DN<|And.intro DL<|And.intro DK<|And.intro DJ<|And.intro DI<|And.intro DG<|And.intro DF<|And.intro DD<|And.intro DC<|And.intro CZ<|And.intro CY<|And.intro CX<|And.intro CW<|And.intro CV<|And.intro CU<|And.intro CS<|And.intro CQ<|And.intro CP<|And.intro CO<|And.intro CN<|And.intro CM<|And.intro CL<|And.intro CJ<|And.intro CH<|And.intro CG<|And.intro CE<|And.intro CC<|And.intro CB<|And.intro BZ<|And.intro BY<|And.intro BX<|And.intro BW<|And.intro BV<|And.intro BU<|And.intro BS<|And.intro BR<|And.intro BQ<|And.intro BP<|And.intro BO<|And.intro BN<|And.intro BM<|And.intro BL<|And.intro BK<|And.intro BJ<|And.intro BI<|And.intro BH<|And.intro BG<|And.intro BF<|And.intro BE<|And.intro BD<|And.intro BC<|And.intro BB<|And.intro BA<|And.intro AZ<|And.intro AY<|And.intro AW<|And.intro AU<|And.intro AS<|And.intro AQ<|And.intro AP<|And.intro AO<|And.intro AN<|And.intro AM<|And.intro AK<|And.intro PD<|QX):=And.intro TA<|And.intro SZ<|And.intro SY<|And.intro SV<|And.intro OP<|And.intro OO<|And.intro ON<|And.intro OM<|And.intro OL<|And.intro OK<|And.intro OJ<|And.intro OI<|And.intro OH<|And.intro OG<|And.intro OF<|And.intro OE<|And.intro OD<|And.intro OC<|And.intro OA<|And.intro NZ<|And.intro NY<|And.intro NX<|And.intro NW<|And.intro NV<|And.intro AI<|And.intro NU<|And.intro NT<|And.intro NS<|And.intro NR<|And.intro NQ<|And.intro NP<|And.intro NN<|And.intro DZ<|And.intro DY<|And.intro DX<|And.intro DW<|And.intro DV<|And.intro DU<|And.intro DT<|And.intro DR<|And.intro DO<|And.intro DN<|And.intro DL<|And.intro DK<|And.intro DJ<|And.intro DI<|And.intro DG<|And.intro DF<|And.intro DD<|And.intro DC<|And.intro CZ<|And.intro CY<|And.intro CX<|And.intro CW<|And.intro CV<|And.intro CU<|And.intro CS<|And.intro CQ<|And.intro CP<|And.intro CO<|And.intro CN<|And.intro CM<|And.intro CL<|And.intro CJ<|And.intro CH<|And.intro CG<|And.intro CE<|And.intro CC<|And.intro CB<|And.intro BZ<|And.intro BY<|And.intro BX<|And.intro BW<|And.intro BV<|And.intro BU<|And.intro BS<|And.intro BR<|And.intro BQ<|And.intro BP<|And.intro BO<|And.intro BN<|And.intro BM<|And.intro BL<|And.intro BK<|And.intro BJ<|And.intro BI<|And.intro BH<|And.intro BG<|And.intro BF<|And.intro BE<|And.intro BD<|And.intro BC<|And.intro BB<|And.intro BA<|And.intro AZ<|And.intro AY<|And.intro AW<|And.intro AU<|And.intro AS<|And.intro AQ<|And.intro AP<|And.intro AO<|And.intro AN<|And.intro AM<|And.intro AK<|And.intro PD<|QX
theorem N3:HO 0=some (jP.map .str):=rfl
theorem UT:HO 1=some FR:=rfl
theorem RR:type_of% (And.intro AX<|And.intro N3 TY):=And.intro AX<|And.intro N3 TY
noncomputable def WX:VQ dN.P where
 int:=3
 u32:=46
 str:=9
 bool:=4
 strs:=22
 ex:=62
 exs:=60
 sm:=64
 sms:=56
 ar:=82
 ars:=23
 fu:=58
 fus:=24
 pg:=26
 uInt:=by kernel_rfl
 uU32:=by kernel_rfl
 uStr:=by kernel_rfl
 uBool:=by kernel_rfl
 uStrs:=by kernel_rfl
 uEx:=by kernel_rfl
 uExs:=by kernel_rfl
 uSm:=by kernel_rfl
 uSms:=by kernel_rfl
 uAr:=by kernel_rfl
 uArs:=by kernel_rfl
 uFu:=by kernel_rfl
 uFus:=by kernel_rfl
 uPg:=by kernel_rfl
 c1:=by kernel_rfl
 cEx:=by kernel_rfl
 cSm:=by kernel_rfl
 cAr:=by kernel_rfl
 cFu:=by kernel_rfl
 cPg:=by kernel_rfl
def Si (c:Int):Bool:=decide (48≤c)&&decide (c≤57)
def zV (c:Int):Bool:=decide (97≤c)&&decide (c≤122)||decide (65≤c)&&decide (c≤90)
def OY (c:Int):Bool:=zV c||Si c||decide (c=95)
def wS (c:UInt8):Bool:=OY c.toNat
theorem tM (c:Int):eH dN 120 [.int .u8 c] (.bool (Si c)):=by
 refine bX 9 [.tmp 2] func120 ?_;refine aC fun K a=>?_;refine aG ?_;simp only[RR,seval];apply a;refine aC fun K a=>?_;refine aG ?_;simp only[RR,seval]
 repeat' ((refine fF (fun h=>?_) (fun h=>?_))<;>simp only[h,RR,seval])
 all_goals
  apply a;refine aO ?_;simp only[aY,aK,bR,RR,seval];refine aZ.pure ?_;simp [Si, *]
theorem tN (c:Int):eH dN 117 [.int .u8 c] (.bool (zV c)):=by
 refine bX 17 [.tmp 2] func117 ?_;refine aC fun K a=>?_;refine aG ?_;simp only[RR,seval];apply a;refine aC fun K a=>?_;refine aG ?_;simp only[RR,seval]
 repeat' ((first|refine cQ (fun h=>?_) (fun h=>?_)|refine fF (fun h=>?_) (fun h=>?_))<;>simp only[h,RR,seval])
 all_goals
  apply a;refine aO ?_;simp only[aY,aK,bR,RR,seval];refine aZ.pure ?_;simp [zV, *]
theorem Lu:eH dN 119 [] (.isl 1 (jP.map fun w=>[.str w])):=by
 refine bX 2 [.tmp 0] func119 ?_;refine aC fun K a=>?_;refine aG ?_;simp only[RR,seval];apply a;refine aC fun K a=>?_;refine aG ?_;simp only[RR,seval];refine dK ?_;simp only[RR,seval];apply a;refine aO ?_;simp only[aY,aK,bR,RR,seval];refine aZ.pure ?_;rfl
theorem HK (ws:List (List UInt8)) (s:List UInt8) (e:ws.length≤1000000):eH dN 118 [.isl 1 (ws.map fun w=>[.str w]), .str s] (.bool (ws.contains s)):=by
 refine bX 18 [.tmp 4] func118 ?_;refine aC fun K a=>?_;refine aG ?_;simp only[RR,seval];refine a _ _ (O4 (fun b H=>ws.contains s=false) ?_ ?_)
 ·refine aC fun K a=>?_;refine aG ?_;simp only[RR,seval]
  refine a _ _ (aN (Xm (fun n b H=> ∃i:Nat,n=ws.length-i∧i≤ws.length∧(ws.take i).contains s=false∧b 0= .isl 1 (ws.map fun w=>[.str w])∧b 1= .str s∧b 5= .int .i64 i) ws.length ⟨0,rfl,by omega,rfl,rfl,rfl,rfl⟩ ?_));rintro n b H ⟨i,rfl,p,f,g,k,j⟩;refine aI ?_;refine aC fun K a=>?_;refine aG ?_;simp only[RR,seval];simp only[g,j,RR,seval];refine a _ _ (aX ?_ ?_)<;>intro c
  ·refine aL ?_;simp only[bL]
   have d:(i:Int)<(ws.map fun w=>[AV.str w]).length:=aF c;simp only[aE]at d;have e:i<ws.length:=by omega
   have o:(ws.map fun w=>[AV.str w])[i]?=some [.str ws[i]]:=by rw[dH,aD e];rfl
   refine aI (aN ?_);refine aC fun K a=>?_;refine aG ?_;simp only[RR,seval];simp only[*,RR,seval];refine a _ _ (aX ?_ ?_)<;>intro c
   ·refine aC fun K a=>?_;refine aG ?_;simp only[RR,seval]
    apply a;refine aO ?_;simp only[bL,cG,aY,aK,bR,RR,seval];refine aZ.pure ?_;have :ws[i]=s:=aF c;rw[←this];simp
   refine aL ?_;simp only[bL,cG];refine aG ?_;simp only[RR,seval];simp only[g,k,j,RR,seval];refine⟨ws.length-(i+1),by omega,i+1,rfl,by omega, ?_, ?_⟩
   ·have l: ¬ws[i]=s:=aH c
    rw[bS e];simp only[List.contains_append,f,yM];simp [Ne.symm l]
   rw[aT _ (by omega)];rfl
  refine cC ?_;simp only[bL,cG,reduceIte];have d: ¬(i:Int)<(ws.map fun w=>[AV.str w]).length:=aH c;simp only[aE]at d;have :i=ws.length:=by omega
  subst this;rw[cZ]at f;exact f
 intro b H h;refine aC fun K a=>?_;refine aG ?_;simp only[RR,seval];apply a;refine aO ?_;simp only[aY,aK,bR,RR,seval];refine aZ.pure ?_;rw[h]
def iF (s:List UInt8):Bool:=match s with
 |[]=>false
 |c::r=>decide ((c::r).length≤20)&&(zV c.toNat&&(decide ((c::r).takeWhile wS=c::r)&& !jP.contains (c::r)))
theorem xE (p:UInt8→Bool): ∀s:List UInt8,decide (s.takeWhile p=s)=s.all p
 |[]=>rfl
 |c::s=>by
  cases h:p c with
  |true=>
   simp only[List.takeWhile,h,dT,cJ,List.cons.injEq,true_and];exact xE p s
  |false=>simp [List.takeWhile,h]
theorem S7 (s:List UInt8) (y:eV s):eH dN 76 [.str s] (.bool (iF s)):=by
 have y:s.length≤9223372036854775807:=y;refine bX 47 [.tmp 2] func76 ?_;refine aC fun K a=>?_;refine aG ?_;simp only[RR,seval];apply a;clear a K;refine aI ?_;refine cI (fun f H=> ∃t,f 22= .bool t∧f 0= .str s∧(t=true→iF s=false)∧(t=false→iF s=s.all wS)) (fun K a=>?_) ?_
 ·cases hsc:s with
  |nil=>
   refine aG ?_;simp only[RR,seval];exact a _ _ ⟨true,rfl,by rw[hsc];rfl,fun _=>by rw[hsc];rfl,fun e=>by cases e⟩
  |cons c r=>
   have b:(c::r)[0]?=some c:=rfl;have x:decide (((c::r).length:Int)=0)=false:=bD (by simp only[aJ];omega);rw[←hsc]at b x⊢;have p:iF s=(decide (s.length≤20)&&(zV c.toNat&&(s.all wS&& !jP.contains s))):=by rw[←xE,hsc];rfl
   clear hsc;refine aG ?_;simp only[RR,seval];simp only[x,RR,seval];refine cQ (fun h=>?_) (fun h=>?_)<;>simp only[h,b,RR,seval]
   ·have l:decide (s.length≤20)=true:=cO (by have:=aH h;omega)
    refine aP (tN _) ?_;simp only[RR,seval];refine cQ (fun d=>?_) (fun d=>?_)
    ·have d:zV c.toNat=true:=by simpa using d
     simp only[d,RR,seval];refine aP Lu ?_;simp only[RR,seval];refine aP (HK jP s (by decide)) ?_;simp only[RR,seval];refine a _ _ ⟨_,rfl,rfl,fun e=>?_,fun e=>?_⟩
     ·rw[p,e];simp
     rw[p,e,l,d];simp
    have d:zV c.toNat=false:=by simpa using d
    simp only[d,RR,seval];exact a _ _ ⟨_,rfl,rfl,fun e=>by rw[p,d];simp,fun e=>by cases e⟩
   have l:decide (s.length≤20)=false:=bD (by have:=aF h;omega);exact a _ _ ⟨_,rfl,rfl,fun e=>by rw[p,l];rfl,fun e=>by cases e⟩
 rintro f H ⟨t,z,b,D,C⟩;refine dS _ z (fun j=>?_) (fun j=>?_)
 ·refine aC fun K a=>?_;refine aG ?_;simp only[RR,seval]
  apply a;clear a K;refine aO ?_;simp only[bL,aY,aK,bR,RR,seval];refine aZ.pure ?_;rw[D j]
 have v:=C j;refine aL ?_;simp only[bL];refine cI (fun f H=>s.all wS=true) (fun K a=>?_) ?_
 ·refine aC fun K a=>?_;refine aG ?_;simp only[RR,seval]
  apply a;clear a K;refine aN ?_;refine eK (fun n f H=> ∃i:Nat,n=s.length-i∧i≤s.length∧f 0= .str s∧f 3= .int .i64 i∧s.all wS=(s.drop i).all wS) s.length ⟨0,rfl,by omega,b,rfl,by simp⟩ ?_;rintro n f H ⟨i,rfl,F,b,g,k⟩ E B;refine aI ?_;refine aC fun K a=>?_;refine aG ?_;simp only[RR,seval];simp only[b,g,RR,seval];apply a;clear a K;refine aX ?_ ?_<;>intro j
  ·have l:i<s.length:=by have:=aF j;omega
   have o:s[i]?=some s[i]:=aD l;rw[bJ l]at k;simp only[dT]at k;generalize s[i]=e at o k;refine aL ?_;simp only[bL];refine aI ?_;refine aN ?_;refine cI (fun f H=>f 46= .bool (!wS e)∧f 0= .str s∧f 3= .int .i64 i) (fun K a=>?_) ?_
   ·refine aG ?_;simp only[RR,seval]
    simp only[b,g,o,RR,seval];refine aP (tN _) ?_;simp only[RR,seval];refine cQ (fun d=>?_) (fun d=>?_)<;>simp only[d,b,g,o,RR,seval]
    ·refine aP (tM _) ?_
     simp only[RR,seval];refine cQ (fun hd=>?_) (fun hd=>?_)<;>simp only[hd,b,g,o,RR,seval]
     ·repeat' ((refine cQ (fun h=>?_) (fun h=>?_))<;>simp only[h,b,g,o,RR,seval])
      all_goals exact a _ _ ⟨by simp [upd,wS,OY,d,hd],b,g⟩
     exact a _ _ ⟨by simp [upd,wS,OY,d,hd],b,g⟩
    exact a _ _ ⟨by simp [upd,wS,OY,d],b,g⟩
   rintro f H ⟨A,b,g⟩;refine dS _ A (fun j=>?_) (fun j=>?_)
   ·have u:wS e=false:=by simpa using j
    refine aC fun K a=>?_;refine aG ?_;simp only[RR,seval];apply a;clear a K;refine aO ?_;simp only[bL,cG,aY,aK,bR,RR,seval];refine aZ.pure ?_;rw[v,k,u];rfl
   have u:wS e=true:=by simpa using j
   rw[u,cJ]at k;refine aL ?_;simp only[bL,cG];refine aG ?_;simp only[RR,seval];simp only[g,RR,seval];rw[aT _ (by omega)];exact B (s.length-(i+1)) _ _ (by omega) ⟨i+1,rfl,by omega,b,rfl,k⟩
  refine cC ?_;simp only[bL,cG,reduceIte];have :i=s.length:=by have:=aH j;omega
  subst this;rw[dA]at k;exact a _ _ k
 intro f H h;refine aC fun K a=>?_;refine aG ?_;simp only[RR,seval];apply a;clear a K;refine aO ?_;simp only[aY,aK,bR,RR,seval];refine aZ.pure ?_;rw[v,h]
theorem Vv {s:dC} (h:jP.contains s=true):iF s=false:=by
 cases s with
 |nil=>rfl
 |cons c r=>simp only[iF,h,Qg,XP]
theorem Tz:eH dN 75 [] (.isl 1 (jP.map fun w=>[.str w])):=by
 refine bX 2 [.tmp 0] func75 ?_;refine aC fun K a=>?_;refine aG ?_;simp only[RR,seval];apply a;refine aC fun K a=>?_;refine aG ?_;simp only[RR,seval];refine dK ?_;simp only[RR,seval];apply a;refine aO ?_;simp only[aY,aK,bR,RR,seval];refine aZ.pure ?_;rfl
theorem rG (s:dC) (p:eV s):eH dN 51 [.str s] (.bool (iF s)):=by
 refine bX 20 [.tmp 2] func51 ?_;refine aC fun K a=>?_;refine aG ?_;simp only[RR,seval];apply a;clear a K;refine aC fun K a=>?_;refine aG ?_;simp only[RR,seval];refine aP Tz ?_;simp only[RR,seval];apply a;clear a K;refine cI (fun b H=>b 0= .str s) (fun K a=>?_) ?_
 ·refine aC fun K a=>?_;refine aG ?_;simp only[RR,seval]
  apply a;clear a K;refine aN ?_;refine eK (fun l b H=> ∃k:Nat,l=jP.length-k∧k≤jP.length∧b 4= .int .i64 k∧b 0= .str s∧b 3= .isl 1 (jP.map fun w=>[.str w])) (jP.length) ⟨0,rfl,cM _,rfl,rfl,rfl⟩ ?_;rintro l b H ⟨k,rfl,u,f,d,e⟩ t n;refine aI ?_;refine aC fun K a=>?_;refine aG ?_;simp only[RR,seval];simp only[f,e,aE,RR,seval];apply a;clear a K;refine aX ?_ ?_<;>intro c
  ·have i:k<jP.length:=by have:=aF c;omega
   clear c;refine aL ?_;simp only[bL];refine aI ?_;refine aN ?_;have g:(jP.map fun w=>[AV.str w])[k]?=some [.str jP[k]]:=by rw[dH,aD i];rfl
   have j:=bV i;generalize jP[k]=w at g j;refine aC fun K a=>?_;refine aG ?_;simp only[RR,seval];simp only[d,e,f,g,RR,seval];apply a;clear a K;refine aX ?_ ?_<;>intro c
   ·refine aC fun K a=>?_;refine aG ?_;simp only[RR,seval]
    apply a;clear a K;refine aO ?_;simp only[bL,cG,aY,aK,bR,RR,seval];refine aZ.pure ?_;have :s=w:=aF c;subst this;rw[Vv (by simpa using j)]
   have v:jP.length=10:=rfl;refine aL ?_;simp only[bL,cG];refine aG ?_;simp only[RR,seval];simp only[f,bL,RR,seval];rw[aT _ (by omega)];refine n (jP.length-(k+1)) _ _ (by omega) ⟨k+1,rfl,by omega,rfl,d,e⟩
  refine cC ?_;simp only[bL,cG,reduceIte];have o:k=jP.length:=by have:=aH c;omega
  clear c;subst o;exact a _ _ d
 rintro b H d;refine aC fun K a=>?_;refine aG ?_;simp only[RR,seval];simp only[d,seval];refine aP (S7 s p) ?_;simp only[RR,seval];apply a;clear a K;refine aO ?_;simp only[aY,aK,bR,RR,seval];refine aZ.pure ?_;rfl
theorem vJ (l:List dC) (n:QH l):eH dN 50 [.isl 1 (l.map bH)] (.bool (l.all iF)):=by
 have v:l.length≤9223372036854775807:=n.fit;refine bX 16 [.tmp 2] func50 ?_;refine aC fun K a=>?_;refine aG ?_;simp only[RR,seval];apply a;clear a K;refine cI (fun d H=>l.all iF=true) (fun K a=>?_) ?_
 ·refine aC fun K a=>?_;refine aG ?_;simp only[RR,seval]
  apply a;clear a K;refine aN ?_;refine eK (fun o d H=> ∃k:Nat,o=l.length-k∧k≤l.length∧d 3= .int .i64 k∧d 0= .isl 1 (l.map bH)∧l.all iF=(l.drop k).all iF) (l.length) ⟨0,rfl,cM _,rfl,rfl,by rw[dI]⟩ ?_;rintro o d H ⟨k,rfl,x,f,e,c⟩ u p;refine aI ?_;refine aC fun K a=>?_;refine aG ?_;simp only[RR,seval];simp only[f,e,aE,RR,seval];apply a;clear a K;refine aX ?_ ?_<;>intro b
  ·have g:k<l.length:=by have:=aF b;omega
   clear b;refine aL ?_;simp only[bL];refine aI ?_;refine aN ?_;have j:=Wt (aD g);have i:=n.all _ (bV g);rw[bJ g,dT]at c;generalize l[k]=s at j c i;refine aC fun K a=>?_;refine aG ?_;simp only[RR,seval];simp only[e,f,j,RR,seval];refine aP (rG s i) ?_;simp only[RR,seval];apply a;clear a K;refine dS (!iF s) rfl (fun b=>?_) (fun b=>?_)
   ·refine aC fun K a=>?_;refine aG ?_;simp only[RR,seval]
    apply a;clear a K;refine aO ?_;simp only[bL,cG,aY,aK,bR,RR,seval];refine aZ.pure ?_;rw[c,show iF s=false by simpa using b];rfl
   refine aL ?_;simp only[bL,cG];rw[show iF s=true by simpa using b,cJ]at c;refine aG ?_;simp only[RR,seval];simp only[f,bL,RR,seval];rw[aT _ (by omega)];refine p (l.length-(k+1)) _ _ (by omega) ⟨k+1,rfl,by omega,rfl,e,c⟩
  refine cC ?_;simp only[bL,cG,reduceIte];have t:k=l.length:=by have:=aH b;omega
  clear b;subst t;rw[dA]at c;exact a _ _ c
 rintro d H e;refine aC fun K a=>?_;refine aG ?_;simp only[RR,seval];apply a;clear a K;refine aO ?_;simp only[aY,aK,bR,RR,seval];refine aZ.pure ?_;rw[e]
def HM (e:Ex) (level:Int):Bool:=
 decide (level≤24)&&(decide (e.kind=6)||decide (e.op=0))&&(decide (e.kind=1)||decide (e.num=0))&&
  (if e.kind=2∨e.kind=3∨e.kind=4 then iF e.name else decide (e.name=[]))
def mM (k o:Int) (n:Nat):Bool:=
 if k=1∨k=2∨k=5 then decide (n=0)else if k=3∨k=7 then decide (n=1)else if k=4 then decide (n≤6)
 else if k=6 then decide (4≤o)&&decide (o≤15)&&decide (n=2)else if k=8∨k=9 then decide (n=2)else false
def kK:List Ex→Int→Bool
 |[],_=>true
 | .mk k o n s kids::l,level=>HM (.mk k o n s kids) level&&mM k o kids.length&&kK kids (level+1)&&kK l level
def kV (e:Ex) (level:Int):Bool:=HM e level&&mM e.kind e.op e.kids.length&&kK e.kids (level+1)
theorem pO (e:Ex) (l:List Ex) (a:Int):kK (e::l) a=(kV e a&&kK l a):=by
 cases e;rw[kK];rfl
theorem nT (a:Int):kK [] a=true:=by rw[kK]
theorem Jr (e:Ex) (G:e.ok) (d:Int) (h1: -1000000≤d) (h2:d≤1000000)
  (S:d≤24→eH dN 121 [.isl 5 (e.kids.map Ex.row), .int .i64 (d+1)] (.bool (kK e.kids (d+1)))):
  eH dN 181 [.agg e.row, .int .i64 d] (.bool (kV e d)):=by
 have P:=rG e.name G.name;have R:=e.row_eq;generalize I:kV e d=Z;rw[R];have X:e.kids.length≤9223372036854775807:=G.kids.fit;obtain⟨k,o,n,s,l⟩:=e;simp only[Ex.kind,Ex.op,Ex.num,Ex.name,Ex.kids]at S P X⊢;clear R G;have O:kV (.mk k o n s l) d=((decide (d≤24)&&(decide (k=6)||decide (o=0))&&(decide (k=1)||decide (n=0)))&&(if k=2∨k=3∨k=4 then iF s else decide (s=[]))&&mM k o l.length&&kK l (d+1)):=rfl;refine bX 123 [.tmp 4] func181 ?_;refine cI (fun g H=> ∃b,g 1= .int .i64 d∧g 2= .ptr 5 b 0 0∧H b=some (.rows 5 [[.int .i64 k, .int .i64 o, .int .u32 n, .str s, .isl 5 (l.map Ex.row)]])) (fun K a=>?_) ?_
 ·refine aG ?_;simp only[RR,seval]
  refine aQ fun b c=>?_;simp only[RR,seval];exact a _ _ ⟨b,rfl,rfl,bG _ _ _⟩
 rintro g H ⟨b,j,f,c⟩;refine aI (cI (fun g H=> ∃t,g 28= .bool t∧(t= !(decide (d≤24)&&(decide (k=6)||decide (o=0))&&(decide (k=1)||decide (n=0))))∧g 1= .int .i64 d∧g 2= .ptr 5 b 0 0∧H b=some (.rows 5 [[.int .i64 k, .int .i64 o, .int .u32 n, .str s, .isl 5 (l.map Ex.row)]])) (fun K a=>?_) ?_)
 ·refine aG ?_;simp only[RR,seval]
  simp only[j,RR,seval]
  repeat' ((refine cQ (fun h=>?_) (fun h=>?_))<;>simp only[h,f,c,RR,seval])
  all_goals
   refine a _ _ ⟨_,rfl, ?_,j,f,c⟩;simp_all<;>omega
 rintro g H ⟨t,L,i,j,f,c⟩;refine dS _ L (fun p=>?_) (fun p=>?_)
 ·refine aC fun K a=>?_;refine aG ?_;simp only[RR,seval]
  apply a;refine aO ?_;simp only[bL,aY,aK,bR,RR,seval];refine aZ.pure ?_;rw[←I]
  have :(decide (d≤24)&&(decide (k=6)||decide (o=0))&&(decide (k=1)||decide (n=0)))=false:=by
   cases e:(decide (d≤24)&&(decide (k=6)||decide (o=0))&&(decide (k=1)||decide (n=0)))with
   |false=>rfl
   |true=>rw[e,p]at i;cases i
  rw[O,this];rfl
 have C:(decide (d≤24)&&(decide (k=6)||decide (o=0))&&(decide (k=1)||decide (n=0)))=true:=by
  cases e:(decide (d≤24)&&(decide (k=6)||decide (o=0))&&(decide (k=1)||decide (n=0)))with
  |true=>rfl
  |false=>rw[e,p]at i;cases i
 have Y:d≤24:=by simp only[aU,bO]at C;exact C.1.1
 have J:Z=((if k=2∨k=3∨k=4 then iF s else decide (s=[]))&&mM k o l.length&&kK l (d+1)):=by
  rw[←I,O,C,cJ]
 have x:=S Y;clear i p L t;refine aL ?_;simp only[bL];refine cI (fun g H=>g 5= .bool (decide (k=2∨k=3∨k=4))∧g 1= .int .i64 d∧g 2= .ptr 5 b 0 0∧H b=some (.rows 5 [[.int .i64 k, .int .i64 o, .int .u32 n, .str s, .isl 5 (l.map Ex.row)]])) (fun K a=>?_) ?_
 ·refine aG ?_;simp only[RR,seval]
  simp only[f,c,RR,seval]
  repeat' ((refine cQ (fun h=>?_) (fun h=>?_))<;>simp only[h,f,c,RR,seval])
  all_goals
   refine a _ _ ⟨?_,j,f,c⟩;simp [upd];simp_all
 rintro g H ⟨M,j,f,c⟩;refine aI (cI (fun g H=> ∃t,g 55= .bool t∧(t= !(if k=2∨k=3∨k=4 then iF s else decide (s=[])))∧g 1= .int .i64 d∧g 2= .ptr 5 b 0 0∧H b=some (.rows 5 [[.int .i64 k, .int .i64 o, .int .u32 n, .str s, .isl 5 (l.map Ex.row)]])) (fun K a=>?_) ?_)
 ·by_cases u:k=2∨k=3∨k=4
  ·have F:decide (k=2∨k=3∨k=4)=true:=cO u
   rw[F]at M;by_cases v:s=[]
   ·have A:decide (s=[])=true:=cO v
    refine aG ?_;simp only[RR,seval];simp only[*,RR,seval];exact a _ _ ⟨_,rfl,by rw[bP u,v];rfl,j,f,c⟩
   have A:decide (s=[])=false:=bD v;refine aG ?_;simp only[RR,seval];simp only[*,RR,seval];refine aP P ?_;simp only[RR,seval];refine a _ _ ⟨_,rfl,by rw[bP u],j,f,c⟩
  have F:decide (k=2∨k=3∨k=4)=false:=bD u;rw[F]at M;by_cases v:s=[]
  ·have A:decide (s=[])=true:=cO v
   refine aG ?_;simp only[RR,seval];simp only[*,RR,seval];exact a _ _ ⟨_,rfl,by rw[aM u,A];rfl,j,f,c⟩
  have A:decide (s=[])=false:=bD v;refine aG ?_;simp only[RR,seval];simp only[*,RR,seval];exact a _ _ ⟨_,rfl,by rw[aM u,A];rfl,j,f,c⟩
 rintro g H ⟨t,N,i,j,f,c⟩;refine dS _ N (fun p=>?_) (fun p=>?_)
 ·refine aC fun K a=>?_;refine aG ?_;simp only[RR,seval]
  apply a;refine aO ?_;simp only[bL,aY,aK,bR,RR,seval];refine aZ.pure ?_
  have :(if k=2∨k=3∨k=4 then iF s else decide (s=[]))=false:=by
   rw[p]at i
   cases e:(if k=2∨k=3∨k=4 then iF s else decide (s=[]))with
   |false=>rfl
   |true=>rw[e]at i;cases i
  rw[J,this];rfl
 have Q:(if k=2∨k=3∨k=4 then iF s else decide (s=[]))=true:=by
  rw[p]at i
  cases e:(if k=2∨k=3∨k=4 then iF s else decide (s=[]))with
  |true=>rfl
  |false=>rw[e]at i;cases i
 rw[Q,cJ]at J;clear i p N t C Q I;refine aL ?_;simp only[bL];refine aC fun K a=>?_;refine aG ?_;simp only[RR,seval];simp only[f,c,aE,RR,seval];apply a;have y:IntKind.wrap .i64 (d+1)=d+1:=aT _ (by omega);have D: ∀m:Nat,decide ((l.length:Int)=m)=decide (l.length=m):=fun m=>by rw[eF];simp only[bO];omega
 have T:decide ((l.length:Int)≤6)=decide (l.length≤6):=by rw[eF];simp only[bO];omega
 have E:decide ((l.length:Int)=0)=decide (l.length=0):=D 0;have B:decide ((l.length:Int)=1)=decide (l.length=1):=D 1;have z:decide ((l.length:Int)=2)=decide (l.length=2):=D 2;clear D;subst J;by_cases k1:k=1
 ·subst k1
  repeat' (first|(refine aC fun K a=>?_;refine aG ?_;simp only[f,c,E,RR,seval];apply a;clear a K)|(refine aI ?_)|(refine aN ?_)|(refine cL ?_)|(refine aL ?_;simp only[bL])|(refine aO ?_;simp only[bL,cG,aY,aK,bR,RR,seval];refine aZ.pure ?_))
  cases l with
  |nil=>simp only[mM,nT];rfl
  |cons=>simp [mM]
 by_cases k1:k=2
 ·subst k1
  repeat' (first|(refine aC fun K a=>?_;refine aG ?_;simp only[f,c,E,RR,seval];apply a;clear a K)|(refine aI ?_)|(refine aN ?_)|(refine cL ?_)|(refine bN ?_)|(refine aL ?_;simp only[bL])|(refine aO ?_;simp only[bL,cG,aY,aK,bR,RR,seval];refine aZ.pure ?_))
  cases l with
  |nil=>simp only[mM,nT];rfl
  |cons=>simp [mM]
 by_cases k1:k=5
 ·subst k1
  repeat' (first|(refine aC fun K a=>?_;refine aG ?_;simp only[f,c,E,RR,seval];apply a;clear a K)|(refine aI ?_)|(refine aN ?_)|(refine cL ?_)|(refine bN ?_)|(refine aG ?_;simp only[bL,RR,seval])|(refine aO ?_;simp only[bL,cG,aY,aK,bR,RR,seval];refine aZ.pure ?_))
  cases l with
  |nil=>simp only[mM,nT];rfl
  |cons=>simp [mM]
 by_cases k1:k=3
 ·subst k1
  repeat' (first|(refine aC fun K a=>?_;refine aG ?_;simp only[f,c,B,RR,seval];apply a;clear a K)|(refine aI ?_)|(refine aN ?_)|(refine cL ?_)|(refine bN ?_)|(refine aL ?_;simp only[bL])|(refine aG ?_;simp only[B,bL,RR,seval])|(refine fF (fun h=>?_) (fun h=>?_)<;>simp only[*,y,bL,RR,seval])|(refine aO ?_;simp only[bL,cG,aY,aK,bR,RR,seval];refine aZ.pure ?_)|(refine aP (x) ?_;simp only[bL,RR,seval]))
  all_goals simp [mM, *]
 by_cases k1:k=7
 ·subst k1
  repeat' (first|(refine aC fun K a=>?_;refine aG ?_;simp only[f,c,B,RR,seval];apply a;clear a K)|(refine aI ?_)|(refine aN ?_)|(refine cL ?_)|(refine bN ?_)|(refine aG ?_;simp only[B,bL,RR,seval])|(refine fF (fun h=>?_) (fun h=>?_)<;>simp only[*,y,bL,RR,seval])|(refine aO ?_;simp only[bL,cG,aY,aK,bR,RR,seval];refine aZ.pure ?_)|(refine aP (x) ?_;simp only[bL,RR,seval]))
  all_goals simp [mM, *]
 by_cases k1:k=4
 ·subst k1
  repeat' (first|(refine aC fun K a=>?_;refine aG ?_;simp only[f,c,T,RR,seval];apply a;clear a K)|(refine aI ?_)|(refine aN ?_)|(refine cL ?_)|(refine bN ?_)|(refine aG ?_;simp only[T,bL,RR,seval])|(refine fF (fun h=>?_) (fun h=>?_)<;>simp only[*,y,bL,RR,seval])|(refine aO ?_;simp only[bL,cG,aY,aK,bR,RR,seval];refine aZ.pure ?_)|(refine aP (x) ?_;simp only[bL,RR,seval]))
  all_goals simp [mM, *]
 by_cases k1:k=6
 ·subst k1
  repeat' (first|(refine aC fun K a=>?_;refine aG ?_;simp only[f,c,RR,seval];apply a;clear a K)|(refine aI ?_)|(refine aN ?_)|(refine cL ?_)|(refine bN ?_)|(refine aG ?_;simp only[f,c,bL,RR,seval])|(refine fF (fun h=>?_) (fun h=>?_)<;>simp only[*,z,y,bL,RR,seval])|(refine aO ?_;simp only[bL,cG,aY,aK,bR,RR,seval];refine aZ.pure ?_)|(refine aP (x) ?_;simp only[bL,RR,seval]))
  all_goals simp [mM, *]
 by_cases k1:k=8
 ·subst k1
  repeat' (first|(refine aC fun K a=>?_;refine aG ?_;simp only[f,c,z,RR,seval];apply a;clear a K)|(refine aI ?_)|(refine aN ?_)|(refine cL ?_)|(refine bN ?_)|(refine aL ?_;simp only[bL])|(refine aG ?_;simp only[z,bL,RR,seval])|(refine fF (fun h=>?_) (fun h=>?_)<;>simp only[*,y,bL,RR,seval])|(refine aO ?_;simp only[bL,cG,aY,aK,bR,RR,seval];refine aZ.pure ?_)|(refine aP (x) ?_;simp only[bL,RR,seval]))
  all_goals simp [mM, *]
 by_cases k1:k=9
 ·subst k1
  repeat' (first|(refine aC fun K a=>?_;refine aG ?_;simp only[f,c,z,RR,seval];apply a;clear a K)|(refine aI ?_)|(refine aN ?_)|(refine cL ?_)|(refine bN ?_)|(refine aG ?_;simp only[z,bL,RR,seval])|(refine fF (fun h=>?_) (fun h=>?_)<;>simp only[*,y,bL,RR,seval])|(refine aO ?_;simp only[bL,cG,aY,aK,bR,RR,seval];refine aZ.pure ?_)|(refine aP (x) ?_;simp only[bL,RR,seval]))
  all_goals simp [mM, *]
 have g1:decide (k=1)=false:=bD (by assumption);have g2:decide (k=2)=false:=bD (by assumption);have g3:decide (k=3)=false:=bD (by assumption);have g4:decide (k=4)=false:=bD (by assumption);have U:decide (k=5)=false:=bD (by assumption);have g6:decide (k=6)=false:=bD (by assumption);have V:decide (k=7)=false:=bD (by assumption);have g8:decide (k=8)=false:=bD (by assumption);have W:decide (k=9)=false:=bD (by assumption)
 repeat' (first|(refine aC fun K a=>?_;refine aG ?_;simp only[*,RR,seval];apply a;clear a K)|(refine aI ?_)|(refine aN ?_)|(refine bN ?_)|(refine aL ?_;simp only[bL,cG])|(refine aG ?_;simp only[U,V,W,bL,RR,seval])|(refine aO ?_;simp only[aY,aK,bR,RR,seval];refine aZ.pure ?_))
 simp [mM, *]
theorem Jq (n:Nat): ∀(l:List Ex) (b:Int),pM l=n→Ae l→ -1000000≤b→b≤1000000→eH dN 121 [.isl 5 (l.map Ex.row), .int .i64 b] (.bool (kK l b)):=by
 induction n using Nat.strongRecOn with
 |_ n ih=>
  intro l b L v y z;have G:l.length≤9223372036854775807:=v.fit;refine bX 19 [.tmp 4] func121 ?_;refine aC fun K a=>?_;refine aG ?_;simp only[RR,seval];apply a;clear a K;refine cI (fun f H=>kK l b=true) (fun K a=>?_) ?_
  ·refine aC fun K a=>?_;refine aG ?_;simp only[RR,seval]
   apply a;clear a K;refine aN ?_;refine eK (fun x f H=> ∃k:Nat,x=l.length-k∧k≤l.length∧f 5= .int .i64 k∧f 0= .isl 5 (l.map Ex.row)∧f 1= .int .i64 b∧kK l b=kK (l.drop k) b) (l.length) ⟨0,rfl,cM _,rfl,rfl,rfl,by rw[dI]⟩ ?_;rintro x f H ⟨k,rfl,I,j,g,p,d⟩ F A;refine aI ?_;refine aC fun K a=>?_;refine aG ?_;simp only[RR,seval];simp only[j,g,aE,RR,seval];apply a;clear a K;refine aX ?_ ?_<;>intro c
   ·have o:k<l.length:=by have:=aF c;omega
    clear c;refine aL ?_;simp only[bL];refine aI ?_;refine aN ?_;have t:=tV Ex.row (aD o);have u:=bV o;have i:=v.all _ u;have E:=mK u;rw[bJ o,pO]at d;generalize l[k]=e at t d i E;have M:=e.sz_eq;have D:=e.row_len;have B:=Jr e i b y z (fun J=>ih _ (by omega) e.kids (b+1) rfl i.kids (by omega) (by omega));refine aC fun K a=>?_;refine aG ?_;simp only[RR,seval];simp only[g,p,j,t,D,RR,seval];rw[rP (by omega)];refine aP B ?_;simp only[RR,seval];apply a;clear a K;refine dS (!kV e b) rfl (fun c=>?_) (fun c=>?_)
    ·refine aC fun K a=>?_;refine aG ?_;simp only[RR,seval]
     apply a;clear a K;refine aO ?_;simp only[bL,cG,aY,aK,bR,RR,seval];refine aZ.pure ?_;rw[d,show kV e b=false by simpa using c];rfl
    refine aL ?_;simp only[bL,cG];rw[show kV e b=true by simpa using c,cJ]at d;refine aG ?_;simp only[RR,seval];simp only[j,bL,RR,seval];rw[aT _ (by omega)];refine A (l.length-(k+1)) _ _ (by omega) ⟨k+1,rfl,by omega,rfl,g,p,d⟩
   refine cC ?_;simp only[bL,cG,reduceIte];have C:k=l.length:=by have:=aH c;omega
   clear c;subst C;rw[dA,nT]at d;exact a _ _ d
  rintro f H g;refine aC fun K a=>?_;refine aG ?_;simp only[RR,seval];apply a;clear a K;refine aO ?_;simp only[aY,aK,bR,RR,seval];refine aZ.pure ?_;rw[g]
def N2 (s:Sm) (level:Int):Bool:=
 decide (level≤24)&&(decide (s.kind=4)||decide (s.els.length=0))&&(decide (s.kind=4)||decide (s.kind=5)||decide (s.thn.length=0))&&
  (if s.kind=1∨s.kind=2∨s.kind=6 then iF s.name else decide (s.name=[]))
def Lp (k:Int) (n:Nat):Bool:=
 if k=1∨k=3∨k=4∨k=5 then decide (n=1)else if k=2 then decide (n=2)else if k=6 then decide (n≤6)else if k=7 then decide (n≤1)else false
def jB:List Sm→Int→Bool
 |[],_=>true
 | .mk k s es t u::l,level=>N2 (.mk k s es t u) level&&Lp k es.length&&kK es (level+1)&&jB t (level+1)&&jB u (level+1)&&jB l level
def kW (s:Sm) (level:Int):Bool:=N2 s level&&Lp s.kind s.es.length&&kK s.es (level+1)&&jB s.thn (level+1)&&jB s.els (level+1)
theorem pN (e:Sm) (l:List Sm) (a:Int):jB (e::l) a=(kW e a&&jB l a):=by
 cases e;rw[jB];rfl
theorem tL (a:Int):jB [] a=true:=by rw[jB]
def pA (a:Ar):Bool:=iF a.name&&decide (1≤a.size)&&decide (a.size≤4096)
def kY (f:Fu):Bool:=iF f.name&&decide (f.params.length≤6)&&f.params.all iF&&f.locs.all iF&&jB f.body 1
def fV (p:Pg):Bool:=p.vars.all iF&&decide (1≤p.funs.length)&&decide (p.funs.length≤64)&&p.arrs.all pA&&p.funs.all kY
theorem RE {a b:Bool} (h:a= !b) (c:a=true):b=false:=by subst c;cases b<;>simp_all
theorem RD {a b:Bool} (h:a= !b) (c:a=false):b=true:=by subst c;cases b<;>simp_all
theorem Jp (e:Sm) (y:e.ok) (f:Int) (h1: -1000000≤f) (h2:f≤1000000)
  (R:f≤24→ ∀x,x=e.thn∨x=e.els→eH dN 52 [.isl 5 (x.map Sm.row), .int .i64 (f+1)] (.bool (jB x (f+1)))):
  eH dN 77 [.agg e.row, .int .i64 f] (.bool (kW e f)):=by
 have P:=rG e.name y.name;have O:=fun h=>Jq _ e.es (f+1) rfl y.es (by omega) h;have Q:=e.row_eq;generalize N:kW e f=a1;rw[Q];have X:e.es.length≤9223372036854775807:=y.es.fit;have Y:e.thn.length≤9223372036854775807:=y.thn.fit;have C:e.els.length≤9223372036854775807:=y.els.fit;obtain⟨k,s,l,j,u⟩:=e;simp only[Sm.kind,Sm.name,Sm.es,Sm.thn,Sm.els]at R P O X Y C⊢;clear Q y;have v:kW (.mk k s l j u) f=((decide (f≤24)&&(decide (k=4)||decide (u.length=0))&&(decide (k=4)||decide (k=5)||decide (j.length=0)))&&(if k=1∨k=2∨k=6 then iF s else decide (s=[]))&&Lp k l.length&&kK l (f+1)&&jB j (f+1)&&jB u (f+1)):=rfl;rw[N]at v;clear N;refine bX 110 [.tmp 4] func77 ?_;refine cI (fun g H=> ∃b,g 1= .int .i64 f∧g 2= .ptr 5 b 0 0∧H b=some (.rows 5 [[.int .i64 k, .str s, .isl 5 (l.map Ex.row), .isl 5 (j.map Sm.row), .isl 5 (u.map Sm.row)]])) (fun K a=>?_) ?_
 ·refine aG ?_;simp only[RR,seval]
  refine aQ fun b c=>?_;simp only[RR,seval];exact a _ _ ⟨b,rfl,rfl,bG _ _ _⟩
 rintro g H ⟨b,i,d,c⟩;refine aI (cI (fun g H=> ∃t,g 36= .bool t∧(t= !(decide (f≤24)&&(decide (k=4)||decide (u.length=0))&&(decide (k=4)||decide (k=5)||decide (j.length=0))))∧g 1= .int .i64 f∧g 2= .ptr 5 b 0 0∧H b=some (.rows 5 [[.int .i64 k, .str s, .isl 5 (l.map Ex.row), .isl 5 (j.map Sm.row), .isl 5 (u.map Sm.row)]])) (fun K a=>?_) ?_)
 ·have p:decide ((0:Int)<u.length)= !decide (u.length=0):=by rw[eF];simp only[bO,eD,eU];omega
  have G:decide ((0:Int)<j.length)= !decide (j.length=0):=by rw[eF];simp only[bO,eD,eU];omega
  refine aG ?_;simp only[RR,seval];simp only[i,RR,seval]
  repeat' ((refine cQ (fun h=>?_) (fun h=>?_))<;>simp only[h,d,c,aE,p,G,RR,seval])
  all_goals
   refine a _ _ ⟨_,rfl, ?_,i,d,c⟩;simp_all<;>omega
 rintro g H ⟨t,L,n,i,d,c⟩;refine dS _ L (fun o=>?_) (fun o=>?_)
 ·have:=RE n o
  refine aC fun K a=>?_;refine aG ?_;simp only[RR,seval];apply a;refine aO ?_;simp only[bL,aY,aK,bR,RR,seval];refine aZ.pure ?_;rw[v,this];rfl
 have D:=RD n o;have a0:f≤24:=by simp only[aU,bO]at D;exact D.1.1
 rw[D,cJ]at v;have S:=R a0;have E:=O (by omega);clear n o L t;refine aL ?_;simp only[bL];refine cI (fun g H=>g 5= .bool (decide (k=1∨k=2∨k=6))∧g 1= .int .i64 f∧g 2= .ptr 5 b 0 0∧H b=some (.rows 5 [[.int .i64 k, .str s, .isl 5 (l.map Ex.row), .isl 5 (j.map Sm.row), .isl 5 (u.map Sm.row)]])) (fun K a=>?_) ?_
 ·refine aG ?_;simp only[RR,seval]
  simp only[d,c,RR,seval]
  repeat' ((refine cQ (fun h=>?_) (fun h=>?_))<;>simp only[h,d,c,RR,seval])
  all_goals
   refine a _ _ ⟨?_,i,d,c⟩;simp [upd];simp_all
 rintro g H ⟨C,i,d,c⟩;refine aI (cI (fun g H=> ∃t,g 63= .bool t∧(t= !(if k=1∨k=2∨k=6 then iF s else decide (s=[])))∧g 1= .int .i64 f∧g 2= .ptr 5 b 0 0∧H b=some (.rows 5 [[.int .i64 k, .str s, .isl 5 (l.map Ex.row), .isl 5 (j.map Sm.row), .isl 5 (u.map Sm.row)]])) (fun K a=>?_) ?_)
 ·by_cases z:k=1∨k=2∨k=6
  ·have I:decide (k=1∨k=2∨k=6)=true:=cO z
   rw[I]at C;by_cases A:s=[]
   ·have B:decide (s=[])=true:=cO A
    refine aG ?_;simp only[RR,seval];simp only[*,RR,seval];exact a _ _ ⟨_,rfl,by rw[bP z,A];rfl,i,d,c⟩
   have B:decide (s=[])=false:=bD A;refine aG ?_;simp only[RR,seval];simp only[*,RR,seval];refine aP P ?_;simp only[RR,seval];refine a _ _ ⟨_,rfl,by rw[bP z],i,d,c⟩
  have I:decide (k=1∨k=2∨k=6)=false:=bD z;rw[I]at C;by_cases A:s=[]
  ·have B:decide (s=[])=true:=cO A
   refine aG ?_;simp only[RR,seval];simp only[*,RR,seval];exact a _ _ ⟨_,rfl,by rw[aM z,B];rfl,i,d,c⟩
  have B:decide (s=[])=false:=bD A;refine aG ?_;simp only[RR,seval];simp only[*,RR,seval];exact a _ _ ⟨_,rfl,by rw[aM z,B];rfl,i,d,c⟩
 rintro g H ⟨t,M,n,i,d,c⟩;refine dS _ M (fun o=>?_) (fun o=>?_)
 ·have:=RE n o
  refine aC fun K a=>?_;refine aG ?_;simp only[RR,seval];apply a;refine aO ?_;simp only[bL,aY,aK,bR,RR,seval];refine aZ.pure ?_;rw[v,this];rfl
 rw[RD n o,cJ]at v;clear n o M t D;refine aL ?_;simp only[bL];refine aC fun K a=>?_;refine aG ?_;simp only[RR,seval];simp only[d,c,aE,RR,seval];apply a;refine aC fun K a=>?_;refine aG ?_;simp only[RR,seval];apply a;have F:IntKind.wrap .i64 (f+1)=f+1:=aT _ (by omega);refine cI (fun g H=>g 7= .bool (Lp k l.length)∧g 1= .int .i64 f∧g 2= .ptr 5 b 0 0∧H b=some (.rows 5 [[.int .i64 k, .str s, .isl 5 (l.map Ex.row), .isl 5 (j.map Sm.row), .isl 5 (u.map Sm.row)]])) (fun K a=>?_) ?_
 ·have p:decide ((l.length:Int)=1)=decide (l.length=1):=by rw[eF];simp only[bO];omega
  have G:decide ((l.length:Int)=2)=decide (l.length=2):=by rw[eF];simp only[bO];omega
  have V:decide ((l.length:Int)≤6)=decide (l.length≤6):=by rw[eF];simp only[bO];omega
  have W:decide ((l.length:Int)≤1)=decide (l.length≤1):=by rw[eF];simp only[bO];omega
  by_cases k1:k=1
  ·subst k1
   repeat' (first|(refine aC fun K a=>?_;refine aG ?_;simp only[d,c,RR,seval];apply a;clear a K)|(refine aI ?_)|(refine aN ?_)|(refine cL ?_)|(refine aL ?_;simp only[bL])|(refine aG ?_;simp only[p,bL,cG,RR,seval]))
   exact a _ _ ⟨rfl,i,d,c⟩
  by_cases k1:k=3
  ·subst k1
   repeat' (first|(refine aC fun K a=>?_;refine aG ?_;simp only[d,c,RR,seval];apply a;clear a K)|(refine aI ?_)|(refine aN ?_)|(refine cL ?_)|(refine bN ?_)|(refine aL ?_;simp only[bL])|(refine aG ?_;simp only[p,bL,cG,RR,seval]))
   exact a _ _ ⟨rfl,i,d,c⟩
  by_cases k1:k=4
  ·subst k1
   repeat' (first|(refine aC fun K a=>?_;refine aG ?_;simp only[d,c,RR,seval];apply a;clear a K)|(refine aI ?_)|(refine aN ?_)|(refine cL ?_)|(refine bN ?_)|(refine aL ?_;simp only[bL])|(refine aG ?_;simp only[p,bL,cG,RR,seval]))
   exact a _ _ ⟨rfl,i,d,c⟩
  by_cases k1:k=5
  ·subst k1
   repeat' (first|(refine aC fun K a=>?_;refine aG ?_;simp only[d,c,RR,seval];apply a;clear a K)|(refine aI ?_)|(refine aN ?_)|(refine cL ?_)|(refine bN ?_)|(refine aG ?_;simp only[p,bL,cG,RR,seval]))
   exact a _ _ ⟨rfl,i,d,c⟩
  by_cases k1:k=2
  ·subst k1
   repeat' (first|(refine aC fun K a=>?_;refine aG ?_;simp only[d,c,RR,seval];apply a;clear a K)|(refine aI ?_)|(refine aN ?_)|(refine cL ?_)|(refine bN ?_)|(refine aG ?_;simp only[G,bL,cG,RR,seval]))
   exact a _ _ ⟨rfl,i,d,c⟩
  by_cases k1:k=6
  ·subst k1
   repeat' (first|(refine aC fun K a=>?_;refine aG ?_;simp only[d,c,RR,seval];apply a;clear a K)|(refine aI ?_)|(refine aN ?_)|(refine cL ?_)|(refine bN ?_)|(refine aG ?_;simp only[V,bL,cG,RR,seval]))
   exact a _ _ ⟨rfl,i,d,c⟩
  by_cases k1:k=7
  ·subst k1
   repeat' (first|(refine aC fun K a=>?_;refine aG ?_;simp only[d,c,RR,seval];apply a;clear a K)|(refine aI ?_)|(refine aN ?_)|(refine cL ?_)|(refine bN ?_)|(refine aG ?_;simp only[W,bL,cG,RR,seval]))
   exact a _ _ ⟨rfl,i,d,c⟩
  have g1:decide (k=1)=false:=bD (by assumption);have g2:decide (k=2)=false:=bD (by assumption);have g3:decide (k=3)=false:=bD (by assumption);have g4:decide (k=4)=false:=bD (by assumption);have Z:decide (k=5)=false:=bD (by assumption);have g6:decide (k=6)=false:=bD (by assumption);have g7:decide (k=7)=false:=bD (by assumption)
  repeat' (first|(refine aC fun K a=>?_;refine aG ?_;simp only[*,RR,seval];apply a;clear a K)|(refine aI ?_)|(refine aN ?_)|(refine bN ?_)|(refine aL ?_;simp only[bL,cG])|(refine aG ?_;simp only[Z,bL,RR,seval]))
  exact a _ _ ⟨by simp [Lp, *,upd],i,d,c⟩
 rintro g H ⟨J,i,d,c⟩;subst v
 cases hf:Lp k l.length with
 |false=>
  rw[hf]at J
  repeat' (first|(refine aC fun K a=>?_;refine aG ?_;simp only[J,RR,seval];apply a;clear a K)|(refine aO ?_;simp only[aY,aK,bR,RR,seval];refine aZ.pure ?_))
  rfl
 |true=>
  rw[hf]at J
  cases hx:kK l (f+1)with
  |false=>
   rw[hx]at E
   repeat' (first|(refine aI ?_)|(refine aG ?_;simp only[*,F,RR,seval])|(refine aO ?_;simp only[aY,aK,bR,RR,seval];refine aZ.pure ?_)|(refine aP (E) ?_;simp only[bL,RR,seval]))
   rfl
  |true=>
   rw[hx]at E;have T:=S j (.inl rfl);have U:=S u (.inr rfl);refine aC fun K a=>?_;refine aG ?_;simp only[RR,seval];simp only[*,F,RR,seval];refine aP E ?_;simp only[RR,seval];simp only[i,d,c,F,RR,seval];refine aP T ?_;simp only[RR,seval]
   cases n:jB j (f+1)with
   |false=>
    simp only[RR,seval];apply a;clear a K;refine aO ?_;simp only[aY,aK,bR,RR,seval];refine aZ.pure ?_;rw[n];rfl
   |true=>
    simp only[i,d,c,F,RR,seval];refine aP U ?_;simp only[RR,seval];apply a;refine aO ?_;simp only[aY,aK,bR,RR,seval];refine aZ.pure ?_;rw[n];rfl
theorem Jo (n:Nat): ∀(l:List Sm) (b:Int),mQ l=n→xH l→ -1000000≤b→b≤1000000→eH dN 52 [.isl 5 (l.map Sm.row), .int .i64 b] (.bool (jB l b)):=by
 induction n using Nat.strongRecOn with
 |_ n ih=>
  intro l b N v z A;have J:l.length≤9223372036854775807:=v.fit;refine bX 19 [.tmp 4] func52 ?_;refine aC fun K a=>?_;refine aG ?_;simp only[RR,seval];apply a;clear a K;refine cI (fun f H=>jB l b=true) (fun K a=>?_) ?_
  ·refine aC fun K a=>?_;refine aG ?_;simp only[RR,seval]
   apply a;clear a K;refine aN ?_;refine eK (fun y f H=> ∃k:Nat,y=l.length-k∧k≤l.length∧f 5= .int .i64 k∧f 0= .isl 5 (l.map Sm.row)∧f 1= .int .i64 b∧jB l b=jB (l.drop k) b) (l.length) ⟨0,rfl,cM _,rfl,rfl,rfl,by rw[dI]⟩ ?_;rintro y f H ⟨k,rfl,L,j,g,p,d⟩ I B;refine aI ?_;refine aC fun K a=>?_;refine aG ?_;simp only[RR,seval];simp only[j,g,aE,RR,seval];apply a;clear a K;refine aX ?_ ?_<;>intro c
   ·have o:k<l.length:=by have:=aF c;omega
    clear c;refine aL ?_;simp only[bL];refine aI ?_;refine aN ?_;have t:=tV Sm.row (aD o);have u:=bV o;have i:=v.all _ u;have F:=lI u;rw[bJ o,pN]at d;generalize l[k]=e at t d i F;have O:=e.sz_eq;have E:=e.row_len
    have C:=Jp e i b z A (fun M x G=>by
     rcases G with rfl|rfl
     ·exact ih _ (by omega) e.thn (b+1) rfl i.thn (by omega) (by omega)
     exact ih _ (by omega) e.els (b+1) rfl i.els (by omega) (by omega))
    refine aC fun K a=>?_;refine aG ?_;simp only[RR,seval];simp only[g,p,j,t,E,RR,seval];rw[rP (by omega)];refine aP C ?_;simp only[RR,seval];apply a;clear a K;refine dS (!kW e b) rfl (fun c=>?_) (fun c=>?_)
    ·refine aC fun K a=>?_;refine aG ?_;simp only[RR,seval]
     apply a;clear a K;refine aO ?_;simp only[bL,cG,aY,aK,bR,RR,seval];refine aZ.pure ?_;rw[d,show kW e b=false by simpa using c];rfl
    refine aL ?_;simp only[bL,cG];rw[show kW e b=true by simpa using c,cJ]at d;refine aG ?_;simp only[RR,seval];simp only[j,bL,RR,seval];rw[aT _ (by omega)];refine B (l.length-(k+1)) _ _ (by omega) ⟨k+1,rfl,by omega,rfl,g,p,d⟩
   refine cC ?_;simp only[bL,cG,reduceIte];have D:k=l.length:=by have:=aH c;omega
   clear c;subst D;rw[dA,tL]at d;exact a _ _ d
  rintro f H g;refine aC fun K a=>?_;refine aG ?_;simp only[RR,seval];apply a;clear a K;refine aO ?_;simp only[aY,aK,bR,RR,seval];refine aZ.pure ?_;rw[g]
theorem yL (p:Pg) (D:p.ok):eH dN 25 [p.av] (.bool (fV p)):=by
 have X:p.vars.length≤9223372036854775807:=D.vars.fit;have V:p.arrs.length≤9223372036854775807:=D.afit;have W:p.funs.length≤9223372036854775807:=D.ffit;have O:=vJ p.vars D.vars;obtain⟨vs,n,g⟩:=p;simp only at X V W O;simp only[Pg.av,Pg.row];refine bX 95 [.tmp 2] func25 ?_;refine cI (fun j H=> ∃b,j 1= .ptr 3 b 0 0∧H b=some (.rows 3 [[.isl 1 (vs.map bH), .isl 2 (n.map Ar.row), .isl 5 (g.map Fu.row)]])) (fun K c=>?_) ?_
 ·refine aG ?_;simp only[RR,seval]
  refine aQ fun b i=>?_;simp only[RR,seval];exact c _ _ ⟨b,rfl,bG _ _ _⟩
 rintro j H ⟨b,d,i⟩;have x:fV ⟨vs,n,g⟩=((vs.all iF&&decide (1≤g.length)&&decide (g.length≤64))&&n.all pA&&g.all kY):=rfl;generalize fV ⟨vs,n,g⟩=a6 at x⊢;refine aI ?_;refine cI (fun j H=> ∃t,j 21= .bool t∧(t= !(vs.all iF&&decide (1≤g.length)&&decide (g.length≤64)))∧j 1= .ptr 3 b 0 0∧H b=some (.rows 3 [[.isl 1 (vs.map bH), .isl 2 (n.map Ar.row), .isl 5 (g.map Fu.row)]])) (fun K c=>?_) ?_
 ·have E:decide ((g.length:Int)<1)= !decide (1≤g.length):=by rw[eF];simp only[bO,eD,eU];omega
  have I:decide ((64:Int)<g.length)= !decide (g.length≤64):=by rw[eF];simp only[bO,eD,eU];omega
  refine aG ?_;simp only[RR,seval];simp only[d,i,RR,seval];refine aP O ?_;simp only[RR,seval]
  cases hv:vs.all iF with
  |false=>
   simp only[RR,seval];exact c _ _ ⟨_,rfl,by rw[hv];rfl,d,i⟩
  |true=>
   simp only[d,i,aE,E,RR,seval]
   cases h1:decide (1≤g.length)with
   |false=>
    simp only[RR,seval];exact c _ _ ⟨_,rfl,by rw[hv,h1];rfl,d,i⟩
   |true=>
    simp only[d,i,aE,I,RR,seval];exact c _ _ ⟨_,rfl,by rw[hv,h1];rfl,d,i⟩
 rintro j H ⟨t,N,M,d,i⟩;refine dS _ N (fun l=>?_) (fun l=>?_)
 ·have:=RE M l
  refine aC fun K c=>?_;refine aG ?_;simp only[RR,seval];apply c;clear c K;refine aO ?_;simp only[bL,aY,aK,bR,RR,seval];refine aZ.pure ?_;rw[x,this];rfl
 have Z:=RD M l;rw[Z,cJ]at x;clear M l N t;refine aL ?_;simp only[bL];refine cI (fun j H=>n.all pA=true∧j 1= .ptr 3 b 0 0∧H b=some (.rows 3 [[.isl 1 (vs.map bH), .isl 2 (n.map Ar.row), .isl 5 (g.map Fu.row)]])) (fun K c=>?_) ?_
 ·refine aC fun K c=>?_;refine aG ?_;simp only[RR,seval]
  apply c;clear c K;refine aN ?_;refine eK (fun G j H=> ∃k:Nat,G=n.length-k∧k≤n.length∧j 3= .int .i64 k∧n.all pA=(n.drop k).all pA∧j 1= .ptr 3 b 0 0∧H b=some (.rows 3 [[.isl 1 (vs.map bH), .isl 2 (n.map Ar.row), .isl 5 (g.map Fu.row)]])) (n.length) ⟨0,rfl,cM _,rfl,by rw[dI],d,i⟩ ?_;rintro G j H ⟨k,rfl,a4,o,u,d,i⟩ Q J;refine aI ?_;refine aC fun K c=>?_;refine aG ?_;simp only[RR,seval];simp only[o,d,i,aE,RR,seval];apply c;clear c K;refine aX ?_ ?_<;>intro l
  ·have A:k<n.length:=by have:=aF l;omega
   clear l;refine aL ?_;simp only[bL];refine aI ?_;refine aN ?_;have z:=HU (aD A);have P:=D.arrs _ (bV A);rw[bJ A,dT]at u;generalize n[k]=a at z u P;have a3:=rG a.name P.1;have E:decide (a.size<1)= !decide (1≤a.size):=by rw[eF];simp only[bO,eD,eU];omega
   have I:decide (4096<a.size)= !decide (a.size≤4096):=by rw[eF];simp only[bO,eD,eU];omega
   refine cI (fun j H=>j 54= .bool (!pA a)∧j 3= .int .i64 k∧j 1= .ptr 3 b 0 0∧H b=some (.rows 3 [[.isl 1 (vs.map bH), .isl 2 (n.map Ar.row), .isl 5 (g.map Fu.row)]])) (fun K c=>?_) ?_
   ·refine aG ?_;simp only[RR,seval]
    simp only[d,i,o,z,RR,seval];refine aP a3 ?_;simp only[RR,seval]
    cases hv:iF a.name with
    |false=>
     simp only[RR,seval];exact c _ _ ⟨by simp only[pA,hv];rfl,o,d,i⟩
    |true=>
     simp only[d,i,o,z,E,RR,seval]
     cases h1:decide (1≤a.size)with
     |false=>
      simp only[RR,seval];exact c _ _ ⟨by simp only[pA,hv,h1];rfl,o,d,i⟩
     |true=>
      simp only[d,i,o,z,I,RR,seval];exact c _ _ ⟨by simp only[pA,hv,h1];rfl,o,d,i⟩
   rintro j H ⟨a0,o,d,i⟩;refine dS (!pA a) a0 (fun l=>?_) (fun l=>?_)
   ·refine aC fun K c=>?_;refine aG ?_;simp only[RR,seval]
    apply c;clear c K;refine aO ?_;simp only[bL,cG,aY,aK,bR,RR,seval];refine aZ.pure ?_;rw[x,u,show pA a=false by simpa using l];rfl
   refine aL ?_;simp only[bL,cG];rw[show pA a=true by simpa using l,cJ]at u;refine aG ?_;simp only[RR,seval];simp only[o,bL,RR,seval];rw[aT _ (by omega)];refine J (n.length-(k+1)) _ _ (by omega) ⟨k+1,rfl,by omega,rfl,u,d,i⟩
  refine cC ?_;simp only[bL,cG,reduceIte];have L:k=n.length:=by have:=aH l;omega
  clear l;subst L;rw[dA]at u;exact c _ _ ⟨u,d,i⟩
 rintro j H ⟨u,d,i⟩;rw[u,cJ]at x;refine cI (fun j H=>g.all kY=true) (fun K c=>?_) ?_
 ·refine aC fun K c=>?_;refine aG ?_;simp only[RR,seval]
  apply c;clear c K;refine aN ?_;refine eK (fun G j H=> ∃k:Nat,G=g.length-k∧k≤g.length∧j 4= .int .i64 k∧g.all kY=(g.drop k).all kY∧j 1= .ptr 3 b 0 0∧H b=some (.rows 3 [[.isl 1 (vs.map bH), .isl 2 (n.map Ar.row), .isl 5 (g.map Fu.row)]])) (g.length) ⟨0,rfl,cM _,rfl,by rw[dI],d,i⟩ ?_;rintro G j H ⟨k,rfl,a4,o,y,d,i⟩ Q J;refine aI ?_;refine aC fun K c=>?_;refine aG ?_;simp only[RR,seval];simp only[o,d,i,aE,RR,seval];apply c;clear c K;refine aX ?_ ?_<;>intro l
  ·have A:k<g.length:=by have:=aF l;omega
   clear l;refine aL ?_;simp only[bL];refine aI ?_;refine aN ?_;have z:=qH (aD A);have F:=D.funs _ (bV A);rw[bJ A,dT]at y;generalize g[k]=f at z y F;refine aC fun K c=>?_;refine aG ?_;simp only[RR,seval];simp only[d,i,o,z,RR,seval];refine aQ fun v a2=>?_;simp only[RR,seval];apply c;clear c K;have a5:b≠v:=fun e=>by rw[e,a2]at i;cases i
   have B:(upd (upd H v (some (.rows 5 [[.str [], .nsl, .nsl, .bool false, .nsl]]))) v (some (.rows 5 [[.str f.name, .isl 1 (f.params.map bH), .isl 1 (f.locs.map bH), .bool f.word, .isl 5 (f.body.map Sm.row)]]))) v=some (.rows 5 [[.str f.name, .isl 1 (f.params.map bH), .isl 1 (f.locs.map bH), .bool f.word, .isl 5 (f.body.map Sm.row)]]):=bG _ _ _;have C:(upd (upd H v (some (.rows 5 [[.str [], .nsl, .nsl, .bool false, .nsl]]))) v (some (.rows 5 [[.str f.name, .isl 1 (f.params.map bH), .isl 1 (f.locs.map bH), .bool f.word, .isl 5 (f.body.map Sm.row)]]))) b=some (.rows 3 [[.isl 1 (vs.map bH), .isl 2 (n.map Ar.row), .isl 5 (g.map Fu.row)]]):=by simp only[upd,aM a5];exact i
   generalize(upd (upd H v (some (.rows 5 [[.str [], .nsl, .nsl, .bool false, .nsl]]))) v (some (.rows 5 [[.str f.name, .isl 1 (f.params.map bH), .isl 1 (f.locs.map bH), .bool f.word, .isl 5 (f.body.map Sm.row)]])))=H1 at B C⊢;have R:=rG f.name F.name;have S:=vJ f.params F.params;have T:=vJ f.locs F.locs;have U:=Jo _ f.body 1 rfl F.body (by omega) (by omega);have E:decide ((6:Int)<f.params.length)= !decide (f.params.length≤6):=by rw[eF];simp only[bO,eD,eU];omega
   refine cI (fun j H=>j 94= .bool (!kY f)∧j 4= .int .i64 k∧j 1= .ptr 3 b 0 0∧H b=some (.rows 3 [[.isl 1 (vs.map bH), .isl 2 (n.map Ar.row), .isl 5 (g.map Fu.row)]])) (fun K c=>?_) ?_
   ·refine aG ?_;simp only[RR,seval]
    simp only[B,RR,seval];refine aP R ?_;simp only[RR,seval]
    cases v0:iF f.name with
    |false=>
     simp only[RR,seval];exact c _ _ ⟨by simp only[kY,v0];rfl,o,d,C⟩
    |true=>
     simp only[B,aE,E,RR,seval]
     cases v1:decide (f.params.length≤6)with
     |false=>
      simp only[RR,seval];exact c _ _ ⟨by simp only[kY,v0,v1];rfl,o,d,C⟩
     |true=>
      simp only[B,RR,seval];refine aP S ?_;simp only[RR,seval]
      cases v2:f.params.all iF with
      |false=>
       simp only[RR,seval];exact c _ _ ⟨by simp only[kY,v0,v1,v2];rfl,o,d,C⟩
      |true=>
       simp only[B,RR,seval];refine aP T ?_;simp only[RR,seval]
       cases v3:f.locs.all iF with
       |false=>
        simp only[RR,seval];exact c _ _ ⟨by simp only[kY,v0,v1,v2,v3];rfl,o,d,C⟩
       |true=>
        simp only[B,RR,seval];refine aP U ?_;simp only[RR,seval];exact c _ _ ⟨by simp only[kY,v0,v1,v2,v3];rfl,o,d,C⟩
   rintro j H ⟨a1,o,d,i⟩;refine dS (!kY f) a1 (fun l=>?_) (fun l=>?_)
   ·refine aC fun K c=>?_;refine aG ?_;simp only[RR,seval]
    apply c;clear c K;refine aO ?_;simp only[bL,cG,aY,aK,bR,RR,seval];refine aZ.pure ?_;rw[x,y,show kY f=false by simpa using l];rfl
   refine aL ?_;simp only[bL,cG];rw[show kY f=true by simpa using l,cJ]at y;refine aG ?_;simp only[RR,seval];simp only[o,bL,RR,seval];rw[aT _ (by omega)];refine J (g.length-(k+1)) _ _ (by omega) ⟨k+1,rfl,by omega,rfl,y,d,i⟩
  refine cC ?_;simp only[bL,cG,reduceIte];have L:k=g.length:=by have:=aH l;omega
  clear l;subst L;rw[dA]at y;exact c _ _ y
 rintro j H Y;refine aC fun K c=>?_;refine aG ?_;simp only[RR,seval];apply c;clear c K;refine aO ?_;simp only[aY,aK,bR,RR,seval];refine aZ.pure ?_;rw[x,Y]
theorem Y3 (p:Pg) (a:p.ok) (_: ∀f∈p.funs,f.params.length≤1100000):eH dN 25 [p.av] (.bool (fV p)):=yL p a
end Go.Proofs.YtaecpjgmcffliaaGreatDoor
