/- Sy2 -/
import Derived.Test.YtaecpjgmcffliaaGreatDoorAl3
import Derived.Test.YtaecpjgmcffliaaGreatDoorRows
set_option linter.unusedSimpArgs false
set_option linter.unusedVariables false
set_option maxRecDepth 10000
set_option maxHeartbeats 4000000
namespace Go.Proofs.YtaecpjgmcffliaaGreatDoor
open Go.Al Go.Proofs.Tryz
def kD:List (List UInt8):=[[118,97,114],[97,114,114,97,121],[102,117,110,99],[119,111,114,100],[105,102],[101,108,115,101],[119,104,105,108,101],[114,101,116,117,114,110],[112,117,116],[103,101,116]]
def mD:List (List UInt8):=[[60,60],[62,62],[61,61],[38,38],[124,124],[40],[41],[123],[125],[91],[93],[59],[44],[61],[43],[45],[42],[47],[37],[38],[124],[94],[60],[33]]
def HL:List AV:=[.int .u64 1, .int .u64 10, .int .u64 100, .int .u64 1000, .int .u64 10000, .int .u64 100000, .int .u64 1000000, .int .u64 10000000, .int .u64 100000000, .int .u64 1000000000, .int .u64 10000000000, .int .u64 100000000000, .int .u64 1000000000000, .int .u64 10000000000000, .int .u64 100000000000000, .int .u64 1000000000000000, .int .u64 10000000000000000, .int .u64 100000000000000000, .int .u64 1000000000000000000, .int .u64 10000000000000000000]
def JB:Nat→Option (List AV)
 |0=>some (kD.map .str)
 |1=>some HL
 |_=>none
noncomputable def dP:kB:=⟨Tryz.prog,JB⟩
theorem SO:dP.G=JB:=rfl
theorem eE:dP.P.follows .mixedOrders=true:=by kernel_rfl
theorem UL:cD dP.P 3=some ⟨.int .i64,1,8, .int .i64 0⟩:=by kernel_rfl
theorem UK:cD dP.P 4=some ⟨.bool,1,1, .bool false⟩:=by kernel_rfl
theorem UI:cD dP.P 5=some ⟨.int .u8,1,1, .int .u8 0⟩:=by kernel_rfl
theorem UH:cD dP.P 9=some ⟨.str,1,16, .str []⟩:=by kernel_rfl
theorem QC:cD dP.P 22=some ⟨.slice 9,1,24, .nsl⟩:=by kernel_rfl
theorem QB:cD dP.P 23=some ⟨.slice 82,1,24, .nsl⟩:=by kernel_rfl
theorem QA:cD dP.P 24=some ⟨.slice 58,1,24, .nsl⟩:=by kernel_rfl
theorem PZ:cD dP.P 26=some ⟨.strct [(22,0),(23,1),(24,2)],3,72, .agg [.nsl, .nsl, .nsl]⟩:=by kernel_rfl
theorem PY:cD dP.P 29=some ⟨.int .i64,1,8, .int .i64 0⟩:=by kernel_rfl
theorem PX:cD dP.P 34=some ⟨.slice 46,1,24, .nsl⟩:=by kernel_rfl
theorem PU:cD dP.P 36=some ⟨.strct [(34,0),(3,1)],2,32, .agg [.nsl, .int .i64 0]⟩:=by kernel_rfl
theorem PT:cD dP.P 40=some ⟨.strct [(3,0),(9,1),(3,2)],3,32, .agg [.int .i64 0, .str [], .int .i64 0]⟩:=by kernel_rfl
theorem PS:cD dP.P 45=some ⟨.slice 3,1,24, .nsl⟩:=by kernel_rfl
theorem PQ:cD dP.P 46=some ⟨.int .u32,1,4, .int .u32 0⟩:=by kernel_rfl
theorem PP:cD dP.P 48=some ⟨.array 4 46,4,16, .agg [.int .u32 0, .int .u32 0, .int .u32 0, .int .u32 0]⟩:=by kernel_rfl
theorem PO:cD dP.P 50=some ⟨.strct [(3,0),(45,1),(9,2),(3,3),(48,4),(9,8)],9,88, .agg [.int .i64 0, .nsl, .str [], .int .i64 0, .int .u32 0, .int .u32 0, .int .u32 0, .int .u32 0, .str []]⟩:=by kernel_rfl
theorem PN:cD dP.P 56=some ⟨.slice 64,1,24, .nsl⟩:=by kernel_rfl
theorem PM:cD dP.P 58=some ⟨.strct [(9,0),(22,1),(22,2),(4,3),(56,4)],5,96, .agg [.str [], .nsl, .nsl, .bool false, .nsl]⟩:=by kernel_rfl
theorem PL:cD dP.P 60=some ⟨.slice 62,1,24, .nsl⟩:=by kernel_rfl
theorem PK:cD dP.P 62=some ⟨.strct [(3,0),(3,1),(46,2),(9,3),(60,4)],5,64, .agg [.int .i64 0, .int .i64 0, .int .u32 0, .str [], .nsl]⟩:=by kernel_rfl
theorem PI:cD dP.P 64=some ⟨.strct [(3,0),(9,1),(60,2),(56,3),(56,4)],5,96, .agg [.int .i64 0, .str [], .nsl, .nsl, .nsl]⟩:=by kernel_rfl
theorem PH:cD dP.P 68=some ⟨.ptr 71,1,8, .npt⟩:=by kernel_rfl
theorem PG:cD dP.P 69=some ⟨.slice 5,1,24, .nsl⟩:=by kernel_rfl
theorem PE:cD dP.P 71=some ⟨.strct [(68,0),(69,1)],2,32, .agg [.npt, .nsl]⟩:=by kernel_rfl
theorem CJ:cD dP.P 73=some ⟨.strct [(71,0)],2,32, .agg [.npt, .nsl]⟩:=by kernel_rfl
theorem PD:cD dP.P 74=some ⟨.func,1,8, .nfn⟩:=by kernel_rfl
theorem PC:cD dP.P 82=some ⟨.strct [(9,0),(3,1)],2,24, .agg [.str [], .int .i64 0]⟩:=by kernel_rfl
theorem OZ:cD dP.P 86=some ⟨.ptr 89,1,8, .npt⟩:=by kernel_rfl
theorem OY:cD dP.P 87=some ⟨.slice 34,1,24, .nsl⟩:=by kernel_rfl
theorem OX:cD dP.P 89=some ⟨.strct [(26,0),(9,3),(3,4),(34,5),(87,6),(69,7),(3,8),(3,9),(3,10)],11,192, .agg [.nsl, .nsl, .nsl, .str [], .int .i64 0, .nsl, .nsl, .nsl, .int .i64 0, .int .i64 0, .int .i64 0]⟩:=by kernel_rfl
theorem OW:cD dP.P 91=some ⟨.array 16 46,16,64, .agg [.int .u32 0, .int .u32 0, .int .u32 0, .int .u32 0, .int .u32 0, .int .u32 0, .int .u32 0, .int .u32 0, .int .u32 0, .int .u32 0, .int .u32 0, .int .u32 0, .int .u32 0, .int .u32 0, .int .u32 0, .int .u32 0]⟩:=by kernel_rfl
theorem OV:cD dP.P 93=some ⟨.strct [(3,0),(91,1),(34,17),(3,18),(9,19),(3,20),(3,21)],22,136, .agg [.int .i64 0, .int .u32 0, .int .u32 0, .int .u32 0, .int .u32 0, .int .u32 0, .int .u32 0, .int .u32 0, .int .u32 0, .int .u32 0, .int .u32 0, .int .u32 0, .int .u32 0, .int .u32 0, .int .u32 0, .int .u32 0, .int .u32 0, .nsl, .int .i64 0, .str [], .int .i64 0, .int .i64 0]⟩:=by kernel_rfl
theorem FX:cD dP.P 108=some ⟨.ptr 73,1,8, .npt⟩:=by kernel_rfl
theorem FW:cD dP.P 110=some ⟨.ptr 5,1,8, .npt⟩:=by kernel_rfl
theorem FV:cD dP.P 113=some ⟨.slice 159,1,24, .nsl⟩:=by kernel_rfl
theorem FU:cD dP.P 116=some ⟨.ptr 118,1,8, .npt⟩:=by kernel_rfl
theorem FR:cD dP.P 118=some ⟨.strct [(113,0),(3,1),(4,2)],3,40, .agg [.nsl, .int .i64 0, .bool false]⟩:=by kernel_rfl
theorem FQ:cD dP.P 120=some ⟨.ptr 122,1,8, .npt⟩:=by kernel_rfl
theorem FP:cD dP.P 122=some ⟨.strct [(3,0),(34,1),(4,2),(46,3)],4,40, .agg [.int .i64 0, .nsl, .bool false, .int .u32 0]⟩:=by kernel_rfl
theorem FO:cD dP.P 136=some ⟨.other,1,8, .npt⟩:=by kernel_rfl
theorem FN:cD dP.P 139=some ⟨.map 9 149,1,8, .nmp⟩:=by kernel_rfl
theorem FM:cD dP.P 144=some ⟨.strct [(139,0),(139,1)],2,16, .agg [.nmp, .nmp]⟩:=by kernel_rfl
theorem FL:cD dP.P 147=some ⟨.strct [(3,0),(9,1),(3,2)],3,32, .agg [.int .i64 0, .str [], .int .i64 0]⟩:=by kernel_rfl
theorem FK:cD dP.P 149=some ⟨.strct [(3,0),(3,1)],2,16, .agg [.int .i64 0, .int .i64 0]⟩:=by kernel_rfl
theorem FI:cD dP.P 151=some ⟨.func,1,8, .nfn⟩:=by kernel_rfl
theorem FH:cD dP.P 152=some ⟨.ptr 210,1,8, .npt⟩:=by kernel_rfl
theorem FG:cD dP.P 159=some ⟨.strct [(3,0),(9,1),(46,2),(3,3)],4,40, .agg [.int .i64 0, .str [], .int .u32 0, .int .i64 0]⟩:=by kernel_rfl
theorem FD:cD dP.P 166=some ⟨.slice 231,1,24, .nsl⟩:=by kernel_rfl
theorem FC:cD dP.P 167=some ⟨.slice 4,1,24, .nsl⟩:=by kernel_rfl
theorem FB:cD dP.P 171=some ⟨.strct [(93,0),(69,22),(166,23),(167,24),(34,25),(9,26),(45,27)],28,272, .agg [.int .i64 0, .int .u32 0, .int .u32 0, .int .u32 0, .int .u32 0, .int .u32 0, .int .u32 0, .int .u32 0, .int .u32 0, .int .u32 0, .int .u32 0, .int .u32 0, .int .u32 0, .int .u32 0, .int .u32 0, .int .u32 0, .int .u32 0, .nsl, .int .i64 0, .str [], .int .i64 0, .int .i64 0, .nsl, .nsl, .nsl, .nsl, .str [], .nsl]⟩:=by kernel_rfl
theorem FA:cD dP.P 172=some ⟨.int .u64,1,8, .int .u64 0⟩:=by kernel_rfl
theorem EZ:cD dP.P 175=some ⟨.int .u64,1,8, .int .u64 0⟩:=by kernel_rfl
theorem EY:cD dP.P 176=some ⟨.array 8 46,8,32, .agg [.int .u32 0, .int .u32 0, .int .u32 0, .int .u32 0, .int .u32 0, .int .u32 0, .int .u32 0, .int .u32 0]⟩:=by kernel_rfl
theorem EW:cD dP.P 178=some ⟨.slice 247,1,24, .nsl⟩:=by kernel_rfl
theorem EV:cD dP.P 180=some ⟨.strct [(3,0),(178,1)],2,32, .agg [.int .i64 0, .nsl]⟩:=by kernel_rfl
theorem EU:cD dP.P 183=some ⟨.slice 255,1,24, .nsl⟩:=by kernel_rfl
theorem ET:cD dP.P 185=some ⟨.strct [(3,0),(183,1)],2,32, .agg [.int .i64 0, .nsl]⟩:=by kernel_rfl
theorem ES:cD dP.P 188=some ⟨.slice 262,1,24, .nsl⟩:=by kernel_rfl
theorem EQ:cD dP.P 193=some ⟨.slice 283,1,24, .nsl⟩:=by kernel_rfl
theorem EP:cD dP.P 195=some ⟨.strct [(3,0),(193,1)],2,32, .agg [.int .i64 0, .nsl]⟩:=by kernel_rfl
theorem EO:cD dP.P 197=some ⟨.func,1,8, .nfn⟩:=by kernel_rfl
theorem EN:cD dP.P 205=some ⟨.func,1,8, .nfn⟩:=by kernel_rfl
theorem EL:cD dP.P 206=some ⟨.map 9 58,1,8, .nmp⟩:=by kernel_rfl
theorem EK:cD dP.P 207=some ⟨.func,1,8, .nfn⟩:=by kernel_rfl
theorem EJ:cD dP.P 208=some ⟨.array 10 207,10,80, .agg [.nfn, .nfn, .nfn, .nfn, .nfn, .nfn, .nfn, .nfn, .nfn, .nfn]⟩:=by kernel_rfl
theorem EI:cD dP.P 210=some ⟨.strct [(206,0),(208,1)],11,88, .agg [.nmp, .nfn, .nfn, .nfn, .nfn, .nfn, .nfn, .nfn, .nfn, .nfn, .nfn]⟩:=by kernel_rfl
theorem EH:cD dP.P 215=some ⟨.slice 220,1,24, .nsl⟩:=by kernel_rfl
theorem EG:cD dP.P 220=some ⟨.strct [(9,0),(3,1),(3,2)],3,32, .agg [.str [], .int .i64 0, .int .i64 0]⟩:=by kernel_rfl
theorem EF:cD dP.P 231=some ⟨.strct [(3,0),(3,1),(3,2),(3,3)],4,32, .agg [.int .i64 0, .int .i64 0, .int .i64 0, .int .i64 0]⟩:=by kernel_rfl
theorem EE:cD dP.P 234=some ⟨.ptr 171,1,8, .npt⟩:=by kernel_rfl
theorem ED:cD dP.P 244=some ⟨.slice 312,1,24, .nsl⟩:=by kernel_rfl
theorem EC:cD dP.P 247=some ⟨.strct [(3,0),(3,1),(3,2),(4,3),(244,4)],5,56, .agg [.int .i64 0, .int .i64 0, .int .i64 0, .bool false, .nsl]⟩:=by kernel_rfl
theorem EB:cD dP.P 248=some ⟨.ptr 251,1,8, .npt⟩:=by kernel_rfl
theorem EA:cD dP.P 249=some ⟨.slice 267,1,24, .nsl⟩:=by kernel_rfl
theorem DZ:cD dP.P 251=some ⟨.strct [(180,0),(3,2),(249,3),(3,4),(3,5)],6,80, .agg [.int .i64 0, .nsl, .int .i64 0, .nsl, .int .i64 0, .int .i64 0]⟩:=by kernel_rfl
theorem DY:cD dP.P 255=some ⟨.strct [(3,0),(249,1)],2,32, .agg [.int .i64 0, .nsl]⟩:=by kernel_rfl
theorem DX:cD dP.P 256=some ⟨.ptr 259,1,8, .npt⟩:=by kernel_rfl
theorem DW:cD dP.P 257=some ⟨.slice 273,1,24, .nsl⟩:=by kernel_rfl
theorem DV:cD dP.P 259=some ⟨.strct [(185,0),(188,2),(3,3),(34,4),(257,5),(45,6),(45,7),(3,8)],9,168, .agg [.int .i64 0, .nsl, .nsl, .int .i64 0, .nsl, .nsl, .nsl, .nsl, .int .i64 0]⟩:=by kernel_rfl
theorem DU:cD dP.P 262=some ⟨.strct [(45,0)],1,24, .agg [.nsl]⟩:=by kernel_rfl
theorem DT:cD dP.P 264=some ⟨.slice 45,1,24, .nsl⟩:=by kernel_rfl
theorem DR:cD dP.P 265=some ⟨.slice 270,1,24, .nsl⟩:=by kernel_rfl
theorem DO:cD dP.P 267=some ⟨.strct [(265,0),(3,1),(3,2),(3,3),(3,4)],5,56, .agg [.nsl, .int .i64 0, .int .i64 0, .int .i64 0, .int .i64 0]⟩:=by kernel_rfl
theorem DN:cD dP.P 270=some ⟨.strct [(3,0),(3,1),(3,2),(3,3),(3,4),(3,5),(3,6),(46,7)],8,64, .agg [.int .i64 0, .int .i64 0, .int .i64 0, .int .i64 0, .int .i64 0, .int .i64 0, .int .i64 0, .int .u32 0]⟩:=by kernel_rfl
theorem DL:cD dP.P 273=some ⟨.strct [(3,0),(3,1),(3,2)],3,24, .agg [.int .i64 0, .int .i64 0, .int .i64 0]⟩:=by kernel_rfl
theorem DK:cD dP.P 274=some ⟨.ptr 277,1,8, .npt⟩:=by kernel_rfl
theorem DJ:cD dP.P 275=some ⟨.slice 288,1,24, .nsl⟩:=by kernel_rfl
theorem DI:cD dP.P 277=some ⟨.strct [(195,0),(34,2),(275,3),(264,4),(45,5),(45,6),(3,7)],8,160, .agg [.int .i64 0, .nsl, .nsl, .nsl, .nsl, .nsl, .nsl, .int .i64 0]⟩:=by kernel_rfl
theorem DG:cD dP.P 281=some ⟨.slice 286,1,24, .nsl⟩:=by kernel_rfl
theorem DF:cD dP.P 283=some ⟨.strct [(3,0),(3,1),(3,2),(4,3),(281,4)],5,56, .agg [.int .i64 0, .int .i64 0, .int .i64 0, .bool false, .nsl]⟩:=by kernel_rfl
theorem DD:cD dP.P 286=some ⟨.strct [(3,0),(3,1),(3,2),(46,3)],4,32, .agg [.int .i64 0, .int .i64 0, .int .i64 0, .int .u32 0]⟩:=by kernel_rfl
theorem DC:cD dP.P 288=some ⟨.strct [(3,0),(3,1),(3,2)],3,24, .agg [.int .i64 0, .int .i64 0, .int .i64 0]⟩:=by kernel_rfl
theorem CZ:cD dP.P 306=some ⟨.array 4 3,4,32, .agg [.int .i64 0, .int .i64 0, .int .i64 0, .int .i64 0]⟩:=by kernel_rfl
theorem CY:cD dP.P 309=some ⟨.slice 336,1,24, .nsl⟩:=by kernel_rfl
theorem CX:cD dP.P 312=some ⟨.strct [(3,0),(3,1),(3,2),(309,3),(244,4),(244,5)],6,96, .agg [.int .i64 0, .int .i64 0, .int .i64 0, .nsl, .nsl, .nsl]⟩:=by kernel_rfl
theorem CW:cD dP.P 315=some ⟨.slice 167,1,24, .nsl⟩:=by kernel_rfl
theorem CV:cD dP.P 317=some ⟨.strct [(315,0),(315,1)],2,48, .agg [.nsl, .nsl]⟩:=by kernel_rfl
theorem CU:cD dP.P 324=some ⟨.slice 281,1,24, .nsl⟩:=by kernel_rfl
theorem CS:cD dP.P 327=some ⟨.array 10 9,10,160, .agg [.str [], .str [], .str [], .str [], .str [], .str [], .str [], .str [], .str [], .str []]⟩:=by kernel_rfl
theorem CQ:cD dP.P 336=some ⟨.strct [(3,0),(3,1),(46,2),(3,3),(3,4),(309,5)],6,64, .agg [.int .i64 0, .int .i64 0, .int .u32 0, .int .i64 0, .int .i64 0, .nsl]⟩:=by kernel_rfl
theorem CP:cD dP.P 344=some ⟨.array 24 5,24,24, .agg [.int .u8 0, .int .u8 0, .int .u8 0, .int .u8 0, .int .u8 0, .int .u8 0, .int .u8 0, .int .u8 0, .int .u8 0, .int .u8 0, .int .u8 0, .int .u8 0, .int .u8 0, .int .u8 0, .int .u8 0, .int .u8 0, .int .u8 0, .int .u8 0, .int .u8 0, .int .u8 0, .int .u8 0, .int .u8 0, .int .u8 0, .int .u8 0]⟩:=by kernel_rfl
theorem CO:cD dP.P 353=some ⟨.array 20 172,20,160, .agg [.int .u64 0, .int .u64 0, .int .u64 0, .int .u64 0, .int .u64 0, .int .u64 0, .int .u64 0, .int .u64 0, .int .u64 0, .int .u64 0, .int .u64 0, .int .u64 0, .int .u64 0, .int .u64 0, .int .u64 0, .int .u64 0, .int .u64 0, .int .u64 0, .int .u64 0, .int .u64 0]⟩:=by kernel_rfl
theorem CN:cD dP.P 354=some ⟨.array 65 5,65,65, .agg [.int .u8 0, .int .u8 0, .int .u8 0, .int .u8 0, .int .u8 0, .int .u8 0, .int .u8 0, .int .u8 0, .int .u8 0, .int .u8 0, .int .u8 0, .int .u8 0, .int .u8 0, .int .u8 0, .int .u8 0, .int .u8 0, .int .u8 0, .int .u8 0, .int .u8 0, .int .u8 0, .int .u8 0, .int .u8 0, .int .u8 0, .int .u8 0, .int .u8 0, .int .u8 0, .int .u8 0, .int .u8 0, .int .u8 0, .int .u8 0, .int .u8 0, .int .u8 0, .int .u8 0, .int .u8 0, .int .u8 0, .int .u8 0, .int .u8 0, .int .u8 0, .int .u8 0, .int .u8 0, .int .u8 0, .int .u8 0, .int .u8 0, .int .u8 0, .int .u8 0, .int .u8 0, .int .u8 0, .int .u8 0, .int .u8 0, .int .u8 0, .int .u8 0, .int .u8 0, .int .u8 0, .int .u8 0, .int .u8 0, .int .u8 0, .int .u8 0, .int .u8 0, .int .u8 0, .int .u8 0, .int .u8 0, .int .u8 0, .int .u8 0, .int .u8 0, .int .u8 0]⟩:=by kernel_rfl
theorem CM:cD dP.P 359=some ⟨.array 32 5,32,32, .agg [.int .u8 0, .int .u8 0, .int .u8 0, .int .u8 0, .int .u8 0, .int .u8 0, .int .u8 0, .int .u8 0, .int .u8 0, .int .u8 0, .int .u8 0, .int .u8 0, .int .u8 0, .int .u8 0, .int .u8 0, .int .u8 0, .int .u8 0, .int .u8 0, .int .u8 0, .int .u8 0, .int .u8 0, .int .u8 0, .int .u8 0, .int .u8 0, .int .u8 0, .int .u8 0, .int .u8 0, .int .u8 0, .int .u8 0, .int .u8 0, .int .u8 0, .int .u8 0]⟩:=by kernel_rfl
theorem CL:cD dP.P 360=some ⟨.array 64 5,64,64, .agg [.int .u8 0, .int .u8 0, .int .u8 0, .int .u8 0, .int .u8 0, .int .u8 0, .int .u8 0, .int .u8 0, .int .u8 0, .int .u8 0, .int .u8 0, .int .u8 0, .int .u8 0, .int .u8 0, .int .u8 0, .int .u8 0, .int .u8 0, .int .u8 0, .int .u8 0, .int .u8 0, .int .u8 0, .int .u8 0, .int .u8 0, .int .u8 0, .int .u8 0, .int .u8 0, .int .u8 0, .int .u8 0, .int .u8 0, .int .u8 0, .int .u8 0, .int .u8 0, .int .u8 0, .int .u8 0, .int .u8 0, .int .u8 0, .int .u8 0, .int .u8 0, .int .u8 0, .int .u8 0, .int .u8 0, .int .u8 0, .int .u8 0, .int .u8 0, .int .u8 0, .int .u8 0, .int .u8 0, .int .u8 0, .int .u8 0, .int .u8 0, .int .u8 0, .int .u8 0, .int .u8 0, .int .u8 0, .int .u8 0, .int .u8 0, .int .u8 0, .int .u8 0, .int .u8 0, .int .u8 0, .int .u8 0, .int .u8 0, .int .u8 0, .int .u8 0]⟩:=by kernel_rfl
theorem QM:Gq dP.P 82=some [.str, .int .i64]:=by kernel_rfl
theorem TY:type_of% (And.intro UL<|And.intro UK<|And.intro UI<|And.intro UH<|And.intro QC<|And.intro QB<|And.intro QA<|And.intro PZ<|And.intro PY<|And.intro PX<|And.intro PU<|And.intro PT<|And.intro PS<|And.intro PQ<|And.intro PP<|And.intro PO<|And.intro PN<|And.intro PM<|And.intro PL<|And.intro PK<|And.intro PI<|And.intro PH<|And.intro PG<|And.intro PE<|And.intro CJ<|And.intro PD<|And.intro PC<|And.intro OZ<|And.intro OY<|And.intro OX<|And.intro OW<|And.intro OV<|And.intro FX<|And.intro FW<|And.intro FV<|And.intro FU<|And.intro FR<|And.intro FQ<|And.intro FP<|And.intro FO<|And.intro FN<|And.intro FM<|And.intro FL<|And.intro FK<|And.intro FI<|And.intro FH<|And.intro FG<|And.intro FD<|And.intro FC<|And.intro FB<|And.intro FA<|And.intro EZ<|And.intro EY<|And.intro EW<|And.intro EV<|And.intro EU<|And.intro ET<|And.intro ES<|And.intro EQ<|And.intro EP<|And.intro EO<|And.intro EN<|And.intro EL<|And.intro EK<|And.intro EJ<|And.intro EI<|And.intro EH<|And.intro EG<|And.intro EF<|And.intro EE<|And.intro ED<|And.intro EC<|And.intro EB<|And.intro EA<|And.intro DZ<|And.intro DY<|And.intro DX<|And.intro DW<|And.intro DV<|And.intro DU<|And.intro DT<|And.intro DR<|And.intro DO<|And.intro DN<|And.intro DL<|And.intro DK<|And.intro DJ<|And.intro DI<|And.intro DG<|And.intro DF<|And.intro DD<|And.intro DC<|And.intro CZ<|And.intro CY<|And.intro CX<|And.intro CW<|And.intro CV<|And.intro CU<|And.intro CS<|And.intro CQ<|And.intro CP<|And.intro CO<|And.intro CN<|And.intro CM<|And.intro CL<|And.intro QM<|SO):=And.intro UL<|And.intro UK<|And.intro UI<|And.intro UH<|And.intro QC<|And.intro QB<|And.intro QA<|And.intro PZ<|And.intro PY<|And.intro PX<|And.intro PU<|And.intro PT<|And.intro PS<|And.intro PQ<|And.intro PP<|And.intro PO<|And.intro PN<|And.intro PM<|And.intro PL<|And.intro PK<|And.intro PI<|And.intro PH<|And.intro PG<|And.intro PE<|And.intro CJ<|And.intro PD<|And.intro PC<|And.intro OZ<|And.intro OY<|And.intro OX<|And.intro OW<|And.intro OV<|And.intro FX<|And.intro FW<|And.intro FV<|And.intro FU<|And.intro FR<|And.intro FQ<|And.intro FP<|And.intro FO<|And.intro FN<|And.intro FM<|And.intro FL<|And.intro FK<|And.intro FI<|And.intro FH<|And.intro FG<|And.intro FD<|And.intro FC<|And.intro FB<|And.intro FA<|And.intro EZ<|And.intro EY<|And.intro EW<|And.intro EV<|And.intro EU<|And.intro ET<|And.intro ES<|And.intro EQ<|And.intro EP<|And.intro EO<|And.intro EN<|And.intro EL<|And.intro EK<|And.intro EJ<|And.intro EI<|And.intro EH<|And.intro EG<|And.intro EF<|And.intro EE<|And.intro ED<|And.intro EC<|And.intro EB<|And.intro EA<|And.intro DZ<|And.intro DY<|And.intro DX<|And.intro DW<|And.intro DV<|And.intro DU<|And.intro DT<|And.intro DR<|And.intro DO<|And.intro DN<|And.intro DL<|And.intro DK<|And.intro DJ<|And.intro DI<|And.intro DG<|And.intro DF<|And.intro DD<|And.intro DC<|And.intro CZ<|And.intro CY<|And.intro CX<|And.intro CW<|And.intro CV<|And.intro CU<|And.intro CS<|And.intro CQ<|And.intro CP<|And.intro CO<|And.intro CN<|And.intro CM<|And.intro CL<|And.intro QM<|SO
theorem Q7:JB 0=some (kD.map .str):=rfl
theorem VV:JB 1=some HL:=rfl
theorem RR:type_of% (And.intro AX<|And.intro Q7 TY):=And.intro AX<|And.intro Q7 TY
def Uh (c:Int):Bool:=decide (48≤c)&&decide (c≤57)
def Aw (c:Int):Bool:=decide (97≤c)&&decide (c≤122)||decide (65≤c)&&decide (c≤90)
def QJ (c:Int):Bool:=Aw c||Uh c||decide (c=95)
def xO (c:UInt8):Bool:=QJ c.toNat
theorem uK (c:Int):eH dP 120 [.int .u8 c] (.bool (Uh c)):=by
 refine bY 9 [.tmp 2] func120 ?_;refine aC fun K a=>?_;refine aH ?_;simp only[RR,seval];apply a;refine aC fun K a=>?_;refine aH ?_;simp only[RR,seval]
 repeat' ((refine fH (fun h=>?_) (fun h=>?_))<;>simp only[h,RR,seval])
 all_goals
  apply a;refine aP ?_;simp only[aY,aK,bR,RR,seval];refine aZ.pure ?_;simp [Uh, *]
theorem uL (c:Int):eH dP 117 [.int .u8 c] (.bool (Aw c)):=by
 refine bY 17 [.tmp 2] func117 ?_;refine aC fun K a=>?_;refine aH ?_;simp only[RR,seval];apply a;refine aC fun K a=>?_;refine aH ?_;simp only[RR,seval]
 repeat' ((first|refine cT (fun h=>?_) (fun h=>?_)|refine fH (fun h=>?_) (fun h=>?_))<;>simp only[h,RR,seval])
 all_goals
  apply a;refine aP ?_;simp only[aY,aK,bR,RR,seval];refine aZ.pure ?_;simp [Aw, *]
theorem Oe:eH dP 119 [] (.isl 1 (kD.map fun w=>[.str w])):=by
 refine bY 2 [.tmp 0] func119 ?_;refine aC fun K a=>?_;refine aH ?_;simp only[RR,seval];apply a;refine aC fun K a=>?_;refine aH ?_;simp only[RR,seval];refine dO ?_;simp only[RR,seval];apply a;refine aP ?_;simp only[aY,aK,bR,RR,seval];refine aZ.pure ?_;rfl
theorem IY (ws:List (List UInt8)) (s:List UInt8) (e:ws.length≤1000000):eH dP 118 [.isl 1 (ws.map fun w=>[.str w]), .str s] (.bool (ws.contains s)):=by
 refine bY 18 [.tmp 4] func118 ?_;refine aC fun K a=>?_;refine aH ?_;simp only[RR,seval];refine a _ _ (S9 (fun b H=>ws.contains s=false) ?_ ?_)
 ·refine aC fun K a=>?_;refine aH ?_;simp only[RR,seval]
  refine a _ _ (aQ (Yy (fun n b H=> ∃i:Nat,n=ws.length-i∧i≤ws.length∧(ws.take i).contains s=false∧b 0= .isl 1 (ws.map fun w=>[.str w])∧b 1= .str s∧b 5= .int .i64 i) ws.length ⟨0,rfl,by omega,rfl,rfl,rfl,rfl⟩ ?_));rintro n b H ⟨i,rfl,p,f,g,k,j⟩;refine aI ?_;refine aC fun K a=>?_;refine aH ?_;simp only[RR,seval];simp only[g,j,RR,seval];refine a _ _ (aV ?_ ?_)<;>intro c
  ·refine aL ?_;simp only[bK]
   have d:(i:Int)<(ws.map fun w=>[AV.str w]).length:=aD c;simp only[aG]at d;have e:i<ws.length:=by omega
   have o:(ws.map fun w=>[AV.str w])[i]?=some [.str ws[i]]:=by rw[dM,aF e];rfl
   refine aI (aQ ?_);refine aC fun K a=>?_;refine aH ?_;simp only[RR,seval];simp only[*,RR,seval];refine a _ _ (aV ?_ ?_)<;>intro c
   ·refine aC fun K a=>?_;refine aH ?_;simp only[RR,seval]
    apply a;refine aP ?_;simp only[bK,cL,aY,aK,bR,RR,seval];refine aZ.pure ?_;have :ws[i]=s:=aD c;rw[←this];simp
   refine aL ?_;simp only[bK,cL];refine aH ?_;simp only[RR,seval];simp only[g,k,j,RR,seval];refine⟨ws.length-(i+1),by omega,i+1,rfl,by omega, ?_, ?_⟩
   ·have l: ¬ws[i]=s:=aE c
    rw[bW e];simp only[List.contains_append,f,zJ];simp [Ne.symm l]
   rw[aS _ (by omega)];rfl
  refine cG ?_;simp only[bK,cL,reduceIte];have d: ¬(i:Int)<(ws.map fun w=>[AV.str w]).length:=aE c;simp only[aG]at d;have :i=ws.length:=by omega
  subst this;rw[dG]at f;exact f
 intro b H h;refine aC fun K a=>?_;refine aH ?_;simp only[RR,seval];apply a;refine aP ?_;simp only[aY,aK,bR,RR,seval];refine aZ.pure ?_;rw[h]
def iN (s:List UInt8):Bool:=match s with
 |[]=>false
 |c::r=>decide ((c::r).length≤20)&&(Aw c.toNat&&(decide ((c::r).takeWhile xO=c::r)&& !kD.contains (c::r)))
theorem yF (p:UInt8→Bool): ∀s:List UInt8,decide (s.takeWhile p=s)=s.all p
 |[]=>rfl
 |c::s=>by
  cases h:p c with
  |true=>
   simp only[List.takeWhile,h,dZ,cP,List.cons.injEq,true_and];exact yF p s
  |false=>simp [List.takeWhile,h]
theorem W7 (s:List UInt8) (y:fK s):eH dP 76 [.str s] (.bool (iN s)):=by
 have y:s.length≤9223372036854775807:=y;refine bY 47 [.tmp 2] func76 ?_;refine aC fun K a=>?_;refine aH ?_;simp only[RR,seval];apply a;clear a K;refine aI ?_;refine cN (fun f H=> ∃t,f 22= .bool t∧f 0= .str s∧(t=true→iN s=false)∧(t=false→iN s=s.all xO)) (fun K a=>?_) ?_
 ·cases hsc:s with
  |nil=>
   refine aH ?_;simp only[RR,seval];exact a _ _ ⟨true,rfl,by rw[hsc];rfl,fun _=>by rw[hsc];rfl,fun e=>by cases e⟩
  |cons c r=>
   have b:(c::r)[0]?=some c:=rfl;have x:decide (((c::r).length:Int)=0)=false:=bG (by simp only[aM];omega);rw[←hsc]at b x⊢;have p:iN s=(decide (s.length≤20)&&(Aw c.toNat&&(s.all xO&& !kD.contains s))):=by rw[←yF,hsc];rfl
   clear hsc;refine aH ?_;simp only[RR,seval];simp only[x,RR,seval];refine cT (fun h=>?_) (fun h=>?_)<;>simp only[h,b,RR,seval]
   ·have l:decide (s.length≤20)=true:=cR (by have:=aE h;omega)
    refine aO (uL _) ?_;simp only[RR,seval];refine cT (fun d=>?_) (fun d=>?_)
    ·have d:Aw c.toNat=true:=by simpa using d
     simp only[d,RR,seval];refine aO Oe ?_;simp only[RR,seval];refine aO (IY kD s (by decide)) ?_;simp only[RR,seval];refine a _ _ ⟨_,rfl,rfl,fun e=>?_,fun e=>?_⟩
     ·rw[p,e];simp
     rw[p,e,l,d];simp
    have d:Aw c.toNat=false:=by simpa using d
    simp only[d,RR,seval];exact a _ _ ⟨_,rfl,rfl,fun e=>by rw[p,d];simp,fun e=>by cases e⟩
   have l:decide (s.length≤20)=false:=bG (by have:=aD h;omega);exact a _ _ ⟨_,rfl,rfl,fun e=>by rw[p,l];rfl,fun e=>by cases e⟩
 rintro f H ⟨t,z,b,D,C⟩;refine dY _ z (fun j=>?_) (fun j=>?_)
 ·refine aC fun K a=>?_;refine aH ?_;simp only[RR,seval]
  apply a;clear a K;refine aP ?_;simp only[bK,aY,aK,bR,RR,seval];refine aZ.pure ?_;rw[D j]
 have v:=C j;refine aL ?_;simp only[bK];refine cN (fun f H=>s.all xO=true) (fun K a=>?_) ?_
 ·refine aC fun K a=>?_;refine aH ?_;simp only[RR,seval]
  apply a;clear a K;refine aQ ?_;refine eP (fun n f H=> ∃i:Nat,n=s.length-i∧i≤s.length∧f 0= .str s∧f 3= .int .i64 i∧s.all xO=(s.drop i).all xO) s.length ⟨0,rfl,by omega,b,rfl,by simp⟩ ?_;rintro n f H ⟨i,rfl,F,b,g,k⟩ E B;refine aI ?_;refine aC fun K a=>?_;refine aH ?_;simp only[RR,seval];simp only[b,g,RR,seval];apply a;clear a K;refine aV ?_ ?_<;>intro j
  ·have l:i<s.length:=by have:=aD j;omega
   have o:s[i]?=some s[i]:=aF l;rw[bJ l]at k;simp only[dZ]at k;generalize s[i]=e at o k;refine aL ?_;simp only[bK];refine aI ?_;refine aQ ?_;refine cN (fun f H=>f 46= .bool (!xO e)∧f 0= .str s∧f 3= .int .i64 i) (fun K a=>?_) ?_
   ·refine aH ?_;simp only[RR,seval]
    simp only[b,g,o,RR,seval];refine aO (uL _) ?_;simp only[RR,seval];refine cT (fun d=>?_) (fun d=>?_)<;>simp only[d,b,g,o,RR,seval]
    ·refine aO (uK _) ?_
     simp only[RR,seval];refine cT (fun hd=>?_) (fun hd=>?_)<;>simp only[hd,b,g,o,RR,seval]
     ·repeat' ((refine cT (fun h=>?_) (fun h=>?_))<;>simp only[h,b,g,o,RR,seval])
      all_goals exact a _ _ ⟨by simp [upd,xO,QJ,d,hd],b,g⟩
     exact a _ _ ⟨by simp [upd,xO,QJ,d,hd],b,g⟩
    exact a _ _ ⟨by simp [upd,xO,QJ,d],b,g⟩
   rintro f H ⟨A,b,g⟩;refine dY _ A (fun j=>?_) (fun j=>?_)
   ·have u:xO e=false:=by simpa using j
    refine aC fun K a=>?_;refine aH ?_;simp only[RR,seval];apply a;clear a K;refine aP ?_;simp only[bK,cL,aY,aK,bR,RR,seval];refine aZ.pure ?_;rw[v,k,u];rfl
   have u:xO e=true:=by simpa using j
   rw[u,cP]at k;refine aL ?_;simp only[bK,cL];refine aH ?_;simp only[RR,seval];simp only[g,RR,seval];rw[aS _ (by omega)];exact B (s.length-(i+1)) _ _ (by omega) ⟨i+1,rfl,by omega,b,rfl,k⟩
  refine cG ?_;simp only[bK,cL,reduceIte];have :i=s.length:=by have:=aE j;omega
  subst this;rw[dB]at k;exact a _ _ k
 intro f H h;refine aC fun K a=>?_;refine aH ?_;simp only[RR,seval];apply a;clear a K;refine aP ?_;simp only[aY,aK,bR,RR,seval];refine aZ.pure ?_;rw[v,h]
theorem Xp {s:dD} (h:kD.contains s=true):iN s=false:=by
 cases s with
 |nil=>rfl
 |cons c r=>simp only[iN,h,Rm,YP]
theorem Vl:eH dP 75 [] (.isl 1 (kD.map fun w=>[.str w])):=by
 refine bY 2 [.tmp 0] func75 ?_;refine aC fun K a=>?_;refine aH ?_;simp only[RR,seval];apply a;refine aC fun K a=>?_;refine aH ?_;simp only[RR,seval];refine dO ?_;simp only[RR,seval];apply a;refine aP ?_;simp only[aY,aK,bR,RR,seval];refine aZ.pure ?_;rfl
theorem rY (s:dD) (p:fK s):eH dP 51 [.str s] (.bool (iN s)):=by
 refine bY 20 [.tmp 2] func51 ?_;refine aC fun K a=>?_;refine aH ?_;simp only[RR,seval];apply a;clear a K;refine aC fun K a=>?_;refine aH ?_;simp only[RR,seval];refine aO Vl ?_;simp only[RR,seval];apply a;clear a K;refine cN (fun b H=>b 0= .str s) (fun K a=>?_) ?_
 ·refine aC fun K a=>?_;refine aH ?_;simp only[RR,seval]
  apply a;clear a K;refine aQ ?_;refine eP (fun l b H=> ∃k:Nat,l=kD.length-k∧k≤kD.length∧b 4= .int .i64 k∧b 0= .str s∧b 3= .isl 1 (kD.map fun w=>[.str w])) (kD.length) ⟨0,rfl,cK _,rfl,rfl,rfl⟩ ?_;rintro l b H ⟨k,rfl,u,f,d,e⟩ t n;refine aI ?_;refine aC fun K a=>?_;refine aH ?_;simp only[RR,seval];simp only[f,e,aG,RR,seval];apply a;clear a K;refine aV ?_ ?_<;>intro c
  ·have i:k<kD.length:=by have:=aD c;omega
   clear c;refine aL ?_;simp only[bK];refine aI ?_;refine aQ ?_;have g:(kD.map fun w=>[AV.str w])[k]?=some [.str kD[k]]:=by rw[dM,aF i];rfl
   have j:=bX i;generalize kD[k]=w at g j;refine aC fun K a=>?_;refine aH ?_;simp only[RR,seval];simp only[d,e,f,g,RR,seval];apply a;clear a K;refine aV ?_ ?_<;>intro c
   ·refine aC fun K a=>?_;refine aH ?_;simp only[RR,seval]
    apply a;clear a K;refine aP ?_;simp only[bK,cL,aY,aK,bR,RR,seval];refine aZ.pure ?_;have :s=w:=aD c;subst this;rw[Xp (by simpa using j)]
   have v:kD.length=10:=rfl;refine aL ?_;simp only[bK,cL];refine aH ?_;simp only[RR,seval];simp only[f,bK,RR,seval];rw[aS _ (by omega)];refine n (kD.length-(k+1)) _ _ (by omega) ⟨k+1,rfl,by omega,rfl,d,e⟩
  refine cG ?_;simp only[bK,cL,reduceIte];have o:k=kD.length:=by have:=aE c;omega
  clear c;subst o;exact a _ _ d
 rintro b H d;refine aC fun K a=>?_;refine aH ?_;simp only[RR,seval];simp only[d,seval];refine aO (W7 s p) ?_;simp only[RR,seval];apply a;clear a K;refine aP ?_;simp only[aY,aK,bR,RR,seval];refine aZ.pure ?_;rfl
theorem wJ (l:List dD) (n:VC l):eH dP 50 [.isl 1 (l.map bM)] (.bool (l.all iN)):=by
 have v:l.length≤9223372036854775807:=n.fit;refine bY 16 [.tmp 2] func50 ?_;refine aC fun K a=>?_;refine aH ?_;simp only[RR,seval];apply a;clear a K;refine cN (fun d H=>l.all iN=true) (fun K a=>?_) ?_
 ·refine aC fun K a=>?_;refine aH ?_;simp only[RR,seval]
  apply a;clear a K;refine aQ ?_;refine eP (fun o d H=> ∃k:Nat,o=l.length-k∧k≤l.length∧d 3= .int .i64 k∧d 0= .isl 1 (l.map bM)∧l.all iN=(l.drop k).all iN) (l.length) ⟨0,rfl,cK _,rfl,rfl,by rw[dN]⟩ ?_;rintro o d H ⟨k,rfl,x,f,e,c⟩ u p;refine aI ?_;refine aC fun K a=>?_;refine aH ?_;simp only[RR,seval];simp only[f,e,aG,RR,seval];apply a;clear a K;refine aV ?_ ?_<;>intro b
  ·have g:k<l.length:=by have:=aD b;omega
   clear b;refine aL ?_;simp only[bK];refine aI ?_;refine aQ ?_;have j:=Ye (aF g);have i:=n.all _ (bX g);rw[bJ g,dZ]at c;generalize l[k]=s at j c i;refine aC fun K a=>?_;refine aH ?_;simp only[RR,seval];simp only[e,f,j,RR,seval];refine aO (rY s i) ?_;simp only[RR,seval];apply a;clear a K;refine dY (!iN s) rfl (fun b=>?_) (fun b=>?_)
   ·refine aC fun K a=>?_;refine aH ?_;simp only[RR,seval]
    apply a;clear a K;refine aP ?_;simp only[bK,cL,aY,aK,bR,RR,seval];refine aZ.pure ?_;rw[c,show iN s=false by simpa using b];rfl
   refine aL ?_;simp only[bK,cL];rw[show iN s=true by simpa using b,cP]at c;refine aH ?_;simp only[RR,seval];simp only[f,bK,RR,seval];rw[aS _ (by omega)];refine p (l.length-(k+1)) _ _ (by omega) ⟨k+1,rfl,by omega,rfl,e,c⟩
  refine cG ?_;simp only[bK,cL,reduceIte];have t:k=l.length:=by have:=aE b;omega
  clear b;subst t;rw[dB]at c;exact a _ _ c
 rintro d H e;refine aC fun K a=>?_;refine aH ?_;simp only[RR,seval];apply a;clear a K;refine aP ?_;simp only[aY,aK,bR,RR,seval];refine aZ.pure ?_;rw[e]
def IZ (e:Ex) (level:Int):Bool:=
 decide (level≤24)&&(decide (e.kind=6)||decide (e.op=0))&&(decide (e.kind=1)||decide (e.num=0))&&
  (if e.kind=2∨e.kind=3∨e.kind=4 then iN e.name else decide (e.name=[]))
def nD (k o:Int) (n:Nat):Bool:=
 if k=1∨k=2∨k=5 then decide (n=0)else if k=3∨k=7 then decide (n=1)else if k=4 then decide (n≤6)
 else if k=6 then decide (4≤o)&&decide (o≤15)&&decide (n=2)else if k=8∨k=9 then decide (n=2)else false
def lC:List Ex→Int→Bool
 |[],_=>true
 | .mk k o n s kids::l,level=>IZ (.mk k o n s kids) level&&nD k o kids.length&&lC kids (level+1)&&lC l level
def lN (e:Ex) (level:Int):Bool:=IZ e level&&nD e.kind e.op e.kids.length&&lC e.kids (level+1)
theorem qD (e:Ex) (l:List Ex) (a:Int):lC (e::l) a=(lN e a&&lC l a):=by
 cases e;rw[lC];rfl
theorem oN (a:Int):lC [] a=true:=by rw[lC]
theorem Ll (e:Ex) (G:e.ok) (d:Int) (h1: -1000000≤d) (h2:d≤1000000)
  (S:d≤24→eH dP 121 [.isl 5 (e.kids.map Ex.row), .int .i64 (d+1)] (.bool (lC e.kids (d+1)))):
  eH dP 181 [.agg e.row, .int .i64 d] (.bool (lN e d)):=by
 have P:=rY e.name G.name;have R:=e.row_eq;generalize I:lN e d=Z;rw[R];have X:e.kids.length≤9223372036854775807:=G.kids.fit;obtain⟨k,o,n,s,l⟩:=e;simp only[Ex.kind,Ex.op,Ex.num,Ex.name,Ex.kids]at S P X⊢;clear R G;have O:lN (.mk k o n s l) d=((decide (d≤24)&&(decide (k=6)||decide (o=0))&&(decide (k=1)||decide (n=0)))&&(if k=2∨k=3∨k=4 then iN s else decide (s=[]))&&nD k o l.length&&lC l (d+1)):=rfl;refine bY 123 [.tmp 4] func181 ?_;refine cN (fun g H=> ∃b,g 1= .int .i64 d∧g 2= .ptr 5 b 0 0∧H b=some (.rows 5 [[.int .i64 k, .int .i64 o, .int .u32 n, .str s, .isl 5 (l.map Ex.row)]])) (fun K a=>?_) ?_
 ·refine aH ?_;simp only[RR,seval]
  refine aN fun b c=>?_;simp only[RR,seval];exact a _ _ ⟨b,rfl,rfl,bC _ _ _⟩
 rintro g H ⟨b,j,f,c⟩;refine aI (cN (fun g H=> ∃t,g 28= .bool t∧(t= !(decide (d≤24)&&(decide (k=6)||decide (o=0))&&(decide (k=1)||decide (n=0))))∧g 1= .int .i64 d∧g 2= .ptr 5 b 0 0∧H b=some (.rows 5 [[.int .i64 k, .int .i64 o, .int .u32 n, .str s, .isl 5 (l.map Ex.row)]])) (fun K a=>?_) ?_)
 ·refine aH ?_;simp only[RR,seval]
  simp only[j,RR,seval]
  repeat' ((refine cT (fun h=>?_) (fun h=>?_))<;>simp only[h,f,c,RR,seval])
  all_goals
   refine a _ _ ⟨_,rfl, ?_,j,f,c⟩;simp_all<;>omega
 rintro g H ⟨t,L,i,j,f,c⟩;refine dY _ L (fun p=>?_) (fun p=>?_)
 ·refine aC fun K a=>?_;refine aH ?_;simp only[RR,seval]
  apply a;refine aP ?_;simp only[bK,aY,aK,bR,RR,seval];refine aZ.pure ?_;rw[←I]
  have :(decide (d≤24)&&(decide (k=6)||decide (o=0))&&(decide (k=1)||decide (n=0)))=false:=by
   cases e:(decide (d≤24)&&(decide (k=6)||decide (o=0))&&(decide (k=1)||decide (n=0)))with
   |false=>rfl
   |true=>rw[e,p]at i;cases i
  rw[O,this];rfl
 have C:(decide (d≤24)&&(decide (k=6)||decide (o=0))&&(decide (k=1)||decide (n=0)))=true:=by
  cases e:(decide (d≤24)&&(decide (k=6)||decide (o=0))&&(decide (k=1)||decide (n=0)))with
  |true=>rfl
  |false=>rw[e,p]at i;cases i
 have Y:d≤24:=by simp only[aX,bP]at C;exact C.1.1
 have J:Z=((if k=2∨k=3∨k=4 then iN s else decide (s=[]))&&nD k o l.length&&lC l (d+1)):=by
  rw[←I,O,C,cP]
 have x:=S Y;clear i p L t;refine aL ?_;simp only[bK];refine cN (fun g H=>g 5= .bool (decide (k=2∨k=3∨k=4))∧g 1= .int .i64 d∧g 2= .ptr 5 b 0 0∧H b=some (.rows 5 [[.int .i64 k, .int .i64 o, .int .u32 n, .str s, .isl 5 (l.map Ex.row)]])) (fun K a=>?_) ?_
 ·refine aH ?_;simp only[RR,seval]
  simp only[f,c,RR,seval]
  repeat' ((refine cT (fun h=>?_) (fun h=>?_))<;>simp only[h,f,c,RR,seval])
  all_goals
   refine a _ _ ⟨?_,j,f,c⟩;simp [upd];simp_all
 rintro g H ⟨M,j,f,c⟩;refine aI (cN (fun g H=> ∃t,g 55= .bool t∧(t= !(if k=2∨k=3∨k=4 then iN s else decide (s=[])))∧g 1= .int .i64 d∧g 2= .ptr 5 b 0 0∧H b=some (.rows 5 [[.int .i64 k, .int .i64 o, .int .u32 n, .str s, .isl 5 (l.map Ex.row)]])) (fun K a=>?_) ?_)
 ·by_cases u:k=2∨k=3∨k=4
  ·have F:decide (k=2∨k=3∨k=4)=true:=cR u
   rw[F]at M;by_cases v:s=[]
   ·have A:decide (s=[])=true:=cR v
    refine aH ?_;simp only[RR,seval];simp only[*,RR,seval];exact a _ _ ⟨_,rfl,by rw[bD u,v];rfl,j,f,c⟩
   have A:decide (s=[])=false:=bG v;refine aH ?_;simp only[RR,seval];simp only[*,RR,seval];refine aO P ?_;simp only[RR,seval];refine a _ _ ⟨_,rfl,by rw[bD u],j,f,c⟩
  have F:decide (k=2∨k=3∨k=4)=false:=bG u;rw[F]at M;by_cases v:s=[]
  ·have A:decide (s=[])=true:=cR v
   refine aH ?_;simp only[RR,seval];simp only[*,RR,seval];exact a _ _ ⟨_,rfl,by rw[aJ u,A];rfl,j,f,c⟩
  have A:decide (s=[])=false:=bG v;refine aH ?_;simp only[RR,seval];simp only[*,RR,seval];exact a _ _ ⟨_,rfl,by rw[aJ u,A];rfl,j,f,c⟩
 rintro g H ⟨t,N,i,j,f,c⟩;refine dY _ N (fun p=>?_) (fun p=>?_)
 ·refine aC fun K a=>?_;refine aH ?_;simp only[RR,seval]
  apply a;refine aP ?_;simp only[bK,aY,aK,bR,RR,seval];refine aZ.pure ?_
  have :(if k=2∨k=3∨k=4 then iN s else decide (s=[]))=false:=by
   rw[p]at i
   cases e:(if k=2∨k=3∨k=4 then iN s else decide (s=[]))with
   |false=>rfl
   |true=>rw[e]at i;cases i
  rw[J,this];rfl
 have Q:(if k=2∨k=3∨k=4 then iN s else decide (s=[]))=true:=by
  rw[p]at i
  cases e:(if k=2∨k=3∨k=4 then iN s else decide (s=[]))with
  |true=>rfl
  |false=>rw[e]at i;cases i
 rw[Q,cP]at J;clear i p N t C Q I;refine aL ?_;simp only[bK];refine aC fun K a=>?_;refine aH ?_;simp only[RR,seval];simp only[f,c,aG,RR,seval];apply a;have y:IntKind.wrap .i64 (d+1)=d+1:=aS _ (by omega);have D: ∀m:Nat,decide ((l.length:Int)=m)=decide (l.length=m):=fun m=>by rw[eK];simp only[bP];omega
 have T:decide ((l.length:Int)≤6)=decide (l.length≤6):=by rw[eK];simp only[bP];omega
 have E:decide ((l.length:Int)=0)=decide (l.length=0):=D 0;have B:decide ((l.length:Int)=1)=decide (l.length=1):=D 1;have z:decide ((l.length:Int)=2)=decide (l.length=2):=D 2;clear D;subst J;by_cases k1:k=1
 ·subst k1
  repeat' (first|(refine aC fun K a=>?_;refine aH ?_;simp only[f,c,E,RR,seval];apply a;clear a K)|(refine aI ?_)|(refine aQ ?_)|(refine cM ?_)|(refine aL ?_;simp only[bK])|(refine aP ?_;simp only[bK,cL,aY,aK,bR,RR,seval];refine aZ.pure ?_))
  cases l with
  |nil=>simp only[nD,oN];rfl
  |cons=>simp [nD]
 by_cases k1:k=2
 ·subst k1
  repeat' (first|(refine aC fun K a=>?_;refine aH ?_;simp only[f,c,E,RR,seval];apply a;clear a K)|(refine aI ?_)|(refine aQ ?_)|(refine cM ?_)|(refine bI ?_)|(refine aL ?_;simp only[bK])|(refine aP ?_;simp only[bK,cL,aY,aK,bR,RR,seval];refine aZ.pure ?_))
  cases l with
  |nil=>simp only[nD,oN];rfl
  |cons=>simp [nD]
 by_cases k1:k=5
 ·subst k1
  repeat' (first|(refine aC fun K a=>?_;refine aH ?_;simp only[f,c,E,RR,seval];apply a;clear a K)|(refine aI ?_)|(refine aQ ?_)|(refine cM ?_)|(refine bI ?_)|(refine aH ?_;simp only[bK,RR,seval])|(refine aP ?_;simp only[bK,cL,aY,aK,bR,RR,seval];refine aZ.pure ?_))
  cases l with
  |nil=>simp only[nD,oN];rfl
  |cons=>simp [nD]
 by_cases k1:k=3
 ·subst k1
  repeat' (first|(refine aC fun K a=>?_;refine aH ?_;simp only[f,c,B,RR,seval];apply a;clear a K)|(refine aI ?_)|(refine aQ ?_)|(refine cM ?_)|(refine bI ?_)|(refine aL ?_;simp only[bK])|(refine aH ?_;simp only[B,bK,RR,seval])|(refine fH (fun h=>?_) (fun h=>?_)<;>simp only[*,y,bK,RR,seval])|(refine aP ?_;simp only[bK,cL,aY,aK,bR,RR,seval];refine aZ.pure ?_)|(refine aO (x) ?_;simp only[bK,RR,seval]))
  all_goals simp [nD, *]
 by_cases k1:k=7
 ·subst k1
  repeat' (first|(refine aC fun K a=>?_;refine aH ?_;simp only[f,c,B,RR,seval];apply a;clear a K)|(refine aI ?_)|(refine aQ ?_)|(refine cM ?_)|(refine bI ?_)|(refine aH ?_;simp only[B,bK,RR,seval])|(refine fH (fun h=>?_) (fun h=>?_)<;>simp only[*,y,bK,RR,seval])|(refine aP ?_;simp only[bK,cL,aY,aK,bR,RR,seval];refine aZ.pure ?_)|(refine aO (x) ?_;simp only[bK,RR,seval]))
  all_goals simp [nD, *]
 by_cases k1:k=4
 ·subst k1
  repeat' (first|(refine aC fun K a=>?_;refine aH ?_;simp only[f,c,T,RR,seval];apply a;clear a K)|(refine aI ?_)|(refine aQ ?_)|(refine cM ?_)|(refine bI ?_)|(refine aH ?_;simp only[T,bK,RR,seval])|(refine fH (fun h=>?_) (fun h=>?_)<;>simp only[*,y,bK,RR,seval])|(refine aP ?_;simp only[bK,cL,aY,aK,bR,RR,seval];refine aZ.pure ?_)|(refine aO (x) ?_;simp only[bK,RR,seval]))
  all_goals simp [nD, *]
 by_cases k1:k=6
 ·subst k1
  repeat' (first|(refine aC fun K a=>?_;refine aH ?_;simp only[f,c,RR,seval];apply a;clear a K)|(refine aI ?_)|(refine aQ ?_)|(refine cM ?_)|(refine bI ?_)|(refine aH ?_;simp only[f,c,bK,RR,seval])|(refine fH (fun h=>?_) (fun h=>?_)<;>simp only[*,z,y,bK,RR,seval])|(refine aP ?_;simp only[bK,cL,aY,aK,bR,RR,seval];refine aZ.pure ?_)|(refine aO (x) ?_;simp only[bK,RR,seval]))
  all_goals simp [nD, *]
 by_cases k1:k=8
 ·subst k1
  repeat' (first|(refine aC fun K a=>?_;refine aH ?_;simp only[f,c,z,RR,seval];apply a;clear a K)|(refine aI ?_)|(refine aQ ?_)|(refine cM ?_)|(refine bI ?_)|(refine aL ?_;simp only[bK])|(refine aH ?_;simp only[z,bK,RR,seval])|(refine fH (fun h=>?_) (fun h=>?_)<;>simp only[*,y,bK,RR,seval])|(refine aP ?_;simp only[bK,cL,aY,aK,bR,RR,seval];refine aZ.pure ?_)|(refine aO (x) ?_;simp only[bK,RR,seval]))
  all_goals simp [nD, *]
 by_cases k1:k=9
 ·subst k1
  repeat' (first|(refine aC fun K a=>?_;refine aH ?_;simp only[f,c,z,RR,seval];apply a;clear a K)|(refine aI ?_)|(refine aQ ?_)|(refine cM ?_)|(refine bI ?_)|(refine aH ?_;simp only[z,bK,RR,seval])|(refine fH (fun h=>?_) (fun h=>?_)<;>simp only[*,y,bK,RR,seval])|(refine aP ?_;simp only[bK,cL,aY,aK,bR,RR,seval];refine aZ.pure ?_)|(refine aO (x) ?_;simp only[bK,RR,seval]))
  all_goals simp [nD, *]
 have g1:decide (k=1)=false:=bG (by assumption);have g2:decide (k=2)=false:=bG (by assumption);have g3:decide (k=3)=false:=bG (by assumption);have g4:decide (k=4)=false:=bG (by assumption);have U:decide (k=5)=false:=bG (by assumption);have g6:decide (k=6)=false:=bG (by assumption);have V:decide (k=7)=false:=bG (by assumption);have g8:decide (k=8)=false:=bG (by assumption);have W:decide (k=9)=false:=bG (by assumption)
 repeat' (first|(refine aC fun K a=>?_;refine aH ?_;simp only[*,RR,seval];apply a;clear a K)|(refine aI ?_)|(refine aQ ?_)|(refine bI ?_)|(refine aL ?_;simp only[bK,cL])|(refine aH ?_;simp only[U,V,W,bK,RR,seval])|(refine aP ?_;simp only[aY,aK,bR,RR,seval];refine aZ.pure ?_))
 simp [nD, *]
theorem Lj (n:Nat): ∀(l:List Ex) (b:Int),Fp l=n→Br l→ -1000000≤b→b≤1000000→eH dP 121 [.isl 5 (l.map Ex.row), .int .i64 b] (.bool (lC l b)):=by
 induction n using Nat.strongRecOn with
 |_ n ih=>
  intro l b L v y z;have G:l.length≤9223372036854775807:=v.fit;refine bY 19 [.tmp 4] func121 ?_;refine aC fun K a=>?_;refine aH ?_;simp only[RR,seval];apply a;clear a K;refine cN (fun f H=>lC l b=true) (fun K a=>?_) ?_
  ·refine aC fun K a=>?_;refine aH ?_;simp only[RR,seval]
   apply a;clear a K;refine aQ ?_;refine eP (fun x f H=> ∃k:Nat,x=l.length-k∧k≤l.length∧f 5= .int .i64 k∧f 0= .isl 5 (l.map Ex.row)∧f 1= .int .i64 b∧lC l b=lC (l.drop k) b) (l.length) ⟨0,rfl,cK _,rfl,rfl,rfl,by rw[dN]⟩ ?_;rintro x f H ⟨k,rfl,I,j,g,p,d⟩ F A;refine aI ?_;refine aC fun K a=>?_;refine aH ?_;simp only[RR,seval];simp only[j,g,aG,RR,seval];apply a;clear a K;refine aV ?_ ?_<;>intro c
   ·have o:k<l.length:=by have:=aD c;omega
    clear c;refine aL ?_;simp only[bK];refine aI ?_;refine aQ ?_;have t:=uT Ex.row (aF o);have u:=bX o;have i:=v.all _ u;have E:=nN u;rw[bJ o,qD]at d;generalize l[k]=e at t d i E;have M:=e.sz_eq;have D:=e.row_len;have B:=Ll e i b y z (fun J=>ih _ (by omega) e.kids (b+1) rfl i.kids (by omega) (by omega));refine aC fun K a=>?_;refine aH ?_;simp only[RR,seval];simp only[g,p,j,t,D,RR,seval];rw[sH (by omega)];refine aO B ?_;simp only[RR,seval];apply a;clear a K;refine dY (!lN e b) rfl (fun c=>?_) (fun c=>?_)
    ·refine aC fun K a=>?_;refine aH ?_;simp only[RR,seval]
     apply a;clear a K;refine aP ?_;simp only[bK,cL,aY,aK,bR,RR,seval];refine aZ.pure ?_;rw[d,show lN e b=false by simpa using c];rfl
    refine aL ?_;simp only[bK,cL];rw[show lN e b=true by simpa using c,cP]at d;refine aH ?_;simp only[RR,seval];simp only[j,bK,RR,seval];rw[aS _ (by omega)];refine A (l.length-(k+1)) _ _ (by omega) ⟨k+1,rfl,by omega,rfl,g,p,d⟩
   refine cG ?_;simp only[bK,cL,reduceIte];have C:k=l.length:=by have:=aE c;omega
   clear c;subst C;rw[dB,oN]at d;exact a _ _ d
  rintro f H g;refine aC fun K a=>?_;refine aH ?_;simp only[RR,seval];apply a;clear a K;refine aP ?_;simp only[aY,aK,bR,RR,seval];refine aZ.pure ?_;rw[g]
def Q5 (s:Sm) (level:Int):Bool:=
 decide (level≤24)&&(decide (s.kind=4)||decide (s.els.length=0))&&(decide (s.kind=4)||decide (s.kind=5)||decide (s.thn.length=0))&&
  (if s.kind=1∨s.kind=2∨s.kind=6 then iN s.name else decide (s.name=[]))
def Nw (k:Int) (n:Nat):Bool:=
 if k=1∨k=3∨k=4∨k=5 then decide (n=1)else if k=2 then decide (n=2)else if k=6 then decide (n≤6)else if k=7 then decide (n≤1)else false
def jN:List Sm→Int→Bool
 |[],_=>true
 | .mk k s es t u::l,level=>Q5 (.mk k s es t u) level&&Nw k es.length&&lC es (level+1)&&jN t (level+1)&&jN u (level+1)&&jN l level
def lO (s:Sm) (level:Int):Bool:=Q5 s level&&Nw s.kind s.es.length&&lC s.es (level+1)&&jN s.thn (level+1)&&jN s.els (level+1)
theorem qC (e:Sm) (l:List Sm) (a:Int):jN (e::l) a=(lO e a&&jN l a):=by
 cases e;rw[jN];rfl
theorem uJ (a:Int):jN [] a=true:=by rw[jN]
def pO (a:Ar):Bool:=iN a.name&&decide (1≤a.size)&&decide (a.size≤4096)
def lP (f:Fu):Bool:=iN f.name&&decide (f.params.length≤6)&&f.params.all iN&&f.locs.all iN&&jN f.body 1
def gL (p:Pg):Bool:=p.vars.all iN&&decide (1≤p.funs.length)&&decide (p.funs.length≤64)&&p.arrs.all pO&&p.funs.all lP
theorem TA {a b:Bool} (h:a= !b) (c:a=true):b=false:=by subst c;cases b<;>simp_all
theorem SZ {a b:Bool} (h:a= !b) (c:a=false):b=true:=by subst c;cases b<;>simp_all
theorem Lh (e:Sm) (y:e.ok) (f:Int) (h1: -1000000≤f) (h2:f≤1000000)
  (R:f≤24→ ∀x,x=e.thn∨x=e.els→eH dP 52 [.isl 5 (x.map Sm.row), .int .i64 (f+1)] (.bool (jN x (f+1)))):
  eH dP 77 [.agg e.row, .int .i64 f] (.bool (lO e f)):=by
 have P:=rY e.name y.name;have O:=fun h=>Lj _ e.es (f+1) rfl y.es (by omega) h;have Q:=e.row_eq;generalize N:lO e f=a1;rw[Q];have X:e.es.length≤9223372036854775807:=y.es.fit;have Y:e.thn.length≤9223372036854775807:=y.thn.fit;have C:e.els.length≤9223372036854775807:=y.els.fit;obtain⟨k,s,l,j,u⟩:=e;simp only[Sm.kind,Sm.name,Sm.es,Sm.thn,Sm.els]at R P O X Y C⊢;clear Q y;have v:lO (.mk k s l j u) f=((decide (f≤24)&&(decide (k=4)||decide (u.length=0))&&(decide (k=4)||decide (k=5)||decide (j.length=0)))&&(if k=1∨k=2∨k=6 then iN s else decide (s=[]))&&Nw k l.length&&lC l (f+1)&&jN j (f+1)&&jN u (f+1)):=rfl;rw[N]at v;clear N;refine bY 110 [.tmp 4] func77 ?_;refine cN (fun g H=> ∃b,g 1= .int .i64 f∧g 2= .ptr 5 b 0 0∧H b=some (.rows 5 [[.int .i64 k, .str s, .isl 5 (l.map Ex.row), .isl 5 (j.map Sm.row), .isl 5 (u.map Sm.row)]])) (fun K a=>?_) ?_
 ·refine aH ?_;simp only[RR,seval]
  refine aN fun b c=>?_;simp only[RR,seval];exact a _ _ ⟨b,rfl,rfl,bC _ _ _⟩
 rintro g H ⟨b,i,d,c⟩;refine aI (cN (fun g H=> ∃t,g 36= .bool t∧(t= !(decide (f≤24)&&(decide (k=4)||decide (u.length=0))&&(decide (k=4)||decide (k=5)||decide (j.length=0))))∧g 1= .int .i64 f∧g 2= .ptr 5 b 0 0∧H b=some (.rows 5 [[.int .i64 k, .str s, .isl 5 (l.map Ex.row), .isl 5 (j.map Sm.row), .isl 5 (u.map Sm.row)]])) (fun K a=>?_) ?_)
 ·have p:decide ((0:Int)<u.length)= !decide (u.length=0):=by rw[eK];simp only[bP,eJ,eX];omega
  have G:decide ((0:Int)<j.length)= !decide (j.length=0):=by rw[eK];simp only[bP,eJ,eX];omega
  refine aH ?_;simp only[RR,seval];simp only[i,RR,seval]
  repeat' ((refine cT (fun h=>?_) (fun h=>?_))<;>simp only[h,d,c,aG,p,G,RR,seval])
  all_goals
   refine a _ _ ⟨_,rfl, ?_,i,d,c⟩;simp_all<;>omega
 rintro g H ⟨t,L,n,i,d,c⟩;refine dY _ L (fun o=>?_) (fun o=>?_)
 ·have:=TA n o
  refine aC fun K a=>?_;refine aH ?_;simp only[RR,seval];apply a;refine aP ?_;simp only[bK,aY,aK,bR,RR,seval];refine aZ.pure ?_;rw[v,this];rfl
 have D:=SZ n o;have a0:f≤24:=by simp only[aX,bP]at D;exact D.1.1
 rw[D,cP]at v;have S:=R a0;have E:=O (by omega);clear n o L t;refine aL ?_;simp only[bK];refine cN (fun g H=>g 5= .bool (decide (k=1∨k=2∨k=6))∧g 1= .int .i64 f∧g 2= .ptr 5 b 0 0∧H b=some (.rows 5 [[.int .i64 k, .str s, .isl 5 (l.map Ex.row), .isl 5 (j.map Sm.row), .isl 5 (u.map Sm.row)]])) (fun K a=>?_) ?_
 ·refine aH ?_;simp only[RR,seval]
  simp only[d,c,RR,seval]
  repeat' ((refine cT (fun h=>?_) (fun h=>?_))<;>simp only[h,d,c,RR,seval])
  all_goals
   refine a _ _ ⟨?_,i,d,c⟩;simp [upd];simp_all
 rintro g H ⟨C,i,d,c⟩;refine aI (cN (fun g H=> ∃t,g 63= .bool t∧(t= !(if k=1∨k=2∨k=6 then iN s else decide (s=[])))∧g 1= .int .i64 f∧g 2= .ptr 5 b 0 0∧H b=some (.rows 5 [[.int .i64 k, .str s, .isl 5 (l.map Ex.row), .isl 5 (j.map Sm.row), .isl 5 (u.map Sm.row)]])) (fun K a=>?_) ?_)
 ·by_cases z:k=1∨k=2∨k=6
  ·have I:decide (k=1∨k=2∨k=6)=true:=cR z
   rw[I]at C;by_cases A:s=[]
   ·have B:decide (s=[])=true:=cR A
    refine aH ?_;simp only[RR,seval];simp only[*,RR,seval];exact a _ _ ⟨_,rfl,by rw[bD z,A];rfl,i,d,c⟩
   have B:decide (s=[])=false:=bG A;refine aH ?_;simp only[RR,seval];simp only[*,RR,seval];refine aO P ?_;simp only[RR,seval];refine a _ _ ⟨_,rfl,by rw[bD z],i,d,c⟩
  have I:decide (k=1∨k=2∨k=6)=false:=bG z;rw[I]at C;by_cases A:s=[]
  ·have B:decide (s=[])=true:=cR A
   refine aH ?_;simp only[RR,seval];simp only[*,RR,seval];exact a _ _ ⟨_,rfl,by rw[aJ z,B];rfl,i,d,c⟩
  have B:decide (s=[])=false:=bG A;refine aH ?_;simp only[RR,seval];simp only[*,RR,seval];exact a _ _ ⟨_,rfl,by rw[aJ z,B];rfl,i,d,c⟩
 rintro g H ⟨t,M,n,i,d,c⟩;refine dY _ M (fun o=>?_) (fun o=>?_)
 ·have:=TA n o
  refine aC fun K a=>?_;refine aH ?_;simp only[RR,seval];apply a;refine aP ?_;simp only[bK,aY,aK,bR,RR,seval];refine aZ.pure ?_;rw[v,this];rfl
 rw[SZ n o,cP]at v;clear n o M t D;refine aL ?_;simp only[bK];refine aC fun K a=>?_;refine aH ?_;simp only[RR,seval];simp only[d,c,aG,RR,seval];apply a;refine aC fun K a=>?_;refine aH ?_;simp only[RR,seval];apply a;have F:IntKind.wrap .i64 (f+1)=f+1:=aS _ (by omega);refine cN (fun g H=>g 7= .bool (Nw k l.length)∧g 1= .int .i64 f∧g 2= .ptr 5 b 0 0∧H b=some (.rows 5 [[.int .i64 k, .str s, .isl 5 (l.map Ex.row), .isl 5 (j.map Sm.row), .isl 5 (u.map Sm.row)]])) (fun K a=>?_) ?_
 ·have p:decide ((l.length:Int)=1)=decide (l.length=1):=by rw[eK];simp only[bP];omega
  have G:decide ((l.length:Int)=2)=decide (l.length=2):=by rw[eK];simp only[bP];omega
  have V:decide ((l.length:Int)≤6)=decide (l.length≤6):=by rw[eK];simp only[bP];omega
  have W:decide ((l.length:Int)≤1)=decide (l.length≤1):=by rw[eK];simp only[bP];omega
  by_cases k1:k=1
  ·subst k1
   repeat' (first|(refine aC fun K a=>?_;refine aH ?_;simp only[d,c,RR,seval];apply a;clear a K)|(refine aI ?_)|(refine aQ ?_)|(refine cM ?_)|(refine aL ?_;simp only[bK])|(refine aH ?_;simp only[p,bK,cL,RR,seval]))
   exact a _ _ ⟨rfl,i,d,c⟩
  by_cases k1:k=3
  ·subst k1
   repeat' (first|(refine aC fun K a=>?_;refine aH ?_;simp only[d,c,RR,seval];apply a;clear a K)|(refine aI ?_)|(refine aQ ?_)|(refine cM ?_)|(refine bI ?_)|(refine aL ?_;simp only[bK])|(refine aH ?_;simp only[p,bK,cL,RR,seval]))
   exact a _ _ ⟨rfl,i,d,c⟩
  by_cases k1:k=4
  ·subst k1
   repeat' (first|(refine aC fun K a=>?_;refine aH ?_;simp only[d,c,RR,seval];apply a;clear a K)|(refine aI ?_)|(refine aQ ?_)|(refine cM ?_)|(refine bI ?_)|(refine aL ?_;simp only[bK])|(refine aH ?_;simp only[p,bK,cL,RR,seval]))
   exact a _ _ ⟨rfl,i,d,c⟩
  by_cases k1:k=5
  ·subst k1
   repeat' (first|(refine aC fun K a=>?_;refine aH ?_;simp only[d,c,RR,seval];apply a;clear a K)|(refine aI ?_)|(refine aQ ?_)|(refine cM ?_)|(refine bI ?_)|(refine aH ?_;simp only[p,bK,cL,RR,seval]))
   exact a _ _ ⟨rfl,i,d,c⟩
  by_cases k1:k=2
  ·subst k1
   repeat' (first|(refine aC fun K a=>?_;refine aH ?_;simp only[d,c,RR,seval];apply a;clear a K)|(refine aI ?_)|(refine aQ ?_)|(refine cM ?_)|(refine bI ?_)|(refine aH ?_;simp only[G,bK,cL,RR,seval]))
   exact a _ _ ⟨rfl,i,d,c⟩
  by_cases k1:k=6
  ·subst k1
   repeat' (first|(refine aC fun K a=>?_;refine aH ?_;simp only[d,c,RR,seval];apply a;clear a K)|(refine aI ?_)|(refine aQ ?_)|(refine cM ?_)|(refine bI ?_)|(refine aH ?_;simp only[V,bK,cL,RR,seval]))
   exact a _ _ ⟨rfl,i,d,c⟩
  by_cases k1:k=7
  ·subst k1
   repeat' (first|(refine aC fun K a=>?_;refine aH ?_;simp only[d,c,RR,seval];apply a;clear a K)|(refine aI ?_)|(refine aQ ?_)|(refine cM ?_)|(refine bI ?_)|(refine aH ?_;simp only[W,bK,cL,RR,seval]))
   exact a _ _ ⟨rfl,i,d,c⟩
  have g1:decide (k=1)=false:=bG (by assumption);have g2:decide (k=2)=false:=bG (by assumption);have g3:decide (k=3)=false:=bG (by assumption);have g4:decide (k=4)=false:=bG (by assumption);have Z:decide (k=5)=false:=bG (by assumption);have g6:decide (k=6)=false:=bG (by assumption);have g7:decide (k=7)=false:=bG (by assumption)
  repeat' (first|(refine aC fun K a=>?_;refine aH ?_;simp only[*,RR,seval];apply a;clear a K)|(refine aI ?_)|(refine aQ ?_)|(refine bI ?_)|(refine aL ?_;simp only[bK,cL])|(refine aH ?_;simp only[Z,bK,RR,seval]))
  exact a _ _ ⟨by simp [Nw, *,upd],i,d,c⟩
 rintro g H ⟨J,i,d,c⟩;subst v
 cases hf:Nw k l.length with
 |false=>
  rw[hf]at J
  repeat' (first|(refine aC fun K a=>?_;refine aH ?_;simp only[J,RR,seval];apply a;clear a K)|(refine aP ?_;simp only[aY,aK,bR,RR,seval];refine aZ.pure ?_))
  rfl
 |true=>
  rw[hf]at J
  cases hx:lC l (f+1)with
  |false=>
   rw[hx]at E
   repeat' (first|(refine aI ?_)|(refine aH ?_;simp only[*,F,RR,seval])|(refine aP ?_;simp only[aY,aK,bR,RR,seval];refine aZ.pure ?_)|(refine aO (E) ?_;simp only[bK,RR,seval]))
   rfl
  |true=>
   rw[hx]at E;have T:=S j (.inl rfl);have U:=S u (.inr rfl);refine aC fun K a=>?_;refine aH ?_;simp only[RR,seval];simp only[*,F,RR,seval];refine aO E ?_;simp only[RR,seval];simp only[i,d,c,F,RR,seval];refine aO T ?_;simp only[RR,seval]
   cases n:jN j (f+1)with
   |false=>
    simp only[RR,seval];apply a;clear a K;refine aP ?_;simp only[aY,aK,bR,RR,seval];refine aZ.pure ?_;rw[n];rfl
   |true=>
    simp only[i,d,c,F,RR,seval];refine aO U ?_;simp only[RR,seval];apply a;refine aP ?_;simp only[aY,aK,bR,RR,seval];refine aZ.pure ?_;rw[n];rfl
theorem Le (n:Nat): ∀(l:List Sm) (b:Int),sS l=n→yZ l→ -1000000≤b→b≤1000000→eH dP 52 [.isl 5 (l.map Sm.row), .int .i64 b] (.bool (jN l b)):=by
 induction n using Nat.strongRecOn with
 |_ n ih=>
  intro l b N v z A;have J:l.length≤9223372036854775807:=v.fit;refine bY 19 [.tmp 4] func52 ?_;refine aC fun K a=>?_;refine aH ?_;simp only[RR,seval];apply a;clear a K;refine cN (fun f H=>jN l b=true) (fun K a=>?_) ?_
  ·refine aC fun K a=>?_;refine aH ?_;simp only[RR,seval]
   apply a;clear a K;refine aQ ?_;refine eP (fun y f H=> ∃k:Nat,y=l.length-k∧k≤l.length∧f 5= .int .i64 k∧f 0= .isl 5 (l.map Sm.row)∧f 1= .int .i64 b∧jN l b=jN (l.drop k) b) (l.length) ⟨0,rfl,cK _,rfl,rfl,rfl,by rw[dN]⟩ ?_;rintro y f H ⟨k,rfl,L,j,g,p,d⟩ I B;refine aI ?_;refine aC fun K a=>?_;refine aH ?_;simp only[RR,seval];simp only[j,g,aG,RR,seval];apply a;clear a K;refine aV ?_ ?_<;>intro c
   ·have o:k<l.length:=by have:=aD c;omega
    clear c;refine aL ?_;simp only[bK];refine aI ?_;refine aQ ?_;have t:=uT Sm.row (aF o);have u:=bX o;have i:=v.all _ u;have F:=nB u;rw[bJ o,qC]at d;generalize l[k]=e at t d i F;have O:=e.sz_eq;have E:=e.row_len
    have C:=Lh e i b z A (fun M x G=>by
     rcases G with rfl|rfl
     ·exact ih _ (by omega) e.thn (b+1) rfl i.thn (by omega) (by omega)
     exact ih _ (by omega) e.els (b+1) rfl i.els (by omega) (by omega))
    refine aC fun K a=>?_;refine aH ?_;simp only[RR,seval];simp only[g,p,j,t,E,RR,seval];rw[sH (by omega)];refine aO C ?_;simp only[RR,seval];apply a;clear a K;refine dY (!lO e b) rfl (fun c=>?_) (fun c=>?_)
    ·refine aC fun K a=>?_;refine aH ?_;simp only[RR,seval]
     apply a;clear a K;refine aP ?_;simp only[bK,cL,aY,aK,bR,RR,seval];refine aZ.pure ?_;rw[d,show lO e b=false by simpa using c];rfl
    refine aL ?_;simp only[bK,cL];rw[show lO e b=true by simpa using c,cP]at d;refine aH ?_;simp only[RR,seval];simp only[j,bK,RR,seval];rw[aS _ (by omega)];refine B (l.length-(k+1)) _ _ (by omega) ⟨k+1,rfl,by omega,rfl,g,p,d⟩
   refine cG ?_;simp only[bK,cL,reduceIte];have D:k=l.length:=by have:=aE c;omega
   clear c;subst D;rw[dB,uJ]at d;exact a _ _ d
  rintro f H g;refine aC fun K a=>?_;refine aH ?_;simp only[RR,seval];apply a;clear a K;refine aP ?_;simp only[aY,aK,bR,RR,seval];refine aZ.pure ?_;rw[g]
theorem Ld (p:Pg) (D:p.ok):eH dP 25 [p.av] (.bool (gL p)):=by
 have X:p.vars.length≤9223372036854775807:=D.vars.fit;have V:p.arrs.length≤9223372036854775807:=D.afit;have W:p.funs.length≤9223372036854775807:=D.ffit;have O:=wJ p.vars D.vars;obtain⟨vs,n,g⟩:=p;simp only at X V W O;simp only[Pg.av,Pg.row];refine bY 95 [.tmp 2] func25 ?_;refine cN (fun j H=> ∃b,j 1= .ptr 3 b 0 0∧H b=some (.rows 3 [[.isl 1 (vs.map bM), .isl 2 (n.map Ar.row), .isl 5 (g.map Fu.row)]])) (fun K c=>?_) ?_
 ·refine aH ?_;simp only[RR,seval]
  refine aN fun b i=>?_;simp only[RR,seval];exact c _ _ ⟨b,rfl,bC _ _ _⟩
 rintro j H ⟨b,d,i⟩;have x:gL ⟨vs,n,g⟩=((vs.all iN&&decide (1≤g.length)&&decide (g.length≤64))&&n.all pO&&g.all lP):=rfl;generalize gL ⟨vs,n,g⟩=a6 at x⊢;refine aI ?_;refine cN (fun j H=> ∃t,j 21= .bool t∧(t= !(vs.all iN&&decide (1≤g.length)&&decide (g.length≤64)))∧j 1= .ptr 3 b 0 0∧H b=some (.rows 3 [[.isl 1 (vs.map bM), .isl 2 (n.map Ar.row), .isl 5 (g.map Fu.row)]])) (fun K c=>?_) ?_
 ·have E:decide ((g.length:Int)<1)= !decide (1≤g.length):=by rw[eK];simp only[bP,eJ,eX];omega
  have I:decide ((64:Int)<g.length)= !decide (g.length≤64):=by rw[eK];simp only[bP,eJ,eX];omega
  refine aH ?_;simp only[RR,seval];simp only[d,i,RR,seval];refine aO O ?_;simp only[RR,seval]
  cases hv:vs.all iN with
  |false=>
   simp only[RR,seval];exact c _ _ ⟨_,rfl,by rw[hv];rfl,d,i⟩
  |true=>
   simp only[d,i,aG,E,RR,seval]
   cases h1:decide (1≤g.length)with
   |false=>
    simp only[RR,seval];exact c _ _ ⟨_,rfl,by rw[hv,h1];rfl,d,i⟩
   |true=>
    simp only[d,i,aG,I,RR,seval];exact c _ _ ⟨_,rfl,by rw[hv,h1];rfl,d,i⟩
 rintro j H ⟨t,N,M,d,i⟩;refine dY _ N (fun l=>?_) (fun l=>?_)
 ·have:=TA M l
  refine aC fun K c=>?_;refine aH ?_;simp only[RR,seval];apply c;clear c K;refine aP ?_;simp only[bK,aY,aK,bR,RR,seval];refine aZ.pure ?_;rw[x,this];rfl
 have Z:=SZ M l;rw[Z,cP]at x;clear M l N t;refine aL ?_;simp only[bK];refine cN (fun j H=>n.all pO=true∧j 1= .ptr 3 b 0 0∧H b=some (.rows 3 [[.isl 1 (vs.map bM), .isl 2 (n.map Ar.row), .isl 5 (g.map Fu.row)]])) (fun K c=>?_) ?_
 ·refine aC fun K c=>?_;refine aH ?_;simp only[RR,seval]
  apply c;clear c K;refine aQ ?_;refine eP (fun G j H=> ∃k:Nat,G=n.length-k∧k≤n.length∧j 3= .int .i64 k∧n.all pO=(n.drop k).all pO∧j 1= .ptr 3 b 0 0∧H b=some (.rows 3 [[.isl 1 (vs.map bM), .isl 2 (n.map Ar.row), .isl 5 (g.map Fu.row)]])) (n.length) ⟨0,rfl,cK _,rfl,by rw[dN],d,i⟩ ?_;rintro G j H ⟨k,rfl,a4,o,u,d,i⟩ Q J;refine aI ?_;refine aC fun K c=>?_;refine aH ?_;simp only[RR,seval];simp only[o,d,i,aG,RR,seval];apply c;clear c K;refine aV ?_ ?_<;>intro l
  ·have A:k<n.length:=by have:=aD l;omega
   clear l;refine aL ?_;simp only[bK];refine aI ?_;refine aQ ?_;have z:=JC (aF A);have P:=D.arrs _ (bX A);rw[bJ A,dZ]at u;generalize n[k]=a at z u P;have a3:=rY a.name P.1;have E:decide (a.size<1)= !decide (1≤a.size):=by rw[eK];simp only[bP,eJ,eX];omega
   have I:decide (4096<a.size)= !decide (a.size≤4096):=by rw[eK];simp only[bP,eJ,eX];omega
   refine cN (fun j H=>j 54= .bool (!pO a)∧j 3= .int .i64 k∧j 1= .ptr 3 b 0 0∧H b=some (.rows 3 [[.isl 1 (vs.map bM), .isl 2 (n.map Ar.row), .isl 5 (g.map Fu.row)]])) (fun K c=>?_) ?_
   ·refine aH ?_;simp only[RR,seval]
    simp only[d,i,o,z,RR,seval];refine aO a3 ?_;simp only[RR,seval]
    cases hv:iN a.name with
    |false=>
     simp only[RR,seval];exact c _ _ ⟨by simp only[pO,hv];rfl,o,d,i⟩
    |true=>
     simp only[d,i,o,z,E,RR,seval]
     cases h1:decide (1≤a.size)with
     |false=>
      simp only[RR,seval];exact c _ _ ⟨by simp only[pO,hv,h1];rfl,o,d,i⟩
     |true=>
      simp only[d,i,o,z,I,RR,seval];exact c _ _ ⟨by simp only[pO,hv,h1];rfl,o,d,i⟩
   rintro j H ⟨a0,o,d,i⟩;refine dY (!pO a) a0 (fun l=>?_) (fun l=>?_)
   ·refine aC fun K c=>?_;refine aH ?_;simp only[RR,seval]
    apply c;clear c K;refine aP ?_;simp only[bK,cL,aY,aK,bR,RR,seval];refine aZ.pure ?_;rw[x,u,show pO a=false by simpa using l];rfl
   refine aL ?_;simp only[bK,cL];rw[show pO a=true by simpa using l,cP]at u;refine aH ?_;simp only[RR,seval];simp only[o,bK,RR,seval];rw[aS _ (by omega)];refine J (n.length-(k+1)) _ _ (by omega) ⟨k+1,rfl,by omega,rfl,u,d,i⟩
  refine cG ?_;simp only[bK,cL,reduceIte];have L:k=n.length:=by have:=aE l;omega
  clear l;subst L;rw[dB]at u;exact c _ _ ⟨u,d,i⟩
 rintro j H ⟨u,d,i⟩;rw[u,cP]at x;refine cN (fun j H=>g.all lP=true) (fun K c=>?_) ?_
 ·refine aC fun K c=>?_;refine aH ?_;simp only[RR,seval]
  apply c;clear c K;refine aQ ?_;refine eP (fun G j H=> ∃k:Nat,G=g.length-k∧k≤g.length∧j 4= .int .i64 k∧g.all lP=(g.drop k).all lP∧j 1= .ptr 3 b 0 0∧H b=some (.rows 3 [[.isl 1 (vs.map bM), .isl 2 (n.map Ar.row), .isl 5 (g.map Fu.row)]])) (g.length) ⟨0,rfl,cK _,rfl,by rw[dN],d,i⟩ ?_;rintro G j H ⟨k,rfl,a4,o,y,d,i⟩ Q J;refine aI ?_;refine aC fun K c=>?_;refine aH ?_;simp only[RR,seval];simp only[o,d,i,aG,RR,seval];apply c;clear c K;refine aV ?_ ?_<;>intro l
  ·have A:k<g.length:=by have:=aD l;omega
   clear l;refine aL ?_;simp only[bK];refine aI ?_;refine aQ ?_;have z:=rQ (aF A);have F:=D.funs _ (bX A);rw[bJ A,dZ]at y;generalize g[k]=f at z y F;refine aC fun K c=>?_;refine aH ?_;simp only[RR,seval];simp only[d,i,o,z,RR,seval];refine aN fun v a2=>?_;simp only[RR,seval];apply c;clear c K;have a5:b≠v:=fun e=>by rw[e,a2]at i;cases i
   have B:(upd (upd H v (some (.rows 5 [[.str [], .nsl, .nsl, .bool false, .nsl]]))) v (some (.rows 5 [[.str f.name, .isl 1 (f.params.map bM), .isl 1 (f.locs.map bM), .bool f.word, .isl 5 (f.body.map Sm.row)]]))) v=some (.rows 5 [[.str f.name, .isl 1 (f.params.map bM), .isl 1 (f.locs.map bM), .bool f.word, .isl 5 (f.body.map Sm.row)]]):=bC _ _ _;have C:(upd (upd H v (some (.rows 5 [[.str [], .nsl, .nsl, .bool false, .nsl]]))) v (some (.rows 5 [[.str f.name, .isl 1 (f.params.map bM), .isl 1 (f.locs.map bM), .bool f.word, .isl 5 (f.body.map Sm.row)]]))) b=some (.rows 3 [[.isl 1 (vs.map bM), .isl 2 (n.map Ar.row), .isl 5 (g.map Fu.row)]]):=by simp only[upd,aJ a5];exact i
   generalize(upd (upd H v (some (.rows 5 [[.str [], .nsl, .nsl, .bool false, .nsl]]))) v (some (.rows 5 [[.str f.name, .isl 1 (f.params.map bM), .isl 1 (f.locs.map bM), .bool f.word, .isl 5 (f.body.map Sm.row)]])))=H1 at B C⊢;have R:=rY f.name F.name;have S:=wJ f.params F.params;have T:=wJ f.locs F.locs;have U:=Le _ f.body 1 rfl F.body (by omega) (by omega);have E:decide ((6:Int)<f.params.length)= !decide (f.params.length≤6):=by rw[eK];simp only[bP,eJ,eX];omega
   refine cN (fun j H=>j 94= .bool (!lP f)∧j 4= .int .i64 k∧j 1= .ptr 3 b 0 0∧H b=some (.rows 3 [[.isl 1 (vs.map bM), .isl 2 (n.map Ar.row), .isl 5 (g.map Fu.row)]])) (fun K c=>?_) ?_
   ·refine aH ?_;simp only[RR,seval]
    simp only[B,RR,seval];refine aO R ?_;simp only[RR,seval]
    cases v0:iN f.name with
    |false=>
     simp only[RR,seval];exact c _ _ ⟨by simp only[lP,v0];rfl,o,d,C⟩
    |true=>
     simp only[B,aG,E,RR,seval]
     cases v1:decide (f.params.length≤6)with
     |false=>
      simp only[RR,seval];exact c _ _ ⟨by simp only[lP,v0,v1];rfl,o,d,C⟩
     |true=>
      simp only[B,RR,seval];refine aO S ?_;simp only[RR,seval]
      cases v2:f.params.all iN with
      |false=>
       simp only[RR,seval];exact c _ _ ⟨by simp only[lP,v0,v1,v2];rfl,o,d,C⟩
      |true=>
       simp only[B,RR,seval];refine aO T ?_;simp only[RR,seval]
       cases v3:f.locs.all iN with
       |false=>
        simp only[RR,seval];exact c _ _ ⟨by simp only[lP,v0,v1,v2,v3];rfl,o,d,C⟩
       |true=>
        simp only[B,RR,seval];refine aO U ?_;simp only[RR,seval];exact c _ _ ⟨by simp only[lP,v0,v1,v2,v3];rfl,o,d,C⟩
   rintro j H ⟨a1,o,d,i⟩;refine dY (!lP f) a1 (fun l=>?_) (fun l=>?_)
   ·refine aC fun K c=>?_;refine aH ?_;simp only[RR,seval]
    apply c;clear c K;refine aP ?_;simp only[bK,cL,aY,aK,bR,RR,seval];refine aZ.pure ?_;rw[x,y,show lP f=false by simpa using l];rfl
   refine aL ?_;simp only[bK,cL];rw[show lP f=true by simpa using l,cP]at y;refine aH ?_;simp only[RR,seval];simp only[o,bK,RR,seval];rw[aS _ (by omega)];refine J (g.length-(k+1)) _ _ (by omega) ⟨k+1,rfl,by omega,rfl,y,d,i⟩
  refine cG ?_;simp only[bK,cL,reduceIte];have L:k=g.length:=by have:=aE l;omega
  clear l;subst L;rw[dB]at y;exact c _ _ y
 rintro j H Y;refine aC fun K c=>?_;refine aH ?_;simp only[RR,seval];apply c;clear c K;refine aP ?_;simp only[aY,aK,bR,RR,seval];refine aZ.pure ?_;rw[x,Y]
theorem BI (p:Pg) (a:p.ok) (_: ∀f∈p.funs,f.params.length≤1100000):eH dP 25 [p.av] (.bool (gL p)):=Ld p a
end Go.Proofs.YtaecpjgmcffliaaGreatDoor
