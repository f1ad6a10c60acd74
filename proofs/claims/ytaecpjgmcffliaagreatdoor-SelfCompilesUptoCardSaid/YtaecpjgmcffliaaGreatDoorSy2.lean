/- Sy2 -/
import Derived.Test.YtaecpjgmcffliaaGreatDoorAl3
import Derived.Test.YtaecpjgmcffliaaGreatDoorRows
set_option linter.unusedSimpArgs false
set_option linter.unusedVariables false
set_option maxRecDepth 10000
set_option maxHeartbeats 4000000
namespace Go.Proofs.YtaecpjgmcffliaaGreatDoor
open Go.Al Go.Proofs.Tryz
def kC:List (List UInt8):=[[118,97,114],[97,114,114,97,121],[102,117,110,99],[119,111,114,100],[105,102],[101,108,115,101],[119,104,105,108,101],[114,101,116,117,114,110],[112,117,116],[103,101,116]]
def lT:List (List UInt8):=[[60,60],[62,62],[61,61],[38,38],[124,124],[40],[41],[123],[125],[91],[93],[59],[44],[61],[43],[45],[42],[47],[37],[38],[124],[94],[60],[33]]
def HV:List AV:=[.int .u64 1, .int .u64 10, .int .u64 100, .int .u64 1000, .int .u64 10000, .int .u64 100000, .int .u64 1000000, .int .u64 10000000, .int .u64 100000000, .int .u64 1000000000, .int .u64 10000000000, .int .u64 100000000000, .int .u64 1000000000000, .int .u64 10000000000000, .int .u64 100000000000000, .int .u64 1000000000000000, .int .u64 10000000000000000, .int .u64 100000000000000000, .int .u64 1000000000000000000, .int .u64 10000000000000000000]
def JJ:Nat→Option (List AV)
 |0=>some (kC.map .str)
 |1=>some HV
 |_=>none
noncomputable def dR:kB:=⟨Tryz.prog,JJ⟩
theorem TV:dR.G=JJ:=rfl
theorem eB:dR.P.follows .mixedOrders=true:=by kernel_rfl
theorem VI:cF dR.P 3=some ⟨.int .i64,1,8, .int .i64 0⟩:=by kernel_rfl
theorem VH:cF dR.P 4=some ⟨.bool,1,1, .bool false⟩:=by kernel_rfl
theorem VG:cF dR.P 5=some ⟨.int .u8,1,1, .int .u8 0⟩:=by kernel_rfl
theorem VF:cF dR.P 9=some ⟨.str,1,16, .str []⟩:=by kernel_rfl
theorem QP:cF dR.P 22=some ⟨.slice 9,1,24, .nsl⟩:=by kernel_rfl
theorem QO:cF dR.P 23=some ⟨.slice 82,1,24, .nsl⟩:=by kernel_rfl
theorem QN:cF dR.P 24=some ⟨.slice 58,1,24, .nsl⟩:=by kernel_rfl
theorem QM:cF dR.P 26=some ⟨.strct [(22,0),(23,1),(24,2)],3,72, .agg [.nsl, .nsl, .nsl]⟩:=by kernel_rfl
theorem QL:cF dR.P 29=some ⟨.int .i64,1,8, .int .i64 0⟩:=by kernel_rfl
theorem QK:cF dR.P 34=some ⟨.slice 46,1,24, .nsl⟩:=by kernel_rfl
theorem QJ:cF dR.P 36=some ⟨.strct [(34,0),(3,1)],2,32, .agg [.nsl, .int .i64 0]⟩:=by kernel_rfl
theorem QI:cF dR.P 40=some ⟨.strct [(3,0),(9,1),(3,2)],3,32, .agg [.int .i64 0, .str [], .int .i64 0]⟩:=by kernel_rfl
theorem QH:cF dR.P 45=some ⟨.slice 3,1,24, .nsl⟩:=by kernel_rfl
theorem QG:cF dR.P 46=some ⟨.int .u32,1,4, .int .u32 0⟩:=by kernel_rfl
theorem QF:cF dR.P 48=some ⟨.array 4 46,4,16, .agg [.int .u32 0, .int .u32 0, .int .u32 0, .int .u32 0]⟩:=by kernel_rfl
theorem QE:cF dR.P 50=some ⟨.strct [(3,0),(45,1),(9,2),(3,3),(48,4),(9,8)],9,88, .agg [.int .i64 0, .nsl, .str [], .int .i64 0, .int .u32 0, .int .u32 0, .int .u32 0, .int .u32 0, .str []]⟩:=by kernel_rfl
theorem QD:cF dR.P 56=some ⟨.slice 64,1,24, .nsl⟩:=by kernel_rfl
theorem QC:cF dR.P 58=some ⟨.strct [(9,0),(22,1),(22,2),(4,3),(56,4)],5,96, .agg [.str [], .nsl, .nsl, .bool false, .nsl]⟩:=by kernel_rfl
theorem QB:cF dR.P 60=some ⟨.slice 62,1,24, .nsl⟩:=by kernel_rfl
theorem QA:cF dR.P 62=some ⟨.strct [(3,0),(3,1),(46,2),(9,3),(60,4)],5,64, .agg [.int .i64 0, .int .i64 0, .int .u32 0, .str [], .nsl]⟩:=by kernel_rfl
theorem PZ:cF dR.P 64=some ⟨.strct [(3,0),(9,1),(60,2),(56,3),(56,4)],5,96, .agg [.int .i64 0, .str [], .nsl, .nsl, .nsl]⟩:=by kernel_rfl
theorem PY:cF dR.P 68=some ⟨.ptr 71,1,8, .npt⟩:=by kernel_rfl
theorem PX:cF dR.P 69=some ⟨.slice 5,1,24, .nsl⟩:=by kernel_rfl
theorem PU:cF dR.P 71=some ⟨.strct [(68,0),(69,1)],2,32, .agg [.npt, .nsl]⟩:=by kernel_rfl
theorem CP:cF dR.P 73=some ⟨.strct [(71,0)],2,32, .agg [.npt, .nsl]⟩:=by kernel_rfl
theorem PT:cF dR.P 74=some ⟨.func,1,8, .nfn⟩:=by kernel_rfl
theorem PS:cF dR.P 82=some ⟨.strct [(9,0),(3,1)],2,24, .agg [.str [], .int .i64 0]⟩:=by kernel_rfl
theorem PQ:cF dR.P 86=some ⟨.ptr 89,1,8, .npt⟩:=by kernel_rfl
theorem PP:cF dR.P 87=some ⟨.slice 34,1,24, .nsl⟩:=by kernel_rfl
theorem PO:cF dR.P 89=some ⟨.strct [(26,0),(9,3),(3,4),(34,5),(87,6),(69,7),(3,8),(3,9),(3,10)],11,192, .agg [.nsl, .nsl, .nsl, .str [], .int .i64 0, .nsl, .nsl, .nsl, .int .i64 0, .int .i64 0, .int .i64 0]⟩:=by kernel_rfl
theorem PN:cF dR.P 91=some ⟨.array 16 46,16,64, .agg [.int .u32 0, .int .u32 0, .int .u32 0, .int .u32 0, .int .u32 0, .int .u32 0, .int .u32 0, .int .u32 0, .int .u32 0, .int .u32 0, .int .u32 0, .int .u32 0, .int .u32 0, .int .u32 0, .int .u32 0, .int .u32 0]⟩:=by kernel_rfl
theorem PM:cF dR.P 93=some ⟨.strct [(3,0),(91,1),(34,17),(3,18),(9,19),(3,20),(3,21)],22,136, .agg [.int .i64 0, .int .u32 0, .int .u32 0, .int .u32 0, .int .u32 0, .int .u32 0, .int .u32 0, .int .u32 0, .int .u32 0, .int .u32 0, .int .u32 0, .int .u32 0, .int .u32 0, .int .u32 0, .int .u32 0, .int .u32 0, .int .u32 0, .nsl, .int .i64 0, .str [], .int .i64 0, .int .i64 0]⟩:=by kernel_rfl
theorem GE:cF dR.P 108=some ⟨.ptr 73,1,8, .npt⟩:=by kernel_rfl
theorem GB:cF dR.P 110=some ⟨.ptr 5,1,8, .npt⟩:=by kernel_rfl
theorem GA:cF dR.P 113=some ⟨.slice 159,1,24, .nsl⟩:=by kernel_rfl
theorem FZ:cF dR.P 116=some ⟨.ptr 118,1,8, .npt⟩:=by kernel_rfl
theorem FY:cF dR.P 118=some ⟨.strct [(113,0),(3,1),(4,2)],3,40, .agg [.nsl, .int .i64 0, .bool false]⟩:=by kernel_rfl
theorem FX:cF dR.P 120=some ⟨.ptr 122,1,8, .npt⟩:=by kernel_rfl
theorem FW:cF dR.P 122=some ⟨.strct [(3,0),(34,1),(4,2),(46,3)],4,40, .agg [.int .i64 0, .nsl, .bool false, .int .u32 0]⟩:=by kernel_rfl
theorem FV:cF dR.P 136=some ⟨.other,1,8, .npt⟩:=by kernel_rfl
theorem FU:cF dR.P 139=some ⟨.map 9 149,1,8, .nmp⟩:=by kernel_rfl
theorem FR:cF dR.P 144=some ⟨.strct [(139,0),(139,1)],2,16, .agg [.nmp, .nmp]⟩:=by kernel_rfl
theorem FQ:cF dR.P 147=some ⟨.strct [(3,0),(9,1),(3,2)],3,32, .agg [.int .i64 0, .str [], .int .i64 0]⟩:=by kernel_rfl
theorem FP:cF dR.P 149=some ⟨.strct [(3,0),(3,1)],2,16, .agg [.int .i64 0, .int .i64 0]⟩:=by kernel_rfl
theorem FO:cF dR.P 151=some ⟨.func,1,8, .nfn⟩:=by kernel_rfl
theorem FN:cF dR.P 152=some ⟨.ptr 210,1,8, .npt⟩:=by kernel_rfl
theorem FM:cF dR.P 159=some ⟨.strct [(3,0),(9,1),(46,2),(3,3)],4,40, .agg [.int .i64 0, .str [], .int .u32 0, .int .i64 0]⟩:=by kernel_rfl
theorem FL:cF dR.P 166=some ⟨.slice 231,1,24, .nsl⟩:=by kernel_rfl
theorem FK:cF dR.P 167=some ⟨.slice 4,1,24, .nsl⟩:=by kernel_rfl
theorem FI:cF dR.P 171=some ⟨.strct [(93,0),(69,22),(166,23),(167,24),(34,25),(9,26),(45,27)],28,272, .agg [.int .i64 0, .int .u32 0, .int .u32 0, .int .u32 0, .int .u32 0, .int .u32 0, .int .u32 0, .int .u32 0, .int .u32 0, .int .u32 0, .int .u32 0, .int .u32 0, .int .u32 0, .int .u32 0, .int .u32 0, .int .u32 0, .int .u32 0, .nsl, .int .i64 0, .str [], .int .i64 0, .int .i64 0, .nsl, .nsl, .nsl, .nsl, .str [], .nsl]⟩:=by kernel_rfl
theorem FH:cF dR.P 172=some ⟨.int .u64,1,8, .int .u64 0⟩:=by kernel_rfl
theorem FG:cF dR.P 175=some ⟨.int .u64,1,8, .int .u64 0⟩:=by kernel_rfl
theorem FD:cF dR.P 176=some ⟨.array 8 46,8,32, .agg [.int .u32 0, .int .u32 0, .int .u32 0, .int .u32 0, .int .u32 0, .int .u32 0, .int .u32 0, .int .u32 0]⟩:=by kernel_rfl
theorem FC:cF dR.P 178=some ⟨.slice 247,1,24, .nsl⟩:=by kernel_rfl
theorem FB:cF dR.P 180=some ⟨.strct [(3,0),(178,1)],2,32, .agg [.int .i64 0, .nsl]⟩:=by kernel_rfl
theorem FA:cF dR.P 183=some ⟨.slice 255,1,24, .nsl⟩:=by kernel_rfl
theorem EZ:cF dR.P 185=some ⟨.strct [(3,0),(183,1)],2,32, .agg [.int .i64 0, .nsl]⟩:=by kernel_rfl
theorem EY:cF dR.P 188=some ⟨.slice 262,1,24, .nsl⟩:=by kernel_rfl
theorem EW:cF dR.P 193=some ⟨.slice 283,1,24, .nsl⟩:=by kernel_rfl
theorem EV:cF dR.P 195=some ⟨.strct [(3,0),(193,1)],2,32, .agg [.int .i64 0, .nsl]⟩:=by kernel_rfl
theorem EU:cF dR.P 197=some ⟨.func,1,8, .nfn⟩:=by kernel_rfl
theorem ET:cF dR.P 205=some ⟨.func,1,8, .nfn⟩:=by kernel_rfl
theorem ES:cF dR.P 206=some ⟨.map 9 58,1,8, .nmp⟩:=by kernel_rfl
theorem EQ:cF dR.P 207=some ⟨.func,1,8, .nfn⟩:=by kernel_rfl
theorem EP:cF dR.P 208=some ⟨.array 10 207,10,80, .agg [.nfn, .nfn, .nfn, .nfn, .nfn, .nfn, .nfn, .nfn, .nfn, .nfn]⟩:=by kernel_rfl
theorem EO:cF dR.P 210=some ⟨.strct [(206,0),(208,1)],11,88, .agg [.nmp, .nfn, .nfn, .nfn, .nfn, .nfn, .nfn, .nfn, .nfn, .nfn, .nfn]⟩:=by kernel_rfl
theorem EN:cF dR.P 215=some ⟨.slice 220,1,24, .nsl⟩:=by kernel_rfl
theorem EL:cF dR.P 220=some ⟨.strct [(9,0),(3,1),(3,2)],3,32, .agg [.str [], .int .i64 0, .int .i64 0]⟩:=by kernel_rfl
theorem EK:cF dR.P 231=some ⟨.strct [(3,0),(3,1),(3,2),(3,3)],4,32, .agg [.int .i64 0, .int .i64 0, .int .i64 0, .int .i64 0]⟩:=by kernel_rfl
theorem EJ:cF dR.P 234=some ⟨.ptr 171,1,8, .npt⟩:=by kernel_rfl
theorem EI:cF dR.P 244=some ⟨.slice 312,1,24, .nsl⟩:=by kernel_rfl
theorem EH:cF dR.P 247=some ⟨.strct [(3,0),(3,1),(3,2),(4,3),(244,4)],5,56, .agg [.int .i64 0, .int .i64 0, .int .i64 0, .bool false, .nsl]⟩:=by kernel_rfl
theorem EG:cF dR.P 248=some ⟨.ptr 251,1,8, .npt⟩:=by kernel_rfl
theorem EF:cF dR.P 249=some ⟨.slice 267,1,24, .nsl⟩:=by kernel_rfl
theorem EE:cF dR.P 251=some ⟨.strct [(180,0),(3,2),(249,3),(3,4),(3,5)],6,80, .agg [.int .i64 0, .nsl, .int .i64 0, .nsl, .int .i64 0, .int .i64 0]⟩:=by kernel_rfl
theorem ED:cF dR.P 255=some ⟨.strct [(3,0),(249,1)],2,32, .agg [.int .i64 0, .nsl]⟩:=by kernel_rfl
theorem EC:cF dR.P 256=some ⟨.ptr 259,1,8, .npt⟩:=by kernel_rfl
theorem EB:cF dR.P 257=some ⟨.slice 273,1,24, .nsl⟩:=by kernel_rfl
theorem EA:cF dR.P 259=some ⟨.strct [(185,0),(188,2),(3,3),(34,4),(257,5),(45,6),(45,7),(3,8)],9,168, .agg [.int .i64 0, .nsl, .nsl, .int .i64 0, .nsl, .nsl, .nsl, .nsl, .int .i64 0]⟩:=by kernel_rfl
theorem DZ:cF dR.P 262=some ⟨.strct [(45,0)],1,24, .agg [.nsl]⟩:=by kernel_rfl
theorem DY:cF dR.P 264=some ⟨.slice 45,1,24, .nsl⟩:=by kernel_rfl
theorem DX:cF dR.P 265=some ⟨.slice 270,1,24, .nsl⟩:=by kernel_rfl
theorem DW:cF dR.P 267=some ⟨.strct [(265,0),(3,1),(3,2),(3,3),(3,4)],5,56, .agg [.nsl, .int .i64 0, .int .i64 0, .int .i64 0, .int .i64 0]⟩:=by kernel_rfl
theorem DV:cF dR.P 270=some ⟨.strct [(3,0),(3,1),(3,2),(3,3),(3,4),(3,5),(3,6),(46,7)],8,64, .agg [.int .i64 0, .int .i64 0, .int .i64 0, .int .i64 0, .int .i64 0, .int .i64 0, .int .i64 0, .int .u32 0]⟩:=by kernel_rfl
theorem DU:cF dR.P 273=some ⟨.strct [(3,0),(3,1),(3,2)],3,24, .agg [.int .i64 0, .int .i64 0, .int .i64 0]⟩:=by kernel_rfl
theorem DT:cF dR.P 274=some ⟨.ptr 277,1,8, .npt⟩:=by kernel_rfl
theorem DR:cF dR.P 275=some ⟨.slice 288,1,24, .nsl⟩:=by kernel_rfl
theorem DO:cF dR.P 277=some ⟨.strct [(195,0),(34,2),(275,3),(264,4),(45,5),(45,6),(3,7)],8,160, .agg [.int .i64 0, .nsl, .nsl, .nsl, .nsl, .nsl, .nsl, .int .i64 0]⟩:=by kernel_rfl
theorem DN:cF dR.P 281=some ⟨.slice 286,1,24, .nsl⟩:=by kernel_rfl
theorem DL:cF dR.P 283=some ⟨.strct [(3,0),(3,1),(3,2),(4,3),(281,4)],5,56, .agg [.int .i64 0, .int .i64 0, .int .i64 0, .bool false, .nsl]⟩:=by kernel_rfl
theorem DK:cF dR.P 286=some ⟨.strct [(3,0),(3,1),(3,2),(46,3)],4,32, .agg [.int .i64 0, .int .i64 0, .int .i64 0, .int .u32 0]⟩:=by kernel_rfl
theorem DJ:cF dR.P 288=some ⟨.strct [(3,0),(3,1),(3,2)],3,24, .agg [.int .i64 0, .int .i64 0, .int .i64 0]⟩:=by kernel_rfl
theorem DI:cF dR.P 306=some ⟨.array 4 3,4,32, .agg [.int .i64 0, .int .i64 0, .int .i64 0, .int .i64 0]⟩:=by kernel_rfl
theorem DG:cF dR.P 309=some ⟨.slice 336,1,24, .nsl⟩:=by kernel_rfl
theorem DF:cF dR.P 312=some ⟨.strct [(3,0),(3,1),(3,2),(309,3),(244,4),(244,5)],6,96, .agg [.int .i64 0, .int .i64 0, .int .i64 0, .nsl, .nsl, .nsl]⟩:=by kernel_rfl
theorem DD:cF dR.P 315=some ⟨.slice 167,1,24, .nsl⟩:=by kernel_rfl
theorem DC:cF dR.P 317=some ⟨.strct [(315,0),(315,1)],2,48, .agg [.nsl, .nsl]⟩:=by kernel_rfl
theorem CZ:cF dR.P 324=some ⟨.slice 281,1,24, .nsl⟩:=by kernel_rfl
theorem CY:cF dR.P 327=some ⟨.array 10 9,10,160, .agg [.str [], .str [], .str [], .str [], .str [], .str [], .str [], .str [], .str [], .str []]⟩:=by kernel_rfl
theorem CX:cF dR.P 336=some ⟨.strct [(3,0),(3,1),(46,2),(3,3),(3,4),(309,5)],6,64, .agg [.int .i64 0, .int .i64 0, .int .u32 0, .int .i64 0, .int .i64 0, .nsl]⟩:=by kernel_rfl
theorem CW:cF dR.P 344=some ⟨.array 24 5,24,24, .agg [.int .u8 0, .int .u8 0, .int .u8 0, .int .u8 0, .int .u8 0, .int .u8 0, .int .u8 0, .int .u8 0, .int .u8 0, .int .u8 0, .int .u8 0, .int .u8 0, .int .u8 0, .int .u8 0, .int .u8 0, .int .u8 0, .int .u8 0, .int .u8 0, .int .u8 0, .int .u8 0, .int .u8 0, .int .u8 0, .int .u8 0, .int .u8 0]⟩:=by kernel_rfl
theorem CV:cF dR.P 353=some ⟨.array 20 172,20,160, .agg [.int .u64 0, .int .u64 0, .int .u64 0, .int .u64 0, .int .u64 0, .int .u64 0, .int .u64 0, .int .u64 0, .int .u64 0, .int .u64 0, .int .u64 0, .int .u64 0, .int .u64 0, .int .u64 0, .int .u64 0, .int .u64 0, .int .u64 0, .int .u64 0, .int .u64 0, .int .u64 0]⟩:=by kernel_rfl
theorem CU:cF dR.P 354=some ⟨.array 65 5,65,65, .agg [.int .u8 0, .int .u8 0, .int .u8 0, .int .u8 0, .int .u8 0, .int .u8 0, .int .u8 0, .int .u8 0, .int .u8 0, .int .u8 0, .int .u8 0, .int .u8 0, .int .u8 0, .int .u8 0, .int .u8 0, .int .u8 0, .int .u8 0, .int .u8 0, .int .u8 0, .int .u8 0, .int .u8 0, .int .u8 0, .int .u8 0, .int .u8 0, .int .u8 0, .int .u8 0, .int .u8 0, .int .u8 0, .int .u8 0, .int .u8 0, .int .u8 0, .int .u8 0, .int .u8 0, .int .u8 0, .int .u8 0, .int .u8 0, .int .u8 0, .int .u8 0, .int .u8 0, .int .u8 0, .int .u8 0, .int .u8 0, .int .u8 0, .int .u8 0, .int .u8 0, .int .u8 0, .int .u8 0, .int .u8 0, .int .u8 0, .int .u8 0, .int .u8 0, .int .u8 0, .int .u8 0, .int .u8 0, .int .u8 0, .int .u8 0, .int .u8 0, .int .u8 0, .int .u8 0, .int .u8 0, .int .u8 0, .int .u8 0, .int .u8 0, .int .u8 0, .int .u8 0]⟩:=by kernel_rfl
theorem CS:cF dR.P 359=some ⟨.array 32 5,32,32, .agg [.int .u8 0, .int .u8 0, .int .u8 0, .int .u8 0, .int .u8 0, .int .u8 0, .int .u8 0, .int .u8 0, .int .u8 0, .int .u8 0, .int .u8 0, .int .u8 0, .int .u8 0, .int .u8 0, .int .u8 0, .int .u8 0, .int .u8 0, .int .u8 0, .int .u8 0, .int .u8 0, .int .u8 0, .int .u8 0, .int .u8 0, .int .u8 0, .int .u8 0, .int .u8 0, .int .u8 0, .int .u8 0, .int .u8 0, .int .u8 0, .int .u8 0, .int .u8 0]⟩:=by kernel_rfl
theorem CQ:cF dR.P 360=some ⟨.array 64 5,64,64, .agg [.int .u8 0, .int .u8 0, .int .u8 0, .int .u8 0, .int .u8 0, .int .u8 0, .int .u8 0, .int .u8 0, .int .u8 0, .int .u8 0, .int .u8 0, .int .u8 0, .int .u8 0, .int .u8 0, .int .u8 0, .int .u8 0, .int .u8 0, .int .u8 0, .int .u8 0, .int .u8 0, .int .u8 0, .int .u8 0, .int .u8 0, .int .u8 0, .int .u8 0, .int .u8 0, .int .u8 0, .int .u8 0, .int .u8 0, .int .u8 0, .int .u8 0, .int .u8 0, .int .u8 0, .int .u8 0, .int .u8 0, .int .u8 0, .int .u8 0, .int .u8 0, .int .u8 0, .int .u8 0, .int .u8 0, .int .u8 0, .int .u8 0, .int .u8 0, .int .u8 0, .int .u8 0, .int .u8 0, .int .u8 0, .int .u8 0, .int .u8 0, .int .u8 0, .int .u8 0, .int .u8 0, .int .u8 0, .int .u8 0, .int .u8 0, .int .u8 0, .int .u8 0, .int .u8 0, .int .u8 0, .int .u8 0, .int .u8 0, .int .u8 0, .int .u8 0]⟩:=by kernel_rfl
theorem RB:Gy dR.P 82=some [.str, .int .i64]:=by kernel_rfl
theorem TY:type_of% (And.intro VI<|And.intro VH<|And.intro VG<|And.intro VF<|And.intro QP<|And.intro QO<|And.intro QN<|And.intro QM<|And.intro QL<|And.intro QK<|And.intro QJ<|And.intro QI<|And.intro QH<|And.intro QG<|And.intro QF<|And.intro QE<|And.intro QD<|And.intro QC<|And.intro QB<|And.intro QA<|And.intro PZ<|And.intro PY<|And.intro PX<|And.intro PU<|And.intro CP<|And.intro PT<|And.intro PS<|And.intro PQ<|And.intro PP<|And.intro PO<|And.intro PN<|And.intro PM<|And.intro GE<|And.intro GB<|And.intro GA<|And.intro FZ<|And.intro FY<|And.intro FX<|And.intro FW<|And.intro FV<|And.intro FU<|And.intro FR<|And.intro FQ<|And.intro FP<|And.intro FO<|And.intro FN<|And.intro FM<|And.intro FL<|And.intro FK<|And.intro FI<|And.intro FH<|And.intro FG<|And.intro FD<|And.intro FC<|And.intro FB<|And.intro FA<|And.intro EZ<|And.intro EY<|And.intro EW<|And.intro EV<|And.intro EU<|And.intro ET<|And.intro ES<|And.intro EQ<|And.intro EP<|And.intro EO<|And.intro EN<|And.intro EL<|And.intro EK<|And.intro EJ<|And.intro EI<|And.intro EH<|And.intro EG<|And.intro EF<|And.intro EE<|And.intro ED<|And.intro EC<|And.intro EB<|And.intro EA<|And.intro DZ<|And.intro DY<|And.intro DX<|And.intro DW<|And.intro DV<|And.intro DU<|And.intro DT<|And.intro DR<|And.intro DO<|And.intro DN<|And.intro DL<|And.intro DK<|And.intro DJ<|And.intro DI<|And.intro DG<|And.intro DF<|And.intro DD<|And.intro DC<|And.intro CZ<|And.intro CY<|And.intro CX<|And.intro CW<|And.intro CV<|And.intro CU<|And.intro CS<|And.intro CQ<|And.intro RB<|TV):=And.intro VI<|And.intro VH<|And.intro VG<|And.intro VF<|And.intro QP<|And.intro QO<|And.intro QN<|And.intro QM<|And.intro QL<|And.intro QK<|And.intro QJ<|And.intro QI<|And.intro QH<|And.intro QG<|And.intro QF<|And.intro QE<|And.intro QD<|And.intro QC<|And.intro QB<|And.intro QA<|And.intro PZ<|And.intro PY<|And.intro PX<|And.intro PU<|And.intro CP<|And.intro PT<|And.intro PS<|And.intro PQ<|And.intro PP<|And.intro PO<|And.intro PN<|And.intro PM<|And.intro GE<|And.intro GB<|And.intro GA<|And.intro FZ<|And.intro FY<|And.intro FX<|And.intro FW<|And.intro FV<|And.intro FU<|And.intro FR<|And.intro FQ<|And.intro FP<|And.intro FO<|And.intro FN<|And.intro FM<|And.intro FL<|And.intro FK<|And.intro FI<|And.intro FH<|And.intro FG<|And.intro FD<|And.intro FC<|And.intro FB<|And.intro FA<|And.intro EZ<|And.intro EY<|And.intro EW<|And.intro EV<|And.intro EU<|And.intro ET<|And.intro ES<|And.intro EQ<|And.intro EP<|And.intro EO<|And.intro EN<|And.intro EL<|And.intro EK<|And.intro EJ<|And.intro EI<|And.intro EH<|And.intro EG<|And.intro EF<|And.intro EE<|And.intro ED<|And.intro EC<|And.intro EB<|And.intro EA<|And.intro DZ<|And.intro DY<|And.intro DX<|And.intro DW<|And.intro DV<|And.intro DU<|And.intro DT<|And.intro DR<|And.intro DO<|And.intro DN<|And.intro DL<|And.intro DK<|And.intro DJ<|And.intro DI<|And.intro DG<|And.intro DF<|And.intro DD<|And.intro DC<|And.intro CZ<|And.intro CY<|And.intro CX<|And.intro CW<|And.intro CV<|And.intro CU<|And.intro CS<|And.intro CQ<|And.intro RB<|TV
theorem R2:JJ 0=some (kC.map .str):=rfl
theorem WW:JJ 1=some HV:=rfl
theorem RR:type_of% (And.intro AX<|And.intro R2 TY):=And.intro AX<|And.intro R2 TY
noncomputable def YV:XR dR.P where
 int:=3
 u32:=46
 str:=9
 bool:=4
 strs:=22
 ex:=62
 exs:=60
 sm:=64
 sms:=56
 ar:=82
 ars:=23
 fu:=58
 fus:=24
 pg:=26
 uInt:=by kernel_rfl
 uU32:=by kernel_rfl
 uStr:=by kernel_rfl
 uBool:=by kernel_rfl
 uStrs:=by kernel_rfl
 uEx:=by kernel_rfl
 uExs:=by kernel_rfl
 uSm:=by kernel_rfl
 uSms:=by kernel_rfl
 uAr:=by kernel_rfl
 uArs:=by kernel_rfl
 uFu:=by kernel_rfl
 uFus:=by kernel_rfl
 uPg:=by kernel_rfl
 c1:=by kernel_rfl
 cEx:=by kernel_rfl
 cSm:=by kernel_rfl
 cAr:=by kernel_rfl
 cFu:=by kernel_rfl
 cPg:=by kernel_rfl
def Um (c:Int):Bool:=decide (48≤c)&&decide (c≤57)
def Be (c:Int):Bool:=decide (97≤c)&&decide (c≤122)||decide (65≤c)&&decide (c≤90)
def QZ (c:Int):Bool:=Be c||Um c||decide (c=95)
def xO (c:UInt8):Bool:=QZ c.toNat
theorem uK (c:Int):eG dR 120 [.int .u8 c] (.bool (Um c)):=by
 refine bU 9 [.tmp 2] func120 ?_;refine aG fun K a=>?_;refine aM ?_;simp only[RR,seval];apply a;refine aG fun K a=>?_;refine aM ?_;simp only[RR,seval]
 repeat' ((refine fJ (fun h=>?_) (fun h=>?_))<;>simp only[h,RR,seval])
 all_goals
  apply a;refine aP ?_;simp only[aY,aK,bP,RR,seval];refine bB.pure ?_;simp [Um, *]
theorem uL (c:Int):eG dR 117 [.int .u8 c] (.bool (Be c)):=by
 refine bU 17 [.tmp 2] func117 ?_;refine aG fun K a=>?_;refine aM ?_;simp only[RR,seval];apply a;refine aG fun K a=>?_;refine aM ?_;simp only[RR,seval]
 repeat' ((first|refine cL (fun h=>?_) (fun h=>?_)|refine fJ (fun h=>?_) (fun h=>?_))<;>simp only[h,RR,seval])
 all_goals
  apply a;refine aP ?_;simp only[aY,aK,bP,RR,seval];refine bB.pure ?_;simp [Be, *]
theorem Oi:eG dR 119 [] (.isl 1 (kC.map fun w=>[.str w])):=by
 refine bU 2 [.tmp 0] func119 ?_;refine aG fun K a=>?_;refine aM ?_;simp only[RR,seval];apply a;refine aG fun K a=>?_;refine aM ?_;simp only[RR,seval];refine dG ?_;simp only[RR,seval];apply a;refine aP ?_;simp only[aY,aK,bP,RR,seval];refine bB.pure ?_;rfl
theorem JG (ws:List (List UInt8)) (s:List UInt8) (e:ws.length≤1000000):eG dR 118 [.isl 1 (ws.map fun w=>[.str w]), .str s] (.bool (ws.contains s)):=by
 refine bU 18 [.tmp 4] func118 ?_;refine aG fun K a=>?_;refine aM ?_;simp only[RR,seval];refine a _ _ (U0 (fun b H=>ws.contains s=false) ?_ ?_)
 ·refine aG fun K a=>?_;refine aM ?_;simp only[RR,seval]
  refine a _ _ (aQ (Yz (fun n b H=> ∃i:Nat,n=ws.length-i∧i≤ws.length∧(ws.take i).contains s=false∧b 0= .isl 1 (ws.map fun w=>[.str w])∧b 1= .str s∧b 5= .int .i64 i) ws.length ⟨0,rfl,by omega,rfl,rfl,rfl,rfl⟩ ?_));rintro n b H ⟨i,rfl,p,f,g,k,j⟩;refine aH ?_;refine aG fun K a=>?_;refine aM ?_;simp only[RR,seval];simp only[g,j,RR,seval];refine a _ _ (aX ?_ ?_)<;>intro c
  ·refine aL ?_;simp only[bR]
   have d:(i:Int)<(ws.map fun w=>[AV.str w]).length:=aD c;simp only[aF]at d;have e:i<ws.length:=by omega
   have o:(ws.map fun w=>[AV.str w])[i]?=some [.str ws[i]]:=by rw[cT,aC e];rfl
   refine aH (aQ ?_);refine aG fun K a=>?_;refine aM ?_;simp only[RR,seval];simp only[*,RR,seval];refine a _ _ (aX ?_ ?_)<;>intro c
   ·refine aG fun K a=>?_;refine aM ?_;simp only[RR,seval]
    apply a;refine aP ?_;simp only[bR,dC,aY,aK,bP,RR,seval];refine bB.pure ?_;have :ws[i]=s:=aD c;rw[←this];simp
   refine aL ?_;simp only[bR,dC];refine aM ?_;simp only[RR,seval];simp only[g,k,j,RR,seval];refine⟨ws.length-(i+1),by omega,i+1,rfl,by omega, ?_, ?_⟩
   ·have l: ¬ws[i]=s:=aE c
    rw[bQ e];simp only[List.contains_append,f,PE];simp [Ne.symm l]
   rw[aU _ (by omega)];rfl
  refine cH ?_;simp only[bR,dC,reduceIte];have d: ¬(i:Int)<(ws.map fun w=>[AV.str w]).length:=aE c;simp only[aF]at d;have :i=ws.length:=by omega
  subst this;rw[dV]at f;exact f
 intro b H h;refine aG fun K a=>?_;refine aM ?_;simp only[RR,seval];apply a;refine aP ?_;simp only[aY,aK,bP,RR,seval];refine bB.pure ?_;rw[h]
def iN (s:List UInt8):Bool:=match s with
 |[]=>false
 |c::r=>decide ((c::r).length≤20)&&(Be c.toNat&&(decide ((c::r).takeWhile xO=c::r)&& !kC.contains (c::r)))
theorem yH (p:UInt8→Bool): ∀s:List UInt8,decide (s.takeWhile p=s)=s.all p
 |[]=>rfl
 |c::s=>by
  cases h:p c with
  |true=>
   simp only[List.takeWhile,h,eD,cO,List.cons.injEq,true_and];exact yH p s
  |false=>simp [List.takeWhile,h]
theorem X2 (s:List UInt8) (y:eY s):eG dR 76 [.str s] (.bool (iN s)):=by
 have y:s.length≤9223372036854775807:=y;refine bU 47 [.tmp 2] func76 ?_;refine aG fun K a=>?_;refine aM ?_;simp only[RR,seval];apply a;clear a K;refine aH ?_;refine dM (fun f H=> ∃t,f 22= .bool t∧f 0= .str s∧(t=true→iN s=false)∧(t=false→iN s=s.all xO)) (fun K a=>?_) ?_
 ·cases hsc:s with
  |nil=>
   refine aM ?_;simp only[RR,seval];exact a _ _ ⟨true,rfl,by rw[hsc];rfl,fun _=>by rw[hsc];rfl,fun e=>by cases e⟩
  |cons c r=>
   have b:(c::r)[0]?=some c:=rfl;have x:decide (((c::r).length:Int)=0)=false:=bI (by simp only[aJ];omega);rw[←hsc]at b x⊢;have p:iN s=(decide (s.length≤20)&&(Be c.toNat&&(s.all xO&& !kC.contains s))):=by rw[←yH,hsc];rfl
   clear hsc;refine aM ?_;simp only[RR,seval];simp only[x,RR,seval];refine cL (fun h=>?_) (fun h=>?_)<;>simp only[h,b,RR,seval]
   ·have l:decide (s.length≤20)=true:=cV (by have:=aE h;omega)
    refine aI (uL _) ?_;simp only[RR,seval];refine cL (fun d=>?_) (fun d=>?_)
    ·have d:Be c.toNat=true:=by simpa using d
     simp only[d,RR,seval];refine aI Oi ?_;simp only[RR,seval];refine aI (JG kC s (by decide)) ?_;simp only[RR,seval];refine a _ _ ⟨_,rfl,rfl,fun e=>?_,fun e=>?_⟩
     ·rw[p,e];simp
     rw[p,e,l,d];simp
    have d:Be c.toNat=false:=by simpa using d
    simp only[d,RR,seval];exact a _ _ ⟨_,rfl,rfl,fun e=>by rw[p,d];simp,fun e=>by cases e⟩
   have l:decide (s.length≤20)=false:=bI (by have:=aD h;omega);exact a _ _ ⟨_,rfl,rfl,fun e=>by rw[p,l];rfl,fun e=>by cases e⟩
 rintro f H ⟨t,z,b,D,C⟩;refine eO _ z (fun j=>?_) (fun j=>?_)
 ·refine aG fun K a=>?_;refine aM ?_;simp only[RR,seval]
  apply a;clear a K;refine aP ?_;simp only[bR,aY,aK,bP,RR,seval];refine bB.pure ?_;rw[D j]
 have v:=C j;refine aL ?_;simp only[bR];refine dM (fun f H=>s.all xO=true) (fun K a=>?_) ?_
 ·refine aG fun K a=>?_;refine aM ?_;simp only[RR,seval]
  apply a;clear a K;refine aQ ?_;refine fN (fun n f H=> ∃i:Nat,n=s.length-i∧i≤s.length∧f 0= .str s∧f 3= .int .i64 i∧s.all xO=(s.drop i).all xO) s.length ⟨0,rfl,by omega,b,rfl,by simp⟩ ?_;rintro n f H ⟨i,rfl,F,b,g,k⟩ E B;refine aH ?_;refine aG fun K a=>?_;refine aM ?_;simp only[RR,seval];simp only[b,g,RR,seval];apply a;clear a K;refine aX ?_ ?_<;>intro j
  ·have l:i<s.length:=by have:=aD j;omega
   have o:s[i]?=some s[i]:=aC l;rw[bM l]at k;simp only[eD]at k;generalize s[i]=e at o k;refine aL ?_;simp only[bR];refine aH ?_;refine aQ ?_;refine dM (fun f H=>f 46= .bool (!xO e)∧f 0= .str s∧f 3= .int .i64 i) (fun K a=>?_) ?_
   ·refine aM ?_;simp only[RR,seval]
    simp only[b,g,o,RR,seval];refine aI (uL _) ?_;simp only[RR,seval];refine cL (fun d=>?_) (fun d=>?_)<;>simp only[d,b,g,o,RR,seval]
    ·refine aI (uK _) ?_
     simp only[RR,seval];refine cL (fun hd=>?_) (fun hd=>?_)<;>simp only[hd,b,g,o,RR,seval]
     ·repeat' ((refine cL (fun h=>?_) (fun h=>?_))<;>simp only[h,b,g,o,RR,seval])
      all_goals exact a _ _ ⟨by simp [upd,xO,QZ,d,hd],b,g⟩
     exact a _ _ ⟨by simp [upd,xO,QZ,d,hd],b,g⟩
    exact a _ _ ⟨by simp [upd,xO,QZ,d],b,g⟩
   rintro f H ⟨A,b,g⟩;refine eO _ A (fun j=>?_) (fun j=>?_)
   ·have u:xO e=false:=by simpa using j
    refine aG fun K a=>?_;refine aM ?_;simp only[RR,seval];apply a;clear a K;refine aP ?_;simp only[bR,dC,aY,aK,bP,RR,seval];refine bB.pure ?_;rw[v,k,u];rfl
   have u:xO e=true:=by simpa using j
   rw[u,cO]at k;refine aL ?_;simp only[bR,dC];refine aM ?_;simp only[RR,seval];simp only[g,RR,seval];rw[aU _ (by omega)];exact B (s.length-(i+1)) _ _ (by omega) ⟨i+1,rfl,by omega,b,rfl,k⟩
  refine cH ?_;simp only[bR,dC,reduceIte];have :i=s.length:=by have:=aE j;omega
  subst this;rw[dF]at k;exact a _ _ k
 intro f H h;refine aG fun K a=>?_;refine aM ?_;simp only[RR,seval];apply a;clear a K;refine aP ?_;simp only[aY,aK,bP,RR,seval];refine bB.pure ?_;rw[v,h]
theorem Xt {s:dE} (h:kC.contains s=true):iN s=false:=by
 cases s with
 |nil=>rfl
 |cons c r=>simp only[iN,h,Rq,Bool.and_false]
theorem Vp:eG dR 75 [] (.isl 1 (kC.map fun w=>[.str w])):=by
 refine bU 2 [.tmp 0] func75 ?_;refine aG fun K a=>?_;refine aM ?_;simp only[RR,seval];apply a;refine aG fun K a=>?_;refine aM ?_;simp only[RR,seval];refine dG ?_;simp only[RR,seval];apply a;refine aP ?_;simp only[aY,aK,bP,RR,seval];refine bB.pure ?_;rfl
theorem rW (s:dE) (p:eY s):eG dR 51 [.str s] (.bool (iN s)):=by
 refine bU 20 [.tmp 2] func51 ?_;refine aG fun K a=>?_;refine aM ?_;simp only[RR,seval];apply a;clear a K;refine aG fun K a=>?_;refine aM ?_;simp only[RR,seval];refine aI Vp ?_;simp only[RR,seval];apply a;clear a K;refine dM (fun b H=>b 0= .str s) (fun K a=>?_) ?_
 ·refine aG fun K a=>?_;refine aM ?_;simp only[RR,seval]
  apply a;clear a K;refine aQ ?_;refine fN (fun l b H=> ∃k:Nat,l=kC.length-k∧k≤kC.length∧b 4= .int .i64 k∧b 0= .str s∧b 3= .isl 1 (kC.map fun w=>[.str w])) (kC.length) ⟨0,rfl,cN _,rfl,rfl,rfl⟩ ?_;rintro l b H ⟨k,rfl,u,f,d,e⟩ t n;refine aH ?_;refine aG fun K a=>?_;refine aM ?_;simp only[RR,seval];simp only[f,e,aF,RR,seval];apply a;clear a K;refine aX ?_ ?_<;>intro c
  ·have i:k<kC.length:=by have:=aD c;omega
   clear c;refine aL ?_;simp only[bR];refine aH ?_;refine aQ ?_;have g:(kC.map fun w=>[AV.str w])[k]?=some [.str kC[k]]:=by rw[cT,aC i];rfl
   have j:=bZ i;generalize kC[k]=w at g j;refine aG fun K a=>?_;refine aM ?_;simp only[RR,seval];simp only[d,e,f,g,RR,seval];apply a;clear a K;refine aX ?_ ?_<;>intro c
   ·refine aG fun K a=>?_;refine aM ?_;simp only[RR,seval]
    apply a;clear a K;refine aP ?_;simp only[bR,dC,aY,aK,bP,RR,seval];refine bB.pure ?_;have :s=w:=aD c;subst this;rw[Xt (by simpa using j)]
   have v:kC.length=10:=rfl;refine aL ?_;simp only[bR,dC];refine aM ?_;simp only[RR,seval];simp only[f,bR,RR,seval];rw[aU _ (by omega)];refine n (kC.length-(k+1)) _ _ (by omega) ⟨k+1,rfl,by omega,rfl,d,e⟩
  refine cH ?_;simp only[bR,dC,reduceIte];have o:k=kC.length:=by have:=aE c;omega
  clear c;subst o;exact a _ _ d
 rintro b H d;refine aG fun K a=>?_;refine aM ?_;simp only[RR,seval];simp only[d,seval];refine aI (X2 s p) ?_;simp only[RR,seval];apply a;clear a K;refine aP ?_;simp only[aY,aK,bP,RR,seval];refine bB.pure ?_;rfl
theorem wF (l:List dE) (n:SV l):eG dR 50 [.isl 1 (l.map bT)] (.bool (l.all iN)):=by
 have v:l.length≤9223372036854775807:=n.fit;refine bU 16 [.tmp 2] func50 ?_;refine aG fun K a=>?_;refine aM ?_;simp only[RR,seval];apply a;clear a K;refine dM (fun d H=>l.all iN=true) (fun K a=>?_) ?_
 ·refine aG fun K a=>?_;refine aM ?_;simp only[RR,seval]
  apply a;clear a K;refine aQ ?_;refine fN (fun o d H=> ∃k:Nat,o=l.length-k∧k≤l.length∧d 3= .int .i64 k∧d 0= .isl 1 (l.map bT)∧l.all iN=(l.drop k).all iN) (l.length) ⟨0,rfl,cN _,rfl,rfl,by rw[dP]⟩ ?_;rintro o d H ⟨k,rfl,x,f,e,c⟩ u p;refine aH ?_;refine aG fun K a=>?_;refine aM ?_;simp only[RR,seval];simp only[f,e,aF,RR,seval];apply a;clear a K;refine aX ?_ ?_<;>intro b
  ·have g:k<l.length:=by have:=aD b;omega
   clear b;refine aL ?_;simp only[bR];refine aH ?_;refine aQ ?_;have j:=JK (aC g);have i:=n.all _ (bZ g);rw[bM g,eD]at c;generalize l[k]=s at j c i;refine aG fun K a=>?_;refine aM ?_;simp only[RR,seval];simp only[e,f,j,RR,seval];refine aI (rW s i) ?_;simp only[RR,seval];apply a;clear a K;refine eO (!iN s) rfl (fun b=>?_) (fun b=>?_)
   ·refine aG fun K a=>?_;refine aM ?_;simp only[RR,seval]
    apply a;clear a K;refine aP ?_;simp only[bR,dC,aY,aK,bP,RR,seval];refine bB.pure ?_;rw[c,show iN s=false by simpa using b];rfl
   refine aL ?_;simp only[bR,dC];rw[show iN s=true by simpa using b,cO]at c;refine aM ?_;simp only[RR,seval];simp only[f,bR,RR,seval];rw[aU _ (by omega)];refine p (l.length-(k+1)) _ _ (by omega) ⟨k+1,rfl,by omega,rfl,e,c⟩
  refine cH ?_;simp only[bR,dC,reduceIte];have t:k=l.length:=by have:=aE b;omega
  clear b;subst t;rw[dF]at c;exact a _ _ c
 rintro d H e;refine aG fun K a=>?_;refine aM ?_;simp only[RR,seval];apply a;clear a K;refine aP ?_;simp only[aY,aK,bP,RR,seval];refine bB.pure ?_;rw[e]
def Q8 (e:Ex) (level:Int):Bool:=
 decide (level≤24)&&(decide (e.kind=6)||decide (e.op=0))&&(decide (e.kind=1)||decide (e.num=0))&&
  (if e.kind=2∨e.kind=3∨e.kind=4 then iN e.name else decide (e.name=[]))
def lG (k o:Int) (n:Nat):Bool:=
 if k=1∨k=2∨k=5 then decide (n=0)else if k=3∨k=7 then decide (n=1)else if k=4 then decide (n≤6)
 else if k=6 then decide (4≤o)&&decide (o≤15)&&decide (n=2)else if k=8∨k=9 then decide (n=2)else false
def kH:List Ex→Int→Bool
 |[],_=>true
 | .mk k o n s kids::l,level=>Q8 (.mk k o n s kids) level&&lG k o kids.length&&kH kids (level+1)&&kH l level
def lA (e:Ex) (level:Int):Bool:=Q8 e level&&lG e.kind e.op e.kids.length&&kH e.kids (level+1)
theorem oU (e:Ex) (l:List Ex) (a:Int):kH (e::l) a=(lA e a&&kH l a):=by
 cases e;rw[kH];rfl
theorem oO (a:Int):kH [] a=true:=by rw[kH]
theorem Lq (e:Ex) (G:e.ok) (d:Int) (h1: -1000000≤d) (h2:d≤1000000)
  (S:d≤24→eG dR 121 [.isl 5 (e.kids.map Ex.row), .int .i64 (d+1)] (.bool (kH e.kids (d+1)))):
  eG dR 181 [.agg e.row, .int .i64 d] (.bool (lA e d)):=by
 have P:=rW e.name G.name;have R:=e.row_eq;generalize I:lA e d=Z;rw[R];have X:e.kids.length≤9223372036854775807:=G.kids.fit;obtain⟨k,o,n,s,l⟩:=e;simp only[Ex.kind,Ex.op,Ex.num,Ex.name,Ex.kids]at S P X⊢;clear R G;have O:lA (.mk k o n s l) d=((decide (d≤24)&&(decide (k=6)||decide (o=0))&&(decide (k=1)||decide (n=0)))&&(if k=2∨k=3∨k=4 then iN s else decide (s=[]))&&lG k o l.length&&kH l (d+1)):=rfl;refine bU 123 [.tmp 4] func181 ?_;refine dM (fun g H=> ∃b,g 1= .int .i64 d∧g 2= .ptr 5 b 0 0∧H b=some (.rows 5 [[.int .i64 k, .int .i64 o, .int .u32 n, .str s, .isl 5 (l.map Ex.row)]])) (fun K a=>?_) ?_
 ·refine aM ?_;simp only[RR,seval]
  refine aN fun b c=>?_;simp only[RR,seval];exact a _ _ ⟨b,rfl,rfl,bO _ _ _⟩
 rintro g H ⟨b,j,f,c⟩;refine aH (dM (fun g H=> ∃t,g 28= .bool t∧(t= !(decide (d≤24)&&(decide (k=6)||decide (o=0))&&(decide (k=1)||decide (n=0))))∧g 1= .int .i64 d∧g 2= .ptr 5 b 0 0∧H b=some (.rows 5 [[.int .i64 k, .int .i64 o, .int .u32 n, .str s, .isl 5 (l.map Ex.row)]])) (fun K a=>?_) ?_)
 ·refine aM ?_;simp only[RR,seval]
  simp only[j,RR,seval]
  repeat' ((refine cL (fun h=>?_) (fun h=>?_))<;>simp only[h,f,c,RR,seval])
  all_goals
   refine a _ _ ⟨_,rfl, ?_,j,f,c⟩;simp_all<;>omega
 rintro g H ⟨t,L,i,j,f,c⟩;refine eO _ L (fun p=>?_) (fun p=>?_)
 ·refine aG fun K a=>?_;refine aM ?_;simp only[RR,seval]
  apply a;refine aP ?_;simp only[bR,aY,aK,bP,RR,seval];refine bB.pure ?_;rw[←I]
  have :(decide (d≤24)&&(decide (k=6)||decide (o=0))&&(decide (k=1)||decide (n=0)))=false:=by
   cases e:(decide (d≤24)&&(decide (k=6)||decide (o=0))&&(decide (k=1)||decide (n=0)))with
   |false=>rfl
   |true=>rw[e,p]at i;cases i
  rw[O,this];rfl
 have C:(decide (d≤24)&&(decide (k=6)||decide (o=0))&&(decide (k=1)||decide (n=0)))=true:=by
  cases e:(decide (d≤24)&&(decide (k=6)||decide (o=0))&&(decide (k=1)||decide (n=0)))with
  |true=>rfl
  |false=>rw[e,p]at i;cases i
 have Y:d≤24:=by simp only[aV,bH]at C;exact C.1.1
 have J:Z=((if k=2∨k=3∨k=4 then iN s else decide (s=[]))&&lG k o l.length&&kH l (d+1)):=by
  rw[←I,O,C,cO]
 have x:=S Y;clear i p L t;refine aL ?_;simp only[bR];refine dM (fun g H=>g 5= .bool (decide (k=2∨k=3∨k=4))∧g 1= .int .i64 d∧g 2= .ptr 5 b 0 0∧H b=some (.rows 5 [[.int .i64 k, .int .i64 o, .int .u32 n, .str s, .isl 5 (l.map Ex.row)]])) (fun K a=>?_) ?_
 ·refine aM ?_;simp only[RR,seval]
  simp only[f,c,RR,seval]
  repeat' ((refine cL (fun h=>?_) (fun h=>?_))<;>simp only[h,f,c,RR,seval])
  all_goals
   refine a _ _ ⟨?_,j,f,c⟩;simp [upd];simp_all
 rintro g H ⟨M,j,f,c⟩;refine aH (dM (fun g H=> ∃t,g 55= .bool t∧(t= !(if k=2∨k=3∨k=4 then iN s else decide (s=[])))∧g 1= .int .i64 d∧g 2= .ptr 5 b 0 0∧H b=some (.rows 5 [[.int .i64 k, .int .i64 o, .int .u32 n, .str s, .isl 5 (l.map Ex.row)]])) (fun K a=>?_) ?_)
 ·by_cases u:k=2∨k=3∨k=4
  ·have F:decide (k=2∨k=3∨k=4)=true:=cV u
   rw[F]at M;by_cases v:s=[]
   ·have A:decide (s=[])=true:=cV v
    refine aM ?_;simp only[RR,seval];simp only[*,RR,seval];exact a _ _ ⟨_,rfl,by rw[bF u,v];rfl,j,f,c⟩
   have A:decide (s=[])=false:=bI v;refine aM ?_;simp only[RR,seval];simp only[*,RR,seval];refine aI P ?_;simp only[RR,seval];refine a _ _ ⟨_,rfl,by rw[bF u],j,f,c⟩
  have F:decide (k=2∨k=3∨k=4)=false:=bI u;rw[F]at M;by_cases v:s=[]
  ·have A:decide (s=[])=true:=cV v
   refine aM ?_;simp only[RR,seval];simp only[*,RR,seval];exact a _ _ ⟨_,rfl,by rw[aO u,A];rfl,j,f,c⟩
  have A:decide (s=[])=false:=bI v;refine aM ?_;simp only[RR,seval];simp only[*,RR,seval];exact a _ _ ⟨_,rfl,by rw[aO u,A];rfl,j,f,c⟩
 rintro g H ⟨t,N,i,j,f,c⟩;refine eO _ N (fun p=>?_) (fun p=>?_)
 ·refine aG fun K a=>?_;refine aM ?_;simp only[RR,seval]
  apply a;refine aP ?_;simp only[bR,aY,aK,bP,RR,seval];refine bB.pure ?_
  have :(if k=2∨k=3∨k=4 then iN s else decide (s=[]))=false:=by
   rw[p]at i
   cases e:(if k=2∨k=3∨k=4 then iN s else decide (s=[]))with
   |false=>rfl
   |true=>rw[e]at i;cases i
  rw[J,this];rfl
 have Q:(if k=2∨k=3∨k=4 then iN s else decide (s=[]))=true:=by
  rw[p]at i
  cases e:(if k=2∨k=3∨k=4 then iN s else decide (s=[]))with
  |true=>rfl
  |false=>rw[e]at i;cases i
 rw[Q,cO]at J;clear i p N t C Q I;refine aL ?_;simp only[bR];refine aG fun K a=>?_;refine aM ?_;simp only[RR,seval];simp only[f,c,aF,RR,seval];apply a;have y:IntKind.wrap .i64 (d+1)=d+1:=aU _ (by omega);have D: ∀m:Nat,decide ((l.length:Int)=m)=decide (l.length=m):=fun m=>by rw[eW];simp only[bH];omega
 have T:decide ((l.length:Int)≤6)=decide (l.length≤6):=by rw[eW];simp only[bH];omega
 have E:decide ((l.length:Int)=0)=decide (l.length=0):=D 0;have B:decide ((l.length:Int)=1)=decide (l.length=1):=D 1;have z:decide ((l.length:Int)=2)=decide (l.length=2):=D 2;clear D;subst J;by_cases k1:k=1
 ·subst k1
  repeat' (first|(refine aG fun K a=>?_;refine aM ?_;simp only[f,c,E,RR,seval];apply a;clear a K)|(refine aH ?_)|(refine aQ ?_)|(refine cM ?_)|(refine aL ?_;simp only[bR])|(refine aP ?_;simp only[bR,dC,aY,aK,bP,RR,seval];refine bB.pure ?_))
  cases l with
  |nil=>simp only[lG,oO];rfl
  |cons=>simp [lG]
 by_cases k1:k=2
 ·subst k1
  repeat' (first|(refine aG fun K a=>?_;refine aM ?_;simp only[f,c,E,RR,seval];apply a;clear a K)|(refine aH ?_)|(refine aQ ?_)|(refine cM ?_)|(refine bK ?_)|(refine aL ?_;simp only[bR])|(refine aP ?_;simp only[bR,dC,aY,aK,bP,RR,seval];refine bB.pure ?_))
  cases l with
  |nil=>simp only[lG,oO];rfl
  |cons=>simp [lG]
 by_cases k1:k=5
 ·subst k1
  repeat' (first|(refine aG fun K a=>?_;refine aM ?_;simp only[f,c,E,RR,seval];apply a;clear a K)|(refine aH ?_)|(refine aQ ?_)|(refine cM ?_)|(refine bK ?_)|(refine aM ?_;simp only[bR,RR,seval])|(refine aP ?_;simp only[bR,dC,aY,aK,bP,RR,seval];refine bB.pure ?_))
  cases l with
  |nil=>simp only[lG,oO];rfl
  |cons=>simp [lG]
 by_cases k1:k=3
 ·subst k1
  repeat' (first|(refine aG fun K a=>?_;refine aM ?_;simp only[f,c,B,RR,seval];apply a;clear a K)|(refine aH ?_)|(refine aQ ?_)|(refine cM ?_)|(refine bK ?_)|(refine aL ?_;simp only[bR])|(refine aM ?_;simp only[B,bR,RR,seval])|(refine fJ (fun h=>?_) (fun h=>?_)<;>simp only[*,y,bR,RR,seval])|(refine aP ?_;simp only[bR,dC,aY,aK,bP,RR,seval];refine bB.pure ?_)|(refine aI (x) ?_;simp only[bR,RR,seval]))
  all_goals simp [lG, *]
 by_cases k1:k=7
 ·subst k1
  repeat' (first|(refine aG fun K a=>?_;refine aM ?_;simp only[f,c,B,RR,seval];apply a;clear a K)|(refine aH ?_)|(refine aQ ?_)|(refine cM ?_)|(refine bK ?_)|(refine aM ?_;simp only[B,bR,RR,seval])|(refine fJ (fun h=>?_) (fun h=>?_)<;>simp only[*,y,bR,RR,seval])|(refine aP ?_;simp only[bR,dC,aY,aK,bP,RR,seval];refine bB.pure ?_)|(refine aI (x) ?_;simp only[bR,RR,seval]))
  all_goals simp [lG, *]
 by_cases k1:k=4
 ·subst k1
  repeat' (first|(refine aG fun K a=>?_;refine aM ?_;simp only[f,c,T,RR,seval];apply a;clear a K)|(refine aH ?_)|(refine aQ ?_)|(refine cM ?_)|(refine bK ?_)|(refine aM ?_;simp only[T,bR,RR,seval])|(refine fJ (fun h=>?_) (fun h=>?_)<;>simp only[*,y,bR,RR,seval])|(refine aP ?_;simp only[bR,dC,aY,aK,bP,RR,seval];refine bB.pure ?_)|(refine aI (x) ?_;simp only[bR,RR,seval]))
  all_goals simp [lG, *]
 by_cases k1:k=6
 ·subst k1
  repeat' (first|(refine aG fun K a=>?_;refine aM ?_;simp only[f,c,RR,seval];apply a;clear a K)|(refine aH ?_)|(refine aQ ?_)|(refine cM ?_)|(refine bK ?_)|(refine aM ?_;simp only[f,c,bR,RR,seval])|(refine fJ (fun h=>?_) (fun h=>?_)<;>simp only[*,z,y,bR,RR,seval])|(refine aP ?_;simp only[bR,dC,aY,aK,bP,RR,seval];refine bB.pure ?_)|(refine aI (x) ?_;simp only[bR,RR,seval]))
  all_goals simp [lG, *]
 by_cases k1:k=8
 ·subst k1
  repeat' (first|(refine aG fun K a=>?_;refine aM ?_;simp only[f,c,z,RR,seval];apply a;clear a K)|(refine aH ?_)|(refine aQ ?_)|(refine cM ?_)|(refine bK ?_)|(refine aL ?_;simp only[bR])|(refine aM ?_;simp only[z,bR,RR,seval])|(refine fJ (fun h=>?_) (fun h=>?_)<;>simp only[*,y,bR,RR,seval])|(refine aP ?_;simp only[bR,dC,aY,aK,bP,RR,seval];refine bB.pure ?_)|(refine aI (x) ?_;simp only[bR,RR,seval]))
  all_goals simp [lG, *]
 by_cases k1:k=9
 ·subst k1
  repeat' (first|(refine aG fun K a=>?_;refine aM ?_;simp only[f,c,z,RR,seval];apply a;clear a K)|(refine aH ?_)|(refine aQ ?_)|(refine cM ?_)|(refine bK ?_)|(refine aM ?_;simp only[z,bR,RR,seval])|(refine fJ (fun h=>?_) (fun h=>?_)<;>simp only[*,y,bR,RR,seval])|(refine aP ?_;simp only[bR,dC,aY,aK,bP,RR,seval];refine bB.pure ?_)|(refine aI (x) ?_;simp only[bR,RR,seval]))
  all_goals simp [lG, *]
 have g1:decide (k=1)=false:=bI (by assumption);have g2:decide (k=2)=false:=bI (by assumption);have g3:decide (k=3)=false:=bI (by assumption);have g4:decide (k=4)=false:=bI (by assumption);have U:decide (k=5)=false:=bI (by assumption);have g6:decide (k=6)=false:=bI (by assumption);have V:decide (k=7)=false:=bI (by assumption);have g8:decide (k=8)=false:=bI (by assumption);have W:decide (k=9)=false:=bI (by assumption)
 repeat' (first|(refine aG fun K a=>?_;refine aM ?_;simp only[*,RR,seval];apply a;clear a K)|(refine aH ?_)|(refine aQ ?_)|(refine bK ?_)|(refine aL ?_;simp only[bR,dC])|(refine aM ?_;simp only[U,V,W,bR,RR,seval])|(refine aP ?_;simp only[aY,aK,bP,RR,seval];refine bB.pure ?_))
 simp [lG, *]
theorem Lp (n:Nat): ∀(l:List Ex) (b:Int),pB l=n→By l→ -1000000≤b→b≤1000000→eG dR 121 [.isl 5 (l.map Ex.row), .int .i64 b] (.bool (kH l b)):=by
 induction n using Nat.strongRecOn with
 |_ n ih=>
  intro l b L v y z;have G:l.length≤9223372036854775807:=v.fit;refine bU 19 [.tmp 4] func121 ?_;refine aG fun K a=>?_;refine aM ?_;simp only[RR,seval];apply a;clear a K;refine dM (fun f H=>kH l b=true) (fun K a=>?_) ?_
  ·refine aG fun K a=>?_;refine aM ?_;simp only[RR,seval]
   apply a;clear a K;refine aQ ?_;refine fN (fun x f H=> ∃k:Nat,x=l.length-k∧k≤l.length∧f 5= .int .i64 k∧f 0= .isl 5 (l.map Ex.row)∧f 1= .int .i64 b∧kH l b=kH (l.drop k) b) (l.length) ⟨0,rfl,cN _,rfl,rfl,rfl,by rw[dP]⟩ ?_;rintro x f H ⟨k,rfl,I,j,g,p,d⟩ F A;refine aH ?_;refine aG fun K a=>?_;refine aM ?_;simp only[RR,seval];simp only[j,g,aF,RR,seval];apply a;clear a K;refine aX ?_ ?_<;>intro c
   ·have o:k<l.length:=by have:=aD c;omega
    clear c;refine aL ?_;simp only[bR];refine aH ?_;refine aQ ?_;have t:=uT Ex.row (aC o);have u:=bZ o;have i:=v.all _ u;have E:=nM u;rw[bM o,oU]at d;generalize l[k]=e at t d i E;have M:=e.sz_eq;have D:=e.row_len;have B:=Lq e i b y z (fun J=>ih _ (by omega) e.kids (b+1) rfl i.kids (by omega) (by omega));refine aG fun K a=>?_;refine aM ?_;simp only[RR,seval];simp only[g,p,j,t,D,RR,seval];rw[sH (by omega)];refine aI B ?_;simp only[RR,seval];apply a;clear a K;refine eO (!lA e b) rfl (fun c=>?_) (fun c=>?_)
    ·refine aG fun K a=>?_;refine aM ?_;simp only[RR,seval]
     apply a;clear a K;refine aP ?_;simp only[bR,dC,aY,aK,bP,RR,seval];refine bB.pure ?_;rw[d,show lA e b=false by simpa using c];rfl
    refine aL ?_;simp only[bR,dC];rw[show lA e b=true by simpa using c,cO]at d;refine aM ?_;simp only[RR,seval];simp only[j,bR,RR,seval];rw[aU _ (by omega)];refine A (l.length-(k+1)) _ _ (by omega) ⟨k+1,rfl,by omega,rfl,g,p,d⟩
   refine cH ?_;simp only[bR,dC,reduceIte];have C:k=l.length:=by have:=aE c;omega
   clear c;subst C;rw[dF,oO]at d;exact a _ _ d
  rintro f H g;refine aG fun K a=>?_;refine aM ?_;simp only[RR,seval];apply a;clear a K;refine aP ?_;simp only[aY,aK,bP,RR,seval];refine bB.pure ?_;rw[g]
def Q9 (s:Sm) (level:Int):Bool:=
 decide (level≤24)&&(decide (s.kind=4)||decide (s.els.length=0))&&(decide (s.kind=4)||decide (s.kind=5)||decide (s.thn.length=0))&&
  (if s.kind=1∨s.kind=2∨s.kind=6 then iN s.name else decide (s.name=[]))
def Gg (k:Int) (n:Nat):Bool:=
 if k=1∨k=3∨k=4∨k=5 then decide (n=1)else if k=2 then decide (n=2)else if k=6 then decide (n≤6)else if k=7 then decide (n≤1)else false
def jG:List Sm→Int→Bool
 |[],_=>true
 | .mk k s es t u::l,level=>Q9 (.mk k s es t u) level&&Gg k es.length&&kH es (level+1)&&jG t (level+1)&&jG u (level+1)&&jG l level
def lB (s:Sm) (level:Int):Bool:=Q9 s level&&Gg s.kind s.es.length&&kH s.es (level+1)&&jG s.thn (level+1)&&jG s.els (level+1)
theorem oS (e:Sm) (l:List Sm) (a:Int):jG (e::l) a=(lB e a&&jG l a):=by
 cases e;rw[jG];rfl
theorem uJ (a:Int):jG [] a=true:=by rw[jG]
def pX (a:Ar):Bool:=iN a.name&&decide (1≤a.size)&&decide (a.size≤4096)
def lC (f:Fu):Bool:=iN f.name&&decide (f.params.length≤6)&&f.params.all iN&&f.locs.all iN&&jG f.body 1
def fZ (p:Pg):Bool:=p.vars.all iN&&decide (1≤p.funs.length)&&decide (p.funs.length≤64)&&p.arrs.all pX&&p.funs.all lC
theorem UD {a b:Bool} (h:a= !b) (c:a=true):b=false:=by subst c;cases b<;>simp_all
theorem UB {a b:Bool} (h:a= !b) (c:a=false):b=true:=by subst c;cases b<;>simp_all
theorem Lo (e:Sm) (y:e.ok) (f:Int) (h1: -1000000≤f) (h2:f≤1000000)
  (R:f≤24→ ∀x,x=e.thn∨x=e.els→eG dR 52 [.isl 5 (x.map Sm.row), .int .i64 (f+1)] (.bool (jG x (f+1)))):
  eG dR 77 [.agg e.row, .int .i64 f] (.bool (lB e f)):=by
 have P:=rW e.name y.name;have O:=fun h=>Lp _ e.es (f+1) rfl y.es (by omega) h;have Q:=e.row_eq;generalize N:lB e f=a1;rw[Q];have X:e.es.length≤9223372036854775807:=y.es.fit;have Y:e.thn.length≤9223372036854775807:=y.thn.fit;have C:e.els.length≤9223372036854775807:=y.els.fit;obtain⟨k,s,l,j,u⟩:=e;simp only[Sm.kind,Sm.name,Sm.es,Sm.thn,Sm.els]at R P O X Y C⊢;clear Q y;have v:lB (.mk k s l j u) f=((decide (f≤24)&&(decide (k=4)||decide (u.length=0))&&(decide (k=4)||decide (k=5)||decide (j.length=0)))&&(if k=1∨k=2∨k=6 then iN s else decide (s=[]))&&Gg k l.length&&kH l (f+1)&&jG j (f+1)&&jG u (f+1)):=rfl;rw[N]at v;clear N;refine bU 110 [.tmp 4] func77 ?_;refine dM (fun g H=> ∃b,g 1= .int .i64 f∧g 2= .ptr 5 b 0 0∧H b=some (.rows 5 [[.int .i64 k, .str s, .isl 5 (l.map Ex.row), .isl 5 (j.map Sm.row), .isl 5 (u.map Sm.row)]])) (fun K a=>?_) ?_
 ·refine aM ?_;simp only[RR,seval]
  refine aN fun b c=>?_;simp only[RR,seval];exact a _ _ ⟨b,rfl,rfl,bO _ _ _⟩
 rintro g H ⟨b,i,d,c⟩;refine aH (dM (fun g H=> ∃t,g 36= .bool t∧(t= !(decide (f≤24)&&(decide (k=4)||decide (u.length=0))&&(decide (k=4)||decide (k=5)||decide (j.length=0))))∧g 1= .int .i64 f∧g 2= .ptr 5 b 0 0∧H b=some (.rows 5 [[.int .i64 k, .str s, .isl 5 (l.map Ex.row), .isl 5 (j.map Sm.row), .isl 5 (u.map Sm.row)]])) (fun K a=>?_) ?_)
 ·have p:decide ((0:Int)<u.length)= !decide (u.length=0):=by rw[eW];simp only[bH,eI,eQ];omega
  have G:decide ((0:Int)<j.length)= !decide (j.length=0):=by rw[eW];simp only[bH,eI,eQ];omega
  refine aM ?_;simp only[RR,seval];simp only[i,RR,seval]
  repeat' ((refine cL (fun h=>?_) (fun h=>?_))<;>simp only[h,d,c,aF,p,G,RR,seval])
  all_goals
   refine a _ _ ⟨_,rfl, ?_,i,d,c⟩;simp_all<;>omega
 rintro g H ⟨t,L,n,i,d,c⟩;refine eO _ L (fun o=>?_) (fun o=>?_)
 ·have:=UD n o
  refine aG fun K a=>?_;refine aM ?_;simp only[RR,seval];apply a;refine aP ?_;simp only[bR,aY,aK,bP,RR,seval];refine bB.pure ?_;rw[v,this];rfl
 have D:=UB n o;have a0:f≤24:=by simp only[aV,bH]at D;exact D.1.1
 rw[D,cO]at v;have S:=R a0;have E:=O (by omega);clear n o L t;refine aL ?_;simp only[bR];refine dM (fun g H=>g 5= .bool (decide (k=1∨k=2∨k=6))∧g 1= .int .i64 f∧g 2= .ptr 5 b 0 0∧H b=some (.rows 5 [[.int .i64 k, .str s, .isl 5 (l.map Ex.row), .isl 5 (j.map Sm.row), .isl 5 (u.map Sm.row)]])) (fun K a=>?_) ?_
 ·refine aM ?_;simp only[RR,seval]
  simp only[d,c,RR,seval]
  repeat' ((refine cL (fun h=>?_) (fun h=>?_))<;>simp only[h,d,c,RR,seval])
  all_goals
   refine a _ _ ⟨?_,i,d,c⟩;simp [upd];simp_all
 rintro g H ⟨C,i,d,c⟩;refine aH (dM (fun g H=> ∃t,g 63= .bool t∧(t= !(if k=1∨k=2∨k=6 then iN s else decide (s=[])))∧g 1= .int .i64 f∧g 2= .ptr 5 b 0 0∧H b=some (.rows 5 [[.int .i64 k, .str s, .isl 5 (l.map Ex.row), .isl 5 (j.map Sm.row), .isl 5 (u.map Sm.row)]])) (fun K a=>?_) ?_)
 ·by_cases z:k=1∨k=2∨k=6
  ·have I:decide (k=1∨k=2∨k=6)=true:=cV z
   rw[I]at C;by_cases A:s=[]
   ·have B:decide (s=[])=true:=cV A
    refine aM ?_;simp only[RR,seval];simp only[*,RR,seval];exact a _ _ ⟨_,rfl,by rw[bF z,A];rfl,i,d,c⟩
   have B:decide (s=[])=false:=bI A;refine aM ?_;simp only[RR,seval];simp only[*,RR,seval];refine aI P ?_;simp only[RR,seval];refine a _ _ ⟨_,rfl,by rw[bF z],i,d,c⟩
  have I:decide (k=1∨k=2∨k=6)=false:=bI z;rw[I]at C;by_cases A:s=[]
  ·have B:decide (s=[])=true:=cV A
   refine aM ?_;simp only[RR,seval];simp only[*,RR,seval];exact a _ _ ⟨_,rfl,by rw[aO z,B];rfl,i,d,c⟩
  have B:decide (s=[])=false:=bI A;refine aM ?_;simp only[RR,seval];simp only[*,RR,seval];exact a _ _ ⟨_,rfl,by rw[aO z,B];rfl,i,d,c⟩
 rintro g H ⟨t,M,n,i,d,c⟩;refine eO _ M (fun o=>?_) (fun o=>?_)
 ·have:=UD n o
  refine aG fun K a=>?_;refine aM ?_;simp only[RR,seval];apply a;refine aP ?_;simp only[bR,aY,aK,bP,RR,seval];refine bB.pure ?_;rw[v,this];rfl
 rw[UB n o,cO]at v;clear n o M t D;refine aL ?_;simp only[bR];refine aG fun K a=>?_;refine aM ?_;simp only[RR,seval];simp only[d,c,aF,RR,seval];apply a;refine aG fun K a=>?_;refine aM ?_;simp only[RR,seval];apply a;have F:IntKind.wrap .i64 (f+1)=f+1:=aU _ (by omega);refine dM (fun g H=>g 7= .bool (Gg k l.length)∧g 1= .int .i64 f∧g 2= .ptr 5 b 0 0∧H b=some (.rows 5 [[.int .i64 k, .str s, .isl 5 (l.map Ex.row), .isl 5 (j.map Sm.row), .isl 5 (u.map Sm.row)]])) (fun K a=>?_) ?_
 ·have p:decide ((l.length:Int)=1)=decide (l.length=1):=by rw[eW];simp only[bH];omega
  have G:decide ((l.length:Int)=2)=decide (l.length=2):=by rw[eW];simp only[bH];omega
  have V:decide ((l.length:Int)≤6)=decide (l.length≤6):=by rw[eW];simp only[bH];omega
  have W:decide ((l.length:Int)≤1)=decide (l.length≤1):=by rw[eW];simp only[bH];omega
  by_cases k1:k=1
  ·subst k1
   repeat' (first|(refine aG fun K a=>?_;refine aM ?_;simp only[d,c,RR,seval];apply a;clear a K)|(refine aH ?_)|(refine aQ ?_)|(refine cM ?_)|(refine aL ?_;simp only[bR])|(refine aM ?_;simp only[p,bR,dC,RR,seval]))
   exact a _ _ ⟨rfl,i,d,c⟩
  by_cases k1:k=3
  ·subst k1
   repeat' (first|(refine aG fun K a=>?_;refine aM ?_;simp only[d,c,RR,seval];apply a;clear a K)|(refine aH ?_)|(refine aQ ?_)|(refine cM ?_)|(refine bK ?_)|(refine aL ?_;simp only[bR])|(refine aM ?_;simp only[p,bR,dC,RR,seval]))
   exact a _ _ ⟨rfl,i,d,c⟩
  by_cases k1:k=4
  ·subst k1
   repeat' (first|(refine aG fun K a=>?_;refine aM ?_;simp only[d,c,RR,seval];apply a;clear a K)|(refine aH ?_)|(refine aQ ?_)|(refine cM ?_)|(refine bK ?_)|(refine aL ?_;simp only[bR])|(refine aM ?_;simp only[p,bR,dC,RR,seval]))
   exact a _ _ ⟨rfl,i,d,c⟩
  by_cases k1:k=5
  ·subst k1
   repeat' (first|(refine aG fun K a=>?_;refine aM ?_;simp only[d,c,RR,seval];apply a;clear a K)|(refine aH ?_)|(refine aQ ?_)|(refine cM ?_)|(refine bK ?_)|(refine aM ?_;simp only[p,bR,dC,RR,seval]))
   exact a _ _ ⟨rfl,i,d,c⟩
  by_cases k1:k=2
  ·subst k1
   repeat' (first|(refine aG fun K a=>?_;refine aM ?_;simp only[d,c,RR,seval];apply a;clear a K)|(refine aH ?_)|(refine aQ ?_)|(refine cM ?_)|(refine bK ?_)|(refine aM ?_;simp only[G,bR,dC,RR,seval]))
   exact a _ _ ⟨rfl,i,d,c⟩
  by_cases k1:k=6
  ·subst k1
   repeat' (first|(refine aG fun K a=>?_;refine aM ?_;simp only[d,c,RR,seval];apply a;clear a K)|(refine aH ?_)|(refine aQ ?_)|(refine cM ?_)|(refine bK ?_)|(refine aM ?_;simp only[V,bR,dC,RR,seval]))
   exact a _ _ ⟨rfl,i,d,c⟩
  by_cases k1:k=7
  ·subst k1
   repeat' (first|(refine aG fun K a=>?_;refine aM ?_;simp only[d,c,RR,seval];apply a;clear a K)|(refine aH ?_)|(refine aQ ?_)|(refine cM ?_)|(refine bK ?_)|(refine aM ?_;simp only[W,bR,dC,RR,seval]))
   exact a _ _ ⟨rfl,i,d,c⟩
  have g1:decide (k=1)=false:=bI (by assumption);have g2:decide (k=2)=false:=bI (by assumption);have g3:decide (k=3)=false:=bI (by assumption);have g4:decide (k=4)=false:=bI (by assumption);have Z:decide (k=5)=false:=bI (by assumption);have g6:decide (k=6)=false:=bI (by assumption);have g7:decide (k=7)=false:=bI (by assumption)
  repeat' (first|(refine aG fun K a=>?_;refine aM ?_;simp only[*,RR,seval];apply a;clear a K)|(refine aH ?_)|(refine aQ ?_)|(refine bK ?_)|(refine aL ?_;simp only[bR,dC])|(refine aM ?_;simp only[Z,bR,RR,seval]))
  exact a _ _ ⟨by simp [Gg, *,upd],i,d,c⟩
 rintro g H ⟨J,i,d,c⟩;subst v
 cases hf:Gg k l.length with
 |false=>
  rw[hf]at J
  repeat' (first|(refine aG fun K a=>?_;refine aM ?_;simp only[J,RR,seval];apply a;clear a K)|(refine aP ?_;simp only[aY,aK,bP,RR,seval];refine bB.pure ?_))
  rfl
 |true=>
  rw[hf]at J
  cases hx:kH l (f+1)with
  |false=>
   rw[hx]at E
   repeat' (first|(refine aH ?_)|(refine aM ?_;simp only[*,F,RR,seval])|(refine aP ?_;simp only[aY,aK,bP,RR,seval];refine bB.pure ?_)|(refine aI (E) ?_;simp only[bR,RR,seval]))
   rfl
  |true=>
   rw[hx]at E;have T:=S j (.inl rfl);have U:=S u (.inr rfl);refine aG fun K a=>?_;refine aM ?_;simp only[RR,seval];simp only[*,F,RR,seval];refine aI E ?_;simp only[RR,seval];simp only[i,d,c,F,RR,seval];refine aI T ?_;simp only[RR,seval]
   cases n:jG j (f+1)with
   |false=>
    simp only[RR,seval];apply a;clear a K;refine aP ?_;simp only[aY,aK,bP,RR,seval];refine bB.pure ?_;rw[n];rfl
   |true=>
    simp only[i,d,c,F,RR,seval];refine aI U ?_;simp only[RR,seval];apply a;refine aP ?_;simp only[aY,aK,bP,RR,seval];refine bB.pure ?_;rw[n];rfl
theorem Ln (n:Nat): ∀(l:List Sm) (b:Int),lQ l=n→zG l→ -1000000≤b→b≤1000000→eG dR 52 [.isl 5 (l.map Sm.row), .int .i64 b] (.bool (jG l b)):=by
 induction n using Nat.strongRecOn with
 |_ n ih=>
  intro l b N v z A;have J:l.length≤9223372036854775807:=v.fit;refine bU 19 [.tmp 4] func52 ?_;refine aG fun K a=>?_;refine aM ?_;simp only[RR,seval];apply a;clear a K;refine dM (fun f H=>jG l b=true) (fun K a=>?_) ?_
  ·refine aG fun K a=>?_;refine aM ?_;simp only[RR,seval]
   apply a;clear a K;refine aQ ?_;refine fN (fun y f H=> ∃k:Nat,y=l.length-k∧k≤l.length∧f 5= .int .i64 k∧f 0= .isl 5 (l.map Sm.row)∧f 1= .int .i64 b∧jG l b=jG (l.drop k) b) (l.length) ⟨0,rfl,cN _,rfl,rfl,rfl,by rw[dP]⟩ ?_;rintro y f H ⟨k,rfl,L,j,g,p,d⟩ I B;refine aH ?_;refine aG fun K a=>?_;refine aM ?_;simp only[RR,seval];simp only[j,g,aF,RR,seval];apply a;clear a K;refine aX ?_ ?_<;>intro c
   ·have o:k<l.length:=by have:=aD c;omega
    clear c;refine aL ?_;simp only[bR];refine aH ?_;refine aQ ?_;have t:=uT Sm.row (aC o);have u:=bZ o;have i:=v.all _ u;have F:=nA u;rw[bM o,oS]at d;generalize l[k]=e at t d i F;have O:=e.sz_eq;have E:=e.row_len
    have C:=Lo e i b z A (fun M x G=>by
     rcases G with rfl|rfl
     ·exact ih _ (by omega) e.thn (b+1) rfl i.thn (by omega) (by omega)
     exact ih _ (by omega) e.els (b+1) rfl i.els (by omega) (by omega))
    refine aG fun K a=>?_;refine aM ?_;simp only[RR,seval];simp only[g,p,j,t,E,RR,seval];rw[sH (by omega)];refine aI C ?_;simp only[RR,seval];apply a;clear a K;refine eO (!lB e b) rfl (fun c=>?_) (fun c=>?_)
    ·refine aG fun K a=>?_;refine aM ?_;simp only[RR,seval]
     apply a;clear a K;refine aP ?_;simp only[bR,dC,aY,aK,bP,RR,seval];refine bB.pure ?_;rw[d,show lB e b=false by simpa using c];rfl
    refine aL ?_;simp only[bR,dC];rw[show lB e b=true by simpa using c,cO]at d;refine aM ?_;simp only[RR,seval];simp only[j,bR,RR,seval];rw[aU _ (by omega)];refine B (l.length-(k+1)) _ _ (by omega) ⟨k+1,rfl,by omega,rfl,g,p,d⟩
   refine cH ?_;simp only[bR,dC,reduceIte];have D:k=l.length:=by have:=aE c;omega
   clear c;subst D;rw[dF,uJ]at d;exact a _ _ d
  rintro f H g;refine aG fun K a=>?_;refine aM ?_;simp only[RR,seval];apply a;clear a K;refine aP ?_;simp only[aY,aK,bP,RR,seval];refine bB.pure ?_;rw[g]
theorem zR (p:Pg) (D:p.ok):eG dR 25 [p.av] (.bool (fZ p)):=by
 have X:p.vars.length≤9223372036854775807:=D.vars.fit;have V:p.arrs.length≤9223372036854775807:=D.afit;have W:p.funs.length≤9223372036854775807:=D.ffit;have O:=wF p.vars D.vars;obtain⟨vs,n,g⟩:=p;simp only at X V W O;simp only[Pg.av,Pg.row];refine bU 95 [.tmp 2] func25 ?_;refine dM (fun j H=> ∃b,j 1= .ptr 3 b 0 0∧H b=some (.rows 3 [[.isl 1 (vs.map bT), .isl 2 (n.map Ar.row), .isl 5 (g.map Fu.row)]])) (fun K c=>?_) ?_
 ·refine aM ?_;simp only[RR,seval]
  refine aN fun b i=>?_;simp only[RR,seval];exact c _ _ ⟨b,rfl,bO _ _ _⟩
 rintro j H ⟨b,d,i⟩;have x:fZ ⟨vs,n,g⟩=((vs.all iN&&decide (1≤g.length)&&decide (g.length≤64))&&n.all pX&&g.all lC):=rfl;generalize fZ ⟨vs,n,g⟩=a6 at x⊢;refine aH ?_;refine dM (fun j H=> ∃t,j 21= .bool t∧(t= !(vs.all iN&&decide (1≤g.length)&&decide (g.length≤64)))∧j 1= .ptr 3 b 0 0∧H b=some (.rows 3 [[.isl 1 (vs.map bT), .isl 2 (n.map Ar.row), .isl 5 (g.map Fu.row)]])) (fun K c=>?_) ?_
 ·have E:decide ((g.length:Int)<1)= !decide (1≤g.length):=by rw[eW];simp only[bH,eI,eQ];omega
  have I:decide ((64:Int)<g.length)= !decide (g.length≤64):=by rw[eW];simp only[bH,eI,eQ];omega
  refine aM ?_;simp only[RR,seval];simp only[d,i,RR,seval];refine aI O ?_;simp only[RR,seval]
  cases hv:vs.all iN with
  |false=>
   simp only[RR,seval];exact c _ _ ⟨_,rfl,by rw[hv];rfl,d,i⟩
  |true=>
   simp only[d,i,aF,E,RR,seval]
   cases h1:decide (1≤g.length)with
   |false=>
    simp only[RR,seval];exact c _ _ ⟨_,rfl,by rw[hv,h1];rfl,d,i⟩
   |true=>
    simp only[d,i,aF,I,RR,seval];exact c _ _ ⟨_,rfl,by rw[hv,h1];rfl,d,i⟩
 rintro j H ⟨t,N,M,d,i⟩;refine eO _ N (fun l=>?_) (fun l=>?_)
 ·have:=UD M l
  refine aG fun K c=>?_;refine aM ?_;simp only[RR,seval];apply c;clear c K;refine aP ?_;simp only[bR,aY,aK,bP,RR,seval];refine bB.pure ?_;rw[x,this];rfl
 have Z:=UB M l;rw[Z,cO]at x;clear M l N t;refine aL ?_;simp only[bR];refine dM (fun j H=>n.all pX=true∧j 1= .ptr 3 b 0 0∧H b=some (.rows 3 [[.isl 1 (vs.map bT), .isl 2 (n.map Ar.row), .isl 5 (g.map Fu.row)]])) (fun K c=>?_) ?_
 ·refine aG fun K c=>?_;refine aM ?_;simp only[RR,seval]
  apply c;clear c K;refine aQ ?_;refine fN (fun G j H=> ∃k:Nat,G=n.length-k∧k≤n.length∧j 3= .int .i64 k∧n.all pX=(n.drop k).all pX∧j 1= .ptr 3 b 0 0∧H b=some (.rows 3 [[.isl 1 (vs.map bT), .isl 2 (n.map Ar.row), .isl 5 (g.map Fu.row)]])) (n.length) ⟨0,rfl,cN _,rfl,by rw[dP],d,i⟩ ?_;rintro G j H ⟨k,rfl,a4,o,u,d,i⟩ Q J;refine aH ?_;refine aG fun K c=>?_;refine aM ?_;simp only[RR,seval];simp only[o,d,i,aF,RR,seval];apply c;clear c K;refine aX ?_ ?_<;>intro l
  ·have A:k<n.length:=by have:=aD l;omega
   clear l;refine aL ?_;simp only[bR];refine aH ?_;refine aQ ?_;have z:=NU (aC A);have P:=D.arrs _ (bZ A);rw[bM A,eD]at u;generalize n[k]=a at z u P;have a3:=rW a.name P.1;have E:decide (a.size<1)= !decide (1≤a.size):=by rw[eW];simp only[bH,eI,eQ];omega
   have I:decide (4096<a.size)= !decide (a.size≤4096):=by rw[eW];simp only[bH,eI,eQ];omega
   refine dM (fun j H=>j 54= .bool (!pX a)∧j 3= .int .i64 k∧j 1= .ptr 3 b 0 0∧H b=some (.rows 3 [[.isl 1 (vs.map bT), .isl 2 (n.map Ar.row), .isl 5 (g.map Fu.row)]])) (fun K c=>?_) ?_
   ·refine aM ?_;simp only[RR,seval]
    simp only[d,i,o,z,RR,seval];refine aI a3 ?_;simp only[RR,seval]
    cases hv:iN a.name with
    |false=>
     simp only[RR,seval];exact c _ _ ⟨by simp only[pX,hv];rfl,o,d,i⟩
    |true=>
     simp only[d,i,o,z,E,RR,seval]
     cases h1:decide (1≤a.size)with
     |false=>
      simp only[RR,seval];exact c _ _ ⟨by simp only[pX,hv,h1];rfl,o,d,i⟩
     |true=>
      simp only[d,i,o,z,I,RR,seval];exact c _ _ ⟨by simp only[pX,hv,h1];rfl,o,d,i⟩
   rintro j H ⟨a0,o,d,i⟩;refine eO (!pX a) a0 (fun l=>?_) (fun l=>?_)
   ·refine aG fun K c=>?_;refine aM ?_;simp only[RR,seval]
    apply c;clear c K;refine aP ?_;simp only[bR,dC,aY,aK,bP,RR,seval];refine bB.pure ?_;rw[x,u,show pX a=false by simpa using l];rfl
   refine aL ?_;simp only[bR,dC];rw[show pX a=true by simpa using l,cO]at u;refine aM ?_;simp only[RR,seval];simp only[o,bR,RR,seval];rw[aU _ (by omega)];refine J (n.length-(k+1)) _ _ (by omega) ⟨k+1,rfl,by omega,rfl,u,d,i⟩
  refine cH ?_;simp only[bR,dC,reduceIte];have L:k=n.length:=by have:=aE l;omega
  clear l;subst L;rw[dF]at u;exact c _ _ ⟨u,d,i⟩
 rintro j H ⟨u,d,i⟩;rw[u,cO]at x;refine dM (fun j H=>g.all lC=true) (fun K c=>?_) ?_
 ·refine aG fun K c=>?_;refine aM ?_;simp only[RR,seval]
  apply c;clear c K;refine aQ ?_;refine fN (fun G j H=> ∃k:Nat,G=g.length-k∧k≤g.length∧j 4= .int .i64 k∧g.all lC=(g.drop k).all lC∧j 1= .ptr 3 b 0 0∧H b=some (.rows 3 [[.isl 1 (vs.map bT), .isl 2 (n.map Ar.row), .isl 5 (g.map Fu.row)]])) (g.length) ⟨0,rfl,cN _,rfl,by rw[dP],d,i⟩ ?_;rintro G j H ⟨k,rfl,a4,o,y,d,i⟩ Q J;refine aH ?_;refine aG fun K c=>?_;refine aM ?_;simp only[RR,seval];simp only[o,d,i,aF,RR,seval];apply c;clear c K;refine aX ?_ ?_<;>intro l
  ·have A:k<g.length:=by have:=aD l;omega
   clear l;refine aL ?_;simp only[bR];refine aH ?_;refine aQ ?_;have z:=tP (aC A);have F:=D.funs _ (bZ A);rw[bM A,eD]at y;generalize g[k]=f at z y F;refine aG fun K c=>?_;refine aM ?_;simp only[RR,seval];simp only[d,i,o,z,RR,seval];refine aN fun v a2=>?_;simp only[RR,seval];apply c;clear c K;have a5:b≠v:=fun e=>by rw[e,a2]at i;cases i
   have B:(upd (upd H v (some (.rows 5 [[.str [], .nsl, .nsl, .bool false, .nsl]]))) v (some (.rows 5 [[.str f.name, .isl 1 (f.params.map bT), .isl 1 (f.locs.map bT), .bool f.word, .isl 5 (f.body.map Sm.row)]]))) v=some (.rows 5 [[.str f.name, .isl 1 (f.params.map bT), .isl 1 (f.locs.map bT), .bool f.word, .isl 5 (f.body.map Sm.row)]]):=bO _ _ _;have C:(upd (upd H v (some (.rows 5 [[.str [], .nsl, .nsl, .bool false, .nsl]]))) v (some (.rows 5 [[.str f.name, .isl 1 (f.params.map bT), .isl 1 (f.locs.map bT), .bool f.word, .isl 5 (f.body.map Sm.row)]]))) b=some (.rows 3 [[.isl 1 (vs.map bT), .isl 2 (n.map Ar.row), .isl 5 (g.map Fu.row)]]):=by simp only[upd,aO a5];exact i
   generalize(upd (upd H v (some (.rows 5 [[.str [], .nsl, .nsl, .bool false, .nsl]]))) v (some (.rows 5 [[.str f.name, .isl 1 (f.params.map bT), .isl 1 (f.locs.map bT), .bool f.word, .isl 5 (f.body.map Sm.row)]])))=H1 at B C⊢;have R:=rW f.name F.name;have S:=wF f.params F.params;have T:=wF f.locs F.locs;have U:=Ln _ f.body 1 rfl F.body (by omega) (by omega);have E:decide ((6:Int)<f.params.length)= !decide (f.params.length≤6):=by rw[eW];simp only[bH,eI,eQ];omega
   refine dM (fun j H=>j 94= .bool (!lC f)∧j 4= .int .i64 k∧j 1= .ptr 3 b 0 0∧H b=some (.rows 3 [[.isl 1 (vs.map bT), .isl 2 (n.map Ar.row), .isl 5 (g.map Fu.row)]])) (fun K c=>?_) ?_
   ·refine aM ?_;simp only[RR,seval]
    simp only[B,RR,seval];refine aI R ?_;simp only[RR,seval]
    cases v0:iN f.name with
    |false=>
     simp only[RR,seval];exact c _ _ ⟨by simp only[lC,v0];rfl,o,d,C⟩
    |true=>
     simp only[B,aF,E,RR,seval]
     cases v1:decide (f.params.length≤6)with
     |false=>
      simp only[RR,seval];exact c _ _ ⟨by simp only[lC,v0,v1];rfl,o,d,C⟩
     |true=>
      simp only[B,RR,seval];refine aI S ?_;simp only[RR,seval]
      cases v2:f.params.all iN with
      |false=>
       simp only[RR,seval];exact c _ _ ⟨by simp only[lC,v0,v1,v2];rfl,o,d,C⟩
      |true=>
       simp only[B,RR,seval];refine aI T ?_;simp only[RR,seval]
       cases v3:f.locs.all iN with
       |false=>
        simp only[RR,seval];exact c _ _ ⟨by simp only[lC,v0,v1,v2,v3];rfl,o,d,C⟩
       |true=>
        simp only[B,RR,seval];refine aI U ?_;simp only[RR,seval];exact c _ _ ⟨by simp only[lC,v0,v1,v2,v3];rfl,o,d,C⟩
   rintro j H ⟨a1,o,d,i⟩;refine eO (!lC f) a1 (fun l=>?_) (fun l=>?_)
   ·refine aG fun K c=>?_;refine aM ?_;simp only[RR,seval]
    apply c;clear c K;refine aP ?_;simp only[bR,dC,aY,aK,bP,RR,seval];refine bB.pure ?_;rw[x,y,show lC f=false by simpa using l];rfl
   refine aL ?_;simp only[bR,dC];rw[show lC f=true by simpa using l,cO]at y;refine aM ?_;simp only[RR,seval];simp only[o,bR,RR,seval];rw[aU _ (by omega)];refine J (g.length-(k+1)) _ _ (by omega) ⟨k+1,rfl,by omega,rfl,y,d,i⟩
  refine cH ?_;simp only[bR,dC,reduceIte];have L:k=g.length:=by have:=aE l;omega
  clear l;subst L;rw[dF]at y;exact c _ _ y
 rintro j H Y;refine aG fun K c=>?_;refine aM ?_;simp only[RR,seval];apply c;clear c K;refine aP ?_;simp only[aY,aK,bP,RR,seval];refine bB.pure ?_;rw[x,Y]
theorem BP (p:Pg) (a:p.ok) (_: ∀f∈p.funs,f.params.length≤1100000):eG dR 25 [p.av] (.bool (fZ p)):=zR p a
end Go.Proofs.YtaecpjgmcffliaaGreatDoor
