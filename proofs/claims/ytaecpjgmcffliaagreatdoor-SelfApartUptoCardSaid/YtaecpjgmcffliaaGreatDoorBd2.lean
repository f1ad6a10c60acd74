/- Chapter 14: the kit's contracts at this program, as its own tool lays them: numerals; strings.Join. Chapter 14: numerals and joined texts, out of the kit's contracts. Chapter 14: numerals and joined texts, as contracts. -/
import Derived.Shelf.Strconv.Itoa0
import Derived.Shelf.Strconv.Itoa1
import Derived.Shelf.LaysM
import Derived.Shelf.Strconv.Itoa2
import Derived.Lib.ItoaMem
import Derived.Lib.Builder
import Derived.Lib.AppendIntMem
import Derived.Test.YtaecpjgmcffliaaGreatDoorProg
import Derived.Test.YtaecpjgmcffliaaGreatDoorSy2
import Derived.BigCall
import Derived.BigGuard
import Derived.Test.YtaecpjgmcffliaaGreatDoorBa
import Derived.Test.YtaecpjgmcffliaaGreatDoorWa
set_option linter.unusedSimpArgs false
set_option linter.unusedVariables false
set_option maxRecDepth 10000
namespace Go.Proofs
open Go.Shelf
def Tryz.lays129_ren:Go.Shelf.Ren:=⟨fun |129=>251|n=>n,fun |53=>172|3=>3|4=>4|46=>175|5=>5|9=>9|n=>n,fun |n=>n⟩
theorem Tryz.lays129:Go.Proofs.Lays.n129 Tryz.prog Tryz.lays129_ren:={
 mixed:=by kernel_rfl
 f129:=Tryz.func251.trans (congrArg some (by kernel_rfl))
 t3:=Tryz.underlying3
 a3:=Tryz.isAgg3
 z3:=Tryz.sizeOf3
 v3:=Tryz.zeroValue3
 t4:=Tryz.underlying4
 a4:=Tryz.isAgg4
 z4:=Tryz.sizeOf4
 v4:=Tryz.zeroValue4
 t5:=Tryz.underlying5
 a5:=Tryz.isAgg5
 z5:=Tryz.sizeOf5
 v5:=Tryz.zeroValue5
 t9:=Tryz.underlying9
 a9:=Tryz.isAgg9
 z9:=Tryz.sizeOf9
 v9:=Tryz.zeroValue9
 t46:=Tryz.underlying175
 a46:=Tryz.isAgg175
 z46:=Tryz.sizeOf175
 v46:=Tryz.zeroValue175
 t53:=Tryz.underlying172
 a53:=Tryz.isAgg172
 z53:=Tryz.sizeOf172
 v53:=Tryz.zeroValue172}
theorem Tryz.bits_Len64 (x:Int) (w:World) (h0:0≤x) (h1:x≤18446744073709551615):
  Calls Tryz.prog 251 #[.int .u64 x] w fun e w'=>e= .returned (.int .i64 (Lib.bitLen x.toNat))∧w'=w:=Any.bits_Len64 Tryz.lays129 x w h0 h1
def Tryz.lays317_ren:Go.Shelf.Ren:=⟨fun |317=>250|n=>n,fun |3=>3|46=>175|n=>n,fun |n=>n⟩
theorem Tryz.lays317:Go.Proofs.Lays.n317 Tryz.prog Tryz.lays317_ren:={
 mixed:=by kernel_rfl
 f317:=Tryz.func250.trans (congrArg some (by kernel_rfl))
 t3:=Tryz.underlying3
 a3:=Tryz.isAgg3
 z3:=Tryz.sizeOf3
 v3:=Tryz.zeroValue3
 t46:=Tryz.underlying175
 a46:=Tryz.isAgg175
 z46:=Tryz.sizeOf175
 v46:=Tryz.zeroValue175}
open Go.Lib in
theorem Tryz.internal_strconv_log10Pow2 (x:Nat) (h:x≤64) (w:World):
  Calls Tryz.prog 250 #[.int .i64 x] w fun e w'=>e= .returned (.int .i64 (Lib.l10 x))∧w'=w:=Any.internal_strconv_log10Pow2 Tryz.lays317 x h w
def Tryz.lays318_ren:Go.Shelf.Ren:=⟨fun |318=>252|n=>n,fun |3=>3|4=>4|n=>n,fun |n=>n⟩
theorem Tryz.lays318:Go.Proofs.Lays.n318 Tryz.prog Tryz.lays318_ren:={
 mixed:=by kernel_rfl
 f318:=Tryz.func252.trans (congrArg some (by kernel_rfl))
 t3:=Tryz.underlying3
 a3:=Tryz.isAgg3
 z3:=Tryz.sizeOf3
 v3:=Tryz.zeroValue3
 t4:=Tryz.underlying4
 a4:=Tryz.isAgg4
 z4:=Tryz.sizeOf4
 v4:=Tryz.zeroValue4}
open Go.Lib in
theorem Tryz.internal_strconv_bool2_int (b:Bool) (w:World):
  Calls Tryz.prog 252 #[.bool b] w fun e w'=>e= .returned (.int .i64 (if b then 1 else 0))∧w'=w:=Any.internal_strconv_bool2_int Tryz.lays318 b w
def Tryz.lays283_ren:Go.Shelf.Ren:=⟨fun |283=>242|n=>n,fun |3=>3|9=>9|4=>4|n=>n,fun |n=>n⟩
theorem Tryz.lays283:Go.Proofs.Lays.n283 Tryz.prog Tryz.lays283_ren:={
 mixed:=by kernel_rfl
 f283:=Tryz.func242.trans (congrArg some (by kernel_rfl))
 t3:=Tryz.underlying3
 a3:=Tryz.isAgg3
 z3:=Tryz.sizeOf3
 v3:=Tryz.zeroValue3
 t4:=Tryz.underlying4
 a4:=Tryz.isAgg4
 z4:=Tryz.sizeOf4
 v4:=Tryz.zeroValue4
 t9:=Tryz.underlying9
 a9:=Tryz.isAgg9
 z9:=Tryz.sizeOf9
 v9:=Tryz.zeroValue9}
open Go.Lib in
theorem Tryz.internal_strconv_small (i:Nat) (h:i<100) (w:World):
  Calls Tryz.prog 242 #[.int .i64 i] w fun e w'=>e= .returned (.string ⟨(Lib.decDigits i).toArray⟩)∧w'=w:=Any.internal_strconv_small Tryz.lays283 i h w
def Tryz.lays285_ren:Go.Shelf.Ren:=⟨fun |285=>244|n=>n,fun |37=>69|53=>172|3=>3|4=>4|51=>46|9=>9|5=>5|0=>0|n=>n,fun |n=>n⟩
theorem Tryz.lays285:Go.Proofs.Lays.n285 Tryz.prog Tryz.lays285_ren:={
 mixed:=by kernel_rfl
 f285:=Tryz.func244.trans (congrArg some (by kernel_rfl))
 t0:=Tryz.underlying0
 a0:=Tryz.isAgg0
 z0:=Tryz.sizeOf0
 v0:=Tryz.zeroValue0
 t3:=Tryz.underlying3
 a3:=Tryz.isAgg3
 z3:=Tryz.sizeOf3
 v3:=Tryz.zeroValue3
 t4:=Tryz.underlying4
 a4:=Tryz.isAgg4
 z4:=Tryz.sizeOf4
 v4:=Tryz.zeroValue4
 t5:=Tryz.underlying5
 a5:=Tryz.isAgg5
 z5:=Tryz.sizeOf5
 v5:=Tryz.zeroValue5
 t9:=Tryz.underlying9
 a9:=Tryz.isAgg9
 z9:=Tryz.sizeOf9
 v9:=Tryz.zeroValue9
 t37:=Tryz.underlying69
 a37:=Tryz.isAgg69
 z37:=Tryz.sizeOf69
 v37:=Tryz.zeroValue69
 t51:=Tryz.underlying46
 a51:=Tryz.isAgg46
 z51:=Tryz.sizeOf46
 v51:=Tryz.zeroValue46
 t53:=Tryz.underlying172
 a53:=Tryz.isAgg172
 z53:=Tryz.sizeOf172
 v53:=Tryz.zeroValue172}
open Go.RowKit Go.Sort Go.Lib in
theorem Tryz.internal_strconv_formatBase10 (blk off cap:Nat) (u:Nat) (d:Array UInt8) (w:World) (hH:Holds (fun(b:UInt8)=>Value.int .u8 (b.toNat:Int)) w blk off d) (hu:u<10^d.size) (hu64:u<18446744073709551616) (hsz:d.size<4611686018427387904):
  Calls Tryz.prog 244 #[.slice (some ⟨blk,off,none⟩) d.size cap, .int .u64 u] w fun e w'=>
   e= .returned (.tuple #[])∧ ∃(n v':Nat) (dk:Array UInt8),w'=(putRow (fun(b:UInt8)=>Value.int .u8 (b.toNat:Int)) w blk off dk).drewN n∧FmtInv d.size u 0 v' dk:=Any.internal_strconv_formatBase10 Tryz.lays285 blk off cap u d w hH hu hu64 hsz
end Go.Proofs
namespace Go.Proofs
open Go.Lib Go.RowKit Go.Al Go.Sort
set_option maxHeartbeats 1000000 in
set_option maxRecDepth 100000 in
theorem Hz (u:Nat) (h1:1≤u) (h2:u<18446744073709551616) (w:World) (hc: ∀i,i<20→w.cell? ⟨1,i,none⟩=some (.int .u64 ((10^i:Nat):Int))):
  Calls Tryz.prog 243 #[.int .u64 u] w fun e w'=>e= .returned (.int .i64 (Lib.nDigits u))∧w'=w:=by
 obtain⟨hnd,h19⟩:=Lib.numDigits_eq u h1 h2;have hL:Lib.bitLen u≤64:=Lib.bitLen_le u 64 (bF _) h2;have hcell:=hc (Lib.l10 (Lib.bitLen u)) (by omega);have hto:((u:Int)).toNat=u:=by omega
 generalize hq:Lib.l10 (Lib.bitLen u)=q at hnd h19 hcell;generalize hT:10^q=T at hnd hcell;have h20:q<20:=by omega
 have Hnd:=Lib.hid hnd;clear hnd hc
 go_enter Tryz.func243,Tryz.ntmps243
 go_wp2_with (first
  |(go_at_call 251;refine(Tryz.bits_Len64 _ _ (by omega) (by omega)).mono ?_;rintro e w' ⟨rfl,rfl⟩)
  |(go_at_call 250;refine(Tryz.internal_strconv_log10Pow2 _ (by first|exact hL|(rw[hto];exact hL)) _).mono ?_;rintro e w' ⟨rfl,rfl⟩)
  |(go_at_call 252;refine(Tryz.internal_strconv_bool2_int _ _).mono ?_;rintro e w' ⟨rfl,rfl⟩))
 all_goals go_ret
 all_goals (
  refine⟨?_,rfl⟩;have hnd:=Hnd.out;congr 2
  split at hnd<;>simp_all<;>omega)
set_option maxHeartbeats 4000000 in
set_option maxRecDepth 100000 in
theorem zQ (u:Nat) (h2:u<18446744073709551616) (w:World) (hc: ∀i,i<20→w.cell? ⟨1,i,none⟩=some (.int .u64 ((10^i:Nat):Int))) (hg:1<w.heap.size):
  Calls Tryz.prog 223 #[.int .u64 u, .int .i64 10] w fun e w'=>e= .returned (.string ⟨(Lib.decDigits u).toArray⟩)∧Below w.heap.size w w':=by
 by_cases hs:u<100
 ·clear hc
  go_enter Tryz.func223,Tryz.ntmps223
  go_wp2_with (go_at_call 242;refine(Tryz.internal_strconv_small u hs _).mono ?_;rintro e w' ⟨rfl,rfl⟩)
  go_ret
  exact⟨rfl,Below.refl _ _⟩
 have hu1:1≤u:=by omega
 have hnd20:Lib.nDigits u≤20:=by have:=Lib.numDigits_eq u hu1 h2;split at this<;>omega
 have hal:Tryz.prog.arrayLen 344=24:=by simp [Program.arrayLen,Tryz.underlying344]
 have hsl1: ∀W,(Instr.sliceAt 344 (.pointer (some ⟨w.heap.size,0,none⟩)) none (some (.int .i64 (Lib.nDigits u:Int))) none).run Tryz.prog W= .ok (.slice (some ⟨w.heap.size,0,none⟩) (Lib.nDigits u) 24) W:=fun W=>by
  rw[run_sliceAt_array_h W 344 ⟨w.heap.size,0,none⟩ (by simp [Program.arrayLen,Program.elem,Tryz.underlying344]) .i64 (Lib.nDigits u:Int) (by omega) (by rw[hal];omega)]
  go_simp
 have hH0:=Lib.holds_zero0 w 344 (Lib.nDigits u) (by omega);have hfmt:=Tryz.internal_strconv_formatBase10 w.heap.size 0 24 u (Array.replicate (Lib.nDigits u) 0) (w.alloc (.cells Lib.zeros24 344)) hH0 (by rw[Array.size_replicate];exact Lib.lt_pow_nDigits u) h2 (by rw[Array.size_replicate];omega);rw[Array.size_replicate]at hfmt
 have hc': ∀i,i<20→(w.alloc (.cells Lib.zeros24 344)).cell? ⟨1,i,none⟩=some (.int .u64 ((10^i:Nat):Int)):=fun i hi=>by
  rw[World.cell?_of_block (a:=⟨1,i,none⟩) (Lib.alloc_old w _ _ hg)];exact hc i hi
 have HH0:=Lib.hid hH0;have Hc:=Lib.hid hc';clear hH0 hal hc hc'
 go_enter Tryz.func223,Tryz.ntmps223
 go_wp2_with (first
  |(go_at_call 243;refine(Hz u hu1 h2 _ Hc.out).mono ?_;rintro e w' ⟨rfl,rfl⟩))
 go_at_call 244
 refine hfmt.mono ?_;rintro e w' ⟨rfl,k,v',dk,rfl,hF⟩
 have hcv:(convert 69 9 (.slice (some ⟨w.heap.size,0,none⟩) (Lib.nDigits u) 24)).run Tryz.prog ((putRow (fun(b:UInt8)=>Value.int .u8 (b.toNat:Int)) (w.alloc (.cells Lib.zeros24 344)) w.heap.size 0 dk).drewN k)= .ok (.string ⟨(Lib.decDigits u).toArray⟩) ((putRow (fun(b:UInt8)=>Value.int .u8 (b.toNat:Int)) (w.alloc (.cells Lib.zeros24 344)) w.heap.size 0 dk).drewN k):=by
  have h:=run_convert_bytes_back (P:=Tryz.prog) ((putRow (fun(b:UInt8)=>Value.int .u8 (b.toNat:Int)) (w.alloc (.cells Lib.zeros24 344)) w.heap.size 0 dk).drewN k) 69 9 5 ⟨w.heap.size,0,none⟩ 24 (Lib.decDigits u) Tryz.underlying69 Tryz.underlying5 Tryz.underlying9 (fun j hj=>by
   rw[Lib.row_is_numeral hF j hj,Lib.add_plain,World.cell?_drewN]
   exact cell?_putRow (fun(b:UInt8)=>Value.int .u8 (b.toNat:Int)) _ w.heap.size 0 _ dk HH0.out (by rw[hF.size,Array.size_replicate]) j (by rw[hF.size];rw[Lib.decDigits_length]at hj;exact hj))
  rw[Lib.decDigits_length]at h;exact h
 go_wp2
 go_ret
 obtain⟨os,eo⟩:=Lib.fin_at w (.cells Lib.zeros24 344) dk k 0;refine⟨rfl, ?_⟩;rw[eo];exact Lib.below_grow _ w (bF _) k os
set_option maxHeartbeats 1000000 in
theorem Ef (u:Nat) (h2:u<18446744073709551616) (w:World) (hc: ∀i,i<20→w.cell? ⟨1,i,none⟩=some (.int .u64 ((10^i:Nat):Int))) (hg:1<w.heap.size):
  Calls Tryz.prog 182 #[.int .u64 u, .int .i64 10] w fun e w'=>e= .returned (.string ⟨(Lib.decDigits u).toArray⟩)∧Below w.heap.size w w':=by
 have Hc:=Lib.hid hc;clear hc
 go_enter Tryz.func182,Tryz.ntmps182
 go_wp2_with (go_at_call 223;refine(zQ u h2 _ Hc.out hg).mono ?_;rintro e w' ⟨rfl,hb⟩)
 go_ret
 exact⟨rfl,hb⟩
end Go.Proofs
namespace Go.Proofs.YtaecpjgmcffliaaGreatDoor
open Go.Al Go.RowKit
theorem Zu {E:fR} {g:FuncId} {args:List AV} {s:List UInt8} (he:CQ E g) (h: ∀(W:World) (S0:dL) (vs:List Value),St E ⟨W,G5 lG,S0,[],fun _=>Go.undef⟩ S0 lG W→bW S0 W args vs→
  Calls E.P g vs.toArray W fun e W'=>e= .returned (.string ⟨s.toArray⟩)∧Below W.heap.size W W'):cM E g args (.str s):=by
 refine⟨he,fun w0 S0 vs hst ha=>(h w0 S0 vs hst ha).mono fun e w' ⟨e1,hb⟩=>?_⟩;have hx:iY (fun _=>False) w0 w':=⟨hb.os,hb.tape,hb.output,hb.size,fun k hk _=>hb.block k hk,fun k sh hs=>(mH (hb.block k (Hh hs))).trans hs⟩;refine⟨.ret (.str s),lG,S0,hst.step hx (fun _ h=>h.elim) (fun _ h=>h) (fun k hk=>Nat.lt_of_lt_of_le (hst.lt k hk) hb.size) (fun k hk=> .inl hk) (fun b o h=>(by cases h)), ?_,rfl,rfl⟩;simp only[nW];exact⟨_,e1,by simp only[bO]⟩
theorem Sr {γ:Al.gD} {S:dL} {H:Hp} {w:World} (h:St cG γ S H w):(∀i,i<20→w.cell? ⟨1,i,none⟩=some (.int .u64 ((10^i:Nat):Int)))∧1<w.heap.size:=by
 obtain⟨h1,h2⟩:=h.glb 1 Zo BE;refine⟨fun i hi=>?_,h.lt _ h1⟩
 have hp:Zo[i]?=some (.int .u64 ((10^i:Nat):Int)):=by
  have : ∀i:Fin 20,Zo[i.val]?=some (.int .u64 ((10^i.val:Nat):Int)):=by
   intro⟨i,hi⟩
   iterate 20 (rcases i with _|i; · rfl)
   omega
  exact this ⟨i,hi⟩
 obtain⟨u,q1,q2⟩:=h2.get i hp;simp only[bO]at q2;rw[Nat.zero_add]at q1;rw[q1,q2]
theorem yY (u:Nat) (hu:u<18446744073709551616):cM cG 182 [.int .u64 u, .int .i64 10] (.str (Lib.decDigits u)):=by
 refine Zu ⟨_,Tryz.func182,by kernel_rfl,by kernel_rfl⟩ fun W S0 vs hst ha=>?_;simp only[bW,bO]at ha;obtain⟨_,_,rfl,rfl,_,_,rfl,rfl,rfl⟩:=ha;obtain⟨h1,h2⟩:=Sr hst;exact Ef u hu W h1 h2
end Go.Proofs.YtaecpjgmcffliaaGreatDoor
namespace Go.Proofs.YtaecpjgmcffliaaGreatDoor
open Go.Al
theorem rM {b:Nat} {bs out cur:List UInt8} {H:Hp} {v:AV} (hB:gP b cur H) (h:cur=bs++out):bB (fun ae H'=>ae= .ret v∧Kr b (bs++out) H') v H:=h▸hB.gives rfl
theorem I9 (n:Int) (hn:iN n):cM cG 122 [.int .u32 n] (.str (Lib.decDigits n.toNat)):=by
 obtain⟨h0,h1⟩:=hn;obtain⟨u,rfl⟩: ∃u:Nat,n=u:=⟨n.toNat,by omega⟩;have hw:IntKind.wrap .u64 (u:Int)=(u:Int):=IntWalk.u64_in _ (by omega);rw[Int.toNat_natCast];refine bM 6 [.tmp 2] Tryz.func122 rfl rfl rfl rfl ?_;refine aB fun _ y=>aA rfl ?_;simp only[RR,seval];apply y;clear y;refine aB fun _ y=>aA rfl ?_;simp only[hw,RR,seval];refine aP (yY u (by omega)) ?_;simp only[RR,seval];apply y;clear y;refine aM ?_;simp only[aZ,aL,bJ,RR,seval];refine bB.pure ?_;rfl
theorem Si (z:Int) (hz:iN z):cM cG 81 [.int .u32 z] (.str (Lib.decDigits z.toNat)):=by
 obtain⟨n,rfl⟩: ∃n:Nat,z=(n:Int):=⟨z.toNat,by have:=hz.1;omega⟩;have h:n<4294967296:=by have:=hz.2;omega
 rw[Int.toNat_natCast];refine bM 23 [.tmp 2] Tryz.func81 rfl rfl rfl rfl ?_;refine aB fun _ y=>aA rfl ?_;simp only[RR,seval];apply y;clear y;refine aB fun _ y=>aA rfl ?_;simp only[RR,seval];apply y;clear y;refine aJ ?_;refine bN fun F1 M1 hfr hH=>?_;have g0:=hfr 0;have g2:=hfr 2;have g3:=hfr 3
 try simp only[RR,seval]at g0 g2 g3
 have f0:=g0;clear g0;have f2:=g2;clear g2;have f3:=g3;clear g3;clear hfr hH;refine aN ?_;refine gK [2] (n) (fun m fr M=>m≤n∧fr 0= .int .u32 (m:Nat)∧ ∃s:cN,fr 3= .str s∧Lib.decDigits n=Lib.decDigits m++s∧s.length+m≤n) ⟨bF _,f0,[],f3,(by rw[List.append_nil]),(by simp)⟩ ?_;rintro m F2 M2 ⟨hm,f0,s,f3,hs,hsl⟩ agx K0 hK0;have f2:=(agx 2 rfl).trans f2;have ag0:=aY.refl [2] F2;clear agx;refine aJ ?_;refine aB fun _ y=>aA rfl ?_;simp only[f0,RR,seval];apply y;clear y;refine aH _ rfl (fun hc=>?_) (fun hc=>?_)
 ·have hw0:=hc;clear hc
  have hw:=aD hw0;have e1:(m:Int).tmod 10=((m % 10:Nat):Int):=IntWalk.up_tmod rfl rfl;have e2:IntKind.wrap .u32 (48+((m % 10:Nat):Int))=((48+m % 10:Nat):Int):=by rw[IntWalk.u32_in _ (by omega)];omega
  have e3:IntKind.wrap .u8 ((48+m % 10:Nat):Int)=((48+m % 10:Nat):Int):=IntWalk.u8_in _ (by omega);have e4:(m:Int).tdiv 10=((m/10:Nat):Int):=IntWalk.up_tdiv rfl rfl;have e5:IntKind.wrap .u32 ((m/10:Nat):Int)=((m/10:Nat):Int):=IntWalk.u32_in _ (by omega);have e6:1+s.length≤maxLen:=by simp only[maxLen];omega
  refine aK ?_;try simp only[RR]
  refine aN ?_;refine aB fun _ y=>aA rfl ?_;simp only[f0,e1,e2,e3,RR,seval];refine cK ?_;simp only[f3,e6,RR,seval];apply y;clear y;refine aA rfl ?_;simp only[f0,e4,e5,RR,seval]
  try rw[aV _ (by omega)]
  refine hK0 (m/10) _ _ (by omega) ⟨(by omega),rfl,_,rfl,(by rw[hs,Lib.decDigits,dif_neg (by omega),List.append_assoc];rfl),(by simp only[aQ];omega)⟩ (by repeat (first|exact ag0|refine aY.upd rfl ?_))
 have hw0:=hc;clear hc;have hw:=aE hw0;have e2:IntKind.wrap .u32 (48+(m:Int))=((48+m:Nat):Int):=by rw[IntWalk.u32_in _ (by omega)];omega
 have e3:IntKind.wrap .u8 ((48+m:Nat):Int)=((48+m:Nat):Int):=IntWalk.u8_in _ (by omega);have e6:1+s.length≤maxLen:=by simp only[maxLen];omega
 refine bI ?_;simp only[RR,seval];refine aB fun _ y=>aA rfl ?_;simp only[f0,e2,e3,RR,seval];refine cK ?_;simp only[f3,e6,RR,seval];apply y;clear y;refine aM ?_;simp only[aZ,aL,bJ,RR,seval];refine bB.pure ?_;rw[hs,Lib.decDigits,dif_pos (by omega)];rfl
end Go.Proofs.YtaecpjgmcffliaaGreatDoor
namespace Go.Proofs.YtaecpjgmcffliaaGreatDoor
open Go.Al
theorem Oz: ∀a b:List Ex,eQ (a++b)=eQ a++eQ b
 |[],b=>by simp [eQ]
 |x::a,b=>by simp only[List.cons_append,eQ,Oz a b,List.append_assoc]
theorem Pe: ∀a b:List Sm,iZ (a++b)=iZ a++iZ b
 |[],b=>by simp [iZ]
 |x::a,b=>by simp only[List.cons_append,iZ,Pe a b,List.append_assoc]
theorem lX (l:List Ex) (k:Nat):(eQ (l.take k)).length≤(eQ l).length:=by
 have:=congrArg List.length (Oz (l.take k) (l.drop k));rw[List.take_append_drop,aI]at this;omega
theorem vW (l:List Sm) (k:Nat):(iZ (l.take k)).length≤(iZ l).length:=by
 have:=congrArg List.length (Pe (l.take k) (l.drop k));rw[List.take_append_drop,aI]at this;omega
def WC (e:Ex):Prop:= ∀(b:Nat) (bs:cN),(bs++jU e).length≤140737488355328→Fe cG 79 [.ptr 2 b 0 0, .agg e.row] b bs (.tup []) (jU e)
set_option maxHeartbeats 4000000 in
theorem Kx (k o n:Int) (s:cN) (l:List Ex) (hk:k=6→4≤o∧o≤15) (hn:iN n) (hfit:l.length≤9223372036854775807) (h: ∀e∈l,WC e):WC (.mk k o n s l):=by
 intro b bs hl H0 hm;have hB:=hm.h;have hE:jU (.mk k o n s l)=eQ l++fB k o n s:=by rw[jU]
 have hl0:bs.length+(eQ l).length+(fB k o n s).length≤140737488355328:=by
  rw[hE]at hl;simp only[aI]at hl;omega
 clear hl;simp only[Ex.row_eq,Ex.kind,Ex.op,Ex.num,Ex.name,Ex.kids];refine bM 65 [] Tryz.func79 rfl rfl rfl rfl ?_;refine aB fun _ y=>aA rfl ?_;simp only[RR,seval];refine aT fun b3 hn3=>?_;simp only[RR,seval];apply y;clear y;refine aJ ?_;refine aB fun _ y=>aA rfl ?_;simp only[aC,RR,seval];apply y;clear y;refine bN fun F1 M1 hfr hH=>?_;have g0:=hfr 0;have g3:=hfr 3;have g7:=hfr 7;have g8:=hfr 8;have g9:=hfr 9;have gb3:=hH b3
 try simp only[RR,seval]at g0 g3 g7 g8 g9 gb3
 have hM:=funext hH;have f0:=g0;clear g0;have f3:=g3;clear g3;have f7:=g7;clear g7;have f8:=g8;clear g8;have f9:=g9;clear g9;have hb3:=gb3;clear gb3;clear hfr hH;refine aN ?_;refine cF [0,3,7,8] (l.length) (fun j fr M=>fr 9= .int .i64 (j:Nat)∧M b3=M1 b3∧gP b (bs++eQ (l.take j)) M) ⟨f9,rfl,(by rw[hM,List.take_zero,show eQ []=[]by simp only[eQ],List.append_nil];exact hB.new (by assumption) _)⟩ ?_;rintro j F2 M2 hk0 ⟨fx,gb3,hB⟩ agx K0 hK0;have f0:=(agx 0 rfl).trans f0;have f3:=(agx 3 rfl).trans f3;have f7:=(agx 7 rfl).trans f7;have f8:=(agx 8 rfl).trans f8;have f9:=fx;clear fx;have hb3:=gb3.trans hb3;have ag0:=aY.refl [0,3,7,8] F2;have e0_b3:=gb3;clear gb3;clear agx;refine aB fun _ y=>aA rfl ?_;simp only[f8,f9,RR,seval];apply y;clear y;refine aJ ?_;refine aH _ rfl (fun hc=>?_) (fun hc=>?_)
 ·have hlt0:j<l.length:=by have:=aD hc;omega
  clear hc;have hg:=nM (aG hlt0);have htk:l.take (j+1)=l.take j++[l[j]]:=bL hlt0;have hec:=h _ (bE hlt0);have hle:=lX l (j+1);generalize l[j]=e at hg htk hec;rw[htk,gR]at hle;simp only[aI]at hle;obtain⟨x1,x2,x3,x4,x5⟩:=e;simp only[Ex.kind,Ex.op,Ex.num,Ex.name,Ex.kids]at hg;simp only[WC,Ex.row_eq,Ex.kind,Ex.op,Ex.num,Ex.name,Ex.kids]at hec;generalize hout:jU (.mk x1 x2 x3 x4 x5)=out at *;refine aK ?_;try simp only[RR]
  refine aJ ?_;refine aN ?_;refine aB fun _ y=>aA rfl ?_;simp only[f7,f9,hg,RR,seval];refine aT fun b5 hn5=>?_;have nb5_b3:b5≠b3:=fun e=>by rw[e]at hn5;simp only[hb3,seval,reduceCtorEq]at hn5
  have nb3_b5:b3≠b5:=fun e=>nb5_b3 e.symm;simp only[RR,seval];apply y;clear y;refine bN fun F3 M3 hfr hH=>?_;have g0:=hfr 0;have g3:=hfr 3;have g5:=hfr 5;have g7:=hfr 7;have g8:=hfr 8;have g9:=hfr 9;have gb3:=hH b3;have gb5:=hH b5
  try simp only[f0,f3,f7,f8,f9,hb3,nb3_b5,RR,seval]at g0 g3 g5 g7 g8 g9 gb3 gb5
  have ag0:aY [0,3,7,8] F2 F3:=aY.same hfr (by repeat (first|exact ag0|refine aY.upd rfl ?_));have e0_b3:=(hH b3).trans (by first|exact e0_b3|(simp only[nb3_b5,aF,seval];first|done|exact e0_b3));have hB:gP b (bs++eQ (l.take j)) M3:=by rw[funext hH];first|exact hB.new2 (by assumption) _ _|exact hB.new (by assumption) _
  have f0:=g0;clear g0;have f3:=g3;clear g3;have f5:=g5;clear g5;have f7:=g7;clear g7;have f8:=g8;clear g8;have f9:=g9;clear g9;have hb3:=gb3;clear gb3;have hb5:=gb5;clear gb5;clear hfr hH;refine aA rfl ?_;simp only[f0,f5,hb5,RR,seval];refine dS (by first|exact hB|exact hB.new (by assumption) _|exact hB.new2 (by assumption) _ _|exact hB.set (o:= .rows _ _) (by assumption) trivial _) (hec b (bs++eQ (l.take j)) (by simp only[aI];omega)) (cY.refl _) (fun _=>trivial) fun M4 hB hk' hn'=>?_;have gb3:=hk' b3 _ hb3 trivial;have e0_b3:=(gb3.trans hb3.symm).trans e0_b3;have hb3:=gb3;clear gb3;have gb5:=hk' b5 _ hb5 trivial;have hb5:=gb5;clear gb5;simp only[RR,seval];refine aA rfl ?_;simp only[f9,RR,seval]
  try rw[aV _ (by omega)]
  refine hK0 _ _ hlt0 ⟨by first|rfl|(simp only[aF,seval];rfl),(by first|exact e0_b3|(simp only[nb5_b3,nb3_b5,aF,seval];first|done|exact e0_b3)),by rw[htk,gR,hout];simpa only[List.append_assoc]using hB⟩ (by repeat (first|exact ag0|refine aY.upd rfl ?_))
 have hkn0:j=l.length:=by have:=aE hc;omega
 clear hc;rw[hkn0,List.take_length]at hB;refine bI ?_;simp only[RR,seval];refine aB fun _ y=>aA rfl ?_;simp only[f3,hb3,RR,seval];apply y;clear y;refine aN ?_;refine aB fun _ y=>aA rfl ?_;simp only[RR,seval];apply y;clear y;refine aH _ rfl (fun hc7=>?_) (fun hc7=>?_)
 ·obtain rfl:=aD hc7
  have hpr:fB 1 o n s=Lib.decDigits n.toNat++[32]:=by simp [fB]
  rw[hpr]at hl0;simp only[aI,aQ,List.length_nil]at hl0;have hcc:(Lib.decDigits n.toNat).length+1≤maxLen:=by unfold maxLen;omega
  refine bK (fun x=>x≠b3) [(0,3),(1,3),(2,3),(3,3),(4,1),(5,1),(6,3),(7,1)] [] cX (by kernel_rfl) rfl rfl ?_;simp only[cO,f0,f3,hb3,RR,seval];refine aP (I9 n hn) ?_;simp only[hcc,RR,seval];refine nP (by first|exact hB|exact hB.new (by assumption) _|exact hB.new2 (by assumption) _ _|exact hB.set (o:= .rows _ _) (by assumption) trivial _) (cT b (bs++eQ l) (Lib.decDigits n.toNat++[32]) (by simp only[aI,aQ,List.length_nil];omega)) (cY.refl _) (fun x o hx hn=>by exact(fun e=>by subst e;first|(rw[aS]at hx;cases hx;exact hn trivial)|(rw[hb3]at hx;cases hx;exact hn trivial)|(simp only[aF,f0,f3,f7,f8,f9,hb3,aC,hcc,seval,Option.some.injEq]at hx;subst hx;exact hn trivial))) fun M5 hB hk' hn'=>?_;have gb3:=hk' b3 _ hb3 trivial;have hb3:=gb3;clear gb3;simp only[RR,seval]
  try simp only[aZ,aL,bJ,seval]
  exact rM hB (by rw[hE,hpr]<;>simp only[List.append_assoc])
 refine aB fun _ y=>aA rfl ?_;simp only[RR,seval];apply y;clear y;refine aH _ rfl (fun hc9=>?_) (fun hc9=>?_)
 ·obtain rfl:=aD hc9
  have hpr:fB 2 o n s=s:=by simp [fB]
  rw[hpr]at hl0;refine bK (fun x=>x≠b3) [(0,3),(1,3),(2,3),(3,3),(4,1),(5,1)] [] cX (by kernel_rfl) rfl rfl ?_;simp only[cO,f0,f3,hb3,RR,seval];refine nP (by first|exact hB|exact hB.new (by assumption) _|exact hB.new2 (by assumption) _ _|exact hB.set (o:= .rows _ _) (by assumption) trivial _) (cT b (bs++eQ l) s (by simp only[aI];omega)) (cY.refl _) (fun x o hx hn=>by exact(fun e=>by subst e;first|(rw[aS]at hx;cases hx;exact hn trivial)|(rw[hb3]at hx;cases hx;exact hn trivial)|(simp only[aF,f0,f3,f7,f8,f9,hb3,aC,seval,Option.some.injEq]at hx;subst hx;exact hn trivial))) fun M6 hB hk' hn'=>?_;have gb3:=hk' b3 _ hb3 trivial;have hb3:=gb3;clear gb3;simp only[RR,seval]
  try simp only[aZ,aL,bJ,seval]
  exact rM hB (by rw[hE,hpr]<;>simp only[List.append_assoc])
 refine aB fun _ y=>aA rfl ?_;simp only[RR,seval];apply y;clear y;refine aH _ rfl (fun hc11=>?_) (fun hc11=>?_)
 ·obtain rfl:=aD hc11
  have hpr:fB 3 o n s=[64]:=by simp [fB]
  rw[hpr]at hl0;simp only[aQ,List.length_nil]at hl0;refine aA rfl ?_;simp only[f0,RR,seval];refine dS (by first|exact hB|exact hB.new (by assumption) _|exact hB.new2 (by assumption) _ _|exact hB.set (o:= .rows _ _) (by assumption) trivial _) (cT b (bs++eQ l) [64] (by simp only[aI,aQ,List.length_nil];omega)) (cY.refl _) (fun _=>trivial) fun M7 hB hk' hn'=>?_;have gb3:=hk' b3 _ hb3 trivial;have hb3:=gb3;clear gb3;simp only[RR,seval]
  try simp only[aZ,aL,bJ,seval]
  exact rM hB (by rw[hE,hpr]<;>simp only[List.append_assoc])
 refine aB fun _ y=>aA rfl ?_;simp only[RR,seval];apply y;clear y;refine aH _ rfl (fun hc13=>?_) (fun hc13=>?_)
 ·obtain rfl:=aD hc13
  have hpr:fB 5 o n s=[63]:=by simp [fB]
  rw[hpr]at hl0;simp only[aQ,List.length_nil]at hl0;refine aA rfl ?_;simp only[f0,RR,seval];refine dS (by first|exact hB|exact hB.new (by assumption) _|exact hB.new2 (by assumption) _ _|exact hB.set (o:= .rows _ _) (by assumption) trivial _) (cT b (bs++eQ l) [63] (by simp only[aI,aQ,List.length_nil];omega)) (cY.refl _) (fun _=>trivial) fun M8 hB hk' hn'=>?_;have gb3:=hk' b3 _ hb3 trivial;have hb3:=gb3;clear gb3;simp only[RR,seval]
  try simp only[aZ,aL,bJ,seval]
  exact rM hB (by rw[hE,hpr]<;>simp only[List.append_assoc])
 refine aB fun _ y=>aA rfl ?_;simp only[RR,seval];apply y;clear y;refine aH _ rfl (fun hc15=>?_) (fun hc15=>?_)
 ·obtain rfl:=aD hc15
  obtain⟨ho1,ho2⟩:=hk rfl;obtain⟨j,rfl⟩: ∃j:Nat,o=((4+j:Nat):Int):=⟨(o- 4).toNat,by omega⟩;have hj:j<12:=by omega
  have hw:IntKind.wrap .i64 (((4+j:Nat):Int)- 4)=(j:Int):=by rw[aV _ (by omega)];omega
  obtain⟨c,hc⟩: ∃c,Zv[j]?=some c:=⟨_,aG (show j<Zv.length from hj)⟩
  have hpr:fB 6 ((4+j:Nat):Int) n s=[c]:=by
   have e1:(((4+j:Nat):Int)- 4).toNat=j:=by omega
   unfold fB;rw[if_neg (by decide),if_neg (by decide),if_neg (by decide),if_neg (by decide),if_neg (by decide),if_pos rfl,e1,hc];rfl
  rw[hpr]at hl0;simp only[aQ,List.length_nil]at hl0;have hj3:(j:Int)<12:=by omega
  have hgc:([43,45,42,47,37,38,124,94,76,82,60,61]:List UInt8)[j]?=some c:=hc;refine bK (fun x=>x≠b3) [(0,3),(1,3),(2,3),(3,3),(4,1),(5,3),(6,3),(7,1)] [] cX (by kernel_rfl) rfl rfl ?_;simp only[cO,f0,f3,hb3,hw,hgc,RR,seval];refine nP (by first|exact hB|exact hB.new (by assumption) _|exact hB.new2 (by assumption) _ _|exact hB.set (o:= .rows _ _) (by assumption) trivial _) (zU b (bs++eQ l) c (by simp only[aI];omega)) (cY.refl _) (fun x o hx hn=>by exact(fun e=>by subst e;first|(rw[aS]at hx;cases hx;exact hn trivial)|(rw[hb3]at hx;cases hx;exact hn trivial)|(simp only[aF,f0,f3,f7,f8,f9,hb3,aC,hw,hj3,hgc,seval,Option.some.injEq]at hx;subst hx;exact hn trivial))) fun M9 hB hk' hn'=>?_;have gb3:=hk' b3 _ hb3 trivial;have hb3:=gb3;clear gb3;simp only[RR,seval]
  try simp only[aZ,aL,bJ,seval]
  exact rM hB (by rw[hE,hpr]<;>simp only[List.append_assoc])
 refine aB fun _ y=>aA rfl ?_;simp only[RR,seval];apply y;clear y;refine aH _ rfl (fun hc17=>?_) (fun hc17=>?_)
 ·obtain rfl:=aD hc17
  have hpr:fB 7 o n s=[33]:=by simp [fB]
  rw[hpr]at hl0;simp only[aQ,List.length_nil]at hl0;refine aA rfl ?_;simp only[f0,RR,seval];refine dS (by first|exact hB|exact hB.new (by assumption) _|exact hB.new2 (by assumption) _ _|exact hB.set (o:= .rows _ _) (by assumption) trivial _) (cT b (bs++eQ l) [33] (by simp only[aI,aQ,List.length_nil];omega)) (cY.refl _) (fun _=>trivial) fun M10 hB hk' hn'=>?_;have gb3:=hk' b3 _ hb3 trivial;have hb3:=gb3;clear gb3;simp only[RR,seval]
  try simp only[aZ,aL,bJ,seval]
  exact rM hB (by rw[hE,hpr]<;>simp only[List.append_assoc])
 have h1:=aE hc7;have h2:=aE hc9;have h3:=aE hc11;have h4:=aE hc13;have h5:=aE hc15;have h6:=aE hc17;have hpr:fB k o n s=[]:=by simp [fB,h1,h2,h3,h4,h5,h6]
 refine aK ?_;try simp only[RR]
 try simp only[aZ,aL,bJ,seval]
 exact rM hB (by rw[hE,hpr]<;>simp only[List.append_nil])
theorem Re (N:Nat): ∀(e:Ex) (lv:Int),e.sz≤N→e.ok→fO e lv=true→WC e:=by
 induction N using Nat.strongRecOn with
 |_ N ih=>
  intro e lv hs ho hr;have hz:=e.sz_eq;have hkids:=ho.kids;have hn:=ho.num;simp only[fO,bA]at hr;obtain⟨⟨_,hk⟩,hrk⟩:=hr;obtain⟨k,o,n,s,l⟩:=e;simp only[Ex.kind,Ex.op,Ex.num,Ex.kids]at *;refine Kx k o n s l (fun h6=>by subst h6;simp [fV]at hk;omega) hn hkids.fit fun x hx=>?_;have hm:=fH hx;exact ih x.sz (by omega) x (lv+1) (bF _) (hkids.all x hx) (oO hrk x hx)
def WM (m:Sm):Prop:= ∀(b:Nat) (bs:cN),(bs++mZ m).length≤140737488355328→Fe cG 54 [.ptr 2 b 0 0, .agg m.row] b bs (.tup []) (mZ m)
theorem vQ (l:List Sm) (hfit:l.length≤9223372036854775807) (h: ∀e∈l,WM e) (b:Nat) (bs:cN) (hl:(bs++iZ l).length≤140737488355328):Fe cG 28 [.ptr 2 b 0 0, .isl 5 (l.map Sm.row)] b bs (.tup []) (iZ l):=by
 intro H0 hm;have hB:=hm.h;simp only[aI]at hl;refine bM 16 [] Tryz.func28 rfl rfl rfl rfl ?_;refine aB fun _ y=>aA rfl ?_;simp only[aC,RR,seval];apply y;clear y;refine bN fun F1 M1 hfr hH=>?_;have g0:=hfr 0;have g6:=hfr 6;have g7:=hfr 7;have g8:=hfr 8
 try simp only[RR,seval]at g0 g6 g7 g8
 have hM:=funext hH;have f0:=g0;clear g0;have f6:=g6;clear g6;have f7:=g7;clear g7;have f8:=g8;clear g8;clear hfr hH;refine aN ?_;refine cF [0,6,7] (l.length) (fun j fr M=>fr 8= .int .i64 (j:Nat)∧gP b (bs++iZ (l.take j)) M) ⟨f8,(by rw[hM,List.take_zero,show iZ []=[]by simp only[iZ],List.append_nil];exact hB)⟩ ?_;rintro j F2 M2 hk0 ⟨fx,hB⟩ agx K0 hK0;have f0:=(agx 0 rfl).trans f0;have f6:=(agx 6 rfl).trans f6;have f7:=(agx 7 rfl).trans f7;have f8:=fx;clear fx;have ag0:=aY.refl [0,6,7] F2;clear agx;refine aB fun _ y=>aA rfl ?_;simp only[f7,f8,RR,seval];apply y;clear y;refine aJ ?_;refine aH _ rfl (fun hc=>?_) (fun hc=>?_)
 ·have hlt0:j<l.length:=by have:=aD hc;omega
  clear hc;have hg:=sC (aG hlt0);have htk:l.take (j+1)=l.take j++[l[j]]:=bL hlt0;have hec:=h _ (bE hlt0);have hle:=vW l (j+1);generalize l[j]=e at hg htk hec;rw[htk,lY]at hle;simp only[aI]at hle;obtain⟨x1,x2,x3,x4,x5⟩:=e;simp only[Sm.kind,Sm.name,Sm.es,Sm.thn,Sm.els]at hg;simp only[WM,Sm.row_eq,Sm.kind,Sm.name,Sm.es,Sm.thn,Sm.els]at hec;generalize hout:mZ (.mk x1 x2 x3 x4 x5)=out at *;refine aK ?_;try simp only[RR]
  refine aJ ?_;refine aN ?_;refine aB fun _ y=>aA rfl ?_;simp only[f6,f8,hg,RR,seval];refine aT fun b5 hn5=>?_;simp only[RR,seval];apply y;clear y;refine aA rfl ?_;simp only[f0,RR,seval];refine dS (by first|exact hB|exact hB.new (by assumption) _|exact hB.new2 (by assumption) _ _|exact hB.set (o:= .rows _ _) (by assumption) trivial _) (hec b (bs++iZ (l.take j)) (by simp only[aI];omega)) (cY.refl _) (fun _=>trivial) fun M3 hB hk' hn'=>?_;have hb5:=hk' b5 _ (aS _ _ _) trivial;simp only[RR,seval];refine aA rfl ?_;simp only[f8,RR,seval]
  try rw[aV _ (by omega)]
  refine hK0 _ _ hlt0 ⟨by first|rfl|(simp only[aF,seval];rfl),by rw[htk,lY,hout];simpa only[List.append_assoc]using hB⟩ (by repeat (first|exact ag0|refine aY.upd rfl ?_))
 have hkn0:j=l.length:=by have:=aE hc;omega
 clear hc;rw[hkn0,List.take_length]at hB;refine bI ?_;simp only[RR,seval]
 try simp only[aZ,aL,bJ,seval]
 exact rM hB rfl
set_option maxHeartbeats 4000000 in
theorem Kw (k:Int) (s:cN) (l:List Ex) (t u:List Sm) (hf1:l.length≤9223372036854775807) (hf2:t.length≤9223372036854775807) (he: ∀e∈l,WC e) (ht: ∀e∈t,WM e):WM (.mk k s l t u):=by
 intro b bs hl H0 hm;have hB:=hm.h;obtain⟨qC,hpre⟩: ∃qC:cN,(if k=5 then [87]else [])=qC:=⟨_,rfl⟩;obtain⟨suf,hsuf⟩: ∃suf:cN,(if k=1 then [58]++s else if k=2 then [35]else if k=3 then [46]else if k=4 then [73]++(iZ t++[70])else if k=5 then [68]++(iZ t++[69])else [])=suf:=⟨_,rfl⟩
 have hE:mZ (.mk k s l t u)=qC++(eQ l++suf):=by
  rw[mZ,←hpre,←hsuf];by_cases k1:k=1
  ·subst k1;simp
  by_cases k2:k=2
  ·subst k2;simp
  by_cases k3:k=3
  ·subst k3;simp
  by_cases k4:k=4
  ·subst k4;simp
  by_cases k5:k=5
  ·subst k5;simp
  simp [k1,k2,k3,k4,k5]
 rw[hE]at hl⊢;have hl0:bs.length+qC.length+(eQ l).length+suf.length≤140737488355328:=by simp only[aI]at hl;omega
 have htc:=fun b bs hl=>vQ t hf2 ht b bs hl;clear hl hE;simp only[Sm.row_eq,Sm.kind,Sm.name,Sm.es,Sm.thn,Sm.els];refine bM 75 [] Tryz.func54 rfl rfl rfl rfl ?_;refine aB fun _ y=>aA rfl ?_;simp only[RR,seval];refine aT fun b3 hn3=>?_;simp only[RR,seval];apply y;clear y;refine aJ ?_;refine aB fun _ y=>aA rfl ?_;simp only[RR,seval];apply y;clear y;refine bN fun F1 M1 hfr hH=>?_;have g0:=hfr 0;have g3:=hfr 3;have g8:=hfr 8;have gb3:=hH b3
 try simp only[RR,seval]at g0 g3 g8 gb3
 have hM:=funext hH;have hB:gP b bs M1:=by rw[hM];exact hB.new (by assumption) _
 have f0:=g0;clear g0;have f3:=g3;clear g3;have f8:=g8;clear g8;have hb3:=gb3;clear gb3;clear hfr hH;refine dU (fun fr M=>aY [0,3] F1 fr∧M b3=M1 b3∧gP b (bs++qC) M) (fun KC1 hKC1=>?_) ?_
 ·have agC1:=aY.refl [0,3] F1
  have eC1_b3:M1 b3=M1 b3:=rfl;refine aH _ (by first|rfl|exact f8) (fun hc1=>?_) (fun hc1=>?_)
  ·obtain rfl:=aD hc1
   rw[if_pos rfl]at hpre;subst hpre;simp only[aQ,List.length_nil]at hl0;refine aA rfl ?_;simp only[f0,RR,seval];refine dS (by first|exact hB|exact hB.new (by assumption) _|exact hB.new2 (by assumption) _ _|exact hB.set (o:= .rows _ _) (by assumption) trivial _) (cT b bs [87] (by simp only[aI,aQ,List.length_nil];omega)) (cY.refl _) (fun _=>trivial) fun M2 hB hk' hn'=>?_;have gb3:=hk' b3 _ hb3 trivial;have eC1_b3:=(gb3.trans hb3.symm).trans eC1_b3;have hb3:=gb3;clear gb3;simp only[RR,seval];refine hKC1 _ _ ⟨(by repeat (first|exact agC1|refine aY.upd rfl ?_)),(by first|exact eC1_b3|(simp only[aF,seval];first|done|exact eC1_b3)), ?_⟩
   first|exact hB|(rw[List.append_nil];exact hB)
  rw[if_neg (aE hc1)]at hpre;subst hpre;refine aK ?_;try simp only[RR]
  refine hKC1 _ _ ⟨(by repeat (first|exact agC1|refine aY.upd rfl ?_)),(by first|exact eC1_b3|(simp only[aF,seval];first|done|exact eC1_b3)), ?_⟩
  first|exact hB|(rw[List.append_nil];exact hB)
 rintro F3 M3 ⟨agx,gb3,hB⟩;have f0:=(agx 0 rfl).trans f0;have f3:=(agx 3 rfl).trans f3;have hb3:=gb3.trans hb3;clear agx;clear gb3;simp only[RR,seval];refine aJ ?_;refine aB fun _ y=>aA rfl ?_;simp only[f3,hb3,aC,RR,seval];apply y;clear y;refine bN fun F4 M4 hfr hH=>?_;have g0:=hfr 0;have g3:=hfr 3;have g14:=hfr 14;have g15:=hfr 15;have g16:=hfr 16;have gb3:=hH b3
 try simp only[f0,f3,hb3,RR,seval]at g0 g3 g14 g15 g16 gb3
 have hM:=funext hH;have f0:=g0;clear g0;have f3:=g3;clear g3;have f14:=g14;clear g14;have f15:=g15;clear g15;have f16:=g16;clear g16;have hb3:=gb3;clear gb3;clear hfr hH;refine aN ?_;refine cF [0,3,14,15] (l.length) (fun j fr M=>fr 16= .int .i64 (j:Nat)∧M b3=M4 b3∧gP b (bs++(qC++eQ (l.take j))) M) ⟨f16,rfl,(by rw[hM,List.take_zero,show eQ []=[]by simp only[eQ],List.append_nil];exact hB)⟩ ?_;rintro j F5 M5 hk0 ⟨fx,gb3,hB⟩ agx K0 hK0;have f0:=(agx 0 rfl).trans f0;have f3:=(agx 3 rfl).trans f3;have f14:=(agx 14 rfl).trans f14;have f15:=(agx 15 rfl).trans f15;have f16:=fx;clear fx;have hb3:=gb3.trans hb3;have ag0:=aY.refl [0,3,14,15] F5;have e0_b3:=gb3;clear gb3;clear agx;refine aB fun _ y=>aA rfl ?_;simp only[f15,f16,RR,seval];apply y;clear y;refine aJ ?_;refine aH _ rfl (fun hc=>?_) (fun hc=>?_)
 ·have hlt0:j<l.length:=by have:=aD hc;omega
  clear hc;have hg:=nM (aG hlt0);have htk:l.take (j+1)=l.take j++[l[j]]:=bL hlt0;have hec:=he _ (bE hlt0);have hle:=lX l (j+1);generalize l[j]=e at hg htk hec;rw[htk,gR]at hle;simp only[aI]at hle;obtain⟨x1,x2,x3,x4,x5⟩:=e;simp only[Ex.kind,Ex.op,Ex.num,Ex.name,Ex.kids]at hg;simp only[WC,Ex.row_eq,Ex.kind,Ex.op,Ex.num,Ex.name,Ex.kids]at hec;generalize hout:jU (.mk x1 x2 x3 x4 x5)=out at *;refine aK ?_;try simp only[RR]
  refine aJ ?_;refine aN ?_;refine aB fun _ y=>aA rfl ?_;simp only[f14,f16,hg,RR,seval];refine aT fun b5 hn5=>?_;have nb5_b3:b5≠b3:=fun e=>by rw[e]at hn5;simp only[hb3,seval,reduceCtorEq]at hn5
  have nb3_b5:b3≠b5:=fun e=>nb5_b3 e.symm;simp only[RR,seval];apply y;clear y;refine bN fun F6 M6 hfr hH=>?_;have g0:=hfr 0;have g3:=hfr 3;have g5:=hfr 5;have g14:=hfr 14;have g15:=hfr 15;have g16:=hfr 16;have gb3:=hH b3;have gb5:=hH b5
  try simp only[f0,f3,f14,f15,f16,hb3,nb3_b5,RR,seval]at g0 g3 g5 g14 g15 g16 gb3 gb5
  have ag0:aY [0,3,14,15] F5 F6:=aY.same hfr (by repeat (first|exact ag0|refine aY.upd rfl ?_));have e0_b3:=(hH b3).trans (by first|exact e0_b3|(simp only[nb3_b5,aF,seval];first|done|exact e0_b3));have hB:gP b (bs++(qC++eQ (l.take j))) M6:=by rw[funext hH];first|exact hB.new2 (by assumption) _ _|exact hB.new (by assumption) _
  have f0:=g0;clear g0;have f3:=g3;clear g3;have f5:=g5;clear g5;have f14:=g14;clear g14;have f15:=g15;clear g15;have f16:=g16;clear g16;have hb3:=gb3;clear gb3;have hb5:=gb5;clear gb5;clear hfr hH;refine aA rfl ?_;simp only[f0,f5,hb5,RR,seval];refine dS (by first|exact hB|exact hB.new (by assumption) _|exact hB.new2 (by assumption) _ _|exact hB.set (o:= .rows _ _) (by assumption) trivial _) (hec b (bs++(qC++eQ (l.take j))) (by simp only[aI];omega)) (cY.refl _) (fun _=>trivial) fun M7 hB hk' hn'=>?_;have gb3:=hk' b3 _ hb3 trivial;have e0_b3:=(gb3.trans hb3.symm).trans e0_b3;have hb3:=gb3;clear gb3;have gb5:=hk' b5 _ hb5 trivial;have hb5:=gb5;clear gb5;simp only[RR,seval];refine aA rfl ?_;simp only[f16,RR,seval]
  try rw[aV _ (by omega)]
  refine hK0 _ _ hlt0 ⟨by first|rfl|(simp only[aF,seval];rfl),(by first|exact e0_b3|(simp only[nb5_b3,nb3_b5,aF,seval];first|done|exact e0_b3)),by rw[htk,gR,hout];simpa only[List.append_assoc]using hB⟩ (by repeat (first|exact ag0|refine aY.upd rfl ?_))
 have hkn0:j=l.length:=by have:=aE hc;omega
 clear hc;rw[hkn0,List.take_length]at hB;refine bI ?_;simp only[RR,seval];refine aB fun _ y=>aA rfl ?_;simp only[f3,hb3,RR,seval];apply y;clear y;refine aN ?_;refine aB fun _ y=>aA rfl ?_;simp only[RR,seval];apply y;clear y;refine aH _ rfl (fun hc9=>?_) (fun hc9=>?_)
 ·obtain rfl:=aD hc9
  simp only[Int.reduceEq,if_true,if_false]at hsuf;subst hsuf;simp only[aI,aQ,List.length_nil]at hl0;have hcc:1+s.length≤maxLen:=by unfold maxLen;omega
  refine bK (fun x=>x≠b3) [(0,3),(1,3),(2,3),(3,3),(4,1),(5,3),(6,1)] [] cX (by kernel_rfl) rfl rfl ?_;simp only[cO,f0,f3,hb3,hcc,RR,seval];refine nP (by first|exact hB|exact hB.new (by assumption) _|exact hB.new2 (by assumption) _ _|exact hB.set (o:= .rows _ _) (by assumption) trivial _) (cT b (bs++(qC++eQ l)) ([58]++s) (by simp only[aI,aQ,List.length_nil];omega)) (cY.refl _) (fun x o hx hn=>by exact(fun e=>by subst e;first|(rw[aS]at hx;cases hx;exact hn trivial)|(rw[hb3]at hx;cases hx;exact hn trivial)|(simp only[aF,f0,f3,f14,f15,f16,hb3,aC,hcc,seval,Option.some.injEq]at hx;subst hx;exact hn trivial))) fun M8 hB hk' hn'=>?_;have gb3:=hk' b3 _ hb3 trivial;have hb3:=gb3;clear gb3;simp only[RR,seval]
  try simp only[aZ,aL,bJ,seval]
  exact rM hB (by simp only[List.append_assoc,List.cons_append,List.nil_append])
 refine aB fun _ y=>aA rfl ?_;simp only[RR,seval];apply y;clear y;refine aH _ rfl (fun hc11=>?_) (fun hc11=>?_)
 ·obtain rfl:=aD hc11
  simp only[Int.reduceEq,if_true,if_false]at hsuf;subst hsuf;simp only[aQ,List.length_nil]at hl0;refine aA rfl ?_;simp only[f0,RR,seval];refine dS (by first|exact hB|exact hB.new (by assumption) _|exact hB.new2 (by assumption) _ _|exact hB.set (o:= .rows _ _) (by assumption) trivial _) (cT b (bs++(qC++eQ l)) [35] (by simp only[aI,aQ,List.length_nil];omega)) (cY.refl _) (fun _=>trivial) fun M9 hB hk' hn'=>?_;have gb3:=hk' b3 _ hb3 trivial;have hb3:=gb3;clear gb3;simp only[RR,seval]
  try simp only[aZ,aL,bJ,seval]
  exact rM hB (by simp only[List.append_assoc])
 refine aB fun _ y=>aA rfl ?_;simp only[RR,seval];apply y;clear y;refine aH _ rfl (fun hc13=>?_) (fun hc13=>?_)
 ·obtain rfl:=aD hc13
  simp only[Int.reduceEq,if_true,if_false]at hsuf;subst hsuf;simp only[aQ,List.length_nil]at hl0;refine aA rfl ?_;simp only[f0,RR,seval];refine dS (by first|exact hB|exact hB.new (by assumption) _|exact hB.new2 (by assumption) _ _|exact hB.set (o:= .rows _ _) (by assumption) trivial _) (cT b (bs++(qC++eQ l)) [46] (by simp only[aI,aQ,List.length_nil];omega)) (cY.refl _) (fun _=>trivial) fun M10 hB hk' hn'=>?_;have gb3:=hk' b3 _ hb3 trivial;have hb3:=gb3;clear gb3;simp only[RR,seval]
  try simp only[aZ,aL,bJ,seval]
  exact rM hB (by simp only[List.append_assoc])
 refine aB fun _ y=>aA rfl ?_;simp only[RR,seval];apply y;clear y;refine aH _ rfl (fun hc15=>?_) (fun hc15=>?_)
 ·obtain rfl:=aD hc15
  simp only[Int.reduceEq,if_true,if_false]at hsuf;subst hsuf;simp only[aI,aQ,List.length_nil]at hl0;refine aB fun _ y=>aA rfl ?_;simp only[f0,RR,seval];refine dS (by first|exact hB|exact hB.new (by assumption) _|exact hB.new2 (by assumption) _ _|exact hB.set (o:= .rows _ _) (by assumption) trivial _) (cT b (bs++(qC++eQ l)) [73] (by simp only[aI,aQ,List.length_nil];omega)) (cY.refl _) (fun _=>trivial) fun M11 hB hk' hn'=>?_;have gb3:=hk' b3 _ hb3 trivial;have hb3:=gb3;clear gb3;simp only[RR,seval];apply y;clear y;refine aB fun _ y=>aA rfl ?_;simp only[f0,f3,hb3,RR,seval];refine dS (by first|exact hB|exact hB.new (by assumption) _|exact hB.new2 (by assumption) _ _|exact hB.set (o:= .rows _ _) (by assumption) trivial _) (htc b (bs++(qC++eQ l)++[73]) (by simp only[aI,aQ,List.length_nil];omega)) (cY.refl _) (fun _=>trivial) fun M12 hB hk' hn'=>?_;have gb3:=hk' b3 _ hb3 trivial;have hb3:=gb3;clear gb3;simp only[RR,seval];apply y;clear y;refine aA rfl ?_;simp only[f0,RR,seval];refine dS (by first|exact hB|exact hB.new (by assumption) _|exact hB.new2 (by assumption) _ _|exact hB.set (o:= .rows _ _) (by assumption) trivial _) (cT b (bs++(qC++eQ l)++[73]++iZ t) [70] (by simp only[aI,aQ,List.length_nil];omega)) (cY.refl _) (fun _=>trivial) fun M13 hB hk' hn'=>?_;have gb3:=hk' b3 _ hb3 trivial;have hb3:=gb3;clear gb3;simp only[RR,seval]
  try simp only[aZ,aL,bJ,seval]
  exact rM hB (by simp only[List.append_assoc,List.cons_append,List.nil_append])
 refine aB fun _ y=>aA rfl ?_;simp only[RR,seval];apply y;clear y;refine aH _ rfl (fun hc19=>?_) (fun hc19=>?_)
 ·obtain rfl:=aD hc19
  simp only[Int.reduceEq,if_true,if_false]at hsuf;subst hsuf;simp only[aI,aQ,List.length_nil]at hl0;refine aB fun _ y=>aA rfl ?_;simp only[f0,RR,seval];refine dS (by first|exact hB|exact hB.new (by assumption) _|exact hB.new2 (by assumption) _ _|exact hB.set (o:= .rows _ _) (by assumption) trivial _) (cT b (bs++(qC++eQ l)) [68] (by simp only[aI,aQ,List.length_nil];omega)) (cY.refl _) (fun _=>trivial) fun M14 hB hk' hn'=>?_;have gb3:=hk' b3 _ hb3 trivial;have hb3:=gb3;clear gb3;simp only[RR,seval];apply y;clear y;refine aB fun _ y=>aA rfl ?_;simp only[f0,f3,hb3,RR,seval];refine dS (by first|exact hB|exact hB.new (by assumption) _|exact hB.new2 (by assumption) _ _|exact hB.set (o:= .rows _ _) (by assumption) trivial _) (htc b (bs++(qC++eQ l)++[68]) (by simp only[aI,aQ,List.length_nil];omega)) (cY.refl _) (fun _=>trivial) fun M15 hB hk' hn'=>?_;have gb3:=hk' b3 _ hb3 trivial;have hb3:=gb3;clear gb3;simp only[RR,seval];apply y;clear y;refine aA rfl ?_;simp only[f0,RR,seval];refine dS (by first|exact hB|exact hB.new (by assumption) _|exact hB.new2 (by assumption) _ _|exact hB.set (o:= .rows _ _) (by assumption) trivial _) (cT b (bs++(qC++eQ l)++[68]++iZ t) [69] (by simp only[aI,aQ,List.length_nil];omega)) (cY.refl _) (fun _=>trivial) fun M16 hB hk' hn'=>?_;have gb3:=hk' b3 _ hb3 trivial;have hb3:=gb3;clear gb3;simp only[RR,seval]
  try simp only[aZ,aL,bJ,seval]
  exact rM hB (by simp only[List.append_assoc,List.cons_append,List.nil_append])
 rw[if_neg (aE hc9),if_neg (aE hc11),if_neg (aE hc13),if_neg (aE hc15),if_neg (aE hc19)]at hsuf;subst hsuf;refine aK ?_;try simp only[RR]
 try simp only[aZ,aL,bJ,seval]
 exact rM hB (by simp only[])
theorem Rb (N:Nat): ∀(e:Sm) (lv:Int),e.sz≤N→e.ok→fP e lv=true→WM e:=by
 induction N using Nat.strongRecOn with
 |_ N ih=>
  intro e lv hs ho hr;have hz:=e.sz_eq;have h1:=ho.es;have h2:=ho.thn;simp only[fP,bA]at hr;obtain⟨⟨⟨_,hre⟩,hrt⟩,_⟩:=hr;obtain⟨k,s,l,t,u⟩:=e;simp only[Sm.kind,Sm.es,Sm.thn,Sm.els]at *;refine Kw k s l t u h1.fit h2.fit (fun x hx=>Re _ x (lv+1) (bF _) (h1.all x hx) (oO hre x hx)) fun x hx=>?_;have hm:=eS hx;exact ih x.sz (by omega) x (lv+1) (bF _) (h2.all x hx) (oN hrt x hx)
end Go.Proofs.YtaecpjgmcffliaaGreatDoor
