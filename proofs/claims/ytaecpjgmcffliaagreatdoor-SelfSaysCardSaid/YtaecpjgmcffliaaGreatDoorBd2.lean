/- Bd2 -/
import Derived.Shelf.Strconv.Itoa0
import Derived.Shelf.Strconv.Itoa1
import Derived.Shelf.LaysM
import Derived.Shelf.Strconv.Itoa2
import Derived.Lib.ItoaMem
import Derived.Lib.Builder
import Derived.Lib.AppendIntMem
import Derived.Test.YtaecpjgmcffliaaGreatDoorProg
import Derived.Test.YtaecpjgmcffliaaGreatDoorSy2
import Derived.BigCall
import Derived.BigGuard
import Derived.Test.YtaecpjgmcffliaaGreatDoorT2
import Derived.Test.YtaecpjgmcffliaaGreatDoorSc1
import Derived.Test.YtaecpjgmcffliaaGreatDoorSy3
import Derived.Test.YtaecpjgmcffliaaGreatDoorAl3
set_option linter.unusedSimpArgs false
set_option linter.unusedVariables false
set_option maxHeartbeats 4000000
set_option maxRecDepth 100000
namespace Go.Proofs
open Go.Al Go.Proofs.Tryz
section
open Go.Shelf
def Tryz.lays129_ren:Go.Shelf.Ren:=⟨fun |129=>251|n=>n,fun |53=>172|3=>3|4=>4|46=>175|5=>5|9=>9|n=>n,fun |n=>n⟩
theorem Tryz.lays129:Go.Proofs.Lays.n129 Tryz.prog Tryz.lays129_ren:={
 mixed:=by kernel_rfl
 f129:=func251.trans (congrArg some (by kernel_rfl))
 t3:=Tryz.underlying3
 a3:=Tryz.isAgg3
 z3:=Tryz.sizeOf3
 v3:=Tryz.zeroValue3
 t4:=Tryz.underlying4
 a4:=Tryz.isAgg4
 z4:=Tryz.sizeOf4
 v4:=Tryz.zeroValue4
 t5:=Tryz.underlying5
 a5:=Tryz.isAgg5
 z5:=Tryz.sizeOf5
 v5:=Tryz.zeroValue5
 t9:=Tryz.underlying9
 a9:=Tryz.isAgg9
 z9:=Tryz.sizeOf9
 v9:=Tryz.zeroValue9
 t46:=Tryz.underlying175
 a46:=Tryz.isAgg175
 z46:=Tryz.sizeOf175
 v46:=Tryz.zeroValue175
 t53:=Tryz.underlying172
 a53:=Tryz.isAgg172
 z53:=Tryz.sizeOf172
 v53:=Tryz.zeroValue172}
theorem Tryz.bits_Len64 (x:Int) (w:World) (a:0≤x) (b:x≤18446744073709551615):
  Calls Tryz.prog 251 #[.int .u64 x] w fun e c=>e= .returned (.int .i64 (Lib.bitLen x.toNat))∧c=w:=Any.bits_Len64 Tryz.lays129 x w a b
def Tryz.lays317_ren:Go.Shelf.Ren:=⟨fun |317=>250|n=>n,fun |3=>3|46=>175|n=>n,fun |n=>n⟩
theorem Tryz.lays317:Go.Proofs.Lays.n317 Tryz.prog Tryz.lays317_ren:={
 mixed:=by kernel_rfl
 f317:=func250.trans (congrArg some (by kernel_rfl))
 t3:=Tryz.underlying3
 a3:=Tryz.isAgg3
 z3:=Tryz.sizeOf3
 v3:=Tryz.zeroValue3
 t46:=Tryz.underlying175
 a46:=Tryz.isAgg175
 z46:=Tryz.sizeOf175
 v46:=Tryz.zeroValue175}
open Go.Lib in
theorem Tryz.internal_strconv_log10Pow2 (x:Nat) (h:x≤64) (w:World):
  Calls Tryz.prog 250 #[.int .i64 x] w fun e a=>e= .returned (.int .i64 (Lib.l10 x))∧a=w:=Any.internal_strconv_log10Pow2 Tryz.lays317 x h w
def Tryz.lays318_ren:Go.Shelf.Ren:=⟨fun |318=>252|n=>n,fun |3=>3|4=>4|n=>n,fun |n=>n⟩
theorem Tryz.lays318:Go.Proofs.Lays.n318 Tryz.prog Tryz.lays318_ren:={
 mixed:=by kernel_rfl
 f318:=func252.trans (congrArg some (by kernel_rfl))
 t3:=Tryz.underlying3
 a3:=Tryz.isAgg3
 z3:=Tryz.sizeOf3
 v3:=Tryz.zeroValue3
 t4:=Tryz.underlying4
 a4:=Tryz.isAgg4
 z4:=Tryz.sizeOf4
 v4:=Tryz.zeroValue4}
open Go.Lib in
theorem Tryz.internal_strconv_bool2_int (b:Bool) (w:World):
  Calls Tryz.prog 252 #[.bool b] w fun e a=>e= .returned (.int .i64 (if b then 1 else 0))∧a=w:=Any.internal_strconv_bool2_int Tryz.lays318 b w
def Tryz.lays283_ren:Go.Shelf.Ren:=⟨fun |283=>242|n=>n,fun |3=>3|9=>9|4=>4|n=>n,fun |n=>n⟩
theorem Tryz.lays283:Go.Proofs.Lays.n283 Tryz.prog Tryz.lays283_ren:={
 mixed:=by kernel_rfl
 f283:=func242.trans (congrArg some (by kernel_rfl))
 t3:=Tryz.underlying3
 a3:=Tryz.isAgg3
 z3:=Tryz.sizeOf3
 v3:=Tryz.zeroValue3
 t4:=Tryz.underlying4
 a4:=Tryz.isAgg4
 z4:=Tryz.sizeOf4
 v4:=Tryz.zeroValue4
 t9:=Tryz.underlying9
 a9:=Tryz.isAgg9
 z9:=Tryz.sizeOf9
 v9:=Tryz.zeroValue9}
open Go.Lib in
theorem Tryz.internal_strconv_small (i:Nat) (h:i<100) (w:World):
  Calls Tryz.prog 242 #[.int .i64 i] w fun e a=>e= .returned (.string ⟨(Lib.decDigits i).toArray⟩)∧a=w:=Any.internal_strconv_small Tryz.lays283 i h w
def Tryz.lays285_ren:Go.Shelf.Ren:=⟨fun |285=>244|n=>n,fun |37=>69|53=>172|3=>3|4=>4|51=>46|9=>9|5=>5|0=>0|n=>n,fun |n=>n⟩
theorem Tryz.lays285:Go.Proofs.Lays.n285 Tryz.prog Tryz.lays285_ren:={
 mixed:=by kernel_rfl
 f285:=func244.trans (congrArg some (by kernel_rfl))
 t0:=Tryz.underlying0
 a0:=Tryz.isAgg0
 z0:=Tryz.sizeOf0
 v0:=Tryz.zeroValue0
 t3:=Tryz.underlying3
 a3:=Tryz.isAgg3
 z3:=Tryz.sizeOf3
 v3:=Tryz.zeroValue3
 t4:=Tryz.underlying4
 a4:=Tryz.isAgg4
 z4:=Tryz.sizeOf4
 v4:=Tryz.zeroValue4
 t5:=Tryz.underlying5
 a5:=Tryz.isAgg5
 z5:=Tryz.sizeOf5
 v5:=Tryz.zeroValue5
 t9:=Tryz.underlying9
 a9:=Tryz.isAgg9
 z9:=Tryz.sizeOf9
 v9:=Tryz.zeroValue9
 t37:=Tryz.underlying69
 a37:=Tryz.isAgg69
 z37:=Tryz.sizeOf69
 v37:=Tryz.zeroValue69
 t51:=Tryz.underlying46
 a51:=Tryz.isAgg46
 z51:=Tryz.sizeOf46
 v51:=Tryz.zeroValue46
 t53:=Tryz.underlying172
 a53:=Tryz.isAgg172
 z53:=Tryz.sizeOf172
 v53:=Tryz.zeroValue172}
open Go.RowKit Go.Sort Go.Lib in
theorem Tryz.internal_strconv_formatBase10 (a off cap:Nat) (u:Nat) (d:Array UInt8) (w:World) (f:Holds (fun(b:UInt8)=>Value.int .u8 (b.toNat:Int)) w a off d) (i:u<10^d.size) (j:u<18446744073709551616) (g:d.size<4611686018427387904):
  Calls Tryz.prog 244 #[.slice (some ⟨a,off,none⟩) d.size cap, .int .u64 u] w fun e l=>
   e= .returned (.tuple #[])∧ ∃(n k:Nat) (c:Array UInt8),l=(putRow (fun(b:UInt8)=>Value.int .u8 (b.toNat:Int)) w a off c).drewN n∧FmtInv d.size u 0 k c:=Any.internal_strconv_formatBase10 Tryz.lays285 a off cap u d w f i j g
end
section
open Go.Lib Go.RowKit Go.Al Go.Sort
theorem Xz (u:Nat) (j:1≤u) (c:u<18446744073709551616) (w:World) (d: ∀i,i<20→w.cell? ⟨1,i,none⟩=some (.int .u64 ((10^i:Nat):Int))):
  Calls Tryz.prog 243 #[.int .u64 u] w fun e b=>e= .returned (.int .i64 (Lib.nDigits u))∧b=w:=by
 obtain⟨a,k⟩:=Lib.numDigits_eq u j c;have l:Lib.bitLen u≤64:=Lib.bitLen_le u 64 (bI _) c;have f:=d (Lib.l10 (Lib.bitLen u)) (by omega);have t:((u:Int)).toNat=u:=by omega
 generalize p:Lib.l10 (Lib.bitLen u)=q at a k f;generalize o:10^q=T at a f;have n:q<20:=by omega
 have g:=Lib.hid a;clear a d
 go_enter func243,Tryz.ntmps243
 go_wp2_with (first
  |(go_at_call 251;refine(Tryz.bits_Len64 _ _ (by omega) (by omega)).mono ?_;rintro e b ⟨rfl,rfl⟩)
  |(go_at_call 250;refine(Tryz.internal_strconv_log10Pow2 _ l _).mono ?_;rintro e b ⟨rfl,rfl⟩)
  |(go_at_call 252;refine(Tryz.internal_strconv_bool2_int _ _).mono ?_;rintro e b ⟨rfl,rfl⟩))
 all_goals go_ret
 all_goals (
  refine⟨?_,rfl⟩;have a:=g.out;congr 2
  split at a<;>simp_all<;>omega)
theorem Nx (u:Nat) (f:u<18446744073709551616) (w:World) (n: ∀i,i<20→w.cell? ⟨1,i,none⟩=some (.int .u64 ((10^i:Nat):Int))) (B:1<w.heap.size):
  Calls Tryz.prog 223 #[.int .u64 u, .int .i64 10] w fun e d=>e= .returned (.string ⟨(Lib.decDigits u).toArray⟩)∧Below w.heap.size w d:=by
 by_cases D:u<100
 ·clear n
  go_enter func223,Tryz.ntmps223
  go_wp2_with (go_at_call 242;refine(Tryz.internal_strconv_small u D _).mono ?_;rintro e d ⟨rfl,rfl⟩)
  go_ret
  exact⟨rfl,Below.refl _ _⟩
 have x:1≤u:=by omega
 have G:Lib.nDigits u≤20:=by have:=Lib.numDigits_eq u x f;split at this<;>omega
 have p:Tryz.prog.arrayLen 344=24:=by simp [Program.arrayLen,Tryz.underlying344]
 have H: ∀W,(Instr.sliceAt 344 (.pointer (some ⟨w.heap.size,0,none⟩)) none (some (.int .i64 (Lib.nDigits u:Int))) none).run Tryz.prog W= .ok (.slice (some ⟨w.heap.size,0,none⟩) (Lib.nDigits u) 24) W:=fun W=>by
  rw[run_sliceAt_array_h W 344 ⟨w.heap.size,0,none⟩ (by simp [Program.arrayLen,Program.elem,Tryz.underlying344]) .i64 (Lib.nDigits u:Int) (by omega) (by rw[p];omega)]
  go_simp
 have l:=Lib.holds_zero0 w 344 (Lib.nDigits u) (by omega);have v:=Tryz.internal_strconv_formatBase10 w.heap.size 0 24 u (Array.replicate (Lib.nDigits u) 0) (w.alloc (.cells Lib.zeros24 344)) l (by rw[Vg];exact Lib.lt_pow_nDigits u) f (by rw[Vg];omega);rw[Vg]at v
 have t: ∀i,i<20→(w.alloc (.cells Lib.zeros24 344)).cell? ⟨1,i,none⟩=some (.int .u64 ((10^i:Nat):Int)):=fun i C=>by
  rw[World.cell?_of_block (a:=⟨1,i,none⟩) (Lib.alloc_old w _ _ B)];exact n i C
 have y:=Lib.hid l;have z:=Lib.hid t;clear l p n t
 go_enter func223,Tryz.ntmps223
 go_wp2_with (first
  |(go_at_call 243;refine(Xz u x f _ z.out).mono ?_;rintro e d ⟨rfl,rfl⟩))
 go_at_call 244
 refine v.mono ?_;rintro e d ⟨rfl,k,I,c,rfl,g⟩
 have F:(convert 69 9 (.slice (some ⟨w.heap.size,0,none⟩) (Lib.nDigits u) 24)).run Tryz.prog ((putRow (fun(b:UInt8)=>Value.int .u8 (b.toNat:Int)) (w.alloc (.cells Lib.zeros24 344)) w.heap.size 0 c).drewN k)= .ok (.string ⟨(Lib.decDigits u).toArray⟩) ((putRow (fun(b:UInt8)=>Value.int .u8 (b.toNat:Int)) (w.alloc (.cells Lib.zeros24 344)) w.heap.size 0 c).drewN k):=by
  have h:=run_convert_bytes_back (P:=Tryz.prog) ((putRow (fun(b:UInt8)=>Value.int .u8 (b.toNat:Int)) (w.alloc (.cells Lib.zeros24 344)) w.heap.size 0 c).drewN k) 69 9 5 ⟨w.heap.size,0,none⟩ 24 (Lib.decDigits u) Tryz.underlying69 Tryz.underlying5 Tryz.underlying9 (fun j o=>by
   rw[Lib.row_is_numeral g j o,Lib.add_plain,World.cell?_drewN]
   exact cell?_putRow (fun(b:UInt8)=>Value.int .u8 (b.toNat:Int)) _ w.heap.size 0 _ c y.out (by rw[g.size,Vg]) j (by rw[g.size];rw[Lib.decDigits_length]at o;exact o))
  rw[Lib.decDigits_length]at h;exact h
 go_wp2
 go_ret
 obtain⟨E,A⟩:=Lib.fin_at w (.cells Lib.zeros24 344) c k 0;refine⟨rfl, ?_⟩;rw[A];exact Lib.below_grow _ w (bI _) k E
theorem Ud (u:Nat) (c:u<18446744073709551616) (w:World) (f: ∀i,i<20→w.cell? ⟨1,i,none⟩=some (.int .u64 ((10^i:Nat):Int))) (g:1<w.heap.size):
  Calls Tryz.prog 182 #[.int .u64 u, .int .i64 10] w fun e a=>e= .returned (.string ⟨(Lib.decDigits u).toArray⟩)∧Below w.heap.size w a:=by
 have b:=Lib.hid f
 go_enter func182,Tryz.ntmps182
 go_wp2_with (go_at_call 223;refine(Nx u c _ b.out g).mono ?_;rintro e a ⟨rfl,d⟩)
 go_ret
 exact⟨rfl,d⟩
end
end Go.Proofs
namespace Go.Proofs.YtaecpjgmcffliaaGreatDoor
open Go.Al Go.Proofs.Tryz
section
open Go.Al Go.RowKit
theorem IZ {E:kC} {g:FuncId} {i:List AV} {s:List UInt8} (u:ZF E g) (h: ∀(W:World) (c:gK) (vs:List Value),St E ⟨W,LF qZ,c,[],fun _=>Go.undef⟩ c qZ W→dJ c W i vs→
  Calls E.P g vs.toArray W fun e n=>e= .returned (.string ⟨s.toArray⟩)∧Below W.heap.size W n):eN E g i (.str s):=by
 refine⟨u,fun l c vs f t=>(h l c vs f t).mono fun e x ⟨p,a⟩=>?_⟩;have v:nU (fun _=>False) l x:=⟨a.os,a.tape,a.output,a.size,fun k d _=>a.block k d,fun k y j=>(rD (a.block k (Hv j))).trans j⟩;refine⟨.ret (.str s),qZ,c,f.step v (fun _ h=>h.elim) (fun _ h=>h) (fun k d=>sC (f.lt k d) a.size) (fun k d=> .inl d) (fun b o h=>(by cases h)), ?_,rfl,rfl⟩;simp only[vB];exact⟨_,p,by simp only[cK]⟩
theorem Z6 {g:Al.lS} {S:gK} {H:Hp} {w:World} (h:St dV g S H w):(∀i,i<20→w.cell? ⟨1,i,none⟩=some (.int .u64 ((10^i:Nat):Int)))∧1<w.heap.size:=by
 obtain⟨d,e⟩:=h.glb 1 IW XC;refine⟨fun i a=>?_,h.lt _ d⟩
 have f:IW[i]?=some (.int .u64 ((10^i:Nat):Int)):=by
  have : ∀i:Fin 20,IW[i.val]?=some (.int .u64 ((10^i.val:Nat):Int)):=by
   intro⟨i,a⟩
   iterate 20 (rcases i with _|i; · rfl)
   omega
  exact this ⟨i,a⟩
 obtain⟨u,b,c⟩:=e.get i f;simp only[cK]at c;rw[bT]at b;rw[b,c]
theorem Ly (u:Nat) (e:u<18446744073709551616):eN dV 182 [.int .u64 u, .int .i64 10] (.str (Lib.decDigits u)):=by
 refine IZ ⟨_,func182,by kernel_rfl,by kernel_rfl⟩ fun W f vs d a=>?_;simp only[dJ,cK]at a;obtain⟨_,_,rfl,rfl,_,_,rfl,rfl,rfl⟩:=a;obtain⟨b,c⟩:=Z6 d;exact Ud u e W b c
end
theorem zS {b:Nat} {bs out cur:List UInt8} {H:Hp} {v:AV} (hB:mV b cur H) (h:cur=bs++out):aY (fun ae H'=>ae= .ret v∧B9 b (bs++out) H') v H:=h▸hB.gives rfl
theorem MD (n:Int) (hn:dX n):eN dV 122 [.int .u32 n] (.str (Lib.decDigits n.toNat)):=by
 obtain⟨h0,h1⟩:=hn;obtain⟨u,rfl⟩: ∃u:Nat,n=u:=⟨n.toNat,by omega⟩;have hw:IntKind.wrap .u64 (u:Int)=(u:Int):=DD _ (by omega);rw[cC];refine bX 6 [.tmp 2] func122 ?_;refine aC fun _ hK=>uP rfl ?_;simp only[RR,seval];apply hK;clear hK;refine aC fun _ hK=>uP rfl ?_;simp only[hw,RR,seval];refine aO (Ly u (by omega)) ?_;simp only[RR,seval];apply hK;clear hK;refine aN ?_;simp only[aW,aJ,bN,RR,seval];refine aY.pure ?_;rfl
theorem Q8: ∀a b:List Ex,mG (a++b)=mG a++mG b
 |[],b=>by simp [mG]
 |x::a,b=>by simp only[dM,mG,Q8 a b,bU]
theorem Q9: ∀a b:List Sm,jX (a++b)=jX a++jX b
 |[],b=>by simp [jX]
 |x::a,b=>by simp only[dM,jX,Q9 a b,bU]
theorem Vx (l:List Ex) (k:Nat):(mG (l.take k)).length≤(mG l).length:=by
 have:=congrArg List.length (Q8 (l.take k) (l.drop k));rw[mB,aH]at this;omega
theorem HH (l:List Sm) (k:Nat):(jX (l.take k)).length≤(jX l).length:=by
 have:=congrArg List.length (Q9 (l.take k) (l.drop k));rw[mB,aH]at this;omega
def WC (e:Ex):Prop:= ∀(b:Nat) (bs:dC),(bs++fR e).length≤140737488355328→Vb dV 79 [.ptr 2 b 0 0, .agg e.row] b bs (.tup []) (fR e)
theorem D8 (k o n:Int) (s:dC) (l:List Ex) (hk:k=6→4≤o∧o≤15) (F:dX n) (b9:l.length≤9223372036854775807) (h: ∀e∈l,WC e):WC (.mk k o n s l):=by
 intro b z T H0 hm;have d:=hm.h;have C:fR (.mk k o n s l)=mG l++jY k o n s:=by rw[fR]
 have y:z.length+(mG l).length+(jY k o n s).length≤140737488355328:=by
  rw[C]at T;simp only[aH]at T;omega
 clear T;simp only[Ex.row_eq,Ex.kind,Ex.op,Ex.num,Ex.name,Ex.kids];refine bX 65 [] func79 ?_;refine aA fun K f=>?_;simp only[RR,seval];refine aM fun p c2=>?_;simp only[RR,seval];refine f _ _ (aI (aA fun K f=>?_));simp only[aE,RR,seval];refine f _ _ (bM fun F1 M1 u E=>?_);have v:=u 0;have A:=u 3;have G:=u 7;have H:=u 8;have B:=u 9;have a:=E p;simp only[RR,seval]at v A G H B a;have hM:=funext E;refine aP ?_;refine eO [0,3,7,8] (l.length) (fun j fr M=>fr 9= .int .i64 (j:Nat)∧M p=M1 p∧mV b (z++mG (l.take j)) M) ⟨B,rfl,(by rw[hM,kB,show mG []=[]by simp only[mG],dZ];exact d.new (by assumption) _)⟩ ?_;rintro j V M2 c1 ⟨Y,g,d⟩ L K0 a9;have v:=(L 0 rfl).trans v;have A:=(L 3 rfl).trans A;have G:=(L 7 rfl).trans G;have H:=(L 8 rfl).trans H;have B:=Y;clear Y;have a:=g.trans a;have Q:=aX.refl [0,3,7,8] V;have N:=g;clear L;refine aA fun K f=>?_;simp only[H,B,RR,seval];refine f _ _ (aI (aU ?_ ?_))<;>intro I
 ·have P:j<l.length:=by have:=aB I;omega
  clear I;have S:=qG (aF P);have U:l.take (j+1)=l.take j++[l[j]]:=cL P;have R:=h _ (bW P);have a6:=Vx l (j+1);generalize l[j]=e at S U R;rw[U,vX]at a6;simp only[aH]at a6;obtain⟨x1,x2,x3,x4,x5⟩:=e;simp only[Ex.kind,Ex.op,Ex.num,Ex.name,Ex.kids]at S;simp only[WC,Ex.row_eq,Ex.kind,Ex.op,Ex.num,Ex.name,Ex.kids]at R;generalize b6:fR (.mk x1 x2 x3 x4 x5)=c5 at *;refine aK ?_;simp only[RR];refine aI (aP (aA fun K f=>?_));simp only[G,B,S,RR,seval];refine aM fun W b4=>?_;have b7:=cY b4 a;have a7:=b7.symm;simp only[RR,seval];refine f _ _ (bM fun F3 M3 u E=>?_);have Z:=u 0;have g3:=u 3;have X:=u 5;have g7:=u 7;have g8:=u 8;have g9:=u 9;have g:=E p;have O:=E W;simp only[v,A,G,H,B,a,a7,RR,seval]at Z g3 X g7 g8 g9 g O;have Q:aX [0,3,7,8] V F3:=aX.same u (by repeat (first|exact Q|refine aX.upd rfl ?_));have N:=(E p).trans (by(simp only[a7,aT,seval];exact N));have d:mV b (z++mG (l.take j)) M3:=by rw[funext E];exact d.new2 (by assumption) _ _
  have v:=Z;have A:=g3;have G:=g7;have H:=g8;have B:=g9;have a:=g;refine aG ?_;simp only[v,X,O,RR,seval];refine gR d (R b (z++mG (l.take j)) (by simp only[aH];omega)) (fF.refl _) (fun _=>trivial) fun M4 d t J=>?_;have g:=t p _ a trivial;have N:=(g.trans a.symm).trans N;have a:=g;have a8:=t W _ O trivial;have O:=a8;simp only[RR,seval];refine aG ?_;simp only[B,RR,seval];rw[aS _ (by omega)];refine a9 _ _ P ⟨by rfl,N,by rw[U,vX,b6];simpa only[bU]using d⟩ (by repeat (first|exact Q|refine aX.upd rfl ?_))
 have b2:j=l.length:=by have:=aD I;omega
 rw[b2,dD]at d;refine cF ?_;simp only[RR,seval];refine aA fun K f=>?_;simp only[A,a,RR,seval];refine f _ _ (aP (aA fun K f=>?_));simp only[RR,seval];refine f _ _ (aU ?_ ?_)<;>intro a4
 ·obtain rfl:=aB a4
  have i:jY 1 o n s=Lib.decDigits n.toNat++[32]:=by simp [jY]
  rw[i]at y;simp only[aH,aQ,aV]at y;have b0:(Lib.decDigits n.toNat).length+1≤maxLen:=by unfold maxLen;omega
  refine bB (fun x=>x≠p) [(0,3),(1,3),(2,3),(3,3),(4,1),(5,1),(6,3),(7,1)] [] eF (by kernel_rfl) rfl rfl ?_;simp only[dR,v,A,a,RR,seval];refine aO (MD n F) ?_;simp only[b0,RR,seval];refine uQ d (fH b (z++mG l) (Lib.decDigits n.toNat++[32]) (by simp only[aH,aQ,aV];omega)) (fF.refl _) (fun x o D F=>by exact(fun e=>by subst e;(rw[a]at D;cases D;exact F trivial))) fun M5 d t J=>?_;have g:=t p _ a trivial;have a:=g;simp only[RR,seval];simp only[aW,aJ,bN,seval];exact zS d (by rw[C,i]<;>simp only[bU])
 refine aA fun K f=>?_;simp only[RR,seval];refine f _ _ (aU ?_ ?_)<;>intro a5
 ·obtain rfl:=aB a5
  have i:jY 2 o n s=s:=by simp [jY]
  rw[i]at y;refine bB (fun x=>x≠p) [(0,3),(1,3),(2,3),(3,3),(4,1),(5,1)] [] eF (by kernel_rfl) rfl rfl ?_;simp only[dR,v,A,a,RR,seval];refine uQ d (fH b (z++mG l) s (by simp only[aH];omega)) (fF.refl _) (fun x o D F=>by exact(fun e=>by subst e;(rw[a]at D;cases D;exact F trivial))) fun M6 d t J=>?_;have g:=t p _ a trivial;have a:=g;simp only[RR,seval];simp only[aW,aJ,bN,seval];exact zS d (by rw[C,i]<;>simp only[bU])
 refine aA fun K f=>?_;simp only[RR,seval];refine f _ _ (aU ?_ ?_)<;>intro a0
 ·obtain rfl:=aB a0
  have i:jY 3 o n s=[64]:=by simp [jY]
  rw[i]at y;simp only[aQ,aV]at y;refine aG ?_;simp only[v,RR,seval];refine gR d (fH b (z++mG l) [64] (by simp only[aH,aQ,aV];omega)) (fF.refl _) (fun _=>trivial) fun M7 d t J=>?_;have g:=t p _ a trivial;have a:=g;simp only[RR,seval];simp only[aW,aJ,bN,seval];exact zS d (by rw[C,i]<;>simp only[bU])
 refine aA fun K f=>?_;simp only[RR,seval];refine f _ _ (aU ?_ ?_)<;>intro a1
 ·obtain rfl:=aB a1
  have i:jY 5 o n s=[63]:=by simp [jY]
  rw[i]at y;simp only[aQ,aV]at y;refine aG ?_;simp only[v,RR,seval];refine gR d (fH b (z++mG l) [63] (by simp only[aH,aQ,aV];omega)) (fF.refl _) (fun _=>trivial) fun M8 d t J=>?_;have g:=t p _ a trivial;have a:=g;simp only[RR,seval];simp only[aW,aJ,bN,seval];exact zS d (by rw[C,i]<;>simp only[bU])
 refine aA fun K f=>?_;simp only[RR,seval];refine f _ _ (aU ?_ ?_)<;>intro a2
 ·obtain rfl:=aB a2
  obtain⟨c3,c4⟩:=hk rfl;obtain⟨j,rfl⟩: ∃j:Nat,o=((4+j:Nat):Int):=⟨(o- 4).toNat,by omega⟩;have hj:j<12:=by omega
  have hw:IntKind.wrap .i64 (((4+j:Nat):Int)- 4)=(j:Int):=by rw[aS _ (by omega)];omega
  obtain⟨c,I⟩: ∃c,opS[j]?=some c:=⟨_,aF (show j<opS.length from hj)⟩
  have i:jY 6 ((4+j:Nat):Int) n s=[c]:=by
   have e1:(((4+j:Nat):Int)- 4).toNat=j:=by omega
   unfold jY;rw[aL (by decide),aL (by decide),aL (by decide),aL (by decide),aL (by decide),bH rfl,e1,I];rfl
  rw[i]at y;simp only[aQ,aV]at y;have c0:(j:Int)<12:=by omega
  have b1:([43,45,42,47,37,38,124,94,76,82,60,61]:List UInt8)[j]?=some c:=I;refine bB (fun x=>x≠p) [(0,3),(1,3),(2,3),(3,3),(4,1),(5,3),(6,3),(7,1)] [] eF (by kernel_rfl) rfl rfl ?_;simp only[dR,v,A,a,hw,b1,RR,seval];refine uQ d (Oa b (z++mG l) c (by simp only[aH];omega)) (fF.refl _) (fun x o D F=>by exact(fun e=>by subst e;(rw[a]at D;cases D;exact F trivial))) fun M9 d t J=>?_;have g:=t p _ a trivial;have a:=g;simp only[RR,seval];simp only[aW,aJ,bN,seval];exact zS d (by rw[C,i]<;>simp only[bU])
 refine aA fun K f=>?_;simp only[RR,seval];refine f _ _ (aU ?_ ?_)<;>intro a3
 ·obtain rfl:=aB a3
  have i:jY 7 o n s=[33]:=by simp [jY]
  rw[i]at y;simp only[aQ,aV]at y;refine aG ?_;simp only[v,RR,seval];refine gR d (fH b (z++mG l) [33] (by simp only[aH,aQ,aV];omega)) (fF.refl _) (fun _=>trivial) fun b8 d t J=>?_;have g:=t p _ a trivial;have a:=g;simp only[RR,seval];simp only[aW,aJ,bN,seval];exact zS d (by rw[C,i]<;>simp only[bU])
 have h1:=aD a4;have h2:=aD a5;have h3:=aD a0;have h4:=aD a1;have h5:=aD a2;have h6:=aD a3;have i:jY k o n s=[]:=by simp [jY,h1,h2,h3,h4,h5,h6]
 refine aK ?_;simp only[RR];simp only[aW,aJ,bN,seval];exact zS d (by rw[C,i]<;>simp only[dZ])
theorem X9 (N:Nat): ∀(e:Ex) (b:Int),e.sz≤N→e.ok→lH e b=true→WC e:=by
 induction N using Nat.strongRecOn with
 |_ N ih=>
  intro e b u d f;have v:=e.sz_eq;have c:=d.kids;have j:=d.num;simp only[lH,bC]at f;obtain⟨⟨_,i⟩,p⟩:=f;obtain⟨k,o,n,s,l⟩:=e;simp only[Ex.kind,Ex.op,Ex.num,Ex.kids]at *;refine D8 k o n s l (fun g=>by subst g;simp [lR]at i;omega) j c.fit fun x a=>?_;have t:=nJ a;exact ih x.sz (by omega) x (b+1) (bI _) (c.all x a) (Su p x a)
def WM (m:Sm):Prop:= ∀(b:Nat) (bs:dC),(bs++pX m).length≤140737488355328→Vb dV 54 [.ptr 2 b 0 0, .agg m.row] b bs (.tup []) (pX m)
theorem Hg (l:List Sm) (a0:l.length≤9223372036854775807) (h: ∀e∈l,WM e) (b:Nat) (g:dC) (J:(g++jX l).length≤140737488355328):Vb dV 28 [.ptr 2 b 0 0, .isl 5 (l.map Sm.row)] b g (.tup []) (jX l):=by
 intro U L;have a:=L.h;simp only[aH]at J;refine bX 16 [] func28 ?_;refine aA fun K d=>?_;simp only[aE,RR,seval];refine d _ _ (bM fun T W o E=>?_);have i:=o 0;have k:=o 6;have n:=o 7;have c:=o 8;simp only[RR,seval]at i k n c;have G:=funext E;refine aP (eO [0,6,7] (l.length) (fun j D M=>D 8= .int .i64 (j:Nat)∧mV b (g++jX (l.take j)) M) ⟨c,(by rw[G,kB,show jX []=[]by simp only[jX],dZ];exact a)⟩ ?_);rintro j A X a1 ⟨y,a⟩ f V F;have i:=(f 0 rfl).trans i;have k:=(f 6 rfl).trans k;have n:=(f 7 rfl).trans n;have c:=y;clear y;have B:=aX.refl [0,6,7] A;clear f;refine aA fun K d=>?_;simp only[n,c,RR,seval];refine d _ _ (aI (aU ?_ ?_))<;>intro t
 ·have p:j<l.length:=by have:=aB t;omega
  clear t;have v:=Jg (aF p);have x:l.take (j+1)=l.take j++[l[j]]:=cL p;have u:=h _ (bW p);have z:=HH l (j+1);generalize l[j]=e at v x u;rw[x,Hl]at z;simp only[aH]at z;obtain⟨O,P,Q,R,S⟩:=e;simp only[Sm.kind,Sm.name,Sm.es,Sm.thn,Sm.els]at v;simp only[WM,Sm.row_eq,Sm.kind,Sm.name,Sm.es,Sm.thn,Sm.els]at u;generalize N:pX (.mk O P Q R S)=a4 at *;refine aK ?_;simp only[RR];refine aI (aP (aA fun K d=>?_));simp only[k,c,v,RR,seval];refine aM fun C a3=>?_;simp only[RR,seval];refine d _ _ (aG ?_);simp only[i,RR,seval];refine gR (by exact a.new2 (by assumption) _ _) (u b (g++jX (l.take j)) (by simp only[aH];omega)) (fF.refl _) (fun _=>trivial) fun Y a H a2=>?_;have Z:=H C _ (bE _ _ _) trivial;simp only[RR,seval];refine aG ?_;simp only[c,RR,seval];rw[aS _ (by omega)];refine F _ _ p ⟨by rfl,by rw[x,Hl,N];simpa only[bU]using a⟩ (by repeat (first|exact B|refine aX.upd rfl ?_))
 have I:j=l.length:=by have:=aD t;omega
 rw[I,dD]at a;refine cF ?_;simp only[RR,seval];simp only[aW,aJ,bN,seval];exact zS a rfl
theorem D7 (k:Int) (s:dC) (l:List Ex) (t u:List Sm) (d2:l.length≤9223372036854775807) (b8:t.length≤9223372036854775807) (he: ∀e∈l,WC e) (ht: ∀e∈t,WM e):WM (.mk k s l t u):=by
 intro b p L H0 hm;have a:=hm.h;obtain⟨yB,N⟩: ∃yB:dC,(if k=5 then [87]else [])=yB:=⟨_,rfl⟩;obtain⟨S,z⟩: ∃S:dC,(if k=1 then [58]++s else if k=2 then [35]else if k=3 then [46]else if k=4 then [73]++(jX t++[70])else if k=5 then [68]++(jX t++[69])else [])=S:=⟨_,rfl⟩
 have hE:pX (.mk k s l t u)=yB++(mG l++S):=by
  rw[pX,←N,←z];by_cases k1:k=1
  ·subst k1;simp
  by_cases k2:k=2
  ·subst k2;simp
  by_cases k3:k=3
  ·subst k3;simp
  by_cases k4:k=4
  ·subst k4;simp
  by_cases k5:k=5
  ·subst k5;simp
  simp [k1,k2,k3,k4,k5]
 rw[hE]at L⊢;have G:p.length+yB.length+(mG l).length+S.length≤140737488355328:=by simp only[aH]at L;omega
 have b2:=fun b p L=>Hg t b8 ht b p L;clear L hE;simp only[Sm.row_eq,Sm.kind,Sm.name,Sm.es,Sm.thn,Sm.els];refine bX 75 [] func54 ?_;refine aA fun K f=>?_;simp only[RR,seval];refine aM fun g d4=>?_;simp only[RR,seval];refine f _ _ (aI (aA fun K f=>?_));simp only[RR,seval];refine f _ _ (bM fun F1 O v A=>?_);have n:=v 0;have y:=v 3;have f8:=v 8;have c:=A g;simp only[RR,seval]at n y f8 c;have V:=funext A;have a:mV b p O:=by rw[V];exact a.new (by assumption) _
 refine fQ (fun U M=>aX [0,3] F1 U∧M g=O g∧mV b (p++yB) M) (fun c3 a5=>?_) ?_
 ·have a1:=aX.refl [0,3] F1
  have P:O g=O g:=rfl;refine dN _ f8 (fun X=>?_) (fun X=>?_)
  ·obtain rfl:=aB X
   rw[bH rfl]at N;subst N;simp only[aQ,aV]at G;refine aG ?_;simp only[n,RR,seval];refine gR a (fH b p [87] (by simp only[aH,aQ,aV];omega)) (fF.refl _) (fun _=>trivial) fun M2 a i B=>?_;have d:=i g _ c trivial;have P:=(d.trans c.symm).trans P;have c:=d;simp only[RR,seval];refine a5 _ _ ⟨(by repeat (first|exact a1|refine aX.upd rfl ?_)),P, ?_⟩;exact a
  rw[aL (aD X)]at N;subst N;refine aK ?_;simp only[RR];refine a5 _ _ ⟨(by repeat (exact a1)),P, ?_⟩
  (rw[dZ];exact a)
 rintro F3 M3 ⟨C,d,a⟩;have n:=(C 0 rfl).trans n;have y:=(C 3 rfl).trans y;have c:=d.trans c;clear C;simp only[RR,seval];refine aI (aA fun K f=>?_);simp only[y,c,aE,RR,seval];refine f _ _ (bM fun F4 M4 v A=>?_);have I:=v 0;have J:=v 3;have E:=v 14;have F:=v 15;have D:=v 16;have d:=A g;simp only[n,y,c,RR,seval]at I J E F D d;have V:=funext A;have n:=I;have y:=J;have c:=d;refine aP (eO [0,3,14,15] (l.length) (fun j U M=>U 16= .int .i64 (j:Nat)∧M g=M4 g∧mV b (p++(yB++mG (l.take j))) M) ⟨D,rfl,(by rw[V,kB,show mG []=[]by simp only[mG],dZ];exact a)⟩ ?_);rintro j F5 M5 d3 ⟨fx,d,a⟩ C K0 b7;have n:=(C 0 rfl).trans n;have y:=(C 3 rfl).trans y;have E:=(C 14 rfl).trans E;have F:=(C 15 rfl).trans F;have D:=fx;clear fx;have c:=d.trans c;have T:=aX.refl [0,3,14,15] F5;have H:=d;clear C;refine aA fun K f=>?_;simp only[F,D,RR,seval];refine f _ _ (aI (aU ?_ ?_))<;>intro W
 ·have R:j<l.length:=by have:=aB W;omega
  clear W;have Z:=qG (aF R);have a0:l.take (j+1)=l.take j++[l[j]]:=cL R;have Y:=he _ (bW R);have b1:=Vx l (j+1);generalize l[j]=e at Z a0 Y;rw[a0,vX]at b1;simp only[aH]at b1;obtain⟨x1,x2,x3,x4,x5⟩:=e;simp only[Ex.kind,Ex.op,Ex.num,Ex.name,Ex.kids]at Z;simp only[WC,Ex.row_eq,Ex.kind,Ex.op,Ex.num,Ex.name,Ex.kids]at Y;generalize c1:fR (.mk x1 x2 x3 x4 x5)=d5 at *;refine aK ?_;simp only[RR];refine aI (aP (aA fun K f=>?_));simp only[E,D,Z,RR,seval];refine aM fun b5 c0=>?_;have c2:=cY c0 c;have b4:=c2.symm;simp only[RR,seval];refine f _ _ (bM fun F6 M6 v A=>?_);have I:=v 0;have J:=v 3;have f5:=v 5;have a2:=v 14;have a3:=v 15;have a4:=v 16;have d:=A g;have Q:=A b5;simp only[n,y,E,F,D,c,b4,RR,seval]at I J f5 a2 a3 a4 d Q;have T:aX [0,3,14,15] F5 F6:=aX.same v (by repeat (first|exact T|refine aX.upd rfl ?_));have H:=(A g).trans (by(simp only[b4,aT,seval];exact H));have a:mV b (p++(yB++mG (l.take j))) M6:=by rw[funext A];exact a.new2 (by assumption) _ _
  have n:=I;have y:=J;have E:=a2;have F:=a3;have D:=a4;have c:=d;refine aG ?_;simp only[n,f5,Q,RR,seval];refine gR a (Y b (p++(yB++mG (l.take j))) (by simp only[aH];omega)) (fF.refl _) (fun _=>trivial) fun M7 a i B=>?_;have d:=i g _ c trivial;have H:=(d.trans c.symm).trans H;have c:=d;have b6:=i b5 _ Q trivial;have Q:=b6;simp only[RR,seval];refine aG ?_;simp only[D,RR,seval];rw[aS _ (by omega)];refine b7 _ _ R ⟨by rfl,H,by rw[a0,vX,c1];simpa only[bU]using a⟩ (by repeat (first|exact T|refine aX.upd rfl ?_))
 have b9:j=l.length:=by have:=aD W;omega
 rw[b9,dD]at a;refine cF ?_;simp only[RR,seval];refine aA fun K f=>?_;simp only[y,c,RR,seval];refine f _ _ (aP (aA fun K f=>?_));simp only[RR,seval];refine f _ _ (aU ?_ ?_)<;>intro b0
 ·obtain rfl:=aB b0
  simp only[Int.reduceEq,cT,dK]at z;subst z;simp only[aH,aQ,aV]at G;have d1:1+s.length≤maxLen:=by unfold maxLen;omega
  refine bB (fun x=>x≠g) [(0,3),(1,3),(2,3),(3,3),(4,1),(5,3),(6,1)] [] eF (by kernel_rfl) rfl rfl ?_;simp only[*,dR,RR,seval];refine uQ a (fH b (p++(yB++mG l)) ([58]++s) (by simp only[aH,aQ,aV];omega)) (fF.refl _) (fun x o hx hn=>by exact(fun e=>by subst e;(rw[c]at hx;cases hx;exact hn trivial))) fun M8 a i B=>?_;have d:=i g _ c trivial;have c:=d;simp only[RR,seval];simp only[aW,aJ,bN,seval];exact zS a (by simp only[bU,dM,cQ])
 refine aA fun K f=>?_;simp only[RR,seval];refine f _ _ (aU ?_ ?_)<;>intro a6
 ·obtain rfl:=aB a6
  simp only[Int.reduceEq,cT,dK]at z;subst z;simp only[aQ,aV]at G;refine aG ?_;simp only[n,RR,seval];refine gR a (fH b (p++(yB++mG l)) [35] (by simp only[aH,aQ,aV];omega)) (fF.refl _) (fun _=>trivial) fun M9 a i B=>?_;have d:=i g _ c trivial;have c:=d;simp only[RR,seval];simp only[aW,aJ,bN,seval];exact zS a (by simp only[bU])
 refine aA fun K f=>?_;simp only[RR,seval];refine f _ _ (aU ?_ ?_)<;>intro a7
 ·obtain rfl:=aB a7
  simp only[Int.reduceEq,cT,dK]at z;subst z;simp only[aQ,aV]at G;refine aG ?_;simp only[n,RR,seval];refine gR a (fH b (p++(yB++mG l)) [46] (by simp only[aH,aQ,aV];omega)) (fF.refl _) (fun _=>trivial) fun c4 a i B=>?_;have d:=i g _ c trivial;have c:=d;simp only[RR,seval];simp only[aW,aJ,bN,seval];exact zS a (by simp only[bU])
 refine aA fun K f=>?_;simp only[RR,seval];refine f _ _ (aU ?_ ?_)<;>intro a8
 ·obtain rfl:=aB a8
  simp only[Int.reduceEq,cT,dK]at z;subst z;simp only[aH,aQ,aV]at G;refine aA fun K f=>?_;simp only[n,RR,seval];refine gR a (fH b (p++(yB++mG l)) [73] (by simp only[aH,aQ,aV];omega)) (fF.refl _) (fun _=>trivial) fun c5 a i B=>?_;have d:=i g _ c trivial;have c:=d;simp only[RR,seval];refine f _ _ (aA fun K f=>?_);simp only[n,y,c,RR,seval];refine gR a (b2 b (p++(yB++mG l)++[73]) (by simp only[aH,aQ,aV];omega)) (fF.refl _) (fun _=>trivial) fun c6 a i B=>?_;have d:=i g _ c trivial;have c:=d;simp only[RR,seval];refine f _ _ (aG ?_);simp only[n,RR,seval];refine gR a (fH b (p++(yB++mG l)++[73]++jX t) [70] (by simp only[aH,aQ,aV];omega)) (fF.refl _) (fun _=>trivial) fun c7 a i B=>?_;have d:=i g _ c trivial;have c:=d;simp only[RR,seval];simp only[aW,aJ,bN,seval];exact zS a (by simp only[bU,dM,cQ])
 refine aA fun K f=>?_;simp only[RR,seval];refine f _ _ (aU ?_ ?_)<;>intro a9
 ·obtain rfl:=aB a9
  simp only[Int.reduceEq,cT,dK]at z;subst z;simp only[aH,aQ,aV]at G;refine aA fun K f=>?_;simp only[n,RR,seval];refine gR a (fH b (p++(yB++mG l)) [68] (by simp only[aH,aQ,aV];omega)) (fF.refl _) (fun _=>trivial) fun c8 a i B=>?_;have d:=i g _ c trivial;have c:=d;simp only[RR,seval];refine f _ _ (aA fun K f=>?_);simp only[n,y,c,RR,seval];refine gR a (b2 b (p++(yB++mG l)++[68]) (by simp only[aH,aQ,aV];omega)) (fF.refl _) (fun _=>trivial) fun c9 a i B=>?_;have d:=i g _ c trivial;have c:=d;simp only[RR,seval];refine f _ _ (aG ?_);simp only[n,RR,seval];refine gR a (fH b (p++(yB++mG l)++[68]++jX t) [69] (by simp only[aH,aQ,aV];omega)) (fF.refl _) (fun _=>trivial) fun d0 a i B=>?_;have d:=i g _ c trivial;have c:=d;simp only[RR,seval];simp only[aW,aJ,bN,seval];exact zS a (by simp only[bU,dM,cQ])
 rw[aL (aD b0),aL (aD a6),aL (aD a7),aL (aD a8),aL (aD a9)]at z;subst z;refine aK ?_;simp only[RR];simp only[aW,aJ,bN,seval];exact zS a (by simp only[])
theorem X7 (N:Nat): ∀(e:Sm) (b:Int),e.sz≤N→e.ok→lI e b=true→WM e:=by
 induction N using Nat.strongRecOn with
 |_ N ih=>
  intro e b o f g;have p:=e.sz_eq;have c:=f.es;have d:=f.thn;simp only[lI,bC]at g;obtain⟨⟨⟨_,i⟩,j⟩,_⟩:=g;obtain⟨k,s,l,t,u⟩:=e;simp only[Sm.kind,Sm.es,Sm.thn,Sm.els]at *;refine D7 k s l t u c.fit d.fit (fun x a=>X9 _ x (b+1) (bI _) (c.all x a) (Su i x a)) fun x a=>?_;have n:=lU a;exact ih x.sz (by omega) x (b+1) (bI _) (d.all x a) (Ss j x a)
theorem Es (s:dC):eN dV 36 [.str s] (.bool (vQ s)):=by
 rcases s with _|⟨c,_|⟨d,l⟩⟩
 ·skip
  refine bX 20 [.tmp 2] func36 ?_;refine aA fun K a=>?_;simp only[RR,seval];refine a _ _ (aA fun K a=>?_);simp only[RR,seval];apply a;refine aN ?_;simp only[aW,aJ,bN,RR,seval];refine aY.pure ?_;rfl
 ·skip
  refine bX 20 [.tmp 2] func36 ?_;refine aA fun K a=>?_;simp only[RR,seval];refine a _ _ (aA fun K a=>?_);simp only[RR,seval]
  repeat' ((refine eE (fun h=>?_) (fun h=>?_))<;>simp only[h,RR,seval])
  all_goals
   apply a;refine aN ?_;simp only[aW,aJ,bN,RR,seval];refine aY.pure ?_;simp [vQ, *]
 have z:decide (((c::d::l).length:Int)=1)=false:=bA (by simp only[aQ];omega);refine bX 20 [.tmp 2] func36 ?_;refine aA fun K a=>?_;simp only[RR,seval];refine a _ _ (aA fun K a=>?_);simp only[RR,seval];apply a;refine aN ?_;simp only[aW,aJ,bN,RR,seval];refine aY.pure ?_;rfl
theorem To (n:Nat): ∀l:List Ex,sN l≤n→n≤1000000000→eN dV 63 [.isl 5 (l.map Ex.row)] (.bool (l.all (As Ag))):=by
 induction n using Nat.strongRecOn with
 |_ n ih=>
  intro l hn W;have Z:=Ce l
  have I: ∀e∈l,eN dV 63 [.isl 5 (e.kids.map Ex.row)] (.bool (e.kids.all (As Ag))):=fun e G=>by
   have t:=nJ G;have R:=e.sz_eq;exact ih (sN e.kids) (by omega) e.kids (bI _) (by omega)
  have F: ∀{k:Nat} {e:Ex},l[k]?=some e→As Ag e=false→AV.bool false=AV.bool (l.all (As Ag)):=fun D t=>by rw[pQ D t]
  clear ih;refine bX 41 [.tmp 2] func63 ?_;refine aA fun K a=>?_;simp only[RR,seval];refine a _ _ (aI (aA fun K a=>?_));simp only[RR,seval];refine a _ _ (bM fun L O f V=>?_);have c:=f 0;have B:=f 2;have b:=f 3;simp only[RR,seval]at c B b;refine aP (eO [0] (l.length) (fun k C M=>C 3= .int .i64 (k:Nat)∧(l.take k).all (As Ag)=true) ⟨b,rfl⟩ ?_);rintro k z P Y ⟨p,i⟩ o N E;have c:=(o 0 rfl).trans c;have b:=p;clear p;have A:=aX.refl [0] z;clear o;refine aI (aA fun K a=>?_);simp only[c,b,aE,RR,seval];refine a _ _ (aU ?_ ?_)<;>intro d
  ·have j:k<l.length:=by have:=aB d;omega
   clear d;have g:=aF j;have H:=I _ (bW j);have u:=F g;have y:=nH g i;have X:=qG g;generalize l[k]=e at *;have x:Ag e.kind= !(decide (e.kind=4)||decide (e.kind=8)||decide (e.kind=9)):=rfl;rw[Dv,x]at u y;clear x;generalize e.kids.all (As Ag)=Q at *;generalize S:decide (e.kind=4)=q4 at *;generalize T:decide (e.kind=8)=q8 at *;generalize U:decide (e.kind=9)=q9 at *;refine aK ?_;simp only[RR];refine aI (aP (aA fun K a=>?_));simp only[*,RR,seval]
   all_goals ((refine bZ (fun h=>?_) (fun h=>?_))<;>simp only[*,RR,seval])
   all_goals try ((refine bZ (fun h=>?_) (fun h=>?_))<;>simp only[*,RR,seval])
   all_goals try ((refine bZ (fun h=>?_) (fun h=>?_))<;>simp only[*,RR,seval])
   all_goals try (refine aO (H) ?_;simp only[RR,seval])
   all_goals
    refine a _ _ (aU ?_ ?_)<;>intro v
    ·try (cases v;done)
     all_goals
      refine aA fun K a=>?_;simp only[RR,seval];apply a;refine aN ?_;simp only[aW,aJ,bN,RR,seval];refine aY.pure ?_;exact u (by simp_all)
    try (cases v;done)
    all_goals
     refine aK ?_;simp only[RR];refine aG ?_;simp only[b,RR,seval];rw[aS _ (by omega)];refine E _ _ j ⟨by rfl,y (by simp_all)⟩ (by repeat (first|exact A|refine aX.upd rfl ?_))
  have J:k=l.length:=by have:=aD d;omega
  refine cF ?_;simp only[RR,seval];refine aA fun K a=>?_;simp only[RR,seval];apply a;refine aN ?_;simp only[aW,aJ,bN,RR,seval];refine aY.pure ?_
  (rw[J,dD]at i;rw[i])
theorem Tn (n:Nat): ∀l:List Sm,oZ l≤n→n≤1000000000→eN dV 37 [.isl 5 (l.map Sm.row)] (.bool (l.all Nn)):=by
 induction n using Nat.strongRecOn with
 |_ n ih=>
  intro l hn hb;have a1:=Cd l
  have O: ∀e∈l,eN dV 37 [.isl 5 (e.thn.map Sm.row)] (.bool (e.thn.all Nn)):=fun e g=>by
   have u:=lU g;have Y:=e.sz_eq;exact ih (oZ e.thn) (by omega) e.thn (bI _) (by omega)
  have N: ∀e∈l,eN dV 63 [.isl 5 (e.es.map Ex.row)] (.bool (e.es.all (As Ag))):=fun e g=>To _ e.es (bI _) (by have:=lU g;have:=e.sz_eq;omega);have H: ∀{k:Nat} {e:Sm},l[k]?=some e→Nn e=false→AV.bool false=AV.bool (l.all Nn):=fun D u=>by rw[pQ D u]
  clear ih;refine bX 41 [.tmp 2] func37 ?_;refine aA fun K a=>?_;simp only[RR,seval];refine a _ _ (aI (aA fun K a=>?_));simp only[RR,seval];refine a _ _ (bM fun R T i Z=>?_);have c:=i 0;have B:=i 2;have b:=i 3;simp only[RR,seval]at c B b;refine aP (eO [0] (l.length) (fun k C M=>C 3= .int .i64 (k:Nat)∧(l.take k).all Nn=true) ⟨b,rfl⟩ ?_);rintro k z U a0 ⟨t,o⟩ p S G;have c:=(p 0 rfl).trans c;have b:=t;clear t;have A:=aX.refl [0] z;clear p;refine aI (aA fun K a=>?_);simp only[c,b,aE,RR,seval];refine a _ _ (aU ?_ ?_)<;>intro f
  ·have d:k<l.length:=by have:=aB f;omega
   clear f;have j:=aF d;have J:=O _ (bW d);have L:=N _ (bW d);have v:=H j;have y:=nH j o;have I:=Jg j;generalize l[k]=e at *;rw[ID]at v y;generalize e.thn.all Nn=W at *;generalize e.es.all (As Ag)=V at *;have Q:decide ((0:Int)<(e.els.length:Int))= !decide (e.els.length=0):=by rw[cU];simp only[bJ,dE,cZ];omega
   generalize E:decide (e.kind=6)=q6 at *;generalize F:decide (e.kind=7)=q7 at *;generalize decide (e.els.length=0)=q0 at *;refine aK ?_;simp only[RR];refine aI (aP (aA fun K a=>?_));simp only[c,b,I,RR,seval];refine aM fun X a2=>?_;simp only[RR,seval];refine a _ _ (aA fun K a=>?_);simp only[E,RR,seval]
   all_goals ((refine bZ (fun h=>?_) (fun h=>?_))<;>simp only[h,F,RR,seval])
   all_goals try ((refine bZ (fun h=>?_) (fun h=>?_))<;>simp only[h,aE,Q,RR,seval])
   all_goals try ((refine bZ (fun h=>?_) (fun h=>?_))<;>simp only[h,RR,seval])
   all_goals try (refine aO (L) ?_;simp only[RR,seval])
   all_goals try ((refine bZ (fun h=>?_) (fun h=>?_))<;>simp only[h,RR,seval])
   all_goals try (refine aO (J) ?_;simp only[RR,seval])
   all_goals
    refine a _ _ (aU ?_ ?_)<;>intro x
    ·try (cases x;done)
     all_goals
      refine aA fun K a=>?_;simp only[RR,seval];apply a;refine aN ?_;simp only[aW,aJ,bN,RR,seval];refine aY.pure ?_;exact v (by simp_all)
    try (cases x;done)
    all_goals
     refine aK ?_;simp only[RR];refine aG ?_;simp only[b,RR,seval];rw[aS _ (by omega)];refine G _ _ d ⟨by rfl,y (by simp_all)⟩ (by repeat (first|exact A|refine aX.upd rfl ?_))
  have P:k=l.length:=by have:=aD f;omega
  refine cF ?_;simp only[RR,seval];refine aA fun K a=>?_;simp only[RR,seval];apply a;refine aN ?_;simp only[aW,aJ,bN,RR,seval];refine aY.pure ?_
  (rw[P,dD]at o;rw[o])
theorem L6 (p:Pg) (W:p.ok) (T:gD p=true→p.few):eN dV 15 [p.av] (.bool (jB (fun l=>l.all Nn) p)):=by
 have o:=Xq p W T;have d:jB (fun l=>l.all Nn) p=(decide (gZ p=0)&&(decide (p.funs.length=1)&&(p.funs.all (fun g=>decide (g.locs.length=0))&&(decide (p.arrs.length≤1)&&(p.vars.all vQ&&(p.arrs.all Nl&&p.funs.all fun g=>g.body.all Nn)))))):=rfl;have fv:p.vars.length≤9223372036854775807:=W.vars.fit;have a2:gZ p=0→ ∀g∈p.funs,eN dV 37 [.isl 5 (g.body.map Sm.row)] (.bool (g.body.all Nn)):=fun h g hg=>Tn _ g.body (bI _) (by have:=(T (pB h)).fs g hg;omega);clear T W;generalize gZ p=so at *;generalize jB (fun l=>l.all Nn) p=a4 at *;obtain⟨vs,z,fs⟩:=p;simp only[Pg.av,Pg.row]at *;by_cases z0:so=0
 rotate_left
 ·rw[bA z0,fB]at d
  subst d;refine bX 68 [.tmp 2] func15 ?_;refine aA fun K b=>?_;simp only[RR,seval];refine aM fun e y=>?_;simp only[RR,seval];refine b _ _ (aI (aA fun K b=>?_));simp only[RR,seval];refine aO (o) ?_;simp only[z0,RR,seval];refine b _ _ (cR (aA fun K b=>?_));simp only[RR,seval];apply b;refine aN ?_;simp only[aW,aJ,bN,RR,seval];refine aY.pure ?_;rfl
 subst z0;by_cases z1:fs.length=1
 rotate_left
 ·rw[bA z1,fB,lG]at d
  subst d;have y1:decide ((fs.length:Int)=1)=false:=bA (by omega);refine bX 68 [.tmp 2] func15 ?_;refine aA fun K b=>?_;simp only[RR,seval];refine aM fun e y=>?_;simp only[RR,seval];refine b _ _ (aI (aA fun K b=>?_));simp only[RR,seval];refine aO (o) ?_;simp only[aE,y1,RR,seval];refine b _ _ (cR (aA fun K b=>?_));simp only[RR,seval];apply b;refine aN ?_;simp only[aW,aJ,bN,RR,seval];refine aY.pure ?_;rfl
 obtain⟨f,rfl⟩:=List.length_eq_one_iff.1 z1;have hb:=a2 rfl f (bD.2 rfl);have B:f.row=[.str f.name, .isl 1 (f.params.map bQ), .isl 1 (f.locs.map bQ), .bool f.word, .isl 5 (f.body.map Sm.row)]:=rfl;have w1:decide ((([f]:List Fu).length:Int)=1)=true:=rfl;have w2:(0:Int)<(([f]:List Fu).length:Int):=by simp
 simp only[dG,fO,hY,aQ,aV,bT,mZ,cB]at d;clear z1 a2;have hg:([f].map Fu.row)[0]?=some [.str f.name, .isl 1 (f.params.map bQ), .isl 1 (f.locs.map bQ), .bool f.word, .isl 5 (f.body.map Sm.row)]:=qF rfl;by_cases z2:f.locs.length=0
 rotate_left
 ·rw[bA z2,fB]at d
  subst d;have y1:decide ((0:Int)<(f.locs.length:Int))=true:=cD (by omega);refine bX 68 [.tmp 2] func15 ?_;refine aA fun K b=>?_;simp only[B,RR,seval];refine aM fun e y=>?_;simp only[RR,seval];refine b _ _ (aI (aA fun K b=>?_));simp only[RR,seval];refine aO (o) ?_;simp only[aE,y1,RR,seval];refine b _ _ (cR (aA fun K b=>?_));simp only[RR,seval];apply b;refine aN ?_;simp only[aW,aJ,bN,RR,seval];refine aY.pure ?_;rfl
 rw[cD z2,cB]at d;have H:decide ((0:Int)<(f.locs.length:Int))=false:=bA (by omega);by_cases z3:z.length≤1
 rotate_left
 ·rw[bA z3,fB]at d
  subst d;have y3:decide ((1:Int)<(z.length:Int))=true:=cD (by omega);refine bX 68 [.tmp 2] func15 ?_;refine aA fun K b=>?_;simp only[B,RR,seval];refine aM fun e y=>?_;simp only[RR,seval];refine b _ _ (aI (aA fun K b=>?_));simp only[RR,seval];refine aO (o) ?_;simp only[aE,H,y3,RR,seval];refine b _ _ (cR (aA fun K b=>?_));simp only[RR,seval];apply b;refine aN ?_;simp only[aW,aJ,bN,RR,seval];refine aY.pure ?_;rfl
 rw[cD z3,cB]at d;have y3:decide ((1:Int)<(z.length:Int))=false:=bA (by omega);have a1: ∀{k:Nat} {s:dC},vs[k]?=some s→vQ s=false→AV.bool false=AV.bool a4:=fun h0 Q=>by rw[d,pQ h0 Q];rfl
 have a0:z.all Nl=false→AV.bool false=AV.bool a4:=fun Q=>by rw[d,Q];simp only[fB,lG]
 generalize f.body.all Nn=a6 at *;rcases z with _|⟨a,_|⟨a',z⟩⟩
 ·have y4:decide ((([]:List Ar).length:Int)=1)=false:=rfl
  rw[fO,cB]at d;refine bX 68 [.tmp 2] func15 ?_;refine aA fun K b=>?_;simp only[B,RR,seval];refine aM fun e y=>?_;simp only[RR,seval];refine b _ _ (aI (aA fun K b=>?_));simp only[RR,seval];refine aO (o) ?_;simp only[aE,H,RR,seval];refine b _ _ (bL ?_);refine aK ?_;simp only[RR];refine aI (aA fun K b=>?_);simp only[RR,seval];refine b _ _ (bL ?_);refine aK ?_;simp only[RR];refine aI (aA fun K b=>?_);simp only[RR,seval];refine b _ _ (bM fun F1 J u R=>?_);have i:=u 1;have O:=u 2;have j:=u 3;have n:=R e;simp only[RR,seval]at i O j n;refine aP (eO [1] (vs.length) (fun k P M=>P 3= .int .i64 (k:Nat)∧M e=J e∧(vs.take k).all vQ=true) ⟨j,rfl,rfl⟩ ?_);rintro k I M2 a8 ⟨D,E,x⟩ C K0 S;have i:=(C 1 rfl).trans i;have j:=D;clear D;have n:=E.trans n;have L:=aX.refl [1] I;have N:=E;clear C;refine aI (aA fun K b=>?_);simp only[i,j,n,aE,RR,seval];refine b _ _ (aU ?_ ?_)<;>intro t
  ·have G:k<vs.length:=by have:=aB t;omega
   clear t;have v:=aF G;have V:=Es vs[k];have A:=a1 v;have Y:=nH v x;have a7:=Nv v;generalize vs[k]=s at *;generalize vQ s=a5 at *;refine aK ?_;simp only[RR];refine aI (aP (aA fun K b=>?_));simp only[*,RR,seval];refine aO (V) ?_;simp only[RR,seval];refine b _ _ (aU ?_ ?_)<;>intro F
   ·refine aA fun K b=>?_
    simp only[RR,seval];apply b;refine aN ?_;simp only[aW,aJ,bN,RR,seval];refine aY.pure ?_;exact A (by simpa using F)
   refine aK ?_;try simp only[RR]
   refine aG ?_;simp only[j,RR,seval];rw[aS _ (by omega)];refine S _ _ G ⟨by rfl,N,Y (by simpa using F)⟩ (by repeat (first|exact L|refine aX.upd rfl ?_))
  have U:k=vs.length:=by have:=aD t;omega
  rw[U,dD]at x;rw[x,cB]at d;refine cF ?_;simp only[RR,seval];refine aA fun K b=>?_;simp only[i,n,RR,seval];refine aO (hb) ?_;simp only[RR,seval];apply b;refine aN ?_;simp only[aW,aJ,bN,RR,seval];refine aY.pure ?_;rw[d]
 ·have y4:decide ((([a]:List Ar).length:Int)=1)=true:=rfl
  have w3:(0:Int)<(([a]:List Ar).length:Int):=by simp
  have X:a.row=[.str a.name, .int .i64 a.size]:=rfl;have b0:([a].map Ar.row)[0]?=some [.str a.name, .int .i64 a.size]:=N2 rfl;have a9:([a]:List Ar).all Nl=(decide (a.name=[116])&&decide (a.size=4096)):=by simp only[dG,fO,hY,Nl]
  rw[a9]at d a0;generalize Z:decide (a.name=[116])=x1 at *;generalize a3:decide (a.size=4096)=x2 at *;by_cases hx:x1=true∧x2=true
  rotate_left
  ·have A:=a0 (by rw[dQ];intro c;rw[bC]at c;exact hx c)
   cases x1
   ·skip
    refine bX 68 [.tmp 2] func15 ?_;refine aA fun K b=>?_;simp only[B,X,RR,seval];refine aM fun e y=>?_;simp only[RR,seval];refine b _ _ (aI (aA fun K b=>?_));simp only[RR,seval];refine aO (o) ?_;simp only[aE,H,RR,seval];refine b _ _ (bL ?_);refine aK ?_;simp only[RR];refine aI (aA fun K b=>?_);simp only[Z,RR,seval];refine b _ _ (cR (aA fun K b=>?_));simp only[RR,seval];apply b;refine aN ?_;simp only[aW,aJ,bN,RR,seval];refine aY.pure ?_;exact A
   obtain rfl:x2=false:=by cases x2<;>simp_all
   refine bX 68 [.tmp 2] func15 ?_;refine aA fun K b=>?_;simp only[B,X,RR,seval];refine aM fun e y=>?_;simp only[RR,seval];refine b _ _ (aI (aA fun K b=>?_));simp only[RR,seval];refine aO (o) ?_;simp only[aE,H,RR,seval];refine b _ _ (bL ?_);refine aK ?_;simp only[RR];refine aI (aA fun K b=>?_);simp only[Z,a3,RR,seval];refine b _ _ (cR (aA fun K b=>?_));simp only[RR,seval];apply b;refine aN ?_;simp only[aW,aJ,bN,RR,seval];refine aY.pure ?_;exact A
  obtain⟨rfl,rfl⟩:=hx;rw[cB,cB]at d;refine bX 68 [.tmp 2] func15 ?_;refine aA fun K b=>?_;simp only[B,X,RR,seval];refine aM fun e y=>?_;simp only[RR,seval];refine b _ _ (aI (aA fun K b=>?_));simp only[RR,seval];refine aO (o) ?_;simp only[aE,H,RR,seval];refine b _ _ (bL ?_);refine aK ?_;simp only[RR];refine aI (aA fun K b=>?_);simp only[Z,a3,RR,seval];refine b _ _ (bL ?_);refine aK ?_;simp only[RR];refine aI (aA fun K b=>?_);simp only[RR,seval];refine b _ _ (bM fun F1 J u R=>?_);have i:=u 1;have O:=u 2;have j:=u 3;have n:=R e;simp only[RR,seval]at i O j n;refine aP (eO [1] (vs.length) (fun k P M=>P 3= .int .i64 (k:Nat)∧M e=J e∧(vs.take k).all vQ=true) ⟨j,rfl,rfl⟩ ?_);rintro k I M2 a8 ⟨D,E,x⟩ C K0 S;have i:=(C 1 rfl).trans i;have j:=D;clear D;have n:=E.trans n;have L:=aX.refl [1] I;have N:=E;clear C;refine aI (aA fun K b=>?_);simp only[i,j,n,aE,RR,seval];refine b _ _ (aU ?_ ?_)<;>intro t
  ·have G:k<vs.length:=by have:=aB t;omega
   clear t;have v:=aF G;have V:=Es vs[k];have A:=a1 v;have Y:=nH v x;have a7:=Nv v;generalize vs[k]=s at *;generalize vQ s=a5 at *;refine aK ?_;simp only[RR];refine aI (aP (aA fun K b=>?_));simp only[*,RR,seval];refine aO (V) ?_;simp only[RR,seval];refine b _ _ (aU ?_ ?_)<;>intro F
   ·refine aA fun K b=>?_
    simp only[RR,seval];apply b;refine aN ?_;simp only[aW,aJ,bN,RR,seval];refine aY.pure ?_;exact A (by simpa using F)
   refine aK ?_;try simp only[RR]
   refine aG ?_;simp only[j,RR,seval];rw[aS _ (by omega)];refine S _ _ G ⟨by rfl,N,Y (by simpa using F)⟩ (by repeat (first|exact L|refine aX.upd rfl ?_))
  have U:k=vs.length:=by have:=aD t;omega
  rw[U,dD]at x;rw[x,cB]at d;refine cF ?_;simp only[RR,seval];refine aA fun K b=>?_;simp only[i,n,RR,seval];refine aO (hb) ?_;simp only[RR,seval];apply b;refine aN ?_;simp only[aW,aJ,bN,RR,seval];refine aY.pure ?_;rw[d]
 simp only[aQ]at z3;omega
structure DS where
 stk:List Ex
 body:List Sm
 frs:List (Int×Ex×List Sm)
 acc:Option Nat
 col:Bool
def DS.at' (s:DS) (l:List Ex):DS:={s with stk:=l}
def Ym (c:UInt8):Bool:=decide (97≤c.toNat)&&decide (c.toNat≤122)
def DS.calm (s:DS):Prop:=s.acc=none∧s.col=false
inductive SX (V:UInt8→Prop) (A:Prop):Int→Ex→Prop where
 |num (lv n:Int) (hl:lv≤24) (h:dX n):SX V A lv (.mk 1 0 n [] [])
 |var (lv:Int) (c:UInt8) (hl:lv≤24) (h:Ym c=true) (hV:V c):SX V A lv (.mk 2 0 0 [c] [])
 |idx (lv:Int) (a:Ex) (hl:lv≤24) (hA:A) (ha:SX V A (lv+1) a):SX V A lv (.mk 3 0 0 [116] [a])
 |get (lv:Int) (hl:lv≤24):SX V A lv (.mk 5 0 0 [] [])
 |neg (lv:Int) (a:Ex) (hl:lv≤24) (ha:SX V A (lv+1) a):SX V A lv (.mk 7 0 0 [] [a])
 |op (lv o:Int) (a b:Ex) (hl:lv≤24) (h:4≤o∧o≤15) (ha:SX V A (lv+1) a) (hb:SX V A (lv+1) b):SX V A lv (.mk 6 o 0 [] [a,b])
theorem rZ (a:Ex):mG [a]=fR a:=by simp [mG]
theorem Vy (a b:Ex):mG [a,b]=fR a++fR b:=by simp [mG]
inductive SS (V:UInt8→Prop) (A:Prop):Int→Sm→Prop where
 |set (lv:Int) (c:UInt8) (e:Ex) (hl:lv≤24) (hc:Ym c=true) (hV:V c) (he:SX V A (lv+1) e):SS V A lv (.mk 1 [c] [e] [] [])
 |store (lv:Int) (a e:Ex) (hl:lv≤24) (hA:A) (ha:SX V A (lv+1) a) (he:SX V A (lv+1) e):SS V A lv (.mk 2 [116] [a,e] [] [])
 |put (lv:Int) (e:Ex) (hl:lv≤24) (he:SX V A (lv+1) e):SS V A lv (.mk 3 [] [e] [] [])
 |cond (lv:Int) (e:Ex) (t:List Sm) (hl:lv≤24) (he:SX V A (lv+1) e) (ht: ∀s∈t,SS V A (lv+1) s):SS V A lv (.mk 4 [] [e] t [])
 |loop (lv:Int) (e:Ex) (t:List Sm) (hl:lv≤24) (he:SX V A (lv+1) e) (ht: ∀s∈t,SS V A (lv+1) s):SS V A lv (.mk 5 [] [e] t [])
theorem Ry {p:Pg} (h:gZ p=0):kH p=true∧qK p=true:=by
 have d:=pB h;unfold gZ at h;rw[bH d]at h;by_cases a:lA p=0
 ·unfold lA at a
  split at a
  ·rename_i b
   split at a
   ·rename_i c;exact⟨b,c⟩
   cases a
  cases a
 rw[aL a]at h;exact absurd h a
structure xZ (p:Pg) (f:Fu):Prop where
 funs:p.funs=[f]
 params:f.params=[]
 locs:f.locs=[]
 arrs: ∀a∈p.arrs,a.name=[116]∧a.size=4096
 one:p.arrs.length≤1
 vars: ∀s∈p.vars,vQ s=true
 uses: ∀u∈eK f.body,nO p 0 u=true
 right:gQ f.body 1=true
 kinds:f.body.all vP=true
theorem Xc {p:Pg} (h:jB (fun l=>l.all vP) p=true): ∃f,xZ p f:=by
 simp only[jB,bC,bJ]at h;obtain⟨e,k,c,n,o,t,d⟩:=h;obtain⟨i,j⟩:=Ry e;have g:=pB e
 obtain⟨f,b⟩: ∃f,p.funs=[f]:=by
  match hp:p.funs,k with
  |[f],_=>exact⟨f,rfl⟩
 rw[b]at c d;simp only[dG,fO,hY,bJ]at c d;refine⟨f,b, ?_,nB c,fun a v=>?_,n,fun s x=>dB.1 o s x,fun u y=>?_, ?_,d⟩
 ·simp only[qK,bC,vE,b]at j
  have:=j.2;simp only[bV,Gq,fA,bC,bJ]at this;exact nB this.1.2
 ·have:=dB.1 t a v
  simp only[Nl,bC,bJ]at this;exact this
 ·simp only[kH,bC,b,jM,dB]at i
  exact i.2.1.2 u y
 simp only[gD,bC,b,dG,fO,jC]at g;exact g.2.1.2
theorem RP {b:Type} {l:List b} (h:l.length=1): ∃a,l=[a]:=by
 match l,h with
 |[a],_=>exact⟨a,rfl⟩
theorem Zu {F:Nat→Prop} {f:List (Option Nat)} {Q:fN} {d:Option Nat} {j:List Oper} {g:Fr} {H:Hp} {b:Nat} {a:List UInt8}
  (n:mV b a H) (m: ∀b,F b) (h: ∀c,(∀x o,H x=some o→pZ o→c x=some o)→eI dV F f Q j (eW g d (.str a)) c):qU dV F f Q d j g H 30 [.ptr 2 b 0 0]:=by
 obtain⟨k,p,s,r⟩:=n.least;refine nG (P8 b a k p) (fF.refl _) s (fun b _=>m b) fun u t ⟨e,l⟩ v=>?_;subst e;subst l;refine h _ fun x o i q=>?_;simp only[lJ,qZ,r x o i q,eQ,cH,dK,i]
theorem G6 {p:Pg} (b:p.ok) (h:jB (fun l=>l.all vP) p=true): ∃f,p.funs=[f]∧yM f.body∧gQ f.body 1=true∧f.body.all vP=true:=by
 obtain⟨f,a⟩:=Xc h;exact⟨f,a.funs,(b.funs f (by rw[a.funs];exact bD.2 rfl)).body,a.right,a.kinds⟩
theorem JA (p:Pg) (z:p.ok) (r: ∀f∈p.funs,jB (fun l=>l.all vP) p=true→(jX f.body).length≤1000000000000) (k:eN dV 14 [p.av] (.bool (jB (fun l=>l.all vP) p))):eN dV 12 [p.av] (.tup [.str (HG p).1, .int .i64 (HG p).2]):=by
 have c:HG p=if jB (fun l=>l.all vP) p=true then(match p.funs with |f::_=>jX f.body++[36]|[]=>[36],0)else([],1):=rfl
 cases hq:jB (fun l=>l.all vP) p with
 |false=>
  rw[hq]at c k;simp only[cH,dK]at c;rw[c];obtain⟨n,j,w⟩:=p;simp only[Pg.av,Pg.row]at *;refine bX 18 [.tmp 2, .tmp 3] func12 ?_;refine aA fun K a=>?_;simp only[RR,seval];refine aM fun d y=>?_;simp only[RR,seval];refine a _ _ (aI (aA fun K a=>?_));simp only[RR,seval];refine aO (k) ?_;simp only[RR,seval];refine a _ _ (cR (aA fun K a=>?_));simp only[RR,seval];apply a;refine aN ?_;simp only[aW,aJ,bN,RR,seval];refine aY.pure ?_;rfl
 |true=>
  rw[hq]at c k;simp only[cT]at c;obtain⟨f,m,u,A,I⟩:=G6 z hq;have L:=r f (by rw[m];exact bD.2 rfl) hq;rw[m]at c;simp only at c;rw[c];have C:=fun b v r=>Hg f.body u.fit (fun e s=>X7 _ e 1 (bI _) (u.all e s) (Ss A e s)) b v r;obtain⟨n,j,w⟩:=p;simp only at m;subst m;simp only[Pg.av,Pg.row]at *;have B:f.row=[.str f.name, .isl 1 (f.params.map bQ), .isl 1 (f.locs.map bQ), .bool f.word, .isl 5 (f.body.map Sm.row)]:=rfl;have M:(0:Int)<(([f]:List Fu).length:Int):=by simp
  have H:([f].map Fu.row)[0]?=some [.str f.name, .isl 1 (f.params.map bQ), .isl 1 (f.locs.map bQ), .bool f.word, .isl 5 (f.body.map Sm.row)]:=qF rfl;generalize jX f.body=D at *;refine bX 18 [.tmp 2, .tmp 3] func12 ?_;refine aA fun K a=>?_;simp only[B,RR,seval];refine aM fun d y=>?_;simp only[RR,seval];refine a _ _ (aI (aA fun K a=>?_));simp only[RR,seval];refine aO (k) ?_;simp only[RR,seval];refine a _ _ (bL ?_);refine aK ?_;simp only[RR];refine aC fun K a=>?_;refine PO (by kernel_rfl) DZ rfl fun g t=>?_;simp only[iL];have h:mV g [] (upd (upd qZ d (some (.rows 3 [[.isl 1 (n.map bQ), .isl 2 (j.map Ar.row), .isl 5 [[.str f.name, .isl 1 (f.params.map bQ), .isl 1 (f.locs.map bQ), .bool f.word, .isl 5 (f.body.map Sm.row)]]]]))) g (some (.bld TB none 0))):= .inl ⟨rfl,bE _ _ _⟩
  have i:(upd (upd qZ d (some (.rows 3 [[.isl 1 (n.map bQ), .isl 2 (j.map Ar.row), .isl 5 [[.str f.name, .isl 1 (f.params.map bQ), .isl 1 (f.locs.map bQ), .bool f.word, .isl 5 (f.body.map Sm.row)]]]]))) g (some (.bld TB none 0))) d=some (.rows 3 [[.isl 1 (n.map bQ), .isl 2 (j.map Ar.row), .isl 5 [[.str f.name, .isl 1 (f.params.map bQ), .isl 1 (f.locs.map bQ), .bool f.word, .isl 5 (f.body.map Sm.row)]]]]):=by
   rw[cI _ _ (fun e=>by rw[←e,bE]at t;cases t)];exact bE _ _ _
  refine a _ _ (aA fun K a=>?_);simp only[i,RR,seval];refine gR h (C g [] (by simp only[cQ];omega)) (fF.refl _) (fun _=>trivial) fun E h q x=>?_;have o:=q d _ i trivial;have i:=o;simp only[RR,seval];refine a _ _ (aA fun K a=>?_);simp only[RR,seval];refine gR h (fH g ([]++D) [36] (by simp only[aH,aQ,aV];omega)) (fF.refl _) (fun _=>trivial) fun F h q x=>?_;have o:=q d _ i trivial;have i:=o;simp only[RR,seval];refine a _ _ (aA fun K a=>?_);simp only[RR,seval];refine Zu h (fun _=>trivial) fun G J=>?_;simp only[RR,seval];apply a;refine aN ?_;simp only[aW,aJ,bN,RR,seval];refine aY.pure ?_;rfl
theorem Cm (p:Pg) (a:p.ok) (c:gD p=true→p.few) (d: ∀f∈p.funs,jB (fun l=>l.all vP) p=true→(jX f.body).length≤1000000000000) (b:eN dV 32 [p.av] (.int .i64 (gZ p))):eN dV 12 [p.av] (.tup [.str (HG p).1, .int .i64 (HG p).2]):=
 JA p a d (Ip p a c b)
def Ah (s p:List UInt8):Bool:=decide (s.take p.length=p)
theorem Z0:eN dV 149 [] (.isl 1 (lV.map fun w=>[.str w])):=by
 refine bX 2 [.tmp 0] func149 ?_;refine aC fun K a=>?_;refine aG ?_;simp only[RR,seval];apply a;refine aC fun K a=>?_;refine aG ?_;simp only[RR,seval];refine eG ?_;simp only[RR,seval];apply a;refine aN ?_;simp only[aW,aJ,bN,RR,seval];refine aY.pure ?_;rfl
structure gA where
 kind:Int
 text:List UInt8
 num:Int
 pos:Int
def gA.row (t:gA):List AV:=[.int .i64 t.kind, .str t.text, .int .u32 t.num, .int .i64 t.pos]
def kD:gA:=⟨0,[],0,0⟩
def HI (p:gA×Int):AV:= .tup [.agg p.1.row, .int .i64 p.2]
def Pn (s:List UInt8):gA×Int:=if 20<s.length then(kD,2)else if gU.contains s then(⟨3,s,0,0⟩,0)else(⟨1,s,0,0⟩,0)
def Jt (c d:UInt8):Bool:=decide ((d.toNat:Int)=39)&& !decide ((c.toNat:Int)<32)&& !decide (126<(c.toNat:Int))&& !decide ((c.toNat:Int)=39)&& !decide ((c.toNat:Int)=92)
def Qm (s:List UInt8):gA×Int:=
 match s with
 |_::c::d::_=>if Jt c d then(⟨2,s.take 3,c.toNat,0⟩,0)else(kD,3)
 |_=>(kD,3)
def Tf:Int→List UInt8→Option Int
 |n,[]=>some n
 |n,c::cs=>if 4294967295<n *10+((c.toNat:Int)- 48)then none else Tf (n *10+((c.toNat:Int)- 48)) cs
def zE (s:List UInt8):gA×Int:=match Tf 0 s with |some n=>(⟨2,s,n,0⟩,0)|none=>(kD,2)
theorem Au {c:UInt8} (h:Jp c.toNat=true):48≤(c.toNat:Int)∧(c.toNat:Int)≤57:=by
 simpa [Jp]using h
theorem zF: ∀(s:List UInt8) (n m:Int),0≤n→n≤4294967295→s.all (fun c=>Jp c.toNat)=true→Tf n s=some m→0≤m∧m≤4294967295
 |[],n,m,h0,h1,_,h=>by simp only[Tf,Option.some.injEq]at h;omega
 |c::cs,n,m,h0,h1,hd,h=>by
  simp only[dG,bC]at hd;have a:=Au hd.1;simp only[Tf]at h;split at h
  ·cases h
  exact zF cs _ m (by omega) (by omega) hd.2 h
theorem Jw (s w:List UInt8) (i:Nat) (j:s.length≤1000000) (k:w.length≤1000000) (g:i≤s.length):eN dV 147 [.str s, .int .i64 i, .str w] (.bool (Ah (s.drop i) w)):=by
 refine bX 25 [.tmp 6] func147 ?_;refine aC fun K a=>?_;refine aG ?_;simp only[RR,seval];apply a;refine aC fun K a=>?_;refine aG ?_;simp only[RR,seval];rw[aS _ (by omega)];refine eE (fun h=>?_) (fun h=>?_)
 ·have b:(i:Int)+w.length≤s.length:=aB h
  have c:((i:Int)+w.length).toNat=i+w.length:=by omega
  have d:(0:Int)≤(i:Int)+w.length:=by omega
  have f:(i:Int)≤((i+w.length:Nat):Int):=by omega
  simp only[b,RR,seval]
  repeat' ((refine bZ (fun h=>?_) (fun h=>?_))<;>simp only[*,RR,seval])
  rw[aS _ (by omega)];simp only[*,RR,seval];apply a;clear a K;refine aN ?_;simp only[aW,aJ,bN,RR,seval];refine aY.pure ?_;rw[Ah,iQ]
 simp only[h,RR,seval];apply a;refine aN ?_;simp only[aW,aJ,bN,RR,seval];refine aY.pure ?_;have b: ¬(i:Int)+w.length≤s.length:=aD h
 have : ¬(s.drop i).take w.length=w:=fun e=>by
  have:=congrArg List.length e;rw[dU,fL]at this;omega
 simp [Ah,this]
def Db:Int→Bool→List UInt8→Int×Bool
 |n,g,[]=>(n,g)
 |n,g,c::cs=>if 4294967295<n *10+((c.toNat:Int)- 48)then Db 0 true cs else Db (n *10+((c.toNat:Int)- 48)) g cs
theorem It: ∀(s:List UInt8) (n:Int),(Db n true s).2=true
 |[],_=>rfl
 |c::cs,n=>by simp only[Db];split<;>exact It cs _
theorem Da: ∀(s:List UInt8) (n:Int),match Tf n s with |some m=>Db n false s=(m,false)|none=>(Db n false s).2=true
 |[],n=>rfl
 |c::cs,n=>by
  simp only[Tf,Db];split
  ·rename_i m h
   split at h
   ·cases h
   rename_i a;have:=Da cs (n *10+((c.toNat:Int)- 48));rw[h]at this;rw[aL a];exact this
  rename_i h;split at h
  ·rename_i a;rw[bH a];exact It _ _
  rename_i a;have:=Da cs (n *10+((c.toNat:Int)- 48));rw[h]at this;rw[aL a];exact this
def Na (c:UInt8):Bool:=Jp c.toNat
theorem I7 (s:List UInt8) (d:Nat) (S:s.length≤1000000) (I:d≤s.length):eN dV 148 [.str s, .int .i64 d]
  (.tup [.int .u64 (Db 0 false ((s.drop d).takeWhile Na)).1, .int .i64 ((d+((s.drop d).takeWhile Na).length:Nat)), .bool (Db 0 false ((s.drop d).takeWhile Na)).2]):=by
 refine bX 34 [.tmp 4, .tmp 5, .tmp 6] func148 ?_;refine aC fun K a=>?_;refine aG ?_;simp only[RR,seval];apply a;refine aC fun K a=>?_;refine aG ?_;simp only[RR,seval];refine a _ _ (cP (fun l H=> ∃(i:Nat) (n:Int) (g:Bool),l 7= .int .u64 n∧l 1= .int .i64 i∧l 8= .bool g∧Db 0 false ((s.drop d).takeWhile Na)=(n,g)∧d+((s.drop d).takeWhile Na).length=i) (fun K a=>?_) ?_)
 ·refine aP (eS (fun k l H=> ∃(i:Nat) (n:Int) (g:Bool),k=s.length-i∧i≤s.length∧0≤n∧n≤4294967295∧l 0= .str s∧l 7= .int .u64 n∧l 1= .int .i64 i∧l 8= .bool g∧Db 0 false ((s.drop d).takeWhile Na)=Db n g ((s.drop i).takeWhile Na)∧d+((s.drop d).takeWhile Na).length=i+((s.drop i).takeWhile Na).length) (s.length-d) ⟨d,0,false,rfl,I,by omega,by omega,rfl,rfl,rfl,rfl,rfl,rfl⟩ ?_)
  rintro k l H ⟨i,n,g,rfl,P,Q,R,u,v,p,t,o,x⟩ N B;refine aI (cP (fun y M=> ∃b,y 18= .bool b∧y 0= .str s∧y 1= .int .i64 i∧y 7= .int .u64 n∧y 8= .bool g∧(b=true→ ∃c,s[i]?=some c∧Na c=true)∧(b=false→ ∀c,s[i]?=some c→Na c=false)) (fun K a=>?_) ?_)
  ·refine aG ?_;simp only[RR,seval]
   simp only[u,p,RR,seval];refine eE (fun h=>?_) (fun h=>?_)
   ·have D:(i:Int)<s.length:=aB h
    have A:i<s.length:=by omega
    have z:s[i]?=some s[i]:=aF A;simp only[*,RR,seval];refine aO (uC _) ?_;simp only[RR,seval];refine a _ _ ⟨_,rfl,u,p,v,t, ?_, ?_⟩
    ·intro e;exact⟨_,z,e⟩
    intro e c f;rw[z]at f;cases f;exact e
   simp only[h,RR,seval];refine a _ _ ⟨_,rfl,u,p,v,t, ?_, ?_⟩
   ·intro e;cases e
   intro _ c f;have D: ¬(i:Int)<s.length:=aD h;rw[dS (by omega)]at f;cases f
  rintro l H ⟨b,C,u,p,v,t,L,G⟩;refine dN _ C (fun f=>?_) (fun f=>?_)
  ·refine aK ?_;simp only[bK]
   obtain⟨c,z,hd⟩:=L f;obtain⟨A,E⟩:=bF.1 z;have O:=Au hd;have F:s.drop i=c::s.drop (i+1):=by rw[bG A,E]
   rw[F]at o x;simp only[List.takeWhile,hd,Db,aQ]at o x;refine aP ?_;refine aC fun K a=>?_;refine aG ?_;simp only[RR,seval];simp only[*,RR,seval];rw[DD (n *10) (by omega),IntWalk.u8_in _ (by omega),DD ((c.toNat:Int)- 48) (by omega),DD _ (by omega)];refine a _ _ (aI ?_);refine aC fun K a=>?_;refine aG ?_;simp only[RR,seval];refine a _ _ (aU ?_ ?_)<;>intro f
   ·have h:4294967295<n *10+((c.toNat:Int)- 48):=aB f
    rw[bH h]at o;refine aC fun K a=>?_;refine aG ?_;simp only[RR,seval];apply a;clear a K;refine aG ?_;simp only[RR,seval];refine aG ?_;simp only[RR,seval];simp only[p,RR,seval];rw[aS _ (by omega)];exact B (s.length-(i+1)) _ _ (by omega) ⟨i+1,0,true,rfl,by omega,by omega,by omega,u,rfl,rfl,rfl,o,by omega⟩
   have h: ¬4294967295<n *10+((c.toNat:Int)- 48):=aD f;rw[aL h]at o;refine aK ?_;simp only[bK];refine aG ?_;simp only[RR,seval];simp only[p,RR,seval];rw[aS _ (by omega)];exact B (s.length-(i+1)) _ _ (by omega) ⟨i+1,_,g,rfl,by omega,by omega,by omega,u,rfl,rfl,t,o,by omega⟩
  refine cF ?_;simp only[bK,cM,reduceIte]
  have J:(s.drop i).takeWhile Na=[]:=by
   cases hd:s.drop i with
   |nil=>rfl
   |cons c r=>
    have :s[i]?=some c:=by
     have:=eA (xs:=s) (i:=i) (j:=0);rw[hd]at this;simpa using this.symm
    simp only[List.takeWhile,G f c this]
  rw[J]at o x;exact a _ _ ⟨i,n,g,v,p,t,o,x⟩
 rintro l H ⟨i,n,g,v,p,t,o,x⟩;refine aC fun K a=>?_;refine aG ?_;simp only[RR,seval];simp only[p,v,t,seval];apply a;refine aN ?_;simp only[aW,aJ,bN,RR,seval];refine aY.pure ?_;rw[o,x]
def iC (s:List UInt8):gA×Int:=
 match s with
 |[]=>(kD,3)
 |c::r=>if Jp c.toNat then zE ((c::r).takeWhile Na)else if decide ((c.toNat:Int)=39)then Qm (c::r)else if vL c.toNat then Pn ((c::r).takeWhile vU)else
  match lV.find? (Ah (c::r))with
  |some w=>(⟨4,w,0,0⟩,0)
  |none=>(kD,3)
theorem sS (p:UInt8→Bool): ∀s:List UInt8,(s.takeWhile p).all p=true
 |[]=>rfl
 |c::s=>by
  simp only[List.takeWhile];cases h:p c
  ·rfl
  simp [h,sS p s]
theorem kZ (p:UInt8→Bool): ∀s:List UInt8,(s.takeWhile p).length≤s.length
 |[]=>by simp
 |c::s=>by
  simp only[List.takeWhile];have:=kZ p s;cases h:p c<;>simp<;>omega
theorem PG {a:Type} (p:a→Bool) (l:List a) (i:Nat) (b:i<l.length) (c:(l.take i).find? p=none) (h:p l[i]=true):l.find? p=some l[i]:=by
 rw[show l.find? p=(l.take i++l.drop i).find? p by rw[mB],List.find?_append,c,bG b];simp [List.find?,h]
def wE (s:List UInt8) (i:Nat):gA×Int:=if(iC (s.drop i)).2=0 then({(iC (s.drop i)).1 with pos:=i},0)else(kD,(iC (s.drop i)).2)
theorem uO (x:UInt8) (r:List UInt8):Qm (x::r)=match r[0]?,r[1]? with |some c,some d=>if Jt c d then(⟨2,(x::r).take 3,c.toNat,0⟩,0)else(kD,3)|_,_=>(kD,3):=by
 match r with
 |[]=>rfl
 |[_]=>rfl
 |c::d::r=>rfl
theorem rB (p:UInt8→Bool): ∀s:List UInt8,s.take (s.takeWhile p).length=s.takeWhile p
 |[]=>rfl
 |c::s=>by
  simp only[List.takeWhile];cases h:p c<;>simp [rB p s]
theorem BY (c d:UInt8):Jt c d=(decide ((d.toNat:Int)=39)&&decide (32≤(c.toNat:Int))&&decide ((c.toNat:Int)≤126)&& !decide ((c.toNat:Int)=39)&& !decide ((c.toNat:Int)=92)):=by
 have a:(!decide ((c.toNat:Int)<32))=decide (32≤(c.toNat:Int)):=by rw[cU];simp
 have b:(!decide (126<(c.toNat:Int)))=decide ((c.toNat:Int)≤126):=by rw[cU];simp
 rw[Jt,a,b]
theorem JH (s:List UInt8) (i:Nat) (hs:s.length≤1000000) (hi:i<s.length):eN dV 98 [.str s, .int .i64 i] (HI (wE s i)):=by
 refine bX 161 [.cell 4 159, .tmp 5] func98 ?_;have y:s[i]?=some s[i]:=aF hi;have G:s.drop i=s[i]::s.drop (i+1):=bG hi;have b6:(s.drop i).length=s.length-i:=fL;generalize v:s[i]=c at y G;refine aC fun K a=>?_;refine aG ?_;simp only[RR,seval];refine aM fun b u=>?_;simp only[RR,seval];apply a;clear a K;refine aC fun K a=>?_;refine aG ?_;simp only[RR,seval];simp only[y,RR,seval];apply a;clear a K;refine cP (fun f H=>Jp c.toNat=false∧ ∃b,f 0= .str s∧f 1= .int .i64 i∧f 4= .ptr 4 b 0 0∧H b=some (.rows 4 [kD.row])∧f 6= .int .u8 c.toNat) (fun K a=>?_) ?_
 ·refine aC fun K a=>?_;refine aG ?_;simp only[RR,seval]
  refine aO (uC _) ?_;simp only[RR,seval];apply a;clear a K;refine aU ?_ ?_<;>intro hd
  ·have z:iC (s.drop i)=zE ((s.drop i).takeWhile Na):=by
    rw[G];simp only[iC,hd,cT]
   have B:=Da ((s.drop i).takeWhile Na) 0;have b3:=kZ Na (s.drop i);refine aC fun K a=>?_;refine aG ?_;simp only[RR,seval];refine aO (I7 s i hs (by omega)) ?_;simp only[RR,seval];apply a;clear a K;refine aI ?_;refine aC fun K a=>?_;refine aG ?_;simp only[RR,seval];apply a;clear a K;refine aU ?_ ?_<;>intro R
   ·refine aC fun K a=>?_;refine aG ?_;simp only[RR,seval]
    apply a;clear a K;refine aN ?_;simp only[bK,aW,aJ,bN,RR,seval];refine aY.pure ?_
    cases hn:Tf 0 ((s.drop i).takeWhile Na)with
    |some m=>rw[hn]at B;simp only at B;rw[B]at R;cases R
    |none=>simp [wE,z,zE,hn,HI,kD,gA.row]
   refine aK ?_;simp only[bK];have o:(i:Int)≤((i+((s.drop i).takeWhile Na).length:Nat):Int):=by omega
   have W:(((i+((s.drop i).takeWhile Na).length:Nat)):Int)≤s.length:=by omega
   refine aC fun K a=>?_;refine aG ?_;simp only[RR,seval];simp only[o,W,RR,seval];apply a;clear a K;refine aN ?_;simp only[bK,aW,aJ,bN,RR,seval];refine aY.pure ?_
   cases hn:Tf 0 ((s.drop i).takeWhile Na)with
   |none=>rw[hn]at B;simp only at B;rw[B]at R;cases R
   |some m=>
    rw[hn]at B;simp only at B;have b5:=zF _ 0 m (by omega) (by omega) (sS Na _) hn;rw[B,eH _ (by simp only;omega),iQ];simp only[wE,z,zE,hn,HI,gA.row,cT,rB]
  refine aK ?_;simp only[bK];exact a _ _ ⟨hd,b,rfl,rfl,rfl,bE _ _ _,rfl⟩
 rintro f H ⟨hd,b,p,o,l,u,Q⟩;refine cP (fun f H=>decide ((c.toNat:Int)=39)=false∧f 0= .str s∧f 1= .int .i64 i∧f 4= .ptr 4 b 0 0∧H b=some (.rows 4 [kD.row])∧f 6= .int .u8 c.toNat) (fun K a=>?_) ?_
 ·refine aC fun K a=>?_;refine aG ?_;simp only[RR,seval]
  simp only[Q,RR,seval];apply a;clear a K;refine aU ?_ ?_<;>intro N
  ·have z:iC (s.drop i)=Qm (s.drop i):=by
    rw[G];simp only[iC,hd,N,cT,dK,cH]
   have L:Qm (s.drop i)=match s[i+1]?,s[i+2]? with |some c,some d=>if Jt c d then(⟨2,(s.drop i).take 3,c.toNat,0⟩,0)else(kD,3)|_,_=>(kD,3):=by
    rw[G,uO];simp only[eA]
   refine aI ?_;refine cP (fun f H=> ∃t,f 76= .bool t∧f 0= .str s∧f 1= .int .i64 i∧f 4= .ptr 4 b 0 0∧H b=some (.rows 4 [kD.row])∧(t=false→Qm (s.drop i)=(kD,3))∧(t=true→ ∃e:UInt8,s[i+1]?=some e∧i+2<s.length∧Qm (s.drop i)=(⟨2,(s.drop i).take 3,e.toNat,0⟩,0))) (fun K a=>?_) ?_
   ·refine aG ?_;simp only[RR,seval]
    simp only[p,o,RR,seval];rw[aS _ (by omega)];by_cases A:i+2<s.length
    ·have h:decide ((i:Int)+2<s.length)=true:=cD (by omega)
     have D:(0:Int)≤(i:Int)+1:=by omega
     have E:(0:Int)≤(i:Int)+2:=by omega
     have U:((i:Int)+1).toNat=i+1:=by omega
     have V:((i:Int)+2).toNat=i+2:=by omega
     have F:s[i+1]?=some s[i+1]:=aF (by omega);have J:s[i+2]?=some s[i+2]:=aF (by omega);have w1:IntKind.wrap .i64 ((i:Int)+1)=(i:Int)+1:=aS _ (by omega);have w2:IntKind.wrap .i64 ((i:Int)+2)=(i:Int)+2:=aS _ (by omega);generalize s[i+1]=e at F;generalize s[i+2]=d at J;rw[F,J]at L;simp only[BY]at L;simp only[h,p,o,w2,E,V,J,RR,seval]
     repeat' ((first|refine bZ (fun h=>?_) (fun h=>?_)|refine eE (fun h=>?_) (fun h=>?_))<;>simp only[h,p,o,w1,D,U,F,RR,seval])
     all_goals
      refine a _ _ ⟨_,rfl,p,o,l,u, ?_, ?_⟩<;>clear a
      ·intro g;(rw[L];simp_all<;>(intros;omega))
      intro g;first|(simp only[cH]at g;done)|exact⟨e,F,A,by rw[L];simp_all⟩
    have h:decide ((i:Int)+2<s.length)=false:=bA (by omega);have J:s[i+2]?=none:=dS (by omega);simp only[h,RR,seval];refine a _ _ ⟨_,rfl,p,o,l,u,fun _=>?_,fun e=>by cases e⟩;rw[L,J];cases s[i+1]?<;>rfl
   rintro f H ⟨t,a5,p,o,l,u,ht,b4⟩;refine dN _ a5 (fun v=>?_) (fun v=>?_)
   ·obtain⟨e,F,A,a6⟩:=b4 v
    have D:(0:Int)≤(i:Int)+1:=by omega
    have E:(0:Int)≤(i:Int)+3:=by omega
    have U:((i:Int)+1).toNat=i+1:=by omega
    have V:((i:Int)+3).toNat=i+3:=by omega
    have e5:(i:Int)+3≤s.length:=by omega
    have e6:(i:Int)≤((i+3:Nat):Int):=by omega
    have w1:IntKind.wrap .i64 ((i:Int)+1)=(i:Int)+1:=aS _ (by omega);have w3:IntKind.wrap .i64 ((i:Int)+3)=(i:Int)+3:=aS _ (by omega);have w4:IntKind.wrap .u32 (e.toNat:Int)=e.toNat:=eH _ (by have:=e.toNat_lt;omega);refine aC fun K a=>?_;refine gB (fun _=>True) [(0,true),(1,true),(2,true),(3,true),(4,true),(5,true),(6,true),(7,true),(8,true),(9,true),(10,true),(11,true),(12,true),(13,true)] eF (by kernel_rfl) rfl ?_;simp only[tM,p,o,l,u,w1,w3,w4,D,E,U,V,e5,e6,F,gA.row,kD,RR,seval];apply a;clear a K;refine aN ?_;simp only[bK,aW,aJ,bN,l,RR,seval];refine aY.pure ?_;simp only[wE,z,a6,cT,HI,gA.row];rw[iQ]
   refine aK ?_;simp only[bK];refine aC fun K a=>?_;refine aG ?_;simp only[RR,seval];simp only[l,u,gA.row,kD,RR,seval];apply a;clear a K;refine aN ?_;simp only[bK,aW,aJ,bN,l,RR,seval];refine aY.pure ?_;simp only[wE,z,ht v];rfl
  refine aK ?_;simp only[bK];exact a _ _ ⟨N,p,o,l,u,Q⟩
 rintro f H ⟨N,p,o,l,u,Q⟩;refine cP (fun f H=>vL c.toNat=false∧f 0= .str s∧f 1= .int .i64 i∧f 4= .ptr 4 b 0 0∧H b=some (.rows 4 [kD.row])) (fun K a=>?_) ?_
 ·refine aC fun K a=>?_;refine aG ?_;simp only[RR,seval]
  simp only[Q,seval];refine aO (uD _) ?_;simp only[RR,seval];apply a;clear a K;refine aU ?_ ?_<;>intro C
  ·have z:iC (s.drop i)=Pn ((s.drop i).takeWhile vU):=by
    rw[G];simp only[iC,hd,N,C,cT,dK,cH]
   have b3:=kZ vU (s.drop i);have a0:=rB vU (s.drop i);refine aC fun K a=>?_;refine aG ?_;simp only[RR,seval];simp only[o,seval];apply a;clear a K;refine cP (fun f H=>f 0= .str s∧f 1= .int .i64 i∧f 4= .ptr 4 b 0 0∧H b=some (.rows 4 [kD.row])∧f 10= .int .i64 ((i+((s.drop i).takeWhile vU).length:Nat))) (fun K a=>?_) ?_
   ·refine aP ?_
    refine eS (fun k f H=> ∃j:Nat,k=s.length-j∧j≤s.length∧f 0= .str s∧f 1= .int .i64 i∧f 4= .ptr 4 b 0 0∧H b=some (.rows 4 [kD.row])∧f 10= .int .i64 j∧i+((s.drop i).takeWhile vU).length=j+((s.drop j).takeWhile vU).length) (s.length-i) ⟨i,rfl,by omega,p,o,l,u,rfl,rfl⟩ ?_;rintro k f H ⟨j,rfl,hj,p,o,l,u,x,S⟩ K2 X;refine aI ?_;refine cP (fun I H'=> ∃t,I 114= .bool t∧I 0= .str s∧I 1= .int .i64 i∧I 4= .ptr 4 b 0 0∧H' b=some (.rows 4 [kD.row])∧I 10= .int .i64 j∧(t=true→ ∃c,s[j]?=some c∧vU c=true)∧(t=false→ ∀c,s[j]?=some c→vU c=false)) (fun K a=>?_) ?_
    ·refine aG ?_;simp only[RR,seval]
     simp only[p,x,RR,seval];refine eE (fun h=>?_) (fun h=>?_)
     ·have W:(j:Int)<s.length:=aB h
      have A:j<s.length:=by omega
      have y:s[j]?=some s[j]:=aF A;generalize s[j]=e at y;simp only[h,p,x,y,RR,seval];refine aO (uD _) ?_;simp only[RR,seval];refine bZ (fun C=>?_) (fun C=>?_)<;>simp only[C,p,x,y,RR,seval]
      ·refine aO (uC _) ?_
       simp only[RR,seval]
       repeat' ((refine bZ (fun h=>?_) (fun h=>?_))<;>simp only[h,p,x,y,RR,seval])
       all_goals
        refine a _ _ ⟨_,rfl,p,o,l,u,x, ?_, ?_⟩
        ·intro g;refine⟨e,y, ?_⟩;simp [vU,KE, *]
        intro g c' a1;rw[y]at a1;cases a1;simp [vU,KE, *]at g⊢
      refine a _ _ ⟨_,rfl,p,o,l,u,x, ?_, ?_⟩
      ·intro g;refine⟨e,y, ?_⟩;simp [vU,KE,C]
      intro g;cases g
     simp only[h,RR,seval];refine a _ _ ⟨_,rfl,p,o,l,u,x, ?_, ?_⟩
     ·intro g;cases g
     intro _ c v;have W: ¬(j:Int)<s.length:=aD h;rw[dS (by omega)]at v;cases v
    rintro f H ⟨t,a4,p,o,l,u,x,ht,a8⟩;refine dN _ a4 (fun v=>?_) (fun v=>?_)
    ·refine aK ?_;simp only[bK]
     obtain⟨e,y,he⟩:=ht v;obtain⟨A,a7⟩:=bF.1 y;have Y:s.drop j=e::s.drop (j+1):=by rw[bG A,a7]
     rw[Y]at S;simp only[List.takeWhile,he,aQ]at S;refine aP ?_;refine aG ?_;simp only[RR,seval];simp only[x,RR,seval];rw[aS _ (by omega)];exact X (s.length-(j+1)) _ _ (by omega) ⟨j+1,rfl,by omega,p,o,l,u,rfl,by omega⟩
    refine cF ?_;simp only[bK,cM,reduceIte]
    have b2:(s.drop j).takeWhile vU=[]:=by
     cases Y:s.drop j with
     |nil=>rfl
     |cons e r=>
      have :s[j]?=some e:=by
       have:=eA (xs:=s) (i:=j) (j:=0);rw[Y]at this;simpa using this.symm
      simp only[List.takeWhile,a8 v e this]
    rw[b2]at S;exact a _ _ ⟨p,o,l,u,by rw[x,S];rfl⟩
   rintro f H ⟨p,o,l,u,x⟩;have Z:Pn ((s.drop i).takeWhile vU)=if 20<((s.drop i).takeWhile vU).length then(kD,2)else if gU.contains ((s.drop i).takeWhile vU)then(⟨3,(s.drop i).takeWhile vU,0,0⟩,0)else(⟨1,(s.drop i).takeWhile vU,0,0⟩,0):=rfl
   generalize b7:(s.drop i).takeWhile vU=T at *;have D:(i:Int)≤((i+T.length:Nat):Int):=by omega
   have E:((i+T.length:Nat):Int)≤s.length:=by omega
   refine aI ?_;refine aC fun K a=>?_;refine aG ?_;simp only[RR,seval];simp only[o,x,RR,seval];rw[aS _ (by omega)];apply a;clear a K;refine aU ?_ ?_<;>intro v
   ·have h:20<T.length:=by have:=aB v;omega
    refine aC fun K a=>?_;refine aG ?_;simp only[RR,seval];simp only[l,u,gA.row,kD,RR,seval];apply a;clear a K;refine aN ?_;simp only[bK,aW,aJ,bN,l,RR,seval];refine aY.pure ?_;simp only[wE,z,Z,h,cT];rfl
   have h: ¬20<T.length:=by have:=aD v;omega
   refine aK ?_;simp only[bK];refine aI ?_;refine aC fun K a=>?_;refine gB (fun _=>True) [(1,false),(2,false),(3,false),(4,false),(0,true),(5,true)] eF (by kernel_rfl) rfl ?_;simp only[tM,fX,p,o,x,D,E,RR,seval];refine aO Oc ?_;simp only[RR,seval];refine aO (KD gU _ (by decide)) ?_;simp only[iQ,a0,RR,seval];apply a;clear a K;refine aU ?_ ?_<;>intro hw
   ·refine aC fun K a=>?_;refine aG ?_;simp only[RR,seval]
    simp only[p,o,l,x,u,D,E,iQ,a0,gA.row,kD,RR,seval];apply a;clear a K;refine aN ?_;simp only[bK,aW,aJ,bN,l,RR,seval];refine aY.pure ?_;simp only[wE,z,Z,h,hw,cT,dK];rfl
   refine aK ?_;simp only[bK];refine aC fun K a=>?_;refine aG ?_;simp only[RR,seval];simp only[p,o,l,x,u,D,E,iQ,a0,gA.row,kD,RR,seval];apply a;clear a K;refine aN ?_;simp only[bK,aW,aJ,bN,l,RR,seval];refine aY.pure ?_;simp only[wE,z,Z,h,hw,cT,dK,cH];rfl
  refine aK ?_;simp only[bK];exact a _ _ ⟨C,p,o,l,u⟩
 rintro f H ⟨C,p,o,l,u⟩
 have a2:iC (s.drop i)=match lV.find? (Ah (s.drop i))with |some w=>(⟨4,w,0,0⟩,0)|none=>(kD,3):=by
  rw[G];simp only[iC,hd,N,C,dK,cH]
  all_goals rfl
 refine aC fun K a=>?_;refine aG ?_;simp only[RR,seval];refine aO Z0 ?_;simp only[RR,seval];apply a;clear a K;refine cP (fun f H=>lV.find? (Ah (s.drop i))=none∧f 4= .ptr 4 b 0 0∧H b=some (.rows 4 [kD.row])) (fun K a=>?_) ?_
 ·refine aC fun K a=>?_;refine aG ?_;simp only[RR,seval]
  apply a;clear a K;refine aP ?_;refine eS (fun n f H=> ∃j:Nat,n=24 -j∧j≤24∧(lV.take j).find? (Ah (s.drop i))=none∧f 0= .str s∧f 1= .int .i64 i∧f 4= .ptr 4 b 0 0∧H b=some (.rows 4 [kD.row])∧f 11= .isl 1 (lV.map fun w=>[.str w])∧f 12= .int .i64 j) 24 ⟨0,rfl,by omega,rfl,p,o,l,u,rfl,rfl⟩ ?_;rintro n f H ⟨j,rfl,hj,M,p,o,l,u,O,P⟩ K2 X;refine aI ?_;refine aC fun K a=>?_;refine aG ?_;simp only[RR,seval];simp only[O,P,aE,RR,seval];apply a;clear a K;refine aU ?_ ?_<;>intro v
  ·refine aK ?_;simp only[bK]
   have a9:(j:Int)<lV.length:=aB v;have A:j<lV.length:=by omega
   have b0:lV.length=24:=rfl;have a3:(lV.map fun w=>[AV.str w])[j]?=some [.str lV[j]]:=by rw[dT,aF A];rfl
   have b1:lV[j].length≤1000000:=by
    have : ∀w∈lV,w.length≤2:=by decide
    have:=this _ (bW A);omega
   refine aI ?_;refine aP ?_;refine aC fun K a=>?_;refine aG ?_;simp only[RR,seval];simp only[p,o,O,P,a3,RR,seval];refine aO (Jw s lV[j] i hs b1 (by omega)) ?_;simp only[RR,seval];apply a;clear a K;refine aU ?_ ?_<;>intro v
   ·refine aC fun K a=>?_;refine aG ?_;simp only[RR,seval]
    simp only[o,l,O,P,a3,u,gA.row,kD,RR,seval];apply a;clear a K;refine aN ?_;simp only[bK,cM,aW,aJ,bN,l,RR,seval];refine aY.pure ?_;have z:lV.find? (Ah (s.drop i))=some lV[j]:=PG _ _ _ A M v;simp only[wE,a2,z,cT];rfl
   refine aK ?_;simp only[bK,cM];refine aG ?_;simp only[RR,seval];simp only[P,RR,seval];rw[aS _ (by omega)];refine X (24 -(j+1)) _ _ (by omega) ⟨j+1,rfl,by omega, ?_,p,o,l,u,O,rfl⟩;rw[cL A,List.find?_append,M];simp [List.find?,v]
  refine cF ?_;simp only[bK,cM,reduceIte];have a9: ¬(j:Int)<lV.length:=aD v;have b0:lV.length=24:=rfl;have :j=24:=by omega
  subst this;exact a _ _ ⟨M,l,u⟩
 rintro f H ⟨M,l,u⟩;refine aC fun K a=>?_;refine aG ?_;simp only[RR,seval];simp only[l,u,gA.row,kD,RR,seval];apply a;clear a K;refine aN ?_;simp only[aW,aJ,bN,l,RR,seval];refine aY.pure ?_;simp only[wE,a2,M];rfl
def SL (c:Int):Bool:=decide (c=32)||decide (c=9)||decide (c=10)
def sG (c:UInt8):Bool:= !decide ((c.toNat:Int)=10)
def oL:List UInt8→Nat→Nat→Except (Nat×Int) (List gA)
 |[],_,_=> .ok []
 |_::r,k+1,i=>oL r k (i+1)
 |c::r,0,i=>
  if SL c.toNat then oL r 0 (i+1)
  else if Ah (c::r) [47,47]then oL r (((c::r).takeWhile sG).length- 1) (i+1)
  else if(iC (c::r)).2=0 then(oL r ((iC (c::r)).1.text.length - 1) (i+1)).map ({(iC (c::r)).1 with pos:=i}:: ·)
  else .error (i,(iC (c::r)).2)
theorem Dj: ∀(s:List UInt8) (k i:Nat),oL s k i=oL (s.drop k) 0 (i+k)
 |[],k,i=>by cases k<;>simp [oL]
 |c::r,0,i=>by simp
 |c::r,k+1,i=>by
  simp only[oL,nT];rw[Dj r k (i+1)];congr 1;omega
def WU:Except (Nat×Int) (List gA)→AV
 | .ok l=> .tup [XR 4 (l.map gA.row), .int .i64 0, .int .i64 0]
 | .error (i,e)=> .tup [.nsl, .int .i64 i, .int .i64 e]
def Di (s:List UInt8):Except (Nat×Int) (List gA):=if 20000<s.length then .error (0,2)else oL s 0 0
def yB (l:List gA) (x:Except (Nat×Int) (List gA)):Except (Nat×Int) (List gA):=x.map (l++ ·)
theorem NS (x:Except (Nat×Int) (List gA)):yB [] x=x:=by cases x<;>rfl
theorem IV (l:List gA) (t:gA) (x:Except (Nat×Int) (List gA)):yB l (x.map (t:: ·))=yB (l++[t]) x:=by cases x<;>simp [yB,Except.map]
theorem N6 {s:List UInt8} (j:s≠[]) (h:(iC s).2=0):0<(iC s).1.text.length:=by
 cases s with
 |nil=>exact absurd rfl j
 |cons c r=>
  simp only[iC]at *;split at h
  ·rename_i hd
   rw[bH hd];simp only[zE]at *;split at h
   ·rename_i n e;have :Na c=true:=hd;simp [List.takeWhile,this]
   exact absurd h (by decide)
  rename_i hd;rw[aL hd];split at h
  ·rename_i b
   rw[bH b];rw[uO]at *;split at h
   ·rename_i k l;split at h
    ·rename_i d;simp only[d,cT];simp
    exact absurd h (by decide)
   exact absurd h (by decide)
  rename_i b;rw[aL b];split at h
  ·rename_i a
   rw[bH a]
   have i:0<((c::r).takeWhile vU).length:=by
    have :vU c=true:=by simp [vU,KE,a]
    simp only[List.takeWhile,this];simp
   simp only[Pn]at *;split at h
   ·exact absurd h (by decide)
   rename_i g;rw[aL g];split<;>exact i
  rename_i a;rw[aL a];split at h
  ·rename_i w e
   have:=List.mem_of_find?_eq_some e;have f: ∀w∈lV,0<w.length:=by decide
   exact f w this
  exact absurd h (by decide)
theorem Qf (s:List UInt8):(iC s).1.text.length≤s.length:=by
 cases s with
 |nil=>simp [iC,kD]
 |cons c r=>
  simp only[iC];split
  ·simp only[zE]
   split
   ·exact kZ _ _
   simp [kD]
  split
  ·rw[uO]
   split
   ·split
    ·rename_i d a _
     have:=(bF.1 a).1;simp only[dU];omega
    simp [kD]
   simp [kD]
  split
  ·simp only[Pn]
   split
   ·simp [kD]
   split<;>exact kZ _ _
  split
  ·rename_i w e
   have h:=List.find?_some e;have b:(c::r).take w.length=w:=aB h;have:=congrArg List.length b;rw[dU]at this;simp only;omega
  simp [kD]
def lC:List UInt8→Nat→Nat
 |[],_=>0
 |_::r,k+1=>lC r k+1
 |c::r,0=>if SL c.toNat then lC r 0+1 else if Ah (c::r) [47,47]then lC r (((c::r).takeWhile sG).length- 1)+1 else 0
theorem zD: ∀(s:List UInt8) (k:Nat),k≤s.length→lC s k=lC (s.drop k) 0+k
 |[],k,h=>by simp at h;subst h;rfl
 |c::r,0,_=>by simp
 |c::r,k+1,h=>by
  simp only[lC,nT];rw[zD r k (by simpa using h)];omega
theorem Fe {c:UInt8} {r:List UInt8} (h:Ah (c::r) [47,47]=true):1≤((c::r).takeWhile sG).length:=by
 have :(c::r).take 2=[47,47]:=aB h;simp only[gW,List.cons.injEq]at this;have a:sG c=true:=by rw[this.1];rfl
 simp only[List.takeWhile,a];simp
theorem Io (n:Nat): ∀(s:List UInt8) (i:Nat),s.length≤n→lC s 0≤s.length∧oL s 0 i=oL (s.drop (lC s 0)) 0 (i+lC s 0)∧(∀c r,s.drop (lC s 0)=c::r→SL c.toNat=false∧Ah (c::r) [47,47]=false):=by
 induction n with
 |zero=>
  intro s i h
  cases s with
  |nil=>exact⟨by simp [lC],by simp [lC],fun c r e=>by simp at e⟩
  |cons=>simp at h
 |succ n ih=>
  intro s i h
  cases s with
  |nil=>exact⟨by simp [lC],by simp [lC],fun c r e=>by simp at e⟩
  |cons c r=>
   simp only[aQ]at h
   cases hw:SL c.toNat with
   |true=>
    obtain⟨f,a,b⟩:=ih r (i+1) (by omega);simp only[lC,hw,cT,oL,aQ,nT];refine⟨by omega, ?_,b⟩;rw[a];congr 1;omega
   |false=>
    cases hp:Ah (c::r) [47,47]with
    |true=>
     have k:=Fe hp;have j:=kZ sG (c::r);simp only[aQ]at j;simp only[lC,hw,hp,cT,dK,cH,oL,aQ];rw[Dj,zD _ _ (by omega)];obtain⟨f,a,b⟩:=ih (r.drop (((c::r).takeWhile sG).length- 1)) (i+1+(((c::r).takeWhile sG).length- 1)) (by rw[fL];omega);rw[fL]at f;rw[List.drop_drop]at a b;refine⟨by omega, ?_, ?_⟩
     ·rw[a,nT]
      congr 1
      ·congr 1;omega
      omega
     intro d g e;rw[nT]at e;refine b d g ?_;rw[←e];congr 1;omega
    |false=>
     simp only[lC,hw,hp,dK,cH];refine⟨by omega,by simp,fun d g e=>?_⟩;simp only[dL,List.cons.injEq]at e;rw[←e.1,←e.2];exact⟨hw,hp⟩
theorem Xw (s:List UInt8) (i:Nat) (T:s.length≤1000000) (O:i≤s.length):eN dV 97 [.str s, .int .i64 i] (.int .i64 ((i+lC (s.drop i) 0:Nat))):=by
 refine bX 46 [.tmp 4] func97 ?_;refine aC fun K b=>?_;refine aG ?_;simp only[RR,seval];apply b;clear b K;refine cP (fun f H=>f 1= .int .i64 ((i+lC (s.drop i) 0:Nat))) (fun K b=>?_) ?_
 ·refine aP ?_
  refine eS (fun n f H=> ∃j:Nat,n=s.length-j∧j≤s.length∧f 0= .str s∧f 1= .int .i64 j∧i+lC (s.drop i) 0=j+lC (s.drop j) 0) (s.length-i) ⟨i,rfl,O,rfl,rfl,rfl⟩ ?_;rintro n f H ⟨j,rfl,E,d,a,x⟩ W C;refine aI ?_;refine aC fun K b=>?_;refine aG ?_;simp only[RR,seval];simp only[d,a,RR,seval];apply b;clear b K;refine aU ?_ ?_<;>intro o
  ·have u:j<s.length:=by have:=aB o;omega
   have l:s[j]?=some s[j]:=aF u;have p:s.drop j=s[j]::s.drop (j+1):=bG u;generalize s[j]=c at l p;refine aK ?_;simp only[bK];refine aP ?_;refine aP ?_;refine cP (fun f H=>f 10= .bool (SL c.toNat)∧f 0= .str s∧f 1= .int .i64 j) (fun K b=>?_) ?_
   ·refine aG ?_;simp only[RR,seval]
    simp only[d,a,l,RR,seval]
    repeat' ((refine bZ (fun h=>?_) (fun h=>?_))<;>simp only[h,d,a,l,RR,seval])
    all_goals exact b _ _ ⟨by simp [upd,SL, *],d,a⟩
   rintro f H ⟨F,d,a⟩;refine dN _ F (fun z=>?_) (fun z=>?_)
   ·refine aG ?_;simp only[RR,seval]
    simp only[a,cM,RR,seval];rw[aS _ (by omega)];refine C (s.length-(j+1)) _ _ (by omega) ⟨j+1,rfl,by omega,d,rfl, ?_⟩;rw[x,p];simp only[lC,z,cT];omega
   refine aC fun K b=>?_;refine aG ?_;simp only[RR,seval];simp only[d,a,seval];refine aO (Jw s _ j T (by decide) E) ?_;simp only[RR,seval];apply b;clear b K;refine aU ?_ ?_<;>intro v
   ·have Q:=kZ sG (s.drop j)
    rw[fL]at Q;refine aP ?_;refine eS (fun n f H=> ∃k:Nat,n=s.length-k∧k≤s.length∧f 0= .str s∧f 1= .int .i64 k∧j+((s.drop j).takeWhile sG).length=k+((s.drop k).takeWhile sG).length) (s.length-j) ⟨j,rfl,E,d,a,rfl⟩ ?_;rintro n f H ⟨k,rfl,P,d,a,y⟩ X J;refine aI ?_;refine cP (fun A V=> ∃t,A 42= .bool t∧A 0= .str s∧A 1= .int .i64 k∧(t=true→ ∃c,s[k]?=some c∧sG c=true)∧(t=false→ ∀c,s[k]?=some c→sG c=false)) (fun K b=>?_) ?_
    ·refine aG ?_;simp only[RR,seval]
     simp only[d,a,RR,seval];refine eE (fun h=>?_) (fun h=>?_)
     ·have G:(k:Int)<s.length:=aB h
      have u:k<s.length:=by omega
      have l:s[k]?=some s[k]:=aF u;generalize s[k]=e at l;simp only[h,d,a,l,RR,seval]
      repeat' ((refine bZ (fun h=>?_) (fun h=>?_))<;>simp only[h,d,a,l,RR,seval])
      refine b _ _ ⟨_,rfl,d,a, ?_, ?_⟩
      ·intro g;exact⟨e,l,g⟩
      intro g Y D;rw[l]at D;cases D;exact g
     simp only[h,RR,seval];refine b _ _ ⟨_,rfl,d,a, ?_, ?_⟩
     ·intro g;cases g
     intro _ c o;have G: ¬(k:Int)<s.length:=aD h;rw[dS (by omega)]at o;cases o
    rintro f H ⟨t,I,d,a,U,N⟩;refine dN _ I (fun o=>?_) (fun o=>?_)
    ·refine aK ?_;simp only[bK]
     obtain⟨e,l,M⟩:=U o;obtain⟨u,L⟩:=bF.1 l;have B:s.drop k=e::s.drop (k+1):=by rw[bG u,L]
     rw[B]at y;simp only[List.takeWhile,M,aQ]at y;refine aP ?_;refine aG ?_;simp only[RR,seval];simp only[a,RR,seval];rw[aS _ (by omega)];exact J (s.length-(k+1)) _ _ (by omega) ⟨k+1,rfl,by omega,d,rfl,by omega⟩
    refine cF ?_;simp only[bK,cM,reduceIte,Nat.reduceEqDiff]
    have S:(s.drop k).takeWhile sG=[]:=by
     cases B:s.drop k with
     |nil=>rfl
     |cons e r=>
      have :s[k]?=some e:=by
       have:=eA (xs:=s) (i:=k) (j:=0);rw[B]at this;simpa using this.symm
      simp only[List.takeWhile,N o e this]
    rw[S]at y;simp only[aV,mR]at y;rw[p]at v;have R:=Fe v;rw[←p]at R;refine C (s.length-k) _ _ (by omega) ⟨k,rfl,P,d,a, ?_⟩;rw[x]
    conv=>lhs;rw[p]
    simp only[lC,z,v,cT,dK,cH];rw[←p,zD _ _ (by rw[fL];omega),List.drop_drop,show j+1+(((s.drop j).takeWhile sG).length- 1)=k by omega];omega
   refine aC fun K b=>?_;refine aG ?_;simp only[RR,seval];simp only[a,seval];apply b;clear b K;refine aN ?_;simp only[bK,cM,aW,aJ,bN,RR,seval];refine aY.pure ?_;rw[x,p];rw[p]at v;simp only[lC,z,v,dK,cH];simp
  refine cF ?_;simp only[bK,cM,reduceIte];have :j=s.length:=by have:=aD o;omega
  subst this;rw[cX]at x;apply b;rw[x];exact a
 intro f H a;refine aC fun K b=>?_;refine aG ?_;simp only[RR,seval];simp only[a,seval];apply b;clear b K;refine aN ?_;simp only[aW,aJ,bN,RR,seval];refine aY.pure ?_;rfl
theorem Xr (s:List UInt8) (F:s.length≤1000000):eN dV 64 [.str s] (WU (Di s)):=by
 refine bX 40 [.tmp 2, .tmp 3, .tmp 4] func64 ?_;refine aC fun K d=>?_;refine aG ?_;simp only[RR,seval];apply d;clear d K;refine aI ?_;refine aC fun K d=>?_;refine aG ?_;simp only[RR,seval];apply d;clear d K;refine aU ?_ ?_<;>intro k
 ·have h:20000<s.length:=by have:=aB k;omega
  refine aC fun K d=>?_;refine aG ?_;simp only[RR,seval];apply d;clear d K;refine aN ?_;simp only[bK,aW,aJ,bN,RR,seval];refine aY.pure ?_;simp [Di,h,WU]
 have h: ¬20000<s.length:=by have:=aD k;omega
 have I:Di s=oL s 0 0:=aL h;refine aK ?_;simp only[bK];refine aC fun K d=>?_;refine aG ?_;simp only[RR,seval];apply d;clear d K;have M:=Xw s 0 F (by omega);obtain⟨a9,N,Y⟩:=Io s.length s 0 (bI _);simp only[dL,bT]at M N;refine aC fun K d=>?_;refine aG ?_;simp only[RR,seval];refine aO M ?_;simp only[RR,seval];apply d;clear d K;refine cP (fun j H=> ∃l:List gA,oL s 0 0= .ok l∧Ls 4 (j 5) (l.map gA.row) H) (fun K d=>?_) ?_
 ·refine aP ?_
  refine eS (fun n j H=> ∃(a:Nat) (l:List gA),n=s.length-a∧a≤s.length∧oL s 0 0=yB l (oL (s.drop a) 0 a)∧(∀c r,s.drop a=c::r→SL c.toNat=false∧Ah (c::r) [47,47]=false)∧l.length≤a∧j 0= .str s∧Ls 4 (j 5) (l.map gA.row) H∧j 6= .int .i64 a) (s.length-lC s 0) ⟨lC s 0,[],rfl,by omega,by rw[NS];exact N,Y,by simp,rfl, .inl ⟨rfl,rfl⟩,rfl⟩ ?_;rintro n j H ⟨a,l,rfl,ha,D,a1,a8,v,f,x⟩ K2 S;refine aI ?_;refine aC fun K d=>?_;refine aG ?_;simp only[RR,seval];simp only[v,x,RR,seval];apply d;clear d K;refine aU ?_ ?_<;>intro k
  ·have C:a<s.length:=by have:=aB k;omega
   have B:s.drop a=s[a]::s.drop (a+1):=bG C;generalize s[a]=c at B;obtain⟨a6,W⟩:=a1 _ _ B
   have G:oL (s.drop a) 0 a=if(iC (s.drop a)).2=0 then(oL (s.drop (a+1)) ((iC (s.drop a)).1.text.length - 1) (a+1)).map ({(iC (s.drop a)).1 with pos:=a}:: ·)else .error (a,(iC (s.drop a)).2):=by
    rw[B];simp only[oL,a6,W,dK,cH]
   have u:=JH s a F C;have J:=Qf (s.drop a);rw[fL]at J;have Q:=N6 (s:=s.drop a) (by rw[B];simp);simp only[wE]at u;refine aK ?_;simp only[bK];refine aP ?_;generalize iC (s.drop a)=p at *;obtain⟨t,e⟩:=p;simp only at G J Q u
   have a0: ∃i,(if e=0 then(({t with pos:=(a:Int)}:gA),(0:Int))else(kD,e))=(i,e)∧(e=0→i={t with pos:=(a:Int)}):=by
    by_cases g:e=0
    ·exact⟨_,by rw[bH g,g],fun _=>rfl⟩
    exact⟨kD,aL g,fun h=>absurd h g⟩
   obtain⟨i,a2,a3⟩:=a0;rw[a2]at u;simp only[HI]at u;refine aC fun K d=>?_;refine aG ?_;simp only[RR,seval];simp only[v,x,seval];refine aO u ?_;simp only[gA.row,RR,seval];refine aM fun b T=>?_;simp only[RR,seval];apply d;clear d K
   have L: ∀o,j 5= .osl 4 o (l.map gA.row).length→o≠b:=fun o e R=>by
    rcases f with⟨f,_⟩|⟨_,a7,y,z⟩
    ·rw[f]at e;cases e
    rw[y]at e;cases e;rw[R,T]at z;cases z
   have E:Ls 4 (j 5) (l.map gA.row) (upd (upd H b (some (.rows 4 [[.int .i64 0, .str [], .int .u32 0, .int .i64 0]]))) b (some (.rows 4 [i.row]))):=by
    rcases f with f|⟨f,o,y,z⟩
    ·exact .inl f
    exact .inr ⟨f,o,y,by simp [upd,L o y,z]⟩
   have A:(upd (upd H b (some (.rows 4 [[.int .i64 0, .str [], .int .u32 0, .int .i64 0]]))) b (some (.rows 4 [i.row]))) b=some (.rows 4 [i.row]):=bE _ _ _;simp only[gA.row]at E A;generalize(upd (upd H b (some (.rows 4 [[.int .i64 0, .str [], .int .u32 0, .int .i64 0]]))) b (some (.rows 4 [[AV.int .i64 i.kind, .str i.text, .int .u32 i.num, .int .i64 i.pos]])))=H1 at E A⊢;refine aI ?_;refine aC fun K d=>?_;refine aG ?_;simp only[RR,seval];apply d;clear d K;refine aU ?_ ?_<;>intro k
   ·have g: ¬e=0:=by simpa using k
    refine aC fun K d=>?_;refine aG ?_;simp only[RR,seval];simp only[x,seval];apply d;clear d K;refine aN ?_;simp only[bK,cM,aW,aJ,bN,RR,seval];refine aY.pure ?_;rw[I,D,G,aL g];rfl
   have g:e=0:=by simpa using k
   have a4:=a3 g;subst a4;refine aK ?_;simp only[bK];refine aC fun K d=>?_;refine aG ?_;simp only[RR,seval];simp only[A,RR,seval];refine eG ?_;simp only[RR,seval];refine jF (rows:=l.map gA.row) E.own (by simp only[aE,aQ,aV];omega) (fun _=>trivial) fun v' H' a5 V=>?_;have U:=V b _ A (fun e=>L b e rfl);simp only[RR,seval];apply d;clear d K;have b0:=Q g;have X:=Xw s (a+t.text.length) F (by omega);obtain⟨Z,O,P⟩:=Io s.length (s.drop (a+t.text.length)) (a+t.text.length) (by rw[fL];omega);rw[fL]at Z;rw[List.drop_drop]at O P;refine aG ?_;simp only[RR,seval];simp only[v,x,U,RR,seval];rw[aS _ (by omega)];refine aO X ?_;simp only[RR,seval];refine S (s.length-(a+t.text.length+lC (s.drop (a+t.text.length)) 0)) _ _ (by omega) ⟨a+t.text.length+lC (s.drop (a+t.text.length)) 0,l++[{t with pos:=a}],rfl,by omega, ?_,P, ?_,v, ?_,rfl⟩
   ·rw[D,G,bH g,IV,Dj,List.drop_drop,show a+1+(t.text.length- 1)=a+t.text.length by omega,O]
   ·simp only[aH,aQ,aV];omega
   refine eB.ne ?_ (by simp);rw[cO];exact a5
  refine cF ?_;simp only[bK,cM,reduceIte];have :a=s.length:=by have:=aD k;omega
  subst this;rw[cX]at D;exact d _ _ ⟨l,by rw[D];simp [oL,yB,Except.map],f⟩
 rintro j H ⟨l,C,f⟩;refine aC fun K d=>?_;refine aG ?_;simp only[RR,seval];apply d;clear d K;refine aN ?_;simp only[aW,aJ,bN,RR,seval];refine Ls.gives f ?_;rw[I,C];rfl
end Go.Proofs.YtaecpjgmcffliaaGreatDoor
