/- Xg -/
import Derived.Test.YtaecpjgmcffliaaGreatDoorJf
import Derived.Test.YtaecpjgmcffliaaGreatDoorQe
import Derived.Test.YtaecpjgmcffliaaGreatDoorSy2
import Derived.Test.YtaecpjgmcffliaaGreatDoorAl3
import Derived.Test.YtaecpjgmcffliaaGreatDoorWb
set_option linter.unusedSimpArgs false
set_option linter.unusedVariables false
set_option maxRecDepth 10000
set_option maxHeartbeats 8000000
namespace Go.Al
def rH (o:Int):dD:=if o=1∨o=2∨o=19∨o=25 then [97,99]else if o=3 then [97,98]else if o=16∨o=17 then [97,98,99]else if o=22∨o=23∨o=24 then [97]else if o=26 then []else [97,98,114]
def QF (o:Int):Prop:=o=1∨o=2∨o=3∨o=4∨o=5∨o=6∨o=7∨o=8∨o=9∨o=10∨o=11∨o=12∨o=13∨o=14∨o=15∨o=16∨o=17∨o=19∨o=22∨o=23∨o=24∨o=25∨o=26
def vU (s:dD) (c:UInt8):Bool:=s.any fun x=>decide (x=c)
def vY (t:Bool) (n m:Int):Bool:=if t then decide (0≤n)&&decide (n≤m)else decide (n=0)
def Z7 (o a b c:Int):Bool:=vY (vU (rH o) 97) a 15&&vY (vU (rH o) 98) b 15&&vY (vU (rH o) 99||vU (rH o) 114) c (if vU (rH o) 114 then 15 else 65535)
def yC (w:Int):List AV:=[.int .i64 (w/16777216), .int .i64 (w/1048576 % 16), .int .i64 (w/65536 % 16), .int .i64 (w % 65536)]
def sR (w:Int):Prop:=QF (w/16777216)∧Z7 (w/16777216) (w/1048576 % 16) (w/65536 % 16) (w % 65536)=true
def MC (x:Int):List AV:=[.int .i64 x]
def IF (W:List Int) (inp:dD) (bm bc:Nat) (vo:AV) (pc r1 r2 rd st en:Int):List AV:=[.int .i64 pc, .int .u32 0, .int .u32 r1, .int .u32 r2, .int .u32 0, .int .u32 0, .int .u32 0, .int .u32 0, .int .u32 0, .int .u32 0, .int .u32 0, .int .u32 0, .int .u32 0, .int .u32 0, .int .u32 0, .int .u32 0, .int .u32 0, .osl 1 bm 4224, .int .i64 rd, .str [], .int .i64 st, .int .i64 en,vo, .isl 4 (W.map yC), .isl 1 (W.map fun _=>[.bool true]), .isl 1 (W.map gI), .str inp, .osl 1 bc W.length]
structure jV (W:List Int) (inp:dD) (r bm bc:Nat) (vo:AV) (s:Mc) (en:Int) (H:Hp):Prop where
 r:H r=some (.rows 28 [[.int .i64 s.pc, .int .u32 0, .int .u32 s.r1, .int .u32 s.r2, .int .u32 0, .int .u32 0, .int .u32 0, .int .u32 0, .int .u32 0, .int .u32 0, .int .u32 0, .int .u32 0, .int .u32 0, .int .u32 0, .int .u32 0, .int .u32 0, .int .u32 0, .osl 1 bm 4224, .int .i64 s.rd, .str [], .int .i64 s.st, .int .i64 en,vo, .isl 4 (W.map yC), .isl 1 (W.map fun _=>[.bool true]), .isl 1 (W.map gI), .str inp, .osl 1 bc W.length]])
 m:H bm=some (.rows 1 (s.mem.map gI))
 ml:s.mem.length=4224
 c: ∃cn:List Int,cn.length=W.length∧H bc=some (.rows 1 (cn.map MC))
 o:eB 1 vo (s.out.map rG) H
 om:off vo bm
 oc:off vo bc
 mc:bm≠bc
 ol:s.out.length≤65536
 u1:dR s.r1
 u2:dR s.r2
 um: ∀x∈s.mem,dR x
 rd:s.rd≤inp.length
def gM (r bm bc:Nat) (vo vo':AV) (H H':Hp):Prop:= ∀b o,H b=some o→b≠r→b≠bm→b≠bc→off vo b→H' b=some o∧off vo' b
section
variable {W : List Int} {inp : dD} {r bm bc : Nat} {vo vo' vo2 : AV} {s s' : Mc} {en en' : Int} {H H' H2 : Hp}
theorem gM.refl (r bm bc:Nat) (vo:AV) (H:Hp):gM r bm bc vo vo H H:=fun _ _ h _ _ _ a=>⟨h,a⟩
theorem gM.trans (h:gM r bm bc vo vo' H H') (g:gM r bm bc vo' vo2 H' H2):gM r bm bc vo vo2 H H2:=fun b o j a c d i=>by
 obtain⟨e,f⟩:=h b o j a c d i;exact g b o e a c d f
theorem jV.nmr (h:jV W inp r bm bc vo s en H):bm≠r:=fun e=>by have a:=h.m;have b:=h.r;rw[e,b]at a;cases a
theorem jV.ncr (h:jV W inp r bm bc vo s en H):bc≠r:=fun e=>by obtain⟨d,_,a⟩:=h.c;have b:=h.r;rw[e,b]at a;cases a
theorem jV.or (h:jV W inp r bm bc vo s en H):off vo r:=h.o.offsz h.r (by decide)
theorem jV.turn (h:jV W inp r bm bc vo s en H) (n:H' r=some (.rows 28 [[.int .i64 s'.pc, .int .u32 0, .int .u32 s'.r1, .int .u32 s'.r2, .int .u32 0, .int .u32 0, .int .u32 0, .int .u32 0, .int .u32 0, .int .u32 0, .int .u32 0, .int .u32 0, .int .u32 0, .int .u32 0, .int .u32 0, .int .u32 0, .int .u32 0, .osl 1 bm 4224, .int .i64 s'.rd, .str [], .int .i64 s'.st, .int .i64 en',vo, .isl 4 (W.map yC), .isl 1 (W.map fun _=>[.bool true]), .isl 1 (W.map gI), .str inp, .osl 1 bc W.length]])) (g: ∀b,b≠r→H' b=H b) (f:s'.mem=s.mem) (i:s'.out=s.out) (t:dR s'.r1) (u:dR s'.r2) (p:s'.rd≤inp.length):jV W inp r bm bc vo s' en' H':=by
 obtain⟨l,j,k⟩:=h.c;refine⟨n,by rw[f,g _ h.nmr];exact h.m,by rw[f];exact h.ml,⟨l,j,by rw[g _ h.ncr];exact k⟩, ?_,h.om,h.oc,h.mc,by rw[i];exact h.ol,t,u,by rw[f];exact h.um,p⟩;rw[i];rcases h.o with⟨a,d⟩|⟨b,a,d⟩
 ·exact .inl ⟨a,d⟩
 exact .inr ⟨b,a,by rw[g b (fun e=>h.or _ _ (by rw[a,e]))];exact d⟩
theorem gM.turn (e: ∀b,b≠r→H' b=H b):gM r bm bc vo vo H H':=fun b o d a _ _ c=>⟨by rw[e b a];exact d,c⟩
theorem jV.same (h:jV W inp r bm bc vo s en H) (a: ∀b,H' b=H b):jV W inp r bm bc vo s en H':=by
 have :H'=H:=funext a;rw[this];exact h
theorem jV.new (h:jV W inp r bm bc vo s en H) {b:Nat} (a:H b=none) (o:Option iF):jV W inp r bm bc vo s en (upd H b o):=by
 have i:r≠b:=fun e=>by have:=h.r;rw[e,a]at this;cases this
 have j:bm≠b:=fun e=>by have:=h.m;rw[e,a]at this;cases this
 obtain⟨g,f,d⟩:=h.c;have k:bc≠b:=fun e=>by rw[e,a]at d;cases d
 exact {h with r:=by rw[cH _ _ i];exact h.r,m:=by rw[cH _ _ j];exact h.m,c:=⟨g,f,by rw[cH _ _ k];exact d⟩,o:=h.o.upd a o}
theorem gM.new {b:Nat} {o:Option iF} (j:H b=none) (h:gM r bm bc vo vo' (Go.Al.upd H b o) H'):gM r bm bc vo vo' H H':=fun c k a d f g i=>by
 have :c≠b:=fun e=>by rw[e,j]at a;cases a
 exact h c k (by rw[cH _ _ this];exact a) d f g i
theorem jV.far (h:jV W inp r bm bc vo s en H) (d: ∀b,H b≠none→H' b=H b):jV W inp r bm bc vo s en H':=by
 obtain⟨i,g,f⟩:=h.c;refine⟨by rw[d _ (by rw[h.r];exact bZ _)];exact h.r,by rw[d _ (by rw[h.m];exact bZ _)];exact h.m,h.ml,⟨i,g,by rw[d _ (by rw[f];exact bZ _)];exact f⟩, ?_,h.om,h.oc,h.mc,h.ol,h.u1,h.u2,h.um,h.rd⟩;rcases h.o with⟨e,a⟩|⟨b,e,a⟩
 ·exact .inl ⟨e,a⟩
 exact .inr ⟨b,e,by rw[d _ (by rw[a];exact bZ _)];exact a⟩
theorem gM.upd2 {a c:Nat} {d f:Option iF} (g:a=r∨a=bm∨a=bc) (i:c=r∨c=bm∨c=bc) (k: ∀b,Go.Al.upd (Go.Al.upd H a d) c f b≠none→H' b=Go.Al.upd (Go.Al.upd H a d) c f b):gM r bm bc vo vo H H':=fun b o j t u v p=>by
 have l:b≠a:=fun e=>by subst e;rcases g with h|h|h<;>contradiction
 have n:b≠c:=fun e=>by subst e;rcases i with h|h|h<;>contradiction
 have e:Go.Al.upd (Go.Al.upd H a d) c f b=some o:=by rw[cH _ _ n,cH _ _ l];exact j
 exact⟨by rw[k b (by rw[e];exact bZ _),e],p⟩
theorem G7 {l:List Int} {i:Nat} {x:Int} (h:l[i]?=some x):(l.map gI)[i]?=some [.int .u32 x]:=by rw[dM,h];rfl
end
def gF:Nat→Nat→List Nat
 |0,_=>[]
 |k+1,a=>a % 2::gF k (a/2)
def Sv:List Nat→Nat
 |[]=>0
 |b::l=>b+2 *Sv l
def qH (n:Nat):List AV:=[.int .i64 (n:Int)]
theorem rC: ∀(k a:Nat),(gF k a).length=k
 |0,_=>rfl
 |k+1,a=>by simp only[gF,aM,rC k]
theorem pS: ∀(k a i:Nat),i<k→(gF k a)[i]?=some (a/2^i % 2)
 |0,_,_,h=>by omega
 |k+1,a,0,_=>by simp [gF]
 |k+1,a,i+1,h=>by
  simp only[gF,kU,pS k (a/2) i (by omega)];rw[WJ,oD,Nat.mul_comm 2]
def pG (op:Int) (x y:Nat):Nat:=if(x+y=2∧op≠11)∨(x+y=1∧op≠9)then 1 else 0
theorem IA: ∀l:List Nat,(∀x∈l,x≤1)→Sv l<2^l.length
 |[],_=>by simp [Sv]
 |x::l,h=>by
  have b:=IA l fun y a=>h y (fC _ a);have c:=h x dU;simp only[Sv,aM,oD];omega
theorem Yw (op:Int): ∀(k a b:Nat),List.zipWith (pG op) (gF k a) (gF k b)=gF k (Sv (List.zipWith (pG op) (gF k a) (gF k b)))
 |0,_,_=>rfl
 |k+1,a,b=>by
  simp only[gF,WL,Sv];have h:pG op (a % 2) (b % 2)≤1:=by unfold pG;split<;>omega
  rw[show(pG op (a % 2) (b % 2)+2 *Sv (List.zipWith (pG op) (gF k (a/2)) (gF k (b/2)))) % 2=pG op (a % 2) (b % 2)by omega,show(pG op (a % 2) (b % 2)+2 *Sv (List.zipWith (pG op) (gF k (a/2)) (gF k (b/2))))/2=Sv (List.zipWith (pG op) (gF k (a/2)) (gF k (b/2)))by omega,←Yw op k]
theorem P4: ∀(k a b:Nat),a<2^k→b<2^k→Sv (List.zipWith (pG 9) (gF k a) (gF k b))=a&&&b
 |0,a,b,ha,hb=>by
  have :a=0:=by simp at ha;exact ha
  subst this;simp [gF,Sv]
 |k+1,a,b,ha,hb=>by
  simp only[gF,WL,Sv];rw[P4 k (a/2) (b/2) (by rw[oD]at ha;omega) (by rw[oD]at hb;omega)];have c:(a&&&b)/2=a/2&&&b/2:=Nat.and_div_two;have d:(a&&&b) % 2=a % 2&&&b % 2:=Nat.and_mod_two_pow (n:=1);rw[←Nat.div_add_mod (a&&&b) 2,c,d]
  have e:pG 9 (a % 2) (b % 2)=a % 2&&&b % 2:=by
   rcases oZ a with x|x<;>rcases oZ b with y|y<;>rw[x,y]<;>decide
  rw[e];omega
theorem HZ: ∀(k a b:Nat),a<2^k→b<2^k→Sv (List.zipWith (pG 10) (gF k a) (gF k b))=a|||b
 |0,a,b,ha,hb=>by
  have :a=0:=by simp at ha;exact ha
  have :b=0:=by simp at hb;exact hb
  subst a;subst b;simp [gF,Sv]
 |k+1,a,b,ha,hb=>by
  simp only[gF,WL,Sv];rw[HZ k (a/2) (b/2) (by rw[oD]at ha;omega) (by rw[oD]at hb;omega)];have c:(a|||b)/2=a/2|||b/2:=Nat.or_div_two
  have d:(a|||b) % 2=a % 2|||b % 2:=Nat.or_mod_two_pow (n:=1)
  rw[←Nat.div_add_mod (a|||b) 2,c,d]
  have e:pG 10 (a % 2) (b % 2)=a % 2|||b % 2:=by
   rcases oZ a with x|x<;>rcases oZ b with y|y<;>rw[x,y]<;>decide
  rw[e];omega
theorem P3: ∀(k a b:Nat),a<2^k→b<2^k→Sv (List.zipWith (pG 11) (gF k a) (gF k b))=a^^^b
 |0,a,b,ha,hb=>by
  have :a=0:=by simp at ha;exact ha
  have :b=0:=by simp at hb;exact hb
  subst a;subst b;simp [gF,Sv]
 |k+1,a,b,ha,hb=>by
  simp only[gF,WL,Sv];rw[P3 k (a/2) (b/2) (by rw[oD]at ha;omega) (by rw[oD]at hb;omega)];have c:(a^^^b)/2=a/2^^^b/2:=Nat.xor_div_two;have d:(a^^^b) % 2=a % 2^^^b % 2:=Nat.xor_mod_two_pow (n:=1);rw[←Nat.div_add_mod (a^^^b) 2,c,d]
  have e:pG 11 (a % 2) (b % 2)=a % 2^^^b % 2:=by
   rcases oZ a with x|x<;>rcases oZ b with y|y<;>rw[x,y]<;>decide
  rw[e];omega
def yN (op:Int) (a b:Nat):Nat:=Sv (List.zipWith (pG op) (gF 32 a) (gF 32 b))
theorem OC (op:Int) (x y:Nat):pG op x y≤1:=by unfold pG;split<;>omega
theorem KC (op:Int) (a b:Nat):yN op a b<4294967296:=by
 have:=IA (List.zipWith (pG op) (gF 32 a) (gF 32 b)) fun x d=>by
  obtain⟨i,c⟩:=jB d;rw[List.getElem?_zipWith]at c;split at c
  ·cases c;exact OC _ _ _
  cases c
 simpa [List.length_zipWith,rC,yN]using this
theorem xM (n:Nat) (h:n<4294967296):(BitVec.ofInt 32 (n:Int)).toNat=n:=by
 rw[BitVec.toNat_ofInt];omega
theorem Yt (op:Int) (f:op=9∨op=10∨op=11) (a b:Nat) (c:a<4294967296) (d:b<4294967296):eQ op a b=(((yN op a b:Nat):Int),(0:Int)):=by
 have e: ∀n:Nat,n<4294967296→IntKind.wrap .u32 (n:Int)=(n:Int):=fun n h=>by simp [IntKind.wrap,IntKind.signed,IntKind.bits];omega
 rcases f with rfl|rfl|rfl
 ·show(IntKind.wrap .u32 (BitVec.ofInt 32 a&&&BitVec.ofInt 32 b).toNat,(0:Int))=_
  rw[BitVec.toNat_and,xM a c,xM b d,yN,P4 32 a b c d,e _ (Nat.lt_of_le_of_lt Nat.and_le_left c)]
 ·show(IntKind.wrap .u32 (BitVec.ofInt 32 a|||BitVec.ofInt 32 b).toNat,(0:Int))=_
  rw[BitVec.toNat_or,xM a c,xM b d,yN,HZ 32 a b c d,e _ (Nat.or_lt_two_pow (n:=32) c d)]
 show(IntKind.wrap .u32 (BitVec.ofInt 32 a^^^BitVec.ofInt 32 b).toNat,(0:Int))=_;rw[BitVec.toNat_xor,xM a c,xM b d,yN,P3 32 a b c d,e _ (Nat.xor_lt_two_pow (n:=32) c d)]
theorem qB (a b:Nat):((a:Int)).tmod (b:Int)=((a % b:Nat):Int):=by rw[Int.ofNat_tmod]
theorem zQ (a b:Nat):((a:Int)).tdiv (b:Int)=((a/b:Nat):Int):=by rw[Int.ofNat_tdiv]
theorem B8 (n:Nat) (h:n<4294967296):IntKind.wrap .u32 (n:Int)=(n:Int):=by simp [IntKind.wrap,IntKind.signed,IntKind.bits];omega
theorem N1 (n:Nat) (h:n<18446744073709551616):IntKind.wrap .u64 (n:Int)=(n:Int):=by simp [IntKind.wrap,IntKind.signed,IntKind.bits];omega
theorem Xa {l:List Nat} {i x:Nat} (h:l[i]?=some x):(l.map qH)[i]?=some [.int .i64 (x:Int)]:=by rw[dM,h];rfl
theorem BX (op:Int) (a b k:Nat) (c:k<32):(List.zipWith (pG op) (gF 32 a) (gF 32 b))[k]?=some (pG op (a/2^k % 2) (b/2^k % 2)):=by
 rw[List.getElem?_zipWith,pS _ _ _ c,pS _ _ _ c]
theorem D7 (f:AV) (d:List AV) (b c:Int) (a:Int) (h:0≤a∧a≤15):(f:: .int .u32 0:: .int .u32 b:: .int .u32 c:: .int .u32 0:: .int .u32 0:: .int .u32 0:: .int .u32 0:: .int .u32 0:: .int .u32 0:: .int .u32 0:: .int .u32 0:: .int .u32 0:: .int .u32 0:: .int .u32 0:: .int .u32 0:: .int .u32 0::d)[1+a.toNat]?=some (.int .u32 (if a=1 then b else if a=2 then c else 0)):=by
 have :a=0∨a=1∨a=2∨a=3∨a=4∨a=5∨a=6∨a=7∨a=8∨a=9∨a=10∨a=11∨a=12∨a=13∨a=14∨a=15:=by omega
 rcases this with rfl|rfl|rfl|rfl|rfl|rfl|rfl|rfl|rfl|rfl|rfl|rfl|rfl|rfl|rfl|rfl<;>rfl
section
variable {W : List Int} {inp : dD} {r bm bc : Nat} {vo vo' : AV} {s s' : Mc} {en en' : Int} {H H' : Hp}
theorem Mc.r_u (h:jV W inp r bm bc vo s en H) (a:Int):dR (s.r a):=by
 unfold Mc.r;split
 ·exact h.u1
 split
 ·exact h.u2
 simp [dR]
theorem jV.store (h:jV W inp r bm bc vo s en H) (j:Nat) (v:Int) (p:dR v) (n:H' bm=some (.rows 1 ((s.mem.map gI).set j [.int .u32 v]))) (f: ∀b,b≠bm→H' b=H b):jV W inp r bm bc vo {s with mem:=s.mem.set j v} en H':=by
 obtain⟨l,i,k⟩:=h.c;refine⟨by rw[f _ (Ne.symm h.nmr)];exact h.r,by rw[n,rB],by rw[dJ];exact h.ml,⟨l,i,by rw[f _ (Ne.symm h.mc)];exact k⟩, ?_,h.om,h.oc,h.mc,h.ol,h.u1,h.u2,fun x g=>?_,h.rd⟩
 ·rcases h.o with⟨a,d⟩|⟨b,a,d⟩
  ·exact .inl ⟨a,d⟩
  exact .inr ⟨b,a,by rw[f b (fun e=>h.om _ _ (by rw[a,e]))];exact d⟩
 rcases pI g with g|rfl
 ·exact h.um x g
 exact p
theorem jV.count (h:jV W inp r bm bc vo s en H) {cn:List Int} (f:cn.length=W.length) (g:H' bc=some (.rows 1 (cn.map MC))) (d: ∀b,b≠bc→H' b=H b):jV W inp r bm bc vo s en H':=by
 refine⟨by rw[d _ (Ne.symm h.ncr)];exact h.r,by rw[d _ h.mc];exact h.m,h.ml,⟨cn,f,g⟩, ?_,h.om,h.oc,h.mc,h.ol,h.u1,h.u2,h.um,h.rd⟩;rcases h.o with⟨a,c⟩|⟨b,a,c⟩
 ·exact .inl ⟨a,c⟩
 exact .inr ⟨b,a,by rw[d b (fun e=>h.oc _ _ (by rw[a,e]))];exact c⟩
theorem jV.put {c:UInt8} (h:jV W inp r bm bc vo s en H) (y:s.out.length<65536) (t:eB 1 vo' (s.out.map rG++[rG c]) H') (i: ∀b o,H b=some o→vo≠ .osl 1 b (s.out.map rG).length→H' b=some o) (f: ∀b,off vo b→H b≠none→off vo' b) {H2:Hp}
  (u:H2 r=some (.rows 28 [[.int .i64 s.pc, .int .u32 0, .int .u32 s.r1, .int .u32 s.r2, .int .u32 0, .int .u32 0, .int .u32 0, .int .u32 0, .int .u32 0, .int .u32 0, .int .u32 0, .int .u32 0, .int .u32 0, .int .u32 0, .int .u32 0, .int .u32 0, .int .u32 0, .osl 1 bm 4224, .int .i64 s.rd, .str [], .int .i64 s.st, .int .i64 en,vo', .isl 4 (W.map yC), .isl 1 (W.map fun _=>[.bool true]), .isl 1 (W.map gI), .str inp, .osl 1 bc W.length]])) (d: ∀b,b≠r→H2 b=H' b):
  jV W inp r bm bc vo' {s with out:=s.out++[c]} en H2∧gM r bm bc vo vo' H H2:=by
 obtain⟨p,n,j⟩:=h.c;have x:off vo' r:=f r h.or (by rw[h.r];exact bZ _);refine⟨⟨u,by rw[d _ h.nmr];exact i _ _ h.m (h.om _ _),h.ml,⟨p,n,by rw[d _ h.ncr];exact i _ _ j (h.oc _ _)⟩, ?_,f _ h.om (by rw[h.m];exact bZ _),f _ h.oc (by rw[j];exact bZ _),h.mc, ?_,h.u1,h.u2,h.um,h.rd⟩,fun b o k v z A l=>⟨by rw[d _ v];exact i _ _ k (l _ _),f b l (by rw[k];exact bZ _)⟩⟩
 ·rw[cO]
  rcases t with⟨a,g⟩|⟨b,a,g⟩
  ·exact .inl ⟨a,g⟩
  exact .inr ⟨b,a,by rw[d b (fun e=>x _ _ (by rw[a,e]))];exact g⟩
 simp only[aB,bS];omega
end
theorem Qp {a b:Type} (W:List a) (f:a→b) (z:b) {k:Nat} {x:a} (h:W[k]?=some x):((W.take k).map f++List.replicate (W.length-k) z)[k]?=some z:=by
 have d:=(bF.1 h).1;have c:((W.take k).map f).length=k:=by simp;omega
 rw[gZ (by omega),c,Gf,qZ,bD (by omega)]
theorem Qo {a b:Type} (W:List a) (f:a→b) (z:b) {k:Nat} {x:a} {y:b} (h:W[k]?=some x) (e:f x=y):((W.take k).map f++List.replicate (W.length-k) z).set k y=(W.take (k+1)).map f++List.replicate (W.length-(k+1)) z:=by
 have g:=(bF.1 h).1;have c:((W.take k).map f).length=k:=by simp;omega
 have d:W.length-k=(W.length-(k+1))+1:=by omega
 rw[d,List.replicate_succ,List.set_append_right _ _ (by omega),c,Gf,BK,List.take_add_one,h,cO];simp [e]
theorem I6 {a:Type} (W:List a) (b sz:Nat) (l:List (List AV)):(W.map fun _=>[AV.bool true]).map (fun x=>x.map (frz b sz l))=W.map fun _=>[AV.bool true]:=by
 rw[List.map_map];rfl
end Go.Al
namespace Go.Proofs.YtaecpjgmcffliaaGreatDoor
open Go.Al Go.Proofs.Tryz
mutual
def XJ:Ex→Int→Bool
 | .mk k o n s l,lv=>IZ (.mk k o n s l) lv&&nD k o l.length&&TW l (lv+1)
def TW:List Ex→Int→Bool
 |[],_=>true
 |e::l,lv=>XJ e lv&&TW l lv
end
mutual
theorem RI: ∀(e:Ex) (a:Int),XJ e a=lN e a
 | .mk k o n s l,a=>by simp only[XJ,lN,Ex.kind,Ex.op,Ex.kids,D5 l]
theorem D5: ∀(l:List Ex) (a:Int),TW l a=lC l a
 |[],_=>by simp only[TW,oN]
 |e::l,a=>by simp only[TW,qD,RI e,D5 l]
end
mutual
def XK:Sm→Int→Bool
 | .mk k s l t u,lv=>Q5 (.mk k s l t u) lv&&Nw k l.length&&TW l (lv+1)&&TV t (lv+1)&&TV u (lv+1)
def TV:List Sm→Int→Bool
 |[],_=>true
 |e::l,lv=>XK e lv&&TV l lv
end
mutual
def uX:Ex→List Us
 | .mk k o n s l=>nF (.mk k o n s l)++uE l
def uE:List Ex→List Us
 |[]=>[]
 |e::l=>uX e++uE l
end
mutual
theorem UE: ∀e:Ex,uX e=nF e++fG e.kids
 | .mk k o n s l=>by simp only[uX,Ex.kids,CH l]
theorem CH: ∀l:List Ex,uE l=fG l
 |[]=>by simp only[uE,fG]
 |e::l=>by simp only[uE,lZ,UE e,CH l]
end
mutual
def uM:Sm→List Us
 | .mk k s l t u=>kZ (.mk k s l t u)++uE l++uS t++uS u
def uS:List Sm→List Us
 |[]=>[]
 |e::l=>uM e++uS l
end
mutual
theorem UG: ∀e:Sm,uM e=kZ e++fG e.es++eG e.thn++eG e.els
 | .mk k s l t u=>by simp only[uM,Sm.es,Sm.thn,Sm.els,CH l,Vq t,Vq u]
theorem Vq: ∀l:List Sm,uS l=eG l
 |[]=>by simp only[uS,eG]
 |e::l=>by simp only[uS,nI,UG e,Vq l]
end
mutual
def kX:Ex→Bool
 | .mk k o n s l=>decide (-9223372036854775808≤k∧k<9223372036854775808)&&decide (-9223372036854775808≤o∧o<9223372036854775808)&&decide (0≤n∧n<4294967296)&&decide (s.length≤9223372036854775807)&&decide (l.length≤9223372036854775807)&&VQ l
def VQ:List Ex→Bool
 |[]=>true
 |e::l=>kX e&&VQ l
end
mutual
theorem VN: ∀e:Ex,kX e=true→e.ok
 | .mk k o n s l,h=>by
   simp only[kX,aX,bP]at h;exact .mk _ _ _ _ _ h.1.1.1.1.1 h.1.1.1.1.2 h.1.1.1.2 h.1.1.2 h.1.2 (IR l h.2)
theorem IR: ∀l:List Ex,VQ l=true→ ∀e∈l,e.ok
 |[],_=>fun e he=>by cases he
 |x::l,h=>fun e he=>by
  simp only[VQ,aX]at h;rcases bL.1 he with a|he
  ·rw[a];exact VN x h.1
  exact IR l h.2 e he
end
mutual
def kM:Sm→Bool
 | .mk k s l t u=>decide (-9223372036854775808≤k∧k<9223372036854775808)&&decide (s.length≤9223372036854775807)&&decide (l.length≤9223372036854775807)&&VQ l&&decide (t.length≤9223372036854775807)&&VO t&&decide (u.length≤9223372036854775807)&&VO u
def VO:List Sm→Bool
 |[]=>true
 |e::l=>kM e&&VO l
end
mutual
theorem VP: ∀e:Sm,kM e=true→e.ok
 | .mk k s l t u,h=>by
   simp only[kM,aX,bP]at h;exact .mk _ _ _ _ _ h.1.1.1.1.1.1.1 h.1.1.1.1.1.1.2 ⟨h.1.1.1.1.1.2,IR l h.1.1.1.1.2⟩ h.1.1.1.2 (Q2 t h.1.1.2) h.1.2 (Q2 u h.2)
theorem Q2: ∀l:List Sm,VO l=true→ ∀e∈l,e.ok
 |[],_=>fun e he=>by cases he
 |x::l,h=>fun e he=>by
  simp only[VO,aX]at h;rcases bL.1 he with a|he
  ·rw[a];exact VP x h.1
  exact Q2 l h.2 e he
end
mutual
theorem RJ: ∀(e:Sm) (a:Int),XK e a=lO e a
 | .mk k s l t u,a=>by simp only[XK,lO,Sm.kind,Sm.es,Sm.thn,Sm.els,D5 l,Su t,Su u]
theorem Su: ∀(l:List Sm) (a:Int),TV l a=jN l a
 |[],_=>by simp only[TV,uJ]
 |e::l,a=>by simp only[TV,qC,RJ e,Su l]
end
theorem LX:XL Sj=some eZ:=by kernel_rfl
theorem Hq:gL eZ=true:=by
 have h:jN gS 1=true:=by rw[←Su];kernel_rfl
 simp only[gL,lP,eZ,nX,dZ,gW,h]
 decide+kernel
theorem GW:D2 Sj=(eZ,0,0):=O0 LX Hq
theorem Gl:eZ.ok:=by
 have a:yZ gS:=⟨show gS.length≤9223372036854775807 from aD (by kernel_rfl),Q2 gS (by kernel_rfl)⟩;have b:nX.ok:=⟨by simp [fK,nX],⟨by simp [fK,nX],by simp [nX]⟩,⟨by simp [fK,nX],by simp [nX]⟩,a⟩;refine⟨⟨by simp [fK,eZ],by simp [fK,eZ]⟩,by simp [fK,eZ],by simp [eZ,jH,fK],by simp [fK,eZ],fun f h=>?_⟩;simp only[eZ,bE]at h;subst h;exact b
theorem zW:eZ.few:=by
 refine⟨Gl,by simp [eZ],by simp [eZ],by simp [eZ],fun f h=>?_⟩;simp only[eZ,bE]at h;subst h;exact⟨by simp [nX],by simp [nX],show sS gS≤1000000 from aD (by kernel_rfl)⟩
theorem uH:iW eZ=0:=by
 unfold iW;rw[bD Hq]
 have a:kP eZ=true:=by
  show(decide (kN eZ).Nodup&&(decide (gO nX).Nodup&&(eG gS).all (jE eZ 0)&&true))=true;rw[←Vq]
  decide+kernel
 have b:rI eZ=true:=by
  show(((eG gS).all (zA eZ 0)&&true)&&Aa eZ)=true;rw[←Vq]
  decide+kernel
 unfold lD;rw[bD a,bD b,bD rfl]
 decide+kernel
theorem uI:jD (fun l=>l.all Bg) eZ=true:=by
 unfold jD;rw[uH]
 decide+kernel
theorem LQ:decide ((Sj.length:Int)≤12000)=true:=by kernel_rfl
theorem P0:eH dP 16 [] (.tup [eZ.av, .bool true]):=by
 have b:=Pj Sj (show Sj.length≤1000000 from aD (by kernel_rfl));rw[GW]at b;have j:=Lc;have c:=Iq eZ Gl (fun _=>zW);rw[←Hl,uI]at c;have k:=LQ;have l:eZ.av= .agg [.isl 1 (eZ.vars.map bM), .isl 2 (eZ.arrs.map Ar.row), .isl 5 (eZ.funs.map Fu.row)]:=rfl;have n:D6 (eZ,0,0)= .tup [eZ.av, .int .i64 0, .int .i64 0]:=rfl;rw[n]at b;generalize Sj=y at *;rw[l]at b c⊢;generalize eZ.vars.map bM=t at *;generalize eZ.arrs.map Ar.row=u at *;generalize eZ.funs.map Fu.row=v at *;refine bY 25 [.cell 0 26, .tmp 1] func16 ?_;refine aA fun K a=>?_;simp only[RR,seval];refine aN fun d p=>?_;simp only[RR,seval];refine a _ _ (aA fun K a=>?_);simp only[RR,seval];refine aO (j) ?_;simp only[RR,seval];refine a _ _ (aA fun K a=>?_);simp only[RR,seval];refine aO (b) ?_;simp only[RR,seval];refine aN fun f g=>?_;have i:f≠d:=fun e=>by rw[e]at g;simp only[RR,seval,reduceCtorEq]at g
 have o:=i.symm;simp only[RR,seval];refine a _ _ (aC fun K a=>?_);refine bA (fun x=>x≠d∧x≠f) [(0,0),(1,3),(2,3),(3,3),(4,3),(5,3),(6,3),(7,3),(8,3),(9,1),(10,1),(11,3)] [(12,1),(13,3)] eE (by kernel_rfl) rfl rfl ?_;simp only[dL,fW,i,k,RR,seval];refine aO (c) ?_;simp only[o,RR,seval];apply a;refine aP ?_;simp only[aY,aK,bR,RR,seval];refine aZ.pure ?_;rfl
theorem BJ (o:Int) (h:QF o):eH dP 228 [.int .i64 o] (.str (rH o)):=by
 rcases h with rfl|rfl|rfl|rfl|rfl|rfl|rfl|rfl|rfl|rfl|rfl|rfl|rfl|rfl|rfl|rfl|rfl|rfl|rfl|rfl|rfl|rfl|rfl
 all_goals
  refine bY 31 [.tmp 2] func228 ?_;have b:True:=trivial
  repeat' (first|(refine aC fun K a=>?_;refine aH ?_;simp only[RR,seval];apply a;clear a K)|(refine aI ?_)|(refine aQ ?_)|(refine cM ?_)|(refine bI ?_)|(refine aL ?_;simp only[bK,cL])|(refine aH ?_;simp only[bK,RR,seval])|(refine aP ?_;simp only[bK,cL,aY,aK,bR,RR,seval];refine aZ.pure ?_))
  all_goals rfl
theorem Af (s:dD) (Q:s.length≤100) (c:UInt8):eH dP 229 [.str s, .int .u8 (c.toNat:Int)] (.bool (vU s c)):=by
 have B: ∀{k:Nat} {x:UInt8},s[k]?=some x→x=c→AV.bool true=AV.bool (vU s c):=fun {k x} y z=>by
  have :vU s c=true:=List.any_eq_true.2 ⟨x,aW y,by simp [z]⟩;rw[this]
 have O:=c.toNat_lt;refine bY 17 [.tmp 4] func229 ?_;refine aA fun K a=>?_;simp only[RR,seval];refine a _ _ (aI (aA fun K a=>?_));simp only[RR,seval];refine a _ _ (bQ fun G I f L=>?_);have d:=f 0;have i:=f 1;have u:=f 4;have b:=f 5;simp only[RR,seval]at d i u b;refine aQ (eY [0,1] (s.length) (fun k v M=>v 5= .int .i64 (k:Nat)∧(s.take k).any (fun x=>decide (x=c))=false) ⟨b,rfl⟩ ?_);rintro k p J P ⟨o,l⟩ g H A;have d:=(g 0 rfl).trans d;have i:=(g 1 rfl).trans i;have b:=o;clear o;have t:=bB.refl [0,1] p;clear g;refine aI (aA fun K a=>?_);simp only[d,b,RR,seval];refine a _ _ (aV ?_ ?_)<;>intro j
 ·have n:k<s.length:=by have:=aD j;omega
  clear j;have D:=aF n;have F:s.take (k+1)=s.take k++[s[k]]:=bW n;have C:=B D;generalize s[k]=x at *;have S:=x.toNat_lt;have R:decide ((x.toNat:Int)=(c.toNat:Int))=decide (x=c):=decide_eq_decide.2 ⟨fun e=>UInt8.toNat_inj.1 (by omega),fun e=>by rw[e]⟩;refine aL ?_;simp only[RR];refine aI (aQ (aA fun K a=>?_));simp only[*,RR,seval];refine a _ _ (aV ?_ ?_)<;>intro N
  ·refine aA fun K a=>?_
   simp only[RR,seval];apply a;refine aP ?_;simp only[aY,aK,bR,RR,seval];refine aZ.pure ?_;exact C (by simp_all)
  refine aL ?_;try simp only[RR]
  refine aH ?_;simp only[b,RR,seval];rw[aS _ (by omega)];refine A _ _ n ⟨by rfl,by rw[F,List.any_append,l];simp_all⟩ (by repeat (first|exact t|refine bB.upd rfl ?_))
 have E:k=s.length:=by have:=aE j;omega
 rw[E,dG]at l;refine cG ?_;simp only[RR,seval];refine aA fun K a=>?_;simp only[RR,seval];apply a;refine aP ?_;simp only[aY,aK,bR,RR,seval];refine aZ.pure ?_
 (unfold vU;rw[l])
theorem pM (t:Bool) (n m:Int):eH dP 230 [.bool t, .int .i64 n, .int .i64 m] (.bool (vY t n m)):=by
 cases t
 ·skip
  refine bY 18 [.tmp 6] func230 ?_;refine aA fun K a=>?_;simp only[RR,seval];refine a _ _ (aI (aA fun K a=>?_));simp only[RR,seval];refine a _ _ (cM (aA fun K a=>?_));simp only[RR,seval];apply a;refine aP ?_;simp only[aY,aK,bR,RR,seval];refine aZ.pure ?_;simp [vY]
 skip;by_cases h:0≤n
 ·have b:vY true n m=decide (n≤m):=by simp [vY,h]
  rw[b];refine bY 18 [.tmp 6] func230 ?_;refine aA fun K a=>?_;simp only[RR,seval];refine a _ _ (aI (aA fun K a=>?_));simp only[RR,seval];refine a _ _ (bI ?_);refine aL ?_;simp only[RR];refine aA fun K a=>?_;simp only[h,RR,seval]
  repeat' ((refine cT (fun h=>?_) (fun h=>?_))<;>simp only[h,h,RR,seval])
  all_goals
   apply a;refine aP ?_;simp only[aY,aK,bR,RR,seval];refine aZ.pure ?_;rfl
 have b:vY true n m=false:=by simp [vY,h]
 rw[b];refine bY 18 [.tmp 6] func230 ?_;refine aA fun K a=>?_;simp only[RR,seval];refine a _ _ (aI (aA fun K a=>?_));simp only[RR,seval];refine a _ _ (bI ?_);refine aL ?_;simp only[RR];refine aA fun K a=>?_;simp only[h,RR,seval]
 repeat' ((refine cT (fun h=>?_) (fun h=>?_))<;>simp only[h,h,RR,seval])
 all_goals
  apply a;refine aP ?_;simp only[aY,aK,bR,RR,seval];refine aZ.pure ?_;rfl
theorem K9 (o a b c:Int) (v:QF o) (h:Z7 o a b c=true):eH dP 198 [.agg [.int .i64 o, .int .i64 a, .int .i64 b, .int .i64 c]] (.bool true):=by
 have y:=BJ o v;have j:(rH o).length≤100:=by rcases v with rfl|rfl|rfl|rfl|rfl|rfl|rfl|rfl|rfl|rfl|rfl|rfl|rfl|rfl|rfl|rfl|rfl|rfl|rfl|rfl|rfl|rfl|rfl<;>decide
 have z:decide (rH o=[63])=false:=by rcases v with rfl|rfl|rfl|rfl|rfl|rfl|rfl|rfl|rfl|rfl|rfl|rfl|rfl|rfl|rfl|rfl|rfl|rfl|rfl|rfl|rfl|rfl|rfl<;>decide
 have n:=Af (rH o) j 97;have t:=Af (rH o) j 98;have u:=Af (rH o) j 99;have i:=Af (rH o) j 114;simp only[Z7,aX]at h;obtain⟨⟨F,G⟩,e⟩:=h;generalize vU (rH o) 97=C at *;generalize vU (rH o) 98=D at *;generalize vU (rH o) 99=B at *;generalize vU (rH o) 114=E at *;have k:=pM C a 15;have l:=pM D b 15;rw[F]at k;rw[G]at l;generalize rH o=p at *;clear j v;cases E
 ·cases B
  ·have f:=pM false c 65535
   have e:vY false c 65535=true:=e;rw[e]at f;refine bY 38 [.tmp 2] func198 ?_;refine aA fun K d=>?_;simp only[RR,seval];refine aN fun g A=>?_;simp only[RR,seval];refine d _ _ (aA fun K d=>?_);simp only[RR,seval];refine aO (y) ?_;simp only[RR,seval];refine d _ _ (aA fun K d=>?_);simp only[RR,seval];refine d _ _ (aI (aA fun K d=>?_));simp only[RR,seval];refine aO (i) ?_;simp only[RR,seval];refine d _ _ (bI ?_);refine aL ?_;simp only[RR];refine aC fun K d=>?_;refine bA (fun x=>x≠g) [(0,3),(1,3),(2,3),(3,3),(5,3),(6,0),(4,1),(7,1),(8,3),(9,3),(10,3),(12,3),(13,0),(11,1),(14,1),(15,3),(16,3),(17,3),(23,3),(24,0),(25,3),(18,1),(19,3),(20,3),(21,1),(22,3),(26,1),(27,3),(28,3)] [] eE (by kernel_rfl) rfl rfl ?_;simp only[dL,fW,z,RR,seval]
   all_goals (refine aO (n) ?_;simp only[RR,seval])
   all_goals (refine aO (k) ?_;simp only[RR,seval])
   all_goals (refine aO (t) ?_;simp only[RR,seval])
   all_goals (refine aO (l) ?_;simp only[RR,seval])
   all_goals (refine aO (u) ?_;simp only[RR,seval])
   all_goals (refine aO (i) ?_;simp only[RR,seval])
   all_goals (refine aO (f) ?_;simp only[RR,seval])
   all_goals
    apply d;refine aP ?_;simp only[aY,aK,bR,RR,seval];refine aZ.pure ?_;rfl
  have f:=pM true c 65535;have e:vY true c 65535=true:=e;rw[e]at f;refine bY 38 [.tmp 2] func198 ?_;refine aA fun K d=>?_;simp only[RR,seval];refine aN fun g A=>?_;simp only[RR,seval];refine d _ _ (aA fun K d=>?_);simp only[RR,seval];refine aO (y) ?_;simp only[RR,seval];refine d _ _ (aA fun K d=>?_);simp only[RR,seval];refine d _ _ (aI (aA fun K d=>?_));simp only[RR,seval];refine aO (i) ?_;simp only[RR,seval];refine d _ _ (bI ?_);refine aL ?_;simp only[RR];refine aC fun K d=>?_;refine bA (fun x=>x≠g) [(0,3),(1,3),(2,3),(3,3),(5,3),(6,0),(4,1),(7,1),(8,3),(9,3),(10,3),(12,3),(13,0),(11,1),(14,1),(15,3),(16,3),(17,3),(23,3),(24,0),(25,3),(18,1),(19,3),(20,3),(21,1),(22,3),(26,1),(27,3),(28,3)] [] eE (by kernel_rfl) rfl rfl ?_;simp only[dL,fW,z,RR,seval]
  all_goals (refine aO (n) ?_;simp only[RR,seval])
  all_goals (refine aO (k) ?_;simp only[RR,seval])
  all_goals (refine aO (t) ?_;simp only[RR,seval])
  all_goals (refine aO (l) ?_;simp only[RR,seval])
  all_goals (refine aO (u) ?_;simp only[RR,seval])
  all_goals (refine aO (f) ?_;simp only[RR,seval])
  all_goals
   apply d;refine aP ?_;simp only[aY,aK,bR,RR,seval];refine aZ.pure ?_;rfl
 cases B
 ·have f:=pM true c 15
  have e:vY true c 15=true:=e;rw[e]at f;refine bY 38 [.tmp 2] func198 ?_;refine aA fun K d=>?_;simp only[RR,seval];refine aN fun g A=>?_;simp only[RR,seval];refine d _ _ (aA fun K d=>?_);simp only[RR,seval];refine aO (y) ?_;simp only[RR,seval];refine d _ _ (aA fun K d=>?_);simp only[RR,seval];refine d _ _ (aI (aA fun K d=>?_));simp only[RR,seval];refine aO (i) ?_;simp only[RR,seval];refine d _ _ (cM (aH ?_));simp only[RR,seval];refine aC fun K d=>?_;refine bA (fun x=>x≠g) [(0,3),(1,3),(2,3),(3,3),(5,3),(6,0),(4,1),(7,1),(8,3),(9,3),(10,3),(12,3),(13,0),(11,1),(14,1),(15,3),(16,3),(17,3),(23,3),(24,0),(25,3),(18,1),(19,3),(20,3),(21,1),(22,3),(26,1),(27,3),(28,3)] [] eE (by kernel_rfl) rfl rfl ?_;simp only[dL,fW,z,RR,seval]
  all_goals (refine aO (n) ?_;simp only[RR,seval])
  all_goals (refine aO (k) ?_;simp only[RR,seval])
  all_goals (refine aO (t) ?_;simp only[RR,seval])
  all_goals (refine aO (l) ?_;simp only[RR,seval])
  all_goals (refine aO (u) ?_;simp only[RR,seval])
  all_goals (refine aO (i) ?_;simp only[RR,seval])
  all_goals (refine aO (f) ?_;simp only[RR,seval])
  all_goals
   apply d;refine aP ?_;simp only[aY,aK,bR,RR,seval];refine aZ.pure ?_;rfl
 have f:=pM true c 15;have e:vY true c 15=true:=e;rw[e]at f;refine bY 38 [.tmp 2] func198 ?_;refine aA fun K d=>?_;simp only[RR,seval];refine aN fun g A=>?_;simp only[RR,seval];refine d _ _ (aA fun K d=>?_);simp only[RR,seval];refine aO (y) ?_;simp only[RR,seval];refine d _ _ (aA fun K d=>?_);simp only[RR,seval];refine d _ _ (aI (aA fun K d=>?_));simp only[RR,seval];refine aO (i) ?_;simp only[RR,seval];refine d _ _ (cM (aH ?_));simp only[RR,seval];refine aC fun K d=>?_;refine bA (fun x=>x≠g) [(0,3),(1,3),(2,3),(3,3),(5,3),(6,0),(4,1),(7,1),(8,3),(9,3),(10,3),(12,3),(13,0),(11,1),(14,1),(15,3),(16,3),(17,3),(23,3),(24,0),(25,3),(18,1),(19,3),(20,3),(21,1),(22,3),(26,1),(27,3),(28,3)] [] eE (by kernel_rfl) rfl rfl ?_;simp only[dL,fW,z,RR,seval]
 all_goals (refine aO (n) ?_;simp only[RR,seval])
 all_goals (refine aO (k) ?_;simp only[RR,seval])
 all_goals (refine aO (t) ?_;simp only[RR,seval])
 all_goals (refine aO (l) ?_;simp only[RR,seval])
 all_goals (refine aO (u) ?_;simp only[RR,seval])
 all_goals (refine aO (f) ?_;simp only[RR,seval])
 all_goals
  apply d;refine aP ?_;simp only[aY,aK,bR,RR,seval];refine aZ.pure ?_;rfl
theorem L0 (w:Int) (d:dR w) (h:sR w):eH dP 156 [.int .u32 w] (.tup [.agg (yC w), .int .i64 0]):=by
 have i:=K9 _ _ _ _ h.1 h.2;have b:=d.1;have G:=d.2;have l:w.tdiv 16777216=w/16777216:=Int.tdiv_eq_ediv_of_nonneg b;have n:w.tdiv 1048576=w/1048576:=Int.tdiv_eq_ediv_of_nonneg b;have o:w.tdiv 65536=w/65536:=Int.tdiv_eq_ediv_of_nonneg b;have p:w.tmod 65536=w % 65536:=vV b;have t:(w/1048576).tmod 16=w/1048576 % 16:=vV (by omega);have u:(w/65536).tmod 16=w/65536 % 16:=vV (by omega);have v:IntKind.wrap .u32 (w/16777216)=w/16777216:=dX _ (by omega);have x:IntKind.wrap .u32 (w/1048576)=w/1048576:=dX _ (by omega);have y:IntKind.wrap .u32 (w/65536)=w/65536:=dX _ (by omega);have z:IntKind.wrap .u32 (w % 65536)=w % 65536:=dX _ (by omega);have A:IntKind.wrap .u32 (w/1048576 % 16)=w/1048576 % 16:=dX _ (by omega);have B:IntKind.wrap .u32 (w/65536 % 16)=w/65536 % 16:=dX _ (by omega);have C:IntKind.wrap .i64 (w/16777216)=w/16777216:=aS _ (by omega);have D:IntKind.wrap .i64 (w % 65536)=w % 65536:=aS _ (by omega);have E:IntKind.wrap .i64 (w/1048576 % 16)=w/1048576 % 16:=aS _ (by omega);have F:IntKind.wrap .i64 (w/65536 % 16)=w/65536 % 16:=aS _ (by omega);unfold yC;refine bY 25 [.cell 2 231, .tmp 3] func156 ?_;refine aA fun K a=>?_;simp only[RR,seval];refine aN fun f H=>?_;simp only[RR,seval];refine a _ _ (aA fun K a=>?_);simp only[*,RR,seval];refine aN fun g c=>?_;have k:g≠f:=fun e=>by rw[e]at c;simp only[RR,seval,reduceCtorEq]at c
 have j:=k.symm;simp only[RR,seval];refine a _ _ (aI (aA fun K a=>?_));simp only[RR,seval];refine aO (i) ?_;simp only[RR,seval];refine a _ _ (bI ?_);refine aL ?_;simp only[RR];refine aA fun K a=>?_;simp only[j,RR,seval];apply a;refine aP ?_;simp only[aY,aK,bR,RR,seval];refine aZ.pure ?_;rfl
theorem AE {H:Hp} {bm:Nat} {l:List Int} {b c x:Int} (v:H bm=some (.rows 1 (l.map gI))) (n:l.length=4224) (y:0≤c∧c≤65535) (h:l[(gR (b+c)).toNat]?=some x):oM dP 158 [.osl 1 bm 4224, .int .u32 b, .int .i64 c] H (fun d H'=>d= .ret (.tup [.int .u32 x, .bool true])∧H'=H):=by
 have e:IntKind.wrap .u32 c=c:=dX _ (by omega);have A:(gR (b+c)).toNat<4224:=by rw[←n];exact(bF.1 h).1
 have o:=La (b+c);have z:=G7 h;generalize k:gR (b+c)=at' at *;have f:IntKind.wrap .u32 (b+c)=at':=k;have g:IntKind.wrap .u64 at'=at':=BN _ (by omega);have i:IntKind.wrap .u64 4224=4224:=rfl;have j:decide (4224≤at')=false:=bG (by omega);have p:decide (at'<4224)=true:=cR (by omega);have t:at'<4224:=by omega
 have u:0≤at':=o.1;refine bY 23 [.tmp 6, .tmp 7] func158 ?_;refine aA fun K a=>?_;simp only[RR,seval];refine a _ _ (aA fun K a=>?_);simp only[e,f,RR,seval];refine a _ _ (aI (aA fun K a=>?_));simp only[g,i,j,RR,seval];refine a _ _ (bI ?_);refine aL ?_;simp only[RR];refine aA fun K a=>?_;simp only[*,RR,seval];apply a;refine aP ?_;simp only[aY,aK,bR,RR,seval];exact aZ.run ⟨rfl,rfl⟩
section
variable {W : List Int} {inp : dD} {r bm bc : Nat} {vo : AV} {s : Mc} {en : Int} {H : Hp}
theorem X6 (a:jV W inp r bm bc vo s en H) (x:Int) (i:dR x) (j:0≤s.pc∧s.pc≤1000000):oM dP 157 [.ptr 28 r 0 0, .int .i64 1, .int .u32 x] H (fun d H'=>d= .ret (.tup [])∧jV W inp r bm bc vo {s with pc:=s.pc+1,r1:=x} en H'∧gM r bm bc vo vo H H'):=by
 have g:=a.r;have e:IntKind.wrap .i64 (s.pc+1)=s.pc+1:=aS _ (by omega);refine bY 22 [] func157 ?_;refine aA fun K f=>?_;simp only[g,RR,seval];refine f _ _ (aH ?_);simp only[e,RR,seval];simp only[aY,aK,bR,seval];exact aZ.run ⟨rfl,a.turn (by simp only[bC]) (fun b c=>by simp only[cH _ _ c]) rfl rfl i a.u2 a.rd,gM.turn (fun b c=>by simp only[cH _ _ c])⟩
theorem X5 (a:jV W inp r bm bc vo s en H) (x:Int) (i:dR x) (j:0≤s.pc∧s.pc≤1000000):oM dP 157 [.ptr 28 r 0 0, .int .i64 2, .int .u32 x] H (fun d H'=>d= .ret (.tup [])∧jV W inp r bm bc vo {s with pc:=s.pc+1,r2:=x} en H'∧gM r bm bc vo vo H H'):=by
 have g:=a.r;have e:IntKind.wrap .i64 (s.pc+1)=s.pc+1:=aS _ (by omega);refine bY 22 [] func157 ?_;refine aA fun K f=>?_;simp only[g,RR,seval];refine f _ _ (aH ?_);simp only[e,RR,seval];simp only[aY,aK,bR,seval];exact aZ.run ⟨rfl,a.turn (by simp only[bC]) (fun b c=>by simp only[cH _ _ c]) rfl rfl a.u1 i a.rd,gM.turn (fun b c=>by simp only[cH _ _ c])⟩
theorem X8 (a:jV W inp r bm bc vo s en H) (y:Bool) (p:Int) (i:0≤s.pc∧s.pc≤1000000):oM dP 159 [.ptr 28 r 0 0, .bool y, .int .i64 p] H (fun f H'=>f= .ret (.tup [])∧jV W inp r bm bc vo {s with pc:=if y then p else s.pc+1} en H'∧gM r bm bc vo vo H H'):=by
 have e:=a.r;have g:IntKind.wrap .i64 (s.pc+1)=s.pc+1:=aS _ (by omega);cases y
 ·skip
  refine bY 21 [] func159 ?_;refine aA fun K d=>?_;simp only[RR,seval];refine d _ _ (bI (aH ?_));simp only[e,g,RR,seval];simp only[aY,aK,bR,seval];exact aZ.run ⟨rfl,a.turn (by simp only[bC]) (fun b c=>by simp only[cH _ _ c]) rfl rfl a.u1 a.u2 a.rd,gM.turn (fun b c=>by simp only[cH _ _ c])⟩
 skip;refine bY 21 [] func159 ?_;refine aA fun K d=>?_;simp only[RR,seval];refine d _ _ (cM (aH ?_));simp only[e,RR,seval];simp only[aY,aK,bR,seval];exact aZ.run ⟨rfl,a.turn (by simp only[bC]) (fun b c=>by simp only[cH _ _ c]) rfl rfl a.u1 a.u2 a.rd,gM.turn (fun b c=>by simp only[cH _ _ c])⟩
end
theorem JH (b:Bool):eH dP 201 [.bool b] (.int .u32 (if b=true then 1 else 0)):=by
 cases b
 ·skip
  refine bY 4 [.tmp 2] func201 ?_;refine aA fun K a=>?_;simp only[RR,seval];refine a _ _ (aI (aA fun K a=>?_));simp only[RR,seval];refine a _ _ (bI ?_);refine aL ?_;simp only[RR];refine aA fun K a=>?_;simp only[RR,seval];apply a;refine aP ?_;simp only[aY,aK,bR,RR,seval];refine aZ.pure ?_;rfl
 skip;refine bY 4 [.tmp 2] func201 ?_;refine aA fun K a=>?_;simp only[RR,seval];refine a _ _ (aI (aA fun K a=>?_));simp only[RR,seval];refine a _ _ (cM (aA fun K a=>?_));simp only[RR,seval];apply a;refine aP ?_;simp only[aY,aK,bR,RR,seval];refine aZ.pure ?_;rfl
theorem A0 (a:Nat) (S:a<4294967296):Zv dP 231 [.int .u32 (a:Int)] 1 ((gF 32 a).map qH):=by
 have E:=rC 32 a;refine bY 18 [.tmp 2] func231 ?_;refine aA fun K b=>?_;simp only[RR,seval];refine b _ _ (aA fun K b=>?_);simp only[RR,seval];refine b _ _ (aI (aA fun K b=>?_));simp only[RR,seval];refine b _ _ (bQ fun I L f R=>?_);have e:=f 0;have i:=f 2;have c:=f 3;have d:=f 4;simp only[RR,seval]at e i c d;refine aQ (eY [2] (32) (fun k j M=>j 4= .int .i64 (k:Nat)∧j 0= .int .u32 ((a/2^k:Nat):Int)∧eB 1 (j 3) (((gF 32 a).take k).map qH) M) ⟨d,(by rw[e,Nat.pow_zero,Nat.div_one]), .inl ⟨c,rfl⟩⟩ ?_);rintro k n N U ⟨p,e,g⟩ o J C;have i:=(o 2 rfl).trans i;have d:=p;clear p;have u:=bB.refl [2] n;clear o;obtain⟨X,c⟩: ∃v,n 3=v:=⟨_,rfl⟩;rw[c]at g;refine aI (aA fun K b=>?_);simp only[d,RR,seval];refine b _ _ (aV ?_ ?_)<;>intro l
 ·have t:k<32:=by have:=aD l;omega
  clear l
  have H:(gF 32 a).take (k+1)=(gF 32 a).take k++[a/2^k % 2]:=by
   have z:=pS 32 a k t;obtain⟨A,B⟩:=bF.1 z;rw[bW A,B]
  have W:((gF 32 a).take k).length≤32:=by rw[dV];omega
  have V:a/2^k≤a:=WZ _ _;have F:a/2^(k+1)=a/2^k/2:=by rw[oD,WJ]
  generalize a/2^k=x at *;have P:((x:Int)).tmod 2=((x % 2:Nat):Int):=qB x 2;have y:IntKind.wrap .u32 (((x:Int)).tdiv 2)=((x/2:Nat):Int):=by rw[show((x:Int)).tdiv 2=((x/2:Nat):Int)from zQ x 2,B8 _ (by omega)]
  have Q:IntKind.wrap .i64 ((x % 2:Nat):Int)=((x % 2:Nat):Int):=aS _ (by omega);refine aL ?_;simp only[RR];refine aI (aQ (aA fun K b=>?_));simp only[*,RR,seval];refine dO ?_;simp only[RR,seval];refine jU g (by simp only[aG,aM,aU];omega) (fun _=>trivial) fun Y O G T=>?_;simp only[RR,seval];refine b _ _ (aH ?_);simp only[e,y,RR,seval];refine aH ?_;simp only[d,RR,seval];rw[aS _ (by omega)];refine C _ _ t ⟨by rfl,(by rw[F];rfl),(by rw[H,cO,List.map_singleton];exact G)⟩ (by repeat (first|exact u|refine bB.upd rfl ?_))
 have D:k=32:=by have:=aE l;omega
 rw[D,sH (pV E)]at g;refine cG ?_;simp only[RR,seval];refine aA fun K b=>?_;simp only[c,RR,seval];apply b;refine aP ?_;simp only[aY,aK,bR,RR,seval];exact Zv.gives g
theorem MX (n:Nat) (o:n<4294967296):eH dP 232 [.isl 1 ((gF 32 n).map qH)] (.int .u32 (n:Int)):=by
 have C:=rC 32 n;refine bY 23 [.tmp 2] func232 ?_;refine aA fun K a=>?_;simp only[RR,seval];refine a _ _ (aA fun K a=>?_);simp only[RR,seval];refine a _ _ (aI (aA fun K a=>?_));simp only[aG,C,RR,seval];refine a _ _ (bQ fun F H d O=>?_);have f:=d 0;have g:=d 2;have b:=d 3;have c:=d 4;simp only[RR,seval]at f g b c;refine aQ ?_;refine iQ [0,2] (32) (fun k l M=>k≤32∧l 4= .int .i64 ((k:Int)- 1)∧l 3= .int .u64 ((n/2^k:Nat):Int)) ⟨bH _,c,(by rw[b,Nat.div_eq_of_lt (by omega)];rfl)⟩ ?_;rintro k p I ⟨Q,c,b⟩ e G A;have f:=(e 0 rfl).trans f;have g:=(e 2 rfl).trans g;have t:=bB.refl [0,2] p;clear e;refine aI (aA fun K a=>?_);simp only[c,RR,seval];refine a _ _ (aV ?_ ?_)<;>intro i
 ·have j:=i;clear i
  obtain⟨m,rfl⟩: ∃m,k=m+1:=⟨k- 1,by have:=aD j;omega⟩;have P:=Xa (pS 32 n m (by omega));have R:n/2^m≤n:=WZ _ _;have D:n/2^(m+1)=n/2^m/2:=by rw[oD,WJ]
  rw[D]at b;generalize E:n/2^m=x at *;have u:((m+1:Nat):Int)- 1=(m:Int):=by omega
  rw[u]at c;have J:IntKind.wrap .u64 (2 *((x/2:Nat):Int))=((2 *(x/2):Nat):Int):=by rw[show 2 *((x/2:Nat):Int)=((2 *(x/2):Nat):Int)by omega,N1 _ (by omega)]
  have L:IntKind.wrap .u64 ((x % 2:Nat):Int)=((x % 2:Nat):Int):=N1 _ (by omega);have N:IntKind.wrap .u64 (((2 *(x/2):Nat):Int)+((x % 2:Nat):Int))=(x:Int):=by rw[show((2 *(x/2):Nat):Int)+((x % 2:Nat):Int)=(x:Int)by omega,N1 _ (by omega)]
  have v:IntKind.wrap .i64 ((m:Int)- 1)=(m:Int)- 1:=aS _ (by omega);have S:(m:Int)<32:=by omega
  refine aL ?_;simp only[RR];refine aI (aQ (aH ?_));simp only[*,RR,seval];refine aH ?_;simp only[c,v,RR,seval];refine A (m) _ _ (by omega) ⟨(by omega),rfl,(by rw[E];rfl)⟩ (by repeat (first|exact t|refine bB.upd rfl ?_))
 have j:=i;have B:k=0:=by have:=aE j;omega
 subst B;rw[Nat.pow_zero,Nat.div_one]at b;have y:((n:Int)).tmod 4294967296=(n:Int):=by rw[show((n:Int)).tmod 4294967296=((n % 4294967296:Nat):Int)from qB n 4294967296,Nat.mod_eq_of_lt o]
 have z:=B8 n o;refine cG ?_;simp only[RR,seval];refine aA fun K a=>?_;simp only[b,y,z,RR,seval];apply a;refine aP ?_;simp only[aY,aK,bR,RR,seval];refine aZ.pure ?_;rfl
theorem Z4 (op:Int) (a b:Nat) (ha:a<4294967296) (hb:b<4294967296):eH dP 199 [.int .i64 op, .int .u32 (a:Int), .int .u32 (b:Int)] (.int .u32 ((yN op a b:Nat):Int)):=by
 have hO:=MX _ (KC op a b);have a2:gF 32 (yN op a b)=List.zipWith (pG op) (gF 32 a) (gF 32 b):=(Yw op 32 a b).symm;rw[a2]at hO;have O:=A0 b hb;have hA:=A0 a ha;have H:=rC 32 a;have a6:=rC 32 b;have a7:(List.zipWith (pG op) (gF 32 a) (gF 32 b)).length=32:=by rw[List.length_zipWith,H,a6];rfl
 generalize hZ:List.zipWith (pG op) (gF 32 a) (gF 32 b)=Z at *;generalize yN op a b=w at *;have a1:=fun k E=>BX op a b k E;rw[hZ]at a1;clear hZ a2;have O:=O.pure;have b1:=fun k (E:k<32)=>pS 32 a k E;have b2:=fun k (E:k<32)=>Xa (pS 32 b k E);generalize gF 32 a=A at *;generalize gF 32 b=B at *;refine bY 50 [.tmp 6] func199 ?_;refine aA fun K c=>?_;simp only[RR,seval];apply c;clear c K;refine aA fun K c=>?_;simp only[RR,seval];refine KG (hA) fun c2 M1 b8 c3 c5=>?_;simp only[RR,seval];refine aO (O) ?_;simp only[RR,seval];apply c;clear c K;refine aI ?_
 obtain⟨i,b9,f⟩: ∃i,c2= .osl 1 i 32∧M1 i=some (.rows 1 (A.map qH)):=by
  rcases b8 with⟨_,N⟩|⟨i,Y,N⟩
  ·have:=congrArg List.length N
   rw[aG,H]at this;cases this
  rw[aG,H]at Y;exact⟨i,Y,N⟩
 subst b9;refine aA fun K c=>?_;simp only[RR,seval];apply c;clear c K;refine bQ fun F2 M2 d p=>?_;have C:=d 0;have j:=d 6;have e:=d 7;have D:=d 8;have g:=d 9;have o:=p i;simp only[f,RR,seval]at C j e D g o;have f:=o;clear o;clear d p;refine aQ ?_;refine eY [0,6,7,8] (32) (fun k fr M=>fr 9= .int .i64 (k:Nat)∧M i=some (.rows 1 ((Z.take k++A.drop k).map qH))) ⟨g,(by rw[gD,dN,cC];exact f)⟩ ?_;rintro k F3 M3 c4 ⟨X,f⟩ z K0 a0;have C:=(z 0 rfl).trans C;have j:=(z 6 rfl).trans j;have e:=(z 7 rfl).trans e;have D:=(z 8 rfl).trans D;have g:=X;clear X;have V:=bB.refl [0,6,7,8] F3;clear z;refine aI ?_;refine aA fun K c=>?_;simp only[g,RR,seval];apply c;clear c K;refine aV ?_ ?_<;>intro G
 ·have F:k<32:=by have:=aD G;omega
  clear G;have a5:=b1 k F;have S:=b2 k F;have U:=a1 k F;have c0:a/2^k % 2<2:=sF _ (by decide);have c1:b/2^k % 2<2:=sF _ (by decide);generalize a/2^k % 2=x at a5 U c0;generalize b/2^k % 2=y at S U c1;obtain⟨q1,q2⟩:=bF.1 a5;have b0:A.drop k=x::A.drop (k+1):=by rw[bJ q1,q2]
  have b6:Z.take (k+1)=Z.take k++[pG op x y]:=by
   obtain⟨q3,q4⟩:=bF.1 U;rw[bW q3,q4]
  have T: ∀(u v:List AV),((Z.take k).map qH++u::(A.drop (k+1)).map qH).set k v=(Z.take k).map qH++v::(A.drop (k+1)).map qH:=fun u v=>by
   have:=List.set_append_right (s:=(Z.take k).map qH) (t:=u::(A.drop (k+1)).map qH) k v (by rw[aG,dV];omega);rw[this,show k-((Z.take k).map qH).length=0 by rw[aG,dV];omega];rfl
  have R: ∀(u:List AV),((Z.take k).map qH++u::(A.drop (k+1)).map qH)[k]?=some u:=fun u=>by
   rw[gZ (by rw[aG,dV];omega),show k-((Z.take k).map qH).length=0 by rw[aG,dV];omega];rfl
  have hR:(Z.take k++A.drop k).map qH=(Z.take k).map qH++[.int .i64 (x:Int)]::(A.drop (k+1)).map qH:=by rw[b0,cO,cU];rfl
  have hn:(Z.take (k+1)++A.drop (k+1)).map qH=(Z.take k).map qH++[.int .i64 ((pG op x y:Nat):Int)]::(A.drop (k+1)).map qH:=by rw[b6,cO,cO,bT];rfl
  rw[hR]at f;have Q:=R [.int .i64 (x:Int)];have a4:=R [.int .i64 0];have a8:=T [.int .i64 (x:Int)] [.int .i64 0];have a9:=T [.int .i64 0] [.int .i64 1];generalize(Z.take k).map qH=ZT at *;generalize(A.drop (k+1)).map qH=AT at *;have L:(k:Int)<32:=by omega
  clear T R hR;have P:pG op x y=if(x+y=2∧op≠11)∨(x+y=1∧op≠9)then 1 else 0:=rfl
  obtain⟨s,hs⟩: ∃s,s=x+y:=⟨_,rfl⟩;have W:IntKind.wrap .i64 ((x:Int)+(y:Int))=(s:Int):=by rw[aS _ (by omega)];omega
  rw[←hs]at P;generalize pG op x y=w at *;have b5:s=0∨s=1∨s=2:=by omega
  clear hs;by_cases J:op=9<;>by_cases I:op=11<;>rcases b5 with rfl|rfl|rfl
  all_goals
   refine aL ?_;simp only[RR];refine aI ?_;refine aQ ?_;refine aC fun K c=>?_;refine bA (fun x=>x≠i) [(0,3),(1,3),(2,3),(3,1),(4,3),(5,3),(6,3),(7,1),(8,3),(9,3)] [] eE (by kernel_rfl) rfl rfl ?_;simp only[dL,e,D,g,f,S,Q,L,W,RR,seval];apply c;clear c K;refine aA fun K c=>?_;simp only[e,g,f,Q,a8,L,RR,seval];apply c;clear c K;refine aA fun K c=>?_;simp only[C,J,I,RR,seval]
   repeat' ((refine cT (fun h=>?_) (fun h=>?_))<;>simp only[h,C,j,e,D,g,f,aG,a6,S,Q,a4,a8,a9,L,W,J,I,RR,seval])
   all_goals
    apply c;clear c K;refine aV ?_ ?_<;>intro a3
    ·try (cases a3;done)
     all_goals
      refine aH ?_;simp only[e,g,a4,a9,L,RR,seval];refine aH ?_;simp only[g,RR,seval];rw[aS _ (by omega)];refine a0 _ _ F ⟨by rfl, ?_⟩ (by repeat (first|exact V|refine bB.upd rfl ?_));rw[hn,P]
      first|subst J|subst I|skip
      simp_all [upd]
    try (cases a3;done)
    all_goals
     refine aL ?_;simp only[RR];refine aH ?_;simp only[g,RR,seval];rw[aS _ (by omega)];refine a0 _ _ F ⟨by rfl, ?_⟩ (by repeat (first|exact V|refine bB.upd rfl ?_));rw[hn,P]
     first|subst J|subst I|skip
     simp_all [upd]
 have b3:k=32:=by have:=aE G;omega
 clear G;rw[b3,sH (pV a7),List.drop_of_length_le (pV H),dQ]at f;have b4:(Z.map qH).length=32:=by rw[aG,a7]
 refine cG ?_;simp only[RR,seval];refine bQ fun F4 M4 d p=>?_;have l:=d 6;have n:=d 7;have o:=p i;simp only[j,e,f,RR,seval]at l n o;have j:=l;clear l;have e:=n;clear n;have f:=o;clear o;clear d p;refine oC f ?_;refine bQ fun F5 M5 d p=>?_;have l:=d 6;have n:=d 7;simp only[xQ,Gp,and_self,b4,j,e,seval]at l n;have j:=l;clear l;have e:=n;clear n;clear d p;refine aA fun K c=>?_;simp only[e,RR,seval];refine aO (hO) ?_;simp only[RR,seval];apply c;clear c K;refine aP ?_;simp only[aY,aK,bR,RR,seval];refine aZ.pure ?_;rfl
theorem LL (n:Int):IntKind.wrap .u32 n=n % 4294967296:=by simp [IntKind.wrap,IntKind.signed,IntKind.bits]
theorem GG (x y:Nat) (a:y<4294967296):((x:Int)-y) % 4294967296=(((x+4294967296 -y) % 4294967296:Nat):Int):=by omega
theorem IU (a b:Nat) (E:a<4294967296) (P:b<4294967296):eH dP 200 [.int .i64 12, .int .u32 (a:Int), .int .u32 (b:Int)] (.int .u32 (if 31<(b:Int)then 0 else IntKind.wrap .u32 ((a:Int) *2^(min ((b:Int)).toNat 32)))):=by
 by_cases h:31<(b:Int)
 ·rw[bD h]
  have z:(32:Int)≤(b:Int):=by omega
  refine bY 27 [.tmp 6] func200 ?_;refine aA fun K c=>?_;simp only[RR,seval];refine c _ _ (aI (aA fun K c=>?_));simp only[z,RR,seval];refine c _ _ (cM (aA fun K c=>?_));simp only[RR,seval];apply c;refine aP ?_;simp only[aY,aK,bR,RR,seval];refine aZ.pure ?_;rfl
 rw[aJ h];have z: ¬(32:Int)≤(b:Int):=by omega
 have H:IntKind.wrap .u32 ((a:Int) *2^(min ((b:Int)).toNat 32))=((a *2^b % 4294967296:Nat):Int):=by
  rw[cB,Nat.min_eq_left (by omega)];rw[LL,Int.natCast_emod,Int.natCast_mul,Int.natCast_pow];rfl
 rw[H];have v:=N1 a (by omega);refine bY 27 [.tmp 6] func200 ?_;refine aA fun K c=>?_;simp only[RR,seval];refine c _ _ (aI (aA fun K c=>?_));simp only[z,RR,seval];refine c _ _ (bI ?_);refine aL ?_;simp only[RR];refine aA fun K c=>?_;simp only[v,RR,seval];refine c _ _ (aI (aA fun K c=>?_));simp only[RR,seval];refine c _ _ (bQ fun I L f O=>?_);have i:=f 0;have k:=f 2;have l:=f 6;have d:=f 7;have e:=f 8;simp only[RR,seval]at i k l d e;refine aQ (iQ [0,2,6] (b) (fun m o M=>m≤b∧o 8= .int .u32 ((b-m:Nat):Int)∧o 7= .int .u64 ((a *2^(b-m) % 4294967296:Nat):Int)) ⟨bH _,(by rw[e,Gf];rfl),(by rw[d,Gf,Nat.pow_zero,nH,Nat.mod_eq_of_lt E])⟩ ?_);rintro m t N ⟨Q,e,d⟩ g J D;have i:=(g 0 rfl).trans i;have k:=(g 2 rfl).trans k;have l:=(g 6 rfl).trans l;have u:=bB.refl [0,2,6] t;clear g;refine aI (aA fun K c=>?_);simp only[k,e,RR,seval];refine c _ _ (aV ?_ ?_)<;>intro p
 ·have n:=p
  obtain⟨j,rfl⟩: ∃j,m=j+1:=⟨m- 1,by have:=aD n;omega⟩
  have G:a *2^(b-j) % 4294967296=2 *(a *2^(b-(j+1)) % 4294967296) % 4294967296:=by
   rw[show b-j=b-(j+1)+1 by omega,oD,←Nat.mul_assoc];omega
  have R:a *2^(b-(j+1)) % 4294967296<4294967296:=sF _ (by decide);generalize a *2^(b-(j+1)) % 4294967296=x at *;have y:IntKind.wrap .u64 (2 *(x:Int))=((2 *x:Nat):Int):=by rw[show 2 *(x:Int)=((2 *x:Nat):Int)by omega,N1 _ (by omega)]
  have A:((2 *x:Nat):Int).tmod 4294967296=((2 *x % 4294967296:Nat):Int):=qB _ _;have B:IntKind.wrap .u32 (((b-(j+1):Nat):Int)+1)=((b-j:Nat):Int):=by rw[show((b-(j+1):Nat):Int)+1=((b-j:Nat):Int)by omega,B8 _ (by omega)]
  refine aL ?_;simp only[RR];refine aI (aQ (aA fun K c=>?_));simp only[i,RR,seval];refine c _ _ (cM (aH ?_));simp only[d,y,A,RR,seval];refine aH ?_;simp only[e,B,RR,seval];refine D (j) _ _ (by omega) ⟨(by omega),rfl,(by rw[G];rfl)⟩ (by repeat (first|exact u|refine bB.upd rfl ?_))
 have n:=p;have F:m=0:=by have:=aE n;omega
 subst F;rw[Nat.sub_zero]at d;have C:=B8 _ (show a *2^b % 4294967296<4294967296 from sF _ (by decide));refine cG ?_;simp only[RR,seval];refine aA fun K c=>?_;simp only[d,C,RR,seval];apply c;refine aP ?_;simp only[aY,aK,bR,RR,seval];refine aZ.pure ?_;rfl
theorem IT (a b:Nat) (D:a<4294967296) (O:b<4294967296):eH dP 200 [.int .i64 13, .int .u32 (a:Int), .int .u32 (b:Int)] (.int .u32 (if 31<(b:Int)then 0 else((a:Int)).fdiv (2^(min ((b:Int)).toNat 32)))):=by
 by_cases h:31<(b:Int)
 ·rw[bD h]
  have z:(32:Int)≤(b:Int):=by omega
  refine bY 27 [.tmp 6] func200 ?_;refine aA fun K c=>?_;simp only[RR,seval];refine c _ _ (aI (aA fun K c=>?_));simp only[z,RR,seval];refine c _ _ (cM (aA fun K c=>?_));simp only[RR,seval];apply c;refine aP ?_;simp only[aY,aK,bR,RR,seval];refine aZ.pure ?_;rfl
 rw[aJ h];have z: ¬(32:Int)≤(b:Int):=by omega
 have G:((a:Int)).fdiv (2^(min ((b:Int)).toNat 32))=((a/2^b:Nat):Int):=by
  rw[cB,Nat.min_eq_left (by omega),pA _ (Int.pow_nonneg (by decide))];rw[Int.natCast_ediv,Int.natCast_pow];rfl
 rw[G];have v:=N1 a (by omega);refine bY 27 [.tmp 6] func200 ?_;refine aA fun K c=>?_;simp only[RR,seval];refine c _ _ (aI (aA fun K c=>?_));simp only[z,RR,seval];refine c _ _ (bI ?_);refine aL ?_;simp only[RR];refine aA fun K c=>?_;simp only[v,RR,seval];refine c _ _ (aI (aA fun K c=>?_));simp only[RR,seval];refine c _ _ (bQ fun H J f N=>?_);have i:=f 0;have k:=f 2;have l:=f 6;have d:=f 7;have e:=f 8;simp only[RR,seval]at i k l d e;refine aQ (iQ [0,2,6] (b) (fun m o M=>m≤b∧o 8= .int .u32 ((b-m:Nat):Int)∧o 7= .int .u64 ((a/2^(b-m):Nat):Int)) ⟨bH _,(by rw[e,Gf];rfl),(by rw[d,Gf,Nat.pow_zero,Nat.div_one])⟩ ?_);rintro m t L ⟨P,e,d⟩ g I C;have i:=(g 0 rfl).trans i;have k:=(g 2 rfl).trans k;have l:=(g 6 rfl).trans l;have u:=bB.refl [0,2,6] t;clear g;refine aI (aA fun K c=>?_);simp only[k,e,RR,seval];refine c _ _ (aV ?_ ?_)<;>intro p
 ·have n:=p
  obtain⟨j,rfl⟩: ∃j,m=j+1:=⟨m- 1,by have:=aD n;omega⟩
  have F:a/2^(b-j)=a/2^(b-(j+1))/2:=by
   rw[show b-j=b-(j+1)+1 by omega,oD,WJ]
  have Q:a/2^(b-(j+1))≤a:=WZ _ _;generalize a/2^(b-(j+1))=x at *;have y:IntKind.wrap .u64 (((x:Int)).tdiv 2)=((x/2:Nat):Int):=by rw[show((x:Int)).tdiv 2=((x/2:Nat):Int)from zQ x 2,N1 _ (by omega)]
  have A:IntKind.wrap .u32 (((b-(j+1):Nat):Int)+1)=((b-j:Nat):Int):=by rw[show((b-(j+1):Nat):Int)+1=((b-j:Nat):Int)by omega,B8 _ (by omega)]
  refine aL ?_;simp only[RR];refine aI (aQ (aA fun K c=>?_));simp only[i,RR,seval];refine c _ _ (bI (aH ?_));simp only[d,y,RR,seval];refine aH ?_;simp only[e,A,RR,seval];refine C (j) _ _ (by omega) ⟨(by omega),rfl,(by rw[F];rfl)⟩ (by repeat (first|exact u|refine bB.upd rfl ?_))
 have n:=p;have E:m=0:=by have:=aE n;omega
 subst E;rw[Nat.sub_zero]at d;have B:=B8 (a/2^b) (Nat.lt_of_le_of_lt (WZ _ _) D);refine cG ?_;simp only[RR,seval];refine aA fun K c=>?_;simp only[d,B,RR,seval];apply c;refine aP ?_;simp only[aY,aK,bR,RR,seval];refine aZ.pure ?_;rfl
theorem Lp (op:Int) {a b:Int} (t:dR a) (u:dR b):eH dP 160 [.int .i64 op, .int .u32 a, .int .u32 b] (.tup [.int .u32 (eQ op a b).1, .int .i64 (eQ op a b).2]):=by
 obtain⟨x,rfl⟩:=hI t.1;obtain⟨y,rfl⟩:=hI u.1;have l:x<4294967296:=by have:=t.2;omega
 have j:y<4294967296:=by have:=u.2;omega
 have g:=N1 x (by omega);have k:=N1 y (by omega);by_cases h:op=4∨op=5∨op=6∨op=7∨op=8∨op=9∨op=10∨op=11∨op=12∨op=13∨op=14∨op=15
 ·have p:=Z4 op x y l j
  have X:=IU x y l j;have Y:=IT x y l j;have v:=fun c=>JH c;have s4:IntKind.wrap .u64 ((x:Int)+(y:Int))=((x+y:Nat):Int):=by rw[show(x:Int)+(y:Int)=((x+y:Nat):Int)by omega,N1 _ (by omega)]
  have r4:((x+y:Nat):Int).tmod 4294967296=(((x+y) % 4294967296:Nat):Int):=qB _ _;have t4:=B8 ((x+y) % 4294967296) (sF _ (by decide));have u5:IntKind.wrap .u64 ((x:Int)+4294967296)=((x+4294967296:Nat):Int):=by rw[show(x:Int)+4294967296=((x+4294967296:Nat):Int)by omega,N1 _ (by omega)]
  have s5:IntKind.wrap .u64 (((x+4294967296:Nat):Int)-(y:Int))=((x+4294967296 -y:Nat):Int):=by rw[show((x+4294967296:Nat):Int)-(y:Int)=((x+4294967296 -y:Nat):Int)by omega,N1 _ (by omega)]
  have r5:((x+4294967296 -y:Nat):Int).tmod 4294967296=(((x+4294967296 -y) % 4294967296:Nat):Int):=qB _ _;have t5:=B8 ((x+4294967296 -y) % 4294967296) (sF _ (by decide))
  have Z:x *y<18446744073709551616:=by
   have h1:x *y≤4294967295 *4294967295:=Nat.mul_le_mul (by omega) (by omega);omega
  have s6:IntKind.wrap .u64 ((x:Int) *(y:Int))=((x *y:Nat):Int):=by rw[show(x:Int) *(y:Int)=((x *y:Nat):Int)by rw[Int.natCast_mul],N1 _ Z]
  have r6:((x *y:Nat):Int).tmod 4294967296=(((x *y) % 4294967296:Nat):Int):=qB _ _;have t6:=B8 ((x *y) % 4294967296) (sF _ (by decide));have a0:x/y≤x:=WZ _ _;have s7:IntKind.wrap .u64 (((x:Int)).tdiv (y:Int))=((x/y:Nat):Int):=by rw[zQ,N1 _ (by omega)]
  have M:=B8 (x/y) (by omega);have a1:x % y≤x:=Nat.mod_le _ _;have s8:((x:Int)).tmod (y:Int)=((x % y:Nat):Int):=qB x y;have t8:=B8 (x % y) (by omega);have N:y=0∨ ∃q,(y:Int)≠0∧q=y:=by by_cases h:y=0;exact .inl h;exact .inr ⟨y,by omega,rfl⟩
  have S:eQ 4 x y=((((x+y) % 4294967296:Nat):Int),0):=by
   show(IntKind.wrap .u32 ((x:Int)+y),(0:Int))=_;rw[LL,show((x:Int)+y) % 4294967296=(((x+y) % 4294967296:Nat):Int)from(Int.natCast_emod (x+y) 4294967296).symm]
  have T:eQ 5 x y=((((x+4294967296 -y) % 4294967296:Nat):Int),0):=by
   show(IntKind.wrap .u32 ((x:Int)-y),(0:Int))=_;rw[LL,GG x y j]
  have U:eQ 6 x y=((((x *y) % 4294967296:Nat):Int),0):=by
   show(IntKind.wrap .u32 ((x:Int) *y),(0:Int))=_;rw[LL,show((x:Int) *y) % 4294967296=(((x *y) % 4294967296:Nat):Int)from by rw[←Int.natCast_mul];omega]
  have V:(y:Int)≠0→eQ 7 x y=(((x/y:Nat):Int),0):=fun h=>by
   show(if(y:Int)=0 then((0:Int),(14:Int))else(IntKind.wrap .u32 (((x:Int)).tdiv (y:Int)),0))=_;rw[aJ h,zQ,M]
  have W:(y:Int)≠0→eQ 8 x y=(((x % y:Nat):Int),0):=fun h=>by
   show(if(y:Int)=0 then((0:Int),(14:Int))else(((x:Int)).tmod (y:Int),0))=_;rw[aJ h,qB]
  have n:op=9∨op=10∨op=11→eQ op x y=(((yN op x y:Nat):Int),(0:Int)):=fun h=>Yt op h x y l j
  have O:eQ 12 x y=(if 31<(y:Int)then 0 else IntKind.wrap .u32 ((x:Int) *2^(min ((y:Int)).toNat 32)),0):=by
   show(if 31<(y:Int)then((0:Int),(0:Int))else(IntKind.wrap .u32 ((x:Int) *2^(min ((y:Int)).toNat 32)),0))=_;by_cases h:31<(y:Int)<;>simp only[h,cQ,dC]
  have P:eQ 13 x y=(if 31<(y:Int)then 0 else((x:Int)).fdiv (2^(min ((y:Int)).toNat 32)),0):=by
   show(if 31<(y:Int)then((0:Int),(0:Int))else(((x:Int)).fdiv (2^(min ((y:Int)).toNat 32)),0))=_;by_cases h:31<(y:Int)<;>simp only[h,cQ,dC]
  have Q:eQ 14 x y=(if decide ((x:Int)<(y:Int))=true then 1 else 0,0):=by simp [eQ]
  have R:eQ 15 x y=(if decide ((x:Int)=(y:Int))=true then 1 else 0,0):=by simp [eQ]
  rcases h with rfl|rfl|rfl|rfl|rfl|rfl|rfl|rfl|rfl|rfl|rfl|rfl
  all_goals first|rw[S]|rw[T]|rw[U]|(rw[n (.inl rfl)];have f:=p)|(rw[n (.inr (.inl rfl))];have f:=p)|(rw[n (.inr (.inr rfl))];have f:=p)|(rw[O];have f:=X)|(rw[P];have f:=Y)|(rw[Q];have f:=v (decide ((x:Int)<(y:Int))))|(rw[R];have f:=v (decide ((x:Int)=(y:Int))))|skip
  case inr.inr.inr.inl=>
   rcases N with rfl|⟨_,i,_⟩
   ·rw[show eQ 7 x ((0:Nat):Int)=(0,14)from rfl]
    refine bY 80 [.tmp 6, .tmp 7] func160 ?_
    repeat' (first|(refine aC fun K d=>?_;refine aH ?_;simp only[g,RR,seval];apply d;clear d K)|(refine aI ?_)|(refine aQ ?_)|(refine cM ?_)|(refine bI ?_)|(refine aP ?_;simp only[bK,cL,aY,aK,bR,RR,seval];refine aZ.pure ?_))
    all_goals rfl
   rw[V i];have o: ¬(y:Int)=0:=i;refine bY 80 [.tmp 6, .tmp 7] func160 ?_
   repeat' (first|(refine aC fun K d=>?_;refine aH ?_;simp only[g,k,s7,M,o,RR,seval];apply d;clear d K)|(refine aI ?_)|(refine aQ ?_)|(refine cM ?_)|(refine bI ?_)|(refine aL ?_;simp only[bK])|(refine aP ?_;simp only[bK,cL,aY,aK,bR,RR,seval];refine aZ.pure ?_))
   all_goals rfl
  case inr.inr.inr.inr.inl=>
   rcases N with rfl|⟨_,i,_⟩
   ·rw[show eQ 8 x ((0:Nat):Int)=(0,14)from rfl]
    refine bY 80 [.tmp 6, .tmp 7] func160 ?_
    repeat' (first|(refine aC fun K d=>?_;refine aH ?_;simp only[g,RR,seval];apply d;clear d K)|(refine aI ?_)|(refine aQ ?_)|(refine cM ?_)|(refine bI ?_)|(refine aP ?_;simp only[bK,cL,aY,aK,bR,RR,seval];refine aZ.pure ?_))
    all_goals rfl
   rw[W i];have o: ¬(y:Int)=0:=i;refine bY 80 [.tmp 6, .tmp 7] func160 ?_
   repeat' (first|(refine aC fun K d=>?_;refine aH ?_;simp only[g,k,s8,t8,o,RR,seval];apply d;clear d K)|(refine aI ?_)|(refine aQ ?_)|(refine cM ?_)|(refine bI ?_)|(refine aL ?_;simp only[bK])|(refine aP ?_;simp only[bK,cL,aY,aK,bR,RR,seval];refine aZ.pure ?_))
   all_goals rfl
  all_goals
   refine bY 80 [.tmp 6, .tmp 7] func160 ?_
   repeat' (first|(refine aC fun K d=>?_;refine aH ?_;simp only[g,k,s4,r4,t4,u5,s5,r5,t5,s6,r6,t6,RR,seval];apply d;clear d K)|(refine aI ?_)|(refine aQ ?_)|(refine cM ?_)|(refine bI ?_)|(refine aL ?_;simp only[bK])|(refine aH ?_;simp only[bK,RR,seval])|(refine aP ?_;simp only[bK,cL,aY,aK,bR,RR,seval];refine aZ.pure ?_)|(refine aO (f) ?_;simp only[bK,RR,seval]))
   all_goals rfl
 have F: ¬op=4:=fun e=>h (by simp [e]);have G: ¬op=5:=fun e=>h (by simp [e]);have H: ¬op=6:=fun e=>h (by simp [e]);have I: ¬op=7:=fun e=>h (by simp [e]);have J: ¬op=8:=fun e=>h (by simp [e]);have L: ¬op=9:=fun e=>h (by simp [e]);have z: ¬op=10:=fun e=>h (by simp [e]);have A: ¬op=11:=fun e=>h (by simp [e]);have B: ¬op=12:=fun e=>h (by simp [e]);have C: ¬op=13:=fun e=>h (by simp [e]);have D: ¬op=14:=fun e=>h (by simp [e]);have E: ¬op=15:=fun e=>h (by simp [e]);have e:eQ op x y=(0,1):=by simp [eQ,F,G,H,I,J,L,z,A,B,C,D,E]
 rw[e];refine bY 80 [.tmp 6, .tmp 7] func160 ?_
 repeat' (first|(refine aC fun K d=>?_;refine aH ?_;simp only[g,k,F,G,H,I,J,L,z,B,D,E,RR,seval];apply d;clear d K)|(refine aI ?_)|(refine aQ ?_)|(refine bI ?_)|(refine aL ?_;simp only[bK,cL])|(refine aH ?_;simp only[A,C,bK,RR,seval])|(refine aP ?_;simp only[aY,aK,bR,RR,seval];refine aZ.pure ?_))
 all_goals rfl
section
variable {W : List Int} {inp : dD} {r bm bc : Nat} {vo : AV} {s s' : Mc} {e en : Int} {H : Hp}
theorem rK {a x:Int} (j:jV W inp r bm bc vo s.stp en H) (l:dR x) (h:s.set a x=some (e,s')) (k:0≤s.pc∧s.pc≤1000000):oM dP 157 [.ptr 28 r 0 0, .int .i64 a, .int .u32 x] H (fun b H'=>b= .ret (.tup [])∧jV W inp r bm bc vo s' en H'∧gM r bm bc vo vo H H'∧e=0):=by
 unfold Mc.set at h;by_cases g:a=1
 ·subst g
  rw[bD rfl]at h;simp only[Option.some.injEq,Prod.mk.injEq]at h;obtain⟨rfl,rfl⟩:=h;exact oM.mono (X6 j x l k) fun b H' ⟨c,d,f⟩=>⟨c,d,f,rfl⟩
 rw[aJ g]at h;by_cases i:a=2
 ·subst i
  rw[bD rfl]at h;simp only[Option.some.injEq,Prod.mk.injEq]at h;obtain⟨rfl,rfl⟩:=h;exact oM.mono (X5 j x l k) fun b H' ⟨c,d,f⟩=>⟨c,d,f,rfl⟩
 rw[aJ i]at h;cases h
theorem SC {W:List Int} {p:Nat} {w:Int} (h:W[p]?=some w):p<W.length:=(bF.1 h).1
theorem X4 (hM:jV W inp r bm bc vo s 0 H) (l0:W.length≤20000) (i7: ∀w∈W,dR w∧sR w) (hst:s.st≤1000000000000) (l2:inp.length≤2000000) (f:nC W inp s=some (e,s')):oM dP 106 [.ptr 28 r 0 0] H (fun U H'=>U= .ret (.tup [])∧ ∃vo',jV W inp r bm bc vo' s' e H'∧gM r bm bc vo vo' H H'):=by
 unfold nC at f;by_cases h0:s.pc<0
 ·rw[bD h0]at f;cases f
 rw[aJ h0]at f;obtain⟨p,N⟩:=hI (show 0≤s.pc by omega)
 cases hw:W[s.pc.toNat]? with
 |none=>rw[hw]at f;cases f
 |some w=>
 rw[hw]at f;simp only at f;rw[N,cB]at hw;have l4:=SC hw;obtain⟨hu,a9⟩:=i7 w (aW hw);unfold sR at a9;have c4:(W.map yC)[p]?=some [.int .i64 (w/16777216), .int .i64 (w/1048576 % 16), .int .i64 (w/65536 % 16), .int .i64 (w % 65536)]:=by rw[dM,hw];rfl
 have d7:(W.map fun _=>[AV.bool true])[p]?=some [.bool true]:=by rw[dM,hw];rfl
 obtain⟨o,ho⟩: ∃o,w/16777216=o:=⟨_,rfl⟩;obtain⟨a,ha⟩: ∃a,w/1048576 % 16=a:=⟨_,rfl⟩;obtain⟨b,g⟩: ∃b,w/65536 % 16=b:=⟨_,rfl⟩;obtain⟨c,hc⟩: ∃c,w % 65536=c:=⟨_,rfl⟩;have b6:(0≤a∧a≤15)∧(0≤b∧b≤15)∧(0≤c∧c≤65535):=by have:=hu.1;omega
 rw[ho,ha,g,hc]at f c4 a9;clear ho ha g hc hu i7 hw;obtain⟨b6,g7,d5⟩:=b6
 have j4:4≤o∧o≤15→c≤15:=fun h=>by
  have N:rH o=[97,98,114]:=by
   unfold rH;rw[aJ (by omega),aJ (by omega),aJ (by omega),aJ (by omega),aJ (by omega)]
  have h2:=a9.2;unfold Z7 at h2;rw[N]at h2;simp [vU,vY]at h2;omega
 have a0:0≤a:=b6.1;have a1:a<16:=by omega
 have b0:0≤b:=g7.1;have b1:b<16:=by omega
 have c9:=fun x0 b4=>show _=some (AV.int .u32 (s.r a))from D7 x0 b4 s.r1 s.r2 a b6
 have a4:=fun x0 b4=>show _=some (AV.int .u32 (s.r b))from D7 x0 b4 s.r1 s.r2 b g7
 obtain⟨cn,j3,P⟩:=hM.c;obtain⟨v,hv⟩: ∃v,cn[p]?=some v:=⟨_,aF (by omega)⟩;have d6:(cn.map MC)[p]?=some [.int .i64 v]:=by rw[dM,hv];rfl
 have k:=hM.r;rw[N]at k;have b3:=hM.ncr;have nbr:=b3.symm;have d1:decide ((p:Int)<0)=false:=bG (by omega);have d2:decide ((W.length:Int)≤(p:Int))=false:=bG (by omega);have d3:(p:Int)<(W.length:Int):=by omega
 have d4:(0:Int)≤(p:Int):=by omega
 have e1:IntKind.wrap .i64 ((s.st:Int)+1)=((s.st+1:Nat):Int):=by rw[aS _ (by omega)];omega
 have e2:IntKind.wrap .u32 c=c:=dX _ (by omega);have e3:IntKind.wrap .i64 ((p:Int)+1)=((p+1:Nat):Int):=by rw[aS _ (by omega)];omega
 have k5:=a9.1;have d9:(p:Int)+1=((p+1:Nat):Int):=by omega
 unfold QF at k5;have e5: ¬o=18:=by omega
 have e6: ¬o=20:=by omega
 have e7: ¬o=21:=by omega
 have c7: ¬o=27:=by omega
 clear a9;obtain⟨X,hX⟩: ∃X,X=upd (upd H r (some (.rows 28 [IF W inp bm bc vo (p:Int) s.r1 s.r2 s.rd ((s.st+1:Nat):Int) 0]))) bc (some (.rows 1 ((cn.map MC).set p [.int .i64 (IntKind.i64.wrap (v+1))]))):=⟨_,rfl⟩
 have g5:jV W inp r bm bc vo s.stp 0 X:=by
  rw[hX];refine(hM.turn (s':=s.stp) (en':=0) (H':=upd H r (some (.rows 28 [IF W inp bm bc vo (p:Int) s.r1 s.r2 s.rd ((s.st+1:Nat):Int) 0]))) ?_ (fun b g=>cH _ _ g) rfl rfl hM.u1 hM.u2 hM.rd).count (cn:=cn.set p (IntKind.i64.wrap (v+1))) (by rw[dJ];exact j3) ?_ (fun b g=>cH _ _ g)
  ·rw[show s.stp.pc=(p:Int)from N];exact bC _ _ _
  rw[bC,List.map_set];rfl
 obtain⟨HO,I⟩: ∃X,X=H:=⟨_,rfl⟩;refine bY 411 [] func106 ?_;refine aI (aC fun K d=>?_);refine bA (fun x=>x≠r∧x≠bc) [(0,3),(1,3),(2,3),(3,3),(4,1),(5,3),(6,3),(7,3),(8,3),(9,3),(10,3),(11,1),(12,3),(13,3),(14,3),(15,1),(16,3),(17,3),(18,3)] [] eE (by kernel_rfl) rfl rfl ?_;simp only[dL,k,aG,d1,d2,RR,seval]
 repeat' ((refine cT (fun h=>?_) (fun h=>?_))<;>simp only[h,k,P,b3,nbr,aG,c4,d7,d6,d1,d2,d3,d4,e1,e2,e3,a0,a1,b0,b1,c9,a4,e5,e6,e7,c7,cB,RR,seval])
 all_goals
  refine d _ _ (bI ?_);refine aL ?_;simp only[RR];refine aA fun K d=>?_;simp only[k,e1,RR,seval];refine d _ _ (aC fun K d=>?_);refine bA (fun x=>x≠r∧x≠bc) [(0,3),(1,3),(2,3),(3,1),(4,3),(5,3),(6,3),(7,3),(8,1),(9,3),(10,1),(11,3),(12,3)] [(13,1)] eE (by kernel_rfl) rfl rfl ?_;simp only[dL,P,b3,d6,d3,d4,cB,RR,seval];refine d _ _ (aC fun K d=>?_);refine bA (fun x=>x≠r∧x≠bc) [(0,3),(1,3),(2,3),(3,0),(4,3),(5,3),(6,3),(7,3),(8,0),(9,3),(10,0),(11,1)] [(12,1)] eE (by kernel_rfl) rfl rfl ?_;simp only[dL,fW,nbr,c4,d4,cB,RR,seval];refine aN fun E a8=>?_;have e8:E≠r:=fun e=>by rw[e]at a8;simp only[nbr,RR,seval,reduceCtorEq]at a8
  have c8:=e8.symm;have i8:E≠bc:=fun e=>by rw[e]at a8;simp only[RR,seval,reduceCtorEq]at a8
  have i9:=i8.symm;simp only[RR,seval];refine d _ _ (aI (aC fun K d=>?_));refine bA (fun x=>x≠r∧x≠bc∧x≠E) [(0,3),(1,3),(2,3),(3,1),(4,3),(5,3),(6,3),(7,3),(8,1),(9,3),(10,1),(11,3)] [] eE (by kernel_rfl) rfl rfl ?_;simp only[dL,nbr,c8,d7,d4,cB,RR,seval];refine d _ _ (bI ?_);refine aL ?_;simp only[RR];refine aC fun K d=>?_;refine bA (fun x=>x≠r∧x≠bc∧x≠E) [(0,3),(1,3),(2,1),(3,3),(4,3),(5,3),(6,3),(7,1),(8,3)] [] eE (by kernel_rfl) rfl rfl ?_;simp only[dL,nbr,c8,a0,a1,c9,RR,seval];refine d _ _ (bQ fun F1 M1 L B=>?_);have j:=L 0;have D:=L 2;have Q:=L 3;have k:=B r;have P:=B bc;have A:=B E;simp only[nbr,c8,i9,RR,seval]at j D Q k P A;have a7:=funext B;have i5:X E=none:=by rw[hX];exact a8
  have b5: ∀b,X b≠none→M1 b=X b:=fun b g=>by
   have n:b≠E:=fun e=>g (by rw[e];exact i5);rw[a7,hX];simp only[cH _ _ n];rfl
  have i:jV W inp r bm bc vo s.stp 0 M1:=g5.far b5
  have C:gM r bm bc vo vo HO M1:=by
   rw[hX,←I]at b5;exact gM.upd2 (.inl rfl) (.inr (.inr rfl)) b5
  clear b5 i5 g5 hX a7;refine aA fun K d=>?_;simp only[D,A,RR,seval];refine d _ _ (aQ (aA fun K d=>?_));simp only[RR,seval];refine d _ _ (aV ?_ ?_)<;>intro b8
  ·try (cases b8;done)
   all_goals
    obtain rfl:=aD b8;have f:s.set a c=some (e,s'):=by simpa [uD]using f
    refine aH ?_;simp only[j,D,A,e2,RR,seval];refine jT (rK i ⟨d5.1,by omega⟩ f (by omega)) (fun _=>trivial) fun U H2 ⟨G,l,F,O⟩=>?_;subst G;subst O;simp only[RR,seval];simp only[aY,aK,bR,seval];exact aZ.run ⟨rfl,_,l,I▸C.trans F⟩
  try (cases b8;done)
  all_goals
   refine aA fun K d=>?_;simp only[RR,seval];refine d _ _ (aV ?_ ?_)<;>intro g9
   ·obtain rfl:=aD g9
    have f:s.set a (s.r a % 65536+c *65536)=some (e,s'):=by simpa [uD]using f
    have a3:dR (s.r a):=Mc.r_u i a;have q1:(s.r a).tmod 65536=s.r a % 65536:=vV a3.1;have q2:IntKind.wrap .u32 (c *65536)=c *65536:=dX _ (by omega);have q3:IntKind.wrap .u32 (s.r a % 65536)=s.r a % 65536:=dX _ (by omega);have q4:IntKind.wrap .u32 (s.r a % 65536+c *65536)=s.r a % 65536+c *65536:=dX _ (by omega);refine aH ?_;simp only[j,D,Q,A,e2,q1,q2,q4,RR,seval];refine jT (rK i ⟨by omega,by omega⟩ f (by omega)) (fun _=>trivial) fun U H2 ⟨G,l,F,O⟩=>?_;subst G;subst O;simp only[RR,seval];simp only[aY,aK,bR,seval];exact aZ.run ⟨rfl,_,l,I▸C.trans F⟩
   refine aA fun K d=>?_;simp only[RR,seval];refine d _ _ (aV ?_ ?_)<;>intro h3
   ·obtain rfl:=aD h3
    have f:s.set a (s.r b)=some (e,s'):=by simpa [uD]using f
    refine bA (fun _=>True) [(0,3),(1,3),(2,1),(3,3),(4,3),(5,1),(6,3),(7,3),(8,3),(9,3),(10,1),(11,1)] [] eE (by kernel_rfl) rfl rfl ?_;simp only[dL,j,D,k,A,b0,b1,a4,RR,seval];refine jT (rK i (show dR (s.r b)from Mc.r_u i b) f (by omega)) (fun _=>trivial) fun U H2 ⟨G,l,F,O⟩=>?_;subst G;subst O;simp only[RR,seval];simp only[aY,aK,bR,seval];exact aZ.run ⟨rfl,_,l,I▸C.trans F⟩
   refine aI (bQ fun F2 R L B=>?_);have S:=L 0;have l:=L 2;have F:=L 3;have J:=L 92;have gr:=B r;have Y:=B bc;have V:=B E;simp only[j,D,Q,k,P,A,RR,seval]at S l F J gr Y V;have a7:=funext B;have i:jV W inp r bm bc vo s.stp 0 R:=i.same B;have C:gM r bm bc vo vo HO R:=by rw[a7];exact C
   clear a7;have j:=S;have D:=l;have Q:=F;have k:=gr;have P:=Y;have A:=V;refine gP (fun fr M=>bB [0,2,3,92] F2 fr∧M r=R r∧M bc=R bc∧M E=R E∧fr 162= .bool (decide (o=16))∧jV W inp r bm bc vo s.stp 0 M∧gM r bm bc vo vo HO M) (fun k9 f9=>?_) ?_
   ·have e9:=bB.refl [0,2,3,92] F2
    have f5:R r=R r:=rfl;have f4:R bc=R bc:=rfl;have f1:R E=R E:=rfl;refine aA fun K d=>?_;simp only[J,RR,seval];refine d _ _ (aV ?_ ?_)<;>intro j1
    ·refine aL ?_;try simp only[RR]
     refine f9 _ _ ⟨(by repeat (first|exact e9|refine bB.upd rfl ?_)),f5,f4,f1, ?_,i,C⟩
     (simp only[aT,seval];done)
    refine aH ?_;simp only[J,c7,RR,seval];refine f9 _ _ ⟨(by repeat (first|exact e9|refine bB.upd rfl ?_)),f5,f4,f1, ?_,i,C⟩
    (simp only[aT,seval,j1];done)
   rintro F3 M3 ⟨a6,gr,Y,V,f6,i,C⟩;have j:=(a6 0 rfl).trans j;have D:=(a6 2 rfl).trans D;have Q:=(a6 3 rfl).trans Q;have J:=(a6 92 rfl).trans J;have k:=gr.trans k;have P:=Y.trans P;have A:=V.trans A;clear a6;simp only[RR,seval];refine dY _ f6 (fun d0=>?_) (fun d0=>?_)
   ·obtain rfl:=aD d0
    obtain⟨x,hx,f⟩: ∃x,s.mem[(gR (s.r b+c)).toNat]?=some x∧s.set a x=some (e,s'):=by
     simp [uD]at f
     cases hm:s.mem[(gR (s.r b+c)).toNat]? with
     |none=>rw[hm]at f;cases f
     |some x=>rw[hm]at f;exact⟨x,rfl,f⟩
    refine aA fun K d=>?_;simp only[j,k,RR,seval];refine d _ _ (aI (aA fun K d=>?_));simp only[D,A,c7,RR,seval];refine d _ _ (bI ?_);refine aL ?_;simp only[RR];refine aC fun K d=>?_;refine bA (fun _=>True) [(0,3),(1,3),(2,3),(3,1),(4,3),(5,3),(6,3),(7,3),(8,1),(9,3),(10,1),(11,1),(12,3),(13,3),(14,3),(15,3),(16,3)] [] eE (by kernel_rfl) rfl rfl ?_;simp only[dL,j,D,k,A,b0,b1,a4,RR,seval];refine jT (AE i.m i.ml d5 hx) (fun _=>trivial) fun U H2 ⟨G,l⟩=>?_;subst G;subst l;simp only[RR,seval];refine d _ _ (aI (aA fun K d=>?_));simp only[RR,seval];refine d _ _ (bI ?_);refine aL ?_;simp only[RR];refine aH ?_;simp only[j,D,A,RR,seval];refine jT (rK i (i.um x (aW hx)) f (by omega)) (fun _=>trivial) fun U H2 ⟨G,l,F,O⟩=>?_;subst G;subst O;simp only[RR,seval];simp only[aY,aK,bR,seval];exact aZ.run ⟨rfl,_,l,I▸C.trans F⟩
   refine aA fun K d=>?_;simp only[J,RR,seval];refine d _ _ (aV ?_ ?_)<;>intro h4
   ·obtain rfl:=aD h4
    obtain⟨a5,f⟩:(gR (s.r b+c)).toNat<4224∧(0,{s.nx with mem:=s.mem.set (gR (s.r b+c)).toNat (s.r a)})=(e,s'):=by
     have d8:s.mem.length=4224:=i.ml;simp only[uD,d8]at f;by_cases z:(gR (s.r b+c)).toNat<4224
     ·exact⟨z,by simpa [z]using f⟩
     simp [z]at f
    have g6:=La (s.r b+c);obtain⟨t,ht⟩: ∃t,gR (s.r b+c)=t:=⟨_,rfl⟩;rw[ht]at a5 f g6;simp only[Prod.mk.injEq]at f;obtain⟨rfl,rfl⟩:=f;have a3:dR (s.r a):=Mc.r_u i a;have b7:=i.m;have j8:=i.nmr;have k0:r≠bm:=fun e=>j8 e.symm;have i4:E≠bm:=fun e=>by rw[e,b7]at A;cases A
    have l3:bm≠E:=fun e=>i4 e.symm;have d8:s.stp.mem.length=4224:=i.ml;have q1:IntKind.wrap .u32 (s.r b+c)=t:=ht;have q2:IntKind.wrap .u64 t=t:=BN _ (by omega);have q3:IntKind.wrap .u64 4224=4224:=rfl;have q4:decide (4224≤t)=false:=bG (by omega);have q5:t<4224:=by omega
    have q6:0≤t:=g6.1;have q7:t.toNat<4224:=a5;obtain⟨y,hy⟩: ∃y,s.stp.mem[t.toNat]?=some y:=⟨_,aF (by rw[d8];exact a5)⟩;have j7:=G7 hy;refine aC fun K d=>?_;refine bA (fun x=>x≠r∧x≠bc∧x≠E∧x≠bm) [(0,3),(1,3),(2,1),(3,3),(4,3),(5,3),(6,3),(7,1),(8,3),(9,1),(10,3),(11,3),(12,3)] [] eE (by kernel_rfl) rfl rfl ?_;simp only[dL,j,D,k,A,e2,b0,b1,a4,q1,RR,seval];refine d _ _ (aI (aA fun K d=>?_));simp only[j,k,q2,q3,q4,RR,seval];refine d _ _ (bI ?_);refine aL ?_;simp only[RR];refine aA fun K d=>?_;simp only[j,Q,k,b7,q5,q6,j7,RR,seval];refine d _ _ (bQ fun F4 M4 L B=>?_);have S:=L 0;have gr:=B r;have Y:=B bc;have V:=B E;have b7:=B bm;simp only[j,k,P,A,k0,i4,RR,seval]at S gr Y V b7;have a2:=funext B
    have u:jV W inp r bm bc vo {s.stp with mem:=s.mem.set t.toNat (s.r a)} 0 M4:=by
     rw[a2];exact i.store t.toNat (s.r a) a3 (bC _ _ _) (fun b g=>cH _ _ g)
    have Z:=C.trans (H2:=M4) (by
     rw[a2]
     exact fun b o g n1 n2 n3 n4=>⟨by rw[cH _ _ n2];exact g,n4⟩)
    have j:=S;have k:=gr;have P:=Y;have A:=V;refine aH ?_;simp only[j,k,e3,RR,seval];simp only[aY,aK,bR,seval];exact aZ.run ⟨rfl,_,u.turn (by rw[bC];simp only[Mc.nx,N,d9]) (fun b g=>cH _ _ g) rfl rfl u.u1 u.u2 u.rd,I▸Z.trans (gM.turn fun b g=>cH _ _ g)⟩
   refine aA fun K d=>?_;simp only[J,e5,RR,seval];refine d _ _ (bI (aA fun K d=>?_));simp only[J,RR,seval];refine d _ _ (aV ?_ ?_)<;>intro h5
   ·obtain rfl:=aD h5
    have f:(0,if s.r a=0 then s.to c else s.nx)=(e,s'):=by simpa [uD]using f
    simp only[Prod.mk.injEq]at f;obtain⟨rfl,k8⟩:=f;refine aH ?_;simp only[j,D,Q,A,RR,seval];refine jT (X8 i (decide (s.r a=0)) c (show 0≤s.pc∧s.pc≤1000000 by omega)) (fun _=>trivial) fun U H2 ⟨G,l,F⟩=>?_;subst G
    have l:jV W inp r bm bc vo s' 0 H2:=by
     rw[←k8];by_cases z:s.r a=0
     ·simp only[z,nG,cQ]at l⊢;exact l
     simp only[z,I5,dC,cF]at l⊢;exact l
    simp only[RR,seval];simp only[aY,aK,bR,seval];exact aZ.run ⟨rfl,_,l,I▸C.trans F⟩
   refine aA fun K d=>?_;simp only[J,e6,RR,seval];refine d _ _ (bI (aA fun K d=>?_));simp only[J,e7,RR,seval];refine d _ _ (bI (aA fun K d=>?_));simp only[J,RR,seval];refine d _ _ (aV ?_ ?_)<;>intro h6
   ·obtain rfl:=aD h6
    have f:(0,s.to (s.r a))=(e,s'):=by simpa [uD]using f
    simp only[Prod.mk.injEq]at f;obtain⟨rfl,rfl⟩:=f;have a3:dR (s.r a):=Mc.r_u i a;have q1:IntKind.wrap .i64 (s.r a)=s.r a:=aS _ (by have:=a3.1;have:=a3.2;omega);have u:=i;have Z:=C;refine aH ?_;simp only[j,Q,k,q1,RR,seval];simp only[aY,aK,bR,seval];exact aZ.run ⟨rfl,_,u.turn (by rw[bC];simp only[Mc.to]) (fun b g=>cH _ _ g) rfl rfl u.u1 u.u2 u.rd,I▸Z.trans (gM.turn fun b g=>cH _ _ g)⟩
   refine aA fun K d=>?_;simp only[J,RR,seval];refine d _ _ (aV ?_ ?_)<;>intro h7
   ·obtain rfl:=aD h7
    have q0:decide ((s.rd:Int)<0)=false:=bG (by omega)
    have q9:IntKind.wrap .i64 ((s.rd:Int)+1)=((s.rd+1:Nat):Int):=by
     have:=i.rd;have :s.rd≤inp.length:=this;rw[aS _ (by omega)];omega
    have q8:(0:Int)≤(s.rd:Int):=by omega
    refine aI (aC fun K d=>?_);refine bA (fun x=>x≠r∧x≠bc∧x≠E) [(0,3),(1,3),(2,3),(3,3),(4,1),(5,3),(6,3),(7,3),(8,3),(9,3),(10,3),(11,1),(12,3),(13,3),(14,3),(15,1),(16,3),(17,3),(18,3)] [] eE (by kernel_rfl) rfl rfl ?_;simp only[dL,j,k,q0,RR,seval]
    repeat' ((refine cT (fun h=>?_) (fun h=>?_))<;>simp only[h,j,D,Q,J,f6,k,P,A,b3,nbr,e8,c8,i8,i9,aG,c4,d7,d6,d1,d2,d3,d4,e1,e2,e3,a0,a1,b0,b1,c9,a4,e5,e6,e7,c7,cB,q0,q8,q9,RR,seval])
    all_goals
     refine d _ _ (aV ?_ ?_)<;>intro c2
     ·try (cases c2;done)
      all_goals
       have j6:inp.length≤s.rd:=by(have:=aD c2;omega)
       have j9:inp[s.rd]?=none:=dT j6;have f:s.set a 256=some (e,s'):=by simpa [uD,j9]using f
       refine aA fun K d=>?_;simp only[j,D,A,RR,seval];refine jT (rK i ⟨by decide,by decide⟩ f (by omega)) (fun _=>trivial) fun U H2 ⟨G,l,F,O⟩=>?_;subst G;subst O;simp only[RR,seval];apply d;refine aP ?_;simp only[aY,aK,bR,RR,seval];exact aZ.run ⟨rfl,_,l,I▸C.trans F⟩
     try (cases c2;done)
     all_goals
      have a5:s.rd<inp.length:=by(have:=aE c2;omega)
      obtain⟨ch,i2⟩: ∃ch,inp[s.rd]?=some ch:=⟨_,aF a5⟩;have l1:=Vr ch;have f:({s with rd:=s.rd+1}:Mc).set a (ch.toNat:Int)=some (e,s'):=by simpa [uD,i2]using f
      have q1:IntKind.wrap .u32 (ch.toNat:Int)=(ch.toNat:Int):=dX _ (by omega);refine aL ?_;simp only[RR];refine aC fun K d=>?_;refine bA (fun x=>x≠r∧x≠bc∧x≠E) [(0,3),(1,3),(2,3),(3,1),(4,3),(5,3),(6,3),(7,3),(8,1),(9,3),(10,3),(11,3)] [] eE (by kernel_rfl) rfl rfl ?_;simp only[dL,j,k,cB,q8,i2,q1,RR,seval];refine d _ _ (aA fun K d=>?_);simp only[j,k,q9,RR,seval];refine d _ _ (bQ fun F5 M5 L B=>?_);have S:=L 0;have l:=L 2;have f8:=L 8;have k:=B r;have Y:=B bc;have V:=B E;simp only[j,D,P,A,b3,e8,RR,seval]at S l f8 k Y V;have a2:=funext B
      have u:jV W inp r bm bc vo ({s with rd:=s.rd+1}:Mc).stp 0 M5:=by
       rw[a2];exact i.turn (by rw[bC];simp only[Mc.stp,N]) (fun b g=>cH _ _ g) rfl rfl i.u1 i.u2 a5
      have C:=C.trans (H2:=M5) (by
       rw[a2]
       exact gM.turn fun b g=>cH _ _ g)
      have j:=S;have D:=l;have P:=Y;have A:=V;refine aH ?_;simp only[j,D,f8,A,RR,seval];refine jT (rK (s:={s with rd:=s.rd+1}) u ⟨by omega,by omega⟩ f (by show 0≤s.pc∧s.pc≤1000000;omega)) (fun _=>trivial) fun U H2 ⟨G,l,F,O⟩=>?_;subst G;subst O;simp only[RR,seval];simp only[aY,aK,bR,seval];exact aZ.run ⟨rfl,_,l,I▸C.trans F⟩
   refine aA fun K d=>?_;simp only[J,RR,seval];refine d _ _ (aV ?_ ?_)<;>intro h8
   ·obtain rfl:=aD h8
    have f:(if 65536≤s.out.length then some (4,s.stp)else some (0,{s.nx with out:=s.out++[UInt8.ofNat (IntKind.wrap .u8 (s.r a)).toNat]}))=some (e,s'):=by simpa [uD]using f
    have c6:=i.o;rw[show s.stp.out=s.out from rfl]at c6;have e0:s.out.length≤65536:=i.ol;have a3:dR (s.r a):=Mc.r_u i a;have q1:(s.r a).tmod 256=s.r a % 256:=vV a3.1;have q2:IntKind.wrap .u32 (s.r a % 256)=s.r a % 256:=dX _ (by omega);have q3:IntKind.wrap .u8 (s.r a % 256)=s.r a % 256:=IntWalk.u8_in _ (by omega)
    have k7:[AV.int .u8 (s.r a % 256)]=rG (UInt8.ofNat (IntKind.wrap .u8 (s.r a)).toNat):=by
     unfold rG;rw[IntKind.wrap_u8,UInt8.toNat_ofNat'];congr 2;omega
    have e4: ∃m,s.out.length=m∧(vo= .nsl∧m=0∨ ∃b,vo= .osl 1 b m):=⟨_,rfl,by
     rcases c6 with⟨h1,h2⟩|⟨b,h1,h2⟩
     ·exact .inl ⟨h1,by simpa using h2⟩
     exact .inr ⟨b,by simpa using h1⟩⟩
    obtain⟨m,hm,e4⟩:=e4;rcases e4 with⟨rfl,rfl⟩|⟨b9,rfl⟩
    all_goals
     refine aI (aA fun K d=>?_);simp only[j,k,RR,seval];refine d _ _ (aV ?_ ?_)<;>intro c3
     ·try (cases c3;done)
      all_goals
       have T:65536≤s.out.length:=by(have:=aD c3;omega)
       rw[bD T]at f;simp only[Option.some.injEq,Prod.mk.injEq]at f;obtain⟨rfl,rfl⟩:=f;refine aA fun K d=>?_;simp only[j,k,RR,seval];apply d;refine aP ?_;simp only[aY,aK,bR,RR,seval];exact aZ.run ⟨rfl,_,i.turn (by rw[bC];simp only[Mc.stp,N]) (fun b g=>cH _ _ g) rfl rfl i.u1 i.u2 i.rd,I▸C.trans (gM.turn fun b g=>cH _ _ g)⟩
     try (cases c3;done)
     all_goals
      have T: ¬65536≤s.out.length:=by first|omega|(have:=aE c3;omega)
      rw[aJ T]at f;simp only[Option.some.injEq,Prod.mk.injEq]at f;obtain⟨rfl,rfl⟩:=f;refine aL ?_;simp only[RR];refine aA fun K d=>?_;simp only[j,Q,k,q1,q3,RR,seval];refine dO ?_;simp only[RR,seval];refine iZ c6 (by simp only[aG,aM,aU];omega) (fun _ _=>trivial) fun v' H' c5 i3 j5=>?_;have j2:=c5.cells;have k2:=c5.one1;have k6:=i3 r _ k (c6.offsz k (by decide) _ _);simp only[j2,k2,cA,List.drop,k6,RR,seval];refine d _ _ (bQ fun F6 M6 L B=>?_);have S:=L 0;have k:=B r;simp only[j,RR,seval]at S k;have a2:=funext B;rw[k7]at c5;obtain⟨u,q9⟩:=i.put (c:=UInt8.ofNat (IntKind.wrap .u8 (s.r a)).toNat) (by show s.out.length<65536;omega) c5 i3 j5 (H2:=M6) (by rw[a2,bC];simp only[Mc.stp,N]) (fun b g=>by rw[a2];exact cH _ _ g);have Z:=C.trans q9;have j:=S;refine aH ?_;simp only[j,k,e3,RR,seval];simp only[aY,aK,bR,seval];exact aZ.run ⟨rfl,_,u.turn (by rw[bC];simp only[Mc.nx,N,d9]) (fun b g=>cH _ _ g) rfl rfl u.u1 u.u2 u.rd,I▸Z.trans (gM.turn fun b g=>cH _ _ g)⟩
   refine aA fun K d=>?_;simp only[J,RR,seval];refine d _ _ (aV ?_ ?_)<;>intro h9
   ·obtain rfl:=aD h9
    have f:(if s.r a<c then some (0,s.nx)else some (3,s.stp))=some (e,s'):=by simpa [uD]using f
    have u:=i;have Z:=C;refine aI (aA fun K d=>?_);simp only[D,Q,A,e2,RR,seval];refine d _ _ (aV ?_ ?_)<;>intro i0
    ·have T: ¬s.r a<c:=by first|(have:=aD i0;omega)|omega
     rw[aJ T]at f;simp only[Option.some.injEq,Prod.mk.injEq]at f;obtain⟨rfl,rfl⟩:=f;refine aA fun K d=>?_;simp only[j,k,RR,seval];apply d;refine aP ?_;simp only[aY,aK,bR,RR,seval];exact aZ.run ⟨rfl,_,i.turn (by rw[bC];simp only[Mc.stp,N]) (fun b g=>cH _ _ g) rfl rfl i.u1 i.u2 i.rd,I▸C.trans (gM.turn fun b g=>cH _ _ g)⟩
    have T:s.r a<c:=by first|(have:=aE i0;omega)|omega
    rw[bD T]at f;simp only[Option.some.injEq,Prod.mk.injEq]at f;obtain⟨rfl,rfl⟩:=f;refine aL ?_;simp only[RR];refine aH ?_;simp only[j,k,e3,RR,seval];simp only[aY,aK,bR,seval];exact aZ.run ⟨rfl,_,u.turn (by rw[bC];simp only[Mc.nx,N,d9]) (fun b g=>cH _ _ g) rfl rfl u.u1 u.u2 u.rd,I▸Z.trans (gM.turn fun b g=>cH _ _ g)⟩
   refine aA fun K d=>?_;simp only[J,RR,seval];refine d _ _ (aV ?_ ?_)<;>intro i1
   ·obtain rfl:=aD i1
    have f:(1,s.stp)=(e,s'):=by simpa [uD]using f
    simp only[Prod.mk.injEq]at f;obtain⟨rfl,rfl⟩:=f;have u:=i;have Z:=C;refine aH ?_;simp only[j,k,RR,seval];simp only[aY,aK,bR,seval];exact aZ.run ⟨rfl,_,u.turn (by rw[bC];simp only[Mc.stp,N]) (fun b g=>cH _ _ g) rfl rfl u.u1 u.u2 u.rd,I▸Z.trans (gM.turn fun b g=>cH _ _ g)⟩
   have m1:=aE b8;have m2:=aE g9;have m3:=aE h3;have m4:=aE d0;have m5:=aE h4;have m6:=aE h5;have m7:=aE h6;have m8:=aE h7;have m9:=aE h8;have l5:=aE h9;have l6:=aE i1;have f7:4≤o∧o≤15:=by omega
   have c0:0≤c:=d5.1;have c1:c<16:=by have:=j4 f7;omega
   have j0:=fun x0 b4=>show _=some (AV.int .u32 (s.r c))from D7 x0 b4 s.r1 s.r2 c ⟨c0,by omega⟩
   have f:(if(eQ o (s.r b) (s.r c)).2=0 then s.set a (eQ o (s.r b) (s.r c)).1 else some (2,s.stp))=some (e,s'):=by
    unfold uD at f;rw[aJ m1,aJ m2,aJ m3,bD f7]at f;exact f
   have e0:dR (s.r b):=Mc.r_u i b;have i6:dR (s.r c):=Mc.r_u i c;refine aC fun K d=>?_;refine bA (fun x=>x≠r∧x≠bc∧x≠E) [(0,3),(1,1),(2,3),(3,3),(4,1),(5,3),(6,3),(7,3),(8,3),(9,1),(10,3),(11,3),(12,1),(13,3),(14,3),(15,3),(16,3),(17,1),(18,1),(19,3),(20,3),(21,3),(22,3),(23,3)] [] eE (by kernel_rfl) rfl rfl ?_;simp only[dL,j,D,k,A,b0,b1,a4,c0,c1,j0,RR,seval];refine aO (Lp o e0 i6) ?_;simp only[RR,seval];refine d _ _ (aI (aA fun K d=>?_));simp only[RR,seval];refine d _ _ (aV ?_ ?_)<;>intro g8
   ·have T: ¬(eQ o (s.r b) (s.r c)).2=0:=by simpa using g8
    rw[aJ T]at f;simp only[Option.some.injEq,Prod.mk.injEq]at f;obtain⟨rfl,rfl⟩:=f;refine aA fun K d=>?_;simp only[j,k,RR,seval];apply d;refine aP ?_;simp only[aY,aK,bR,RR,seval];exact aZ.run ⟨rfl,_,i.turn (by rw[bC];simp only[Mc.stp,N]) (fun b g=>cH _ _ g) rfl rfl i.u1 i.u2 i.rd,I▸C.trans (gM.turn fun b g=>cH _ _ g)⟩
   have T:(eQ o (s.r b) (s.r c)).2=0:=by simpa using g8
   rw[bD T]at f;refine aL ?_;simp only[RR];refine aH ?_;simp only[j,D,A,RR,seval];refine jT (rK i (Kx o e0 i6) f (by omega)) (fun _=>trivial) fun U H2 ⟨G,l,F,O⟩=>?_;subst G;subst O;simp only[RR,seval];simp only[aY,aK,bR,seval];exact aZ.run ⟨rfl,_,l,I▸C.trans F⟩
end
section
theorem LF (W:List Int) (d:Int) (c6:W.length≤20000) (c0: ∀w∈W,dR w∧sR w):eH dP 105 [.agg [.isl 1 (W.map gI), .int .i64 d]] (.tup [.isl 4 (W.map yC), .isl 1 (W.map fun _=>[.bool true])]):=by
 have e1:(32:Int) *(W.length:Int)≤281474976710656:=by omega
 have e2:(1:Int) *(W.length:Int)≤281474976710656:=by omega
 have e3:(W.length:Int)≤281474976710656:=by omega
 have X:(0:Int)≤(W.length:Int):=by omega
 refine bY 44 [.tmp 2, .tmp 3] func105 ?_;refine aA fun K B=>?_;simp only[RR,seval];refine aN fun D c8=>?_;simp only[RR,seval];refine B _ _ (aA fun K B=>?_);simp only[e1,X,aG,cB,RR,seval];refine aN fun J a4=>?_;have c1:J≠D:=fun e=>by rw[e]at a4;simp only[RR,seval,reduceCtorEq]at a4
 have N:=c1.symm;simp only[RR,seval];refine B _ _ (aA fun K B=>?_);simp only[N,e2,X,aG,cB,RR,seval];refine aN fun F O=>?_;have c3:F≠D:=fun e=>by rw[e]at O;simp only[N,RR,seval,reduceCtorEq]at O
 have P:=c3.symm;have U:F≠J:=fun e=>by rw[e]at O;simp only[RR,seval,reduceCtorEq]at O
 have a5:=U.symm;simp only[RR,seval];refine B _ _ (aI (aA fun K B=>?_));simp only[RR,seval];refine B _ _ (bQ fun F1 M1 f g=>?_);have H:=f 1;have z:=f 2;have A:=f 3;have n:=f 4;have p:=f 5;have E:=f 6;have l:=g D;have C:=g J;have j:=g F;simp only[N,P,a5,RR,seval]at H z A n p E l C j;refine aQ (eY [1,2,3,4,5] (W.length) (fun k fr M=>fr 6= .int .i64 (k:Nat)∧M D=M1 D∧M J=some (.rows 4 ((W.take k).map yC++List.replicate (W.length-k) [AV.int .i64 0, .int .i64 0, .int .i64 0, .int .i64 0]))∧M F=some (.rows 1 ((W.take k).map (fun _=>[AV.bool true])++List.replicate (W.length-k) [AV.bool false]))) ⟨E,rfl,C,j⟩ ?_);rintro k V M2 c7 ⟨Y,i,C,j⟩ I K0 a9;have H:=(I 1 rfl).trans H;have z:=(I 2 rfl).trans z;have A:=(I 3 rfl).trans A;have n:=(I 4 rfl).trans n;have p:=(I 5 rfl).trans p;have E:=Y;clear Y;have l:=i.trans l;have Q:=bB.refl [1,2,3,4,5] V;have R:=i;clear I;refine aI (aA fun K B=>?_);simp only[H,E,l,aG,RR,seval];refine B _ _ (aV ?_ ?_)<;>intro S
 ·have a3:k<W.length:=by have:=aD S;omega
  clear S;obtain⟨wd,L⟩: ∃x,W[k]?=some x:=⟨_,aF a3⟩;have b4:=G7 L;obtain⟨hu,b6⟩:=c0 wd (aW L);have hD:=L0 wd hu b6;obtain⟨o,a,b,c,a1⟩: ∃o a b c,yC wd=[AV.int .i64 o, .int .i64 a, .int .i64 b, .int .i64 c]:=⟨_,_,_,_,rfl⟩;rw[a1]at hD;have b2:=Qp W yC [AV.int .i64 0, .int .i64 0, .int .i64 0, .int .i64 0] L;have b3:=Qp W (fun _=>[AV.bool true]) [AV.bool false] L;have b8:=Qo W yC [AV.int .i64 0, .int .i64 0, .int .i64 0, .int .i64 0] L a1;have b9:=Qo W (fun _=>[AV.bool true]) [AV.bool false] L rfl;have a2:(k:Int)<(W.length:Int):=by omega
  refine aL ?_;simp only[RR];refine aI (aQ (aA fun K B=>?_));simp only[H,E,l,cB,b4,a2,RR,seval];refine aO (hD) ?_;simp only[RR,seval];refine aN fun b7 T=>?_;have c5:=cY T l;have a6:=c5.symm;have a7:=cY T C;have c2:=a7.symm;have a8:=cY T j;have c4:=a8.symm;simp only[RR,seval];refine B _ _ (aH ?_);simp only[n,p,E,C,j,U,c2,c4,cB,b2,b3,a2,RR,seval];refine bQ fun F3 M3 f g=>?_;have Z:=f 1;have t:=f 2;have u:=f 3;have v:=f 4;have y:=f 5;have g6:=f 6;have f7:=f 7;have f8:=f 8;have i:=g D;have C:=g J;have j:=g F;have b0:=g b7;simp only[H,z,A,n,p,E,l,N,P,a5,a6,a7,a8,RR,seval]at Z t u v y g6 f7 f8 i C j b0;have Q:bB [1,2,3,4,5] V F3:=bB.same f (by repeat (first|exact Q|refine bB.upd rfl ?_));have R:=(g D).trans (by(simp only[N,P,a6,aT,seval];exact R));have H:=Z;have z:=t;have A:=u;have n:=v;have p:=y;have E:=g6;have l:=i;rw[b8]at C;rw[b9]at j;refine aH ?_;simp only[E,RR,seval];rw[aS _ (by omega)];refine a9 _ _ a3 ⟨by rfl,R,C,j⟩ (by repeat (first|exact Q|refine bB.upd rfl ?_))
 have b5:k=W.length:=by have:=aE S;omega
 rw[b5,dG,Gf,List.replicate_zero,dQ]at C j;refine cG ?_;simp only[RR,seval];refine bQ fun F4 M4 f g=>?_;have t:=f 2;have u:=f 3;have v:=f 4;have y:=f 5;have i:=g D;have a0:=g J;have G:=g F;simp only[z,A,n,p,l,C,j,RR,seval]at t u v y i a0 G;have z:=t;have A:=u;have n:=v;have p:=y;have l:=i;have C:=a0;have j:=G;refine oC C ?_;refine bQ fun F5 M5 f g=>?_;have t:=f 2;have u:=f 3;have v:=f 4;have y:=f 5;have i:=g D;have G:=g F;simp only[tP,cU,dI,eD,xQ,Tz,Gp,Tv,and_self,aG,I6,z,A,n,p,l,j,N,U,aG,RR,seval]at t u v y i G;have z:=t;have A:=u;have n:=v;have p:=y;have l:=i;have j:=G;refine bQ fun F6 M6 f g=>?_;have t:=f 2;have u:=f 3;have v:=f 4;have y:=f 5;have i:=g D;have G:=g F;simp only[z,A,n,p,l,j,seval]at t u v y i G;have z:=t;have A:=u;have n:=v;have p:=y;have l:=i;have j:=G;refine oC j ?_;refine bQ fun F7 M7 f g=>?_;have t:=f 2;have u:=f 3;have v:=f 4;have y:=f 5;have i:=g D;simp only[tP,cU,dI,eD,xQ,Tz,Gp,Tv,and_self,aG,z,A,n,p,l,P,aG,seval]at t u v y i;have z:=t;have A:=u;have n:=v;have p:=y;have l:=i;refine aA fun K B=>?_;simp only[n,p,RR,seval];apply B;refine aP ?_;simp only[aY,aK,bR,RR,seval];refine aZ.pure ?_;rfl
theorem BG (W:List Int) (D:Nat) (Z:0<D∧D≤32768):eH dP 41 [.agg [.isl 1 (W.map gI), .int .i64 (D:Int)]] (.agg [.int .i64 0, .int .u32 0, .int .u32 0, .int .u32 0, .int .u32 0, .int .u32 0, .int .u32 0, .int .u32 0, .int .u32 0, .int .u32 0, .int .u32 0, .int .u32 0, .int .u32 0, .int .u32 0, .int .u32 0, .int .u32 0, .int .u32 0, .isl 1 (List.replicate D [.int .u32 0]), .int .i64 0, .str [], .int .i64 0, .int .i64 0]):=by
 have L:(4:Int) *(D:Int)≤281474976710656:=by omega
 have M:decide ((0:Int)<(D:Int))=true:=cR (by omega);have N:decide ((D:Int)≤32768)=true:=cR (by omega);have O:(0:Int)≤(D:Int):=by omega
 refine bY 17 [.cell 2 93] func41 ?_;refine aA fun K b=>?_;simp only[RR,seval];refine aN fun d a0=>?_;simp only[RR,seval];refine aN fun f E=>?_;have R:f≠d:=fun e=>by rw[e]at E;simp only[RR,seval,reduceCtorEq]at E
 have k:=R.symm;simp only[RR,seval];refine b _ _ (aA fun K b=>?_);simp only[RR,seval];refine aN fun g t=>?_;have S:g≠d:=fun e=>by rw[e]at t;simp only[k,RR,seval,reduceCtorEq]at t
 have u:=S.symm;have T:g≠f:=fun e=>by rw[e]at t;simp only[RR,seval,reduceCtorEq]at t
 have I:=T.symm;simp only[RR,seval];refine b _ _ (aI (aA fun K b=>?_));simp only[k,u,M,N,RR,seval];refine b _ _ (cM (aH ?_));simp only[k,u,L,O,cB,RR,seval];refine aN fun l c=>?_;have P:l≠d:=fun e=>by rw[e]at c;simp only[k,u,RR,seval,reduceCtorEq]at c
 have G:=P.symm;have Q:l≠f:=fun e=>by rw[e]at c;simp only[I,RR,seval,reduceCtorEq]at c
 have H:=Q.symm;have F:l≠g:=fun e=>by rw[e]at c;simp only[RR,seval,reduceCtorEq]at c
 have J:=F.symm;simp only[J,RR,seval];refine bQ fun U X j a=>?_;have i:=j 2;have n:=j 3;have v:=a d;have o:=a f;have p:=a g;have C:=a l;simp only[k,u,I,G,H,F,RR,seval]at i n v o p C;refine oC C ?_;refine bQ fun V Y j a=>?_;have x:=j 2;have y:=j 3;have z:=a d;have A:=a f;have B:=a g;simp only[tP,cU,dI,eD,xQ,Tz,Gp,NP,NQ,Tv,and_self,fF,i,n,v,o,p,G,H,J,seval]at x y z A B;have i:=x;have n:=y;have v:=z;have o:=A;have p:=B;refine aA fun K b=>?_;simp only[i,n,o,p,RR,seval];apply b;refine aP ?_;simp only[aY,aK,bR,i,RR,seval];refine aZ.pure ?_;rfl
end
end Go.Proofs.YtaecpjgmcffliaaGreatDoor
