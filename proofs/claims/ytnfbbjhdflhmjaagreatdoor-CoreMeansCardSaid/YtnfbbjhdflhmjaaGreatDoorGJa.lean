/- Chapter 18, the judge's: what two words make by an operation, bit by bit. Chapter 18, the judge's: shifts; what two words make by an operation. -/
import Derived.Test.YtnfbbjhdflhmjaaGreatDoorMb
import Derived.Test.YtnfbbjhdflhmjaaGreatDoorAl4
import Derived.Test.YtnfbbjhdflhmjaaGreatDoorGDf
set_option linter.unusedSimpArgs false
set_option linter.unusedVariables false
set_option maxRecDepth 10000
namespace Go.Al
def dU:Nat→Nat→List Nat
 |0,_=>[]
 |k+1,a=>a % 2::dU k (a/2)
def Bt:List Nat→Nat
 |[]=>0
 |b::l=>b+2 *Bt l
def kF (n:Nat):List AV:=[.int .i64 (n:Int)]
theorem kR: ∀(k a:Nat),(dU k a).length=k
 |0,_=>rfl
 |k+1,a=>by simp only[dU,bP,kR k]
theorem jP: ∀(k a i:Nat),i<k→(dU k a)[i]?=some (a/2^i % 2)
 |0,_,_,h=>by omega
 |k+1,a,0,_=>by simp [dU]
 |k+1,a,i+1,h=>by
  simp only[dU,List.getElem?_cons_succ,jP k (a/2) i (by omega)];rw[Nat.div_div_eq_div_mul,Nat.pow_succ,Nat.mul_comm 2]
def jJ (op:Int) (x y:Nat):Nat:=if(x+y=2∧op≠11)∨(x+y=1∧op≠9)then 1 else 0
theorem Rf: ∀l:List Nat,(∀x∈l,x≤1)→Bt l<2^l.length
 |[],_=>by simp [Bt]
 |x::l,h=>by
  have h1:=Rf l fun y hy=>h y (List.mem_cons_of_mem _ hy);have h2:=h x List.mem_cons_self;simp only[Bt,bP,Nat.pow_succ];omega
theorem Gf (op:Int): ∀(k a b:Nat),List.zipWith (jJ op) (dU k a) (dU k b)=dU k (Bt (List.zipWith (jJ op) (dU k a) (dU k b)))
 |0,_,_=>rfl
 |k+1,a,b=>by
  simp only[dU,List.zipWith_cons_cons,Bt];have h:jJ op (a % 2) (b % 2)≤1:=by unfold jJ;split<;>omega
  rw[show(jJ op (a % 2) (b % 2)+2 *Bt (List.zipWith (jJ op) (dU k (a/2)) (dU k (b/2)))) % 2=jJ op (a % 2) (b % 2)by omega,show(jJ op (a % 2) (b % 2)+2 *Bt (List.zipWith (jJ op) (dU k (a/2)) (dU k (b/2))))/2=Bt (List.zipWith (jJ op) (dU k (a/2)) (dU k (b/2)))by omega,←Gf op k]
theorem Ky: ∀(k a b:Nat),a<2^k→b<2^k→Bt (List.zipWith (jJ 9) (dU k a) (dU k b))=a&&&b
 |0,a,b,ha,hb=>by
  have :a=0:=by simp at ha;exact ha
  subst this;simp [dU,Bt]
 |k+1,a,b,ha,hb=>by
  simp only[dU,List.zipWith_cons_cons,Bt];rw[Ky k (a/2) (b/2) (by rw[Nat.pow_succ]at ha;omega) (by rw[Nat.pow_succ]at hb;omega)];have h1:(a&&&b)/2=a/2&&&b/2:=Nat.and_div_two;have h2:(a&&&b) % 2=a % 2&&&b % 2:=Nat.and_mod_two_pow (n:=1);rw[←Nat.div_add_mod (a&&&b) 2,h1,h2]
  have h3:jJ 9 (a % 2) (b % 2)=a % 2&&&b % 2:=by
   rcases Nat.mod_two_eq_zero_or_one a with x|x<;>rcases Nat.mod_two_eq_zero_or_one b with y|y<;>rw[x,y]<;>decide
  rw[h3];omega
theorem Re: ∀(k a b:Nat),a<2^k→b<2^k→Bt (List.zipWith (jJ 10) (dU k a) (dU k b))=a|||b
 |0,a,b,ha,hb=>by
  have :a=0:=by simp at ha;exact ha
  have :b=0:=by simp at hb;exact hb
  subst a;subst b;simp [dU,Bt]
 |k+1,a,b,ha,hb=>by
  simp only[dU,List.zipWith_cons_cons,Bt];rw[Re k (a/2) (b/2) (by rw[Nat.pow_succ]at ha;omega) (by rw[Nat.pow_succ]at hb;omega)];have h1:(a|||b)/2=a/2|||b/2:=Nat.or_div_two
  have h2:(a|||b) % 2=a % 2|||b % 2:=Nat.or_mod_two_pow (n:=1)
  rw[←Nat.div_add_mod (a|||b) 2,h1,h2]
  have h3:jJ 10 (a % 2) (b % 2)=a % 2|||b % 2:=by
   rcases Nat.mod_two_eq_zero_or_one a with x|x<;>rcases Nat.mod_two_eq_zero_or_one b with y|y<;>rw[x,y]<;>decide
  rw[h3];omega
theorem Kw: ∀(k a b:Nat),a<2^k→b<2^k→Bt (List.zipWith (jJ 11) (dU k a) (dU k b))=a^^^b
 |0,a,b,ha,hb=>by
  have :a=0:=by simp at ha;exact ha
  have :b=0:=by simp at hb;exact hb
  subst a;subst b;simp [dU,Bt]
 |k+1,a,b,ha,hb=>by
  simp only[dU,List.zipWith_cons_cons,Bt];rw[Kw k (a/2) (b/2) (by rw[Nat.pow_succ]at ha;omega) (by rw[Nat.pow_succ]at hb;omega)];have h1:(a^^^b)/2=a/2^^^b/2:=Nat.xor_div_two;have h2:(a^^^b) % 2=a % 2^^^b % 2:=Nat.xor_mod_two_pow (n:=1);rw[←Nat.div_add_mod (a^^^b) 2,h1,h2]
  have h3:jJ 11 (a % 2) (b % 2)=a % 2^^^b % 2:=by
   rcases Nat.mod_two_eq_zero_or_one a with x|x<;>rcases Nat.mod_two_eq_zero_or_one b with y|y<;>rw[x,y]<;>decide
  rw[h3];omega
def qQ (op:Int) (a b:Nat):Nat:=Bt (List.zipWith (jJ op) (dU 32 a) (dU 32 b))
theorem Vs (op:Int) (x y:Nat):jJ op x y≤1:=by unfold jJ;split<;>omega
theorem Tg (op:Int) (a b:Nat):qQ op a b<4294967296:=by
 have:=Rf (List.zipWith (jJ op) (dU 32 a) (dU 32 b)) fun x hx=>by
  obtain⟨i,hi⟩:=List.getElem?_of_mem hx;rw[List.getElem?_zipWith]at hi;split at hi
  ·cases hi;exact Vs _ _ _
  cases hi
 simpa [List.length_zipWith,kR,qQ]using this
theorem qA (n:Nat) (h:n<4294967296):(BitVec.ofInt 32 (n:Int)).toNat=n:=by
 rw[BitVec.toNat_ofInt];omega
theorem Gc (op:Int) (hop:op=9∨op=10∨op=11) (a b:Nat) (ha:a<4294967296) (hb:b<4294967296):cU op a b=(((qQ op a b:Nat):Int),(0:Int)):=by
 have hw: ∀n:Nat,n<4294967296→IntKind.wrap .u32 (n:Int)=(n:Int):=fun n h=>by simp [IntKind.wrap,IntKind.signed,IntKind.bits];omega
 rcases hop with rfl|rfl|rfl
 ·show(IntKind.wrap .u32 (BitVec.ofInt 32 a&&&BitVec.ofInt 32 b).toNat,(0:Int))=_
  rw[BitVec.toNat_and,qA a ha,qA b hb,qQ,Ky 32 a b ha hb,hw _ (Nat.lt_of_le_of_lt Nat.and_le_left ha)]
 ·show(IntKind.wrap .u32 (BitVec.ofInt 32 a|||BitVec.ofInt 32 b).toNat,(0:Int))=_
  rw[BitVec.toNat_or,qA a ha,qA b hb,qQ,Re 32 a b ha hb,hw _ (Nat.or_lt_two_pow (n:=32) ha hb)]
 show(IntKind.wrap .u32 (BitVec.ofInt 32 a^^^BitVec.ofInt 32 b).toNat,(0:Int))=_;rw[BitVec.toNat_xor,qA a ha,qA b hb,qQ,Kw 32 a b ha hb,hw _ (Nat.xor_lt_two_pow (n:=32) ha hb)]
theorem jV (a b:Nat):((a:Int)).tmod (b:Int)=((a % b:Nat):Int):=by rw[Int.ofNat_tmod]
theorem rO (a b:Nat):((a:Int)).tdiv (b:Int)=((a/b:Nat):Int):=by rw[Int.ofNat_tdiv]
theorem Ox (n:Nat) (h:n<4294967296):IntKind.wrap .u32 (n:Int)=(n:Int):=by simp [IntKind.wrap,IntKind.signed,IntKind.bits];omega
theorem Ke (n:Nat) (h:n<18446744073709551616):IntKind.wrap .u64 (n:Int)=(n:Int):=by simp [IntKind.wrap,IntKind.signed,IntKind.bits];omega
theorem Ef {l:List Nat} {i x:Nat} (h:l[i]?=some x):(l.map kF)[i]?=some [.int .i64 (x:Int)]:=by rw[bN,h];rfl
theorem Ot (op:Int) (a b k:Nat) (hk:k<32):(List.zipWith (jJ op) (dU 32 a) (dU 32 b))[k]?=some (jJ op (a/2^k % 2) (b/2^k % 2)):=by
 rw[List.getElem?_zipWith,jP _ _ _ hk,jP _ _ _ hk]
end Go.Al
namespace Go.Proofs.YtnfbbjhdflhmjaaGreatDoor
open Go.Al
theorem Sn (b:Bool):dD cN 155 [.bool b] (.int .u32 (if b=true then 1 else 0)):=by
 cases b
 ·skip
  refine bD 4 [.tmp 2] Tryz.func155 rfl rfl rfl rfl ?_;refine aB fun _ g=>aA rfl ?_;simp only[RR,seval];apply g;clear g;refine aH ?_;refine aB fun _ g=>aA rfl ?_;simp only[RR,seval];apply g;clear g;refine aF false rfl (fun hc=>by cases hc) (fun _=>?_);refine aM ?_;try simp only[RR]
  refine aB fun _ g=>aA rfl ?_;simp only[RR,seval];apply g;clear g;refine aQ ?_;simp only[aX,aN,bI,RR,seval];refine aW.pure ?_;rfl
 skip;refine bD 4 [.tmp 2] Tryz.func155 rfl rfl rfl rfl ?_;refine aB fun _ g=>aA rfl ?_;simp only[RR,seval];apply g;clear g;refine aH ?_;refine aB fun _ g=>aA rfl ?_;simp only[RR,seval];apply g;clear g;refine aF true rfl (fun _=>?_) (fun hc=>by cases hc);refine aB fun _ g=>aA rfl ?_;simp only[RR,seval];apply g;clear g;refine aQ ?_;simp only[aX,aN,bI,RR,seval];refine aW.pure ?_;rfl
theorem He (a:Nat) (ha:a<4294967296):Ha cN 156 [.int .u32 (a:Int)] 1 ((dU 32 a).map kF):=by
 have hlen:=kR 32 a;refine bD 18 [.tmp 2] Tryz.func156 rfl rfl rfl rfl ?_;refine aB fun _ g=>aA rfl ?_;simp only[RR,seval];apply g;clear g;refine aB fun _ g=>aA rfl ?_;simp only[RR,seval];apply g;clear g;refine aH ?_;refine aB fun _ g=>aA rfl ?_;simp only[RR,seval];apply g;clear g;refine bL fun F1 M1 hfr hH=>?_;have g0:=hfr 0;have g2:=hfr 2;have g3:=hfr 3;have g4:=hfr 4
 try simp only[RR,seval]at g0 g2 g3 g4
 have f0:=g0;clear g0;have f2:=g2;clear g2;have f3:=g3;clear g3;have f4:=g4;clear g4;clear hfr hH;refine aI ?_;refine cP [2] (32) (fun k fr M=>fr 4= .int .i64 (k:Nat)∧fr 0= .int .u32 ((a/2^k:Nat):Int)∧dS 1 (fr 3) (((dU 32 a).take k).map kF) M) ⟨f4,(by rw[f0,Nat.pow_zero,Nat.div_one]), .inl ⟨f3,rfl⟩⟩ ?_;rintro k F2 M2 hk0 ⟨fx,f0,hown⟩ agx K0 hK0;have f2:=(agx 2 rfl).trans f2;have f4:=fx;clear fx;have ag0:=bE.refl [2] F2;clear agx;obtain⟨v3,f3⟩: ∃v,F2 3=v:=⟨_,rfl⟩;rw[f3]at hown;refine aH ?_;refine aB fun _ g=>aA rfl ?_;simp only[f4,RR,seval];apply g;clear g;refine aF _ rfl (fun hc=>?_) (fun hc=>?_)
 ·have hlt0:k<32:=by have:=aC hc;omega
  clear hc
  have htk:(dU 32 a).take (k+1)=(dU 32 a).take k++[a/2^k % 2]:=by
   have h1:=jP 32 a k hlt0;obtain⟨h2,h3⟩:=aZ.1 h1;rw[bQ h2,h3]
  have htl:((dU 32 a).take k).length≤32:=by rw[cF];omega
  have hle:a/2^k≤a:=Nat.div_le_self _ _;have hnx:a/2^(k+1)=a/2^k/2:=by rw[Nat.pow_succ,Nat.div_div_eq_div_mul]
  generalize a/2^k=x at *;have e1:((x:Int)).tmod 2=((x % 2:Nat):Int):=jV x 2;have e2:IntKind.wrap .u32 (((x:Int)).tdiv 2)=((x/2:Nat):Int):=by rw[show((x:Int)).tdiv 2=((x/2:Nat):Int)from rO x 2,Ox _ (by omega)]
  have e3:IntKind.wrap .i64 ((x % 2:Nat):Int)=((x % 2:Nat):Int):=aR _ (by omega);refine aM ?_;try simp only[RR]
  refine aH ?_;refine aI ?_;refine aB fun _ g=>aA rfl ?_;simp only[f0,f3,e1,e3,RR,seval];refine dH ?_;simp only[RR,seval];refine Tm hown (by simp only[aD,bP,List.length_nil];omega) (fun _=>trivial) fun v5 M3 hown' hk'=>?_;simp only[RR,seval];apply g;clear g;refine aA rfl ?_;simp only[f0,e2,RR,seval];refine aA rfl ?_;simp only[f4,RR,seval]
  try rw[aR _ (by omega)]
  refine hK0 _ _ hlt0 ⟨by first|rfl|(simp only[aJ,seval];rfl),(by rw[hnx];rfl),(by rw[htk,List.map_append,List.map_singleton];exact hown')⟩ (by repeat (first|exact ag0|refine bE.upd rfl ?_))
 have hkn0:k=32:=by have:=aE hc;omega
 clear hc;rw[hkn0,List.take_of_length_le (Nat.le_of_eq hlen)]at hown;refine bH ?_;simp only[RR,seval];refine aB fun _ g=>aA rfl ?_;simp only[f3,RR,seval];apply g;clear g;refine aQ ?_;simp only[aX,aN,bI,RR,seval];exact Ha.gives hown;skip
theorem Vc (n:Nat) (hn:n<4294967296):dD cN 157 [.isl 1 ((dU 32 n).map kF)] (.int .u32 (n:Int)):=by
 have hlen:=kR 32 n;refine bD 23 [.tmp 2] Tryz.func157 rfl rfl rfl rfl ?_;refine aB fun _ g=>aA rfl ?_;simp only[RR,seval];apply g;clear g;refine aB fun _ g=>aA rfl ?_;simp only[RR,seval];apply g;clear g;refine aH ?_;refine aB fun _ g=>aA rfl ?_;simp only[aD,hlen,RR,seval];apply g;clear g;refine bL fun F1 M1 hfr hH=>?_;have g0:=hfr 0;have g2:=hfr 2;have g3:=hfr 3;have g4:=hfr 4
 try simp only[RR,seval]at g0 g2 g3 g4
 have f0:=g0;clear g0;have f2:=g2;clear g2;have f3:=g3;clear g3;have f4:=g4;clear g4;clear hfr hH;refine aI ?_;refine jQ [0,2] (32) (fun k fr M=>k≤32∧fr 4= .int .i64 ((k:Int)- 1)∧fr 3= .int .u64 ((n/2^k:Nat):Int)) ⟨aY _,f4,(by rw[f3,Nat.div_eq_of_lt (by omega)];rfl)⟩ ?_;rintro k F2 M2 ⟨hk32,f4,f3⟩ agx K0 hK0;have f0:=(agx 0 rfl).trans f0;have f2:=(agx 2 rfl).trans f2;have ag0:=bE.refl [0,2] F2;clear agx;refine aH ?_;refine aB fun _ g=>aA rfl ?_;simp only[f4,RR,seval];apply g;clear g;refine aF _ rfl (fun hc=>?_) (fun hc=>?_)
 ·have hw0:=hc;clear hc
  obtain⟨m,rfl⟩: ∃m,k=m+1:=⟨k- 1,by have:=aC hw0;omega⟩;have hg:=Ef (jP 32 n m (by omega));have hle:n/2^m≤n:=Nat.div_le_self _ _;have hnx:n/2^(m+1)=n/2^m/2:=by rw[Nat.pow_succ,Nat.div_div_eq_div_mul]
  rw[hnx]at f3;generalize hxe:n/2^m=x at *;have e0:((m+1:Nat):Int)- 1=(m:Int):=by omega
  rw[e0]at f4;have e1:IntKind.wrap .u64 (2 *((x/2:Nat):Int))=((2 *(x/2):Nat):Int):=by rw[show 2 *((x/2:Nat):Int)=((2 *(x/2):Nat):Int)by omega,Ke _ (by omega)]
  have e2:IntKind.wrap .u64 ((x % 2:Nat):Int)=((x % 2:Nat):Int):=Ke _ (by omega);have e3:IntKind.wrap .u64 (((2 *(x/2):Nat):Int)+((x % 2:Nat):Int))=(x:Int):=by rw[show((2 *(x/2):Nat):Int)+((x % 2:Nat):Int)=(x:Int)by omega,Ke _ (by omega)]
  have e4:IntKind.wrap .i64 ((m:Int)- 1)=(m:Int)- 1:=aR _ (by omega);have z1:(m:Int)<32:=by omega
  refine aM ?_;try simp only[RR]
  refine aH ?_;refine aI ?_;refine aA rfl ?_;simp only[f0,f3,f4,hg,e0,e1,e2,e3,RR,seval];refine aA rfl ?_;simp only[f4,e4,RR,seval];refine hK0 (m) _ _ (by omega) ⟨(by omega),rfl,(by rw[hxe];rfl)⟩ (by repeat (first|exact ag0|refine bE.upd rfl ?_))
 have hw0:=hc;clear hc;have hk0:k=0:=by have:=aE hw0;omega
 subst hk0;rw[Nat.pow_zero,Nat.div_one]at f3;have e5:((n:Int)).tmod 4294967296=(n:Int):=by rw[show((n:Int)).tmod 4294967296=((n % 4294967296:Nat):Int)from jV n 4294967296,Nat.mod_eq_of_lt hn]
 have e6:=Ox n hn;refine bH ?_;simp only[RR,seval];refine aB fun _ g=>aA rfl ?_;simp only[f3,e5,e6,RR,seval];apply g;clear g;refine aQ ?_;simp only[aX,aN,bI,RR,seval];refine aW.pure ?_;rfl
theorem Nf (op:Int) (a b:Nat) (ha:a<4294967296) (hb:b<4294967296):dD cN 153 [.int .i64 op, .int .u32 (a:Int), .int .u32 (b:Int)] (.int .u32 ((qQ op a b:Nat):Int)):=by
 have hO:=Vc _ (Tg op a b);have hbz:dU 32 (qQ op a b)=List.zipWith (jJ op) (dU 32 a) (dU 32 b):=(Gf op 32 a b).symm;rw[hbz]at hO;have hB:=He b hb;have hA:=He a ha;have hla:=kR 32 a;have hlb:=kR 32 b;have hlz:(List.zipWith (jJ op) (dU 32 a) (dU 32 b)).length=32:=by rw[List.length_zipWith,hla,hlb];rfl
 generalize hZ:List.zipWith (jJ op) (dU 32 a) (dU 32 b)=Z at *;generalize qQ op a b=w at *;have hZg:=fun k hk=>Ot op a b k hk;rw[hZ]at hZg;clear hZ hbz;have hB:=hB.pure;have hga:=fun k (hk:k<32)=>jP 32 a k hk;have hgb:=fun k (hk:k<32)=>Ef (jP 32 b k hk);generalize dU 32 a=A at *;generalize dU 32 b=B at *;refine bD 50 [.tmp 6] Tryz.func153 rfl rfl rfl rfl ?_;refine aB fun _ g=>aA rfl ?_;simp only[RR,seval];apply g;clear g;refine aB fun _ g=>aA rfl ?_;simp only[RR,seval];refine Tl (hA) fun v12 M1 hv12 hk' ho'=>?_;simp only[RR,seval];refine aU (hB) ?_;simp only[RR,seval];apply g;clear g;refine aH ?_
 obtain⟨b7,hvb,hb7⟩: ∃b7,v12= .osl 1 b7 32∧M1 b7=some (.rows 1 (A.map kF)):=by
  rcases hv12 with⟨_,h2⟩|⟨b7,h1,h2⟩
  ·have:=congrArg List.length h2
   rw[aD,hla]at this;cases this
  rw[aD,hla]at h1;exact⟨b7,h1,h2⟩
 subst hvb;refine aB fun _ g=>aA rfl ?_;simp only[RR,seval];apply g;clear g;refine bL fun F2 M2 hfr hH=>?_;have g0:=hfr 0;have g6:=hfr 6;have g7:=hfr 7;have g8:=hfr 8;have g9:=hfr 9;have gb7:=hH b7
 try simp only[hb7,RR,seval]at g0 g6 g7 g8 g9 gb7
 have f0:=g0;clear g0;have f6:=g6;clear g6;have f7:=g7;clear g7;have f8:=g8;clear g8;have f9:=g9;clear g9;have hb7:=gb7;clear gb7;clear hfr hH;refine aI ?_;refine cP [0,6,7,8] (32) (fun k fr M=>fr 9= .int .i64 (k:Nat)∧M b7=some (.rows 1 ((Z.take k++A.drop k).map kF))) ⟨f9,(by rw[List.take_zero,List.drop_zero,List.nil_append];exact hb7)⟩ ?_;rintro k F3 M3 hk0 ⟨fx,hb7⟩ agx K0 hK0;have f0:=(agx 0 rfl).trans f0;have f6:=(agx 6 rfl).trans f6;have f7:=(agx 7 rfl).trans f7;have f8:=(agx 8 rfl).trans f8;have f9:=fx;clear fx;have ag0:=bE.refl [0,6,7,8] F3;clear agx;refine aH ?_;refine aB fun _ g=>aA rfl ?_;simp only[f9,RR,seval];apply g;clear g;refine aF _ rfl (fun hc=>?_) (fun hc=>?_)
 ·have hlt0:k<32:=by have:=aC hc;omega
  clear hc;have hgx:=hga k hlt0;have hgy:=hgb k hlt0;have hz:=hZg k hlt0;have hx1:a/2^k % 2<2:=Nat.mod_lt _ (by decide);have hy1:b/2^k % 2<2:=Nat.mod_lt _ (by decide);generalize a/2^k % 2=x at hgx hz hx1;generalize b/2^k % 2=y at hgy hz hy1;obtain⟨q1,q2⟩:=aZ.1 hgx;have hdk:A.drop k=x::A.drop (k+1):=by rw[bC q1,q2]
  have htk:Z.take (k+1)=Z.take k++[jJ op x y]:=by
   obtain⟨q3,q4⟩:=aZ.1 hz;rw[bQ q3,q4]
  have hmid: ∀(u v:List AV),((Z.take k).map kF++u::(A.drop (k+1)).map kF).set k v=(Z.take k).map kF++v::(A.drop (k+1)).map kF:=fun u v=>by
   have:=List.set_append_right (s:=(Z.take k).map kF) (t:=u::(A.drop (k+1)).map kF) k v (by rw[aD,cF];omega);rw[this,show k-((Z.take k).map kF).length=0 by rw[aD,cF];omega];rfl
  have hget: ∀(u:List AV),((Z.take k).map kF++u::(A.drop (k+1)).map kF)[k]?=some u:=fun u=>by
   rw[List.getElem?_append_right (by rw[aD,cF];omega),show k-((Z.take k).map kF).length=0 by rw[aD,cF];omega];rfl
  have hR:(Z.take k++A.drop k).map kF=(Z.take k).map kF++[.int .i64 (x:Int)]::(A.drop (k+1)).map kF:=by rw[hdk,List.map_append,List.map_cons];rfl
  have hn:(Z.take (k+1)++A.drop (k+1)).map kF=(Z.take k).map kF++[.int .i64 ((jJ op x y:Nat):Int)]::(A.drop (k+1)).map kF:=by rw[htk,List.map_append,List.map_append,List.append_assoc];rfl
  rw[hR]at hb7;have hg0:=hget [.int .i64 (x:Int)];have hg1:=hget [.int .i64 0];have hs0:=hmid [.int .i64 (x:Int)] [.int .i64 0];have hs1:=hmid [.int .i64 0] [.int .i64 1];generalize(Z.take k).map kF=ZT at *;generalize(A.drop (k+1)).map kF=AT at *;have z1:(k:Int)<32:=by omega
  clear hmid hget hR;have hbf:jJ op x y=if(x+y=2∧op≠11)∨(x+y=1∧op≠9)then 1 else 0:=rfl
  obtain⟨s,hs⟩: ∃s,s=x+y:=⟨_,rfl⟩;have e1:IntKind.wrap .i64 ((x:Int)+(y:Int))=(s:Int):=by rw[aR _ (by omega)];omega
  rw[←hs]at hbf;generalize jJ op x y=w at *;have hsc:s=0∨s=1∨s=2:=by omega
  clear hs;by_cases o9:op=9<;>by_cases o11:op=11<;>rcases hsc with rfl|rfl|rfl
  all_goals
   refine aM ?_;try simp only[RR]
   refine aH ?_;refine aI ?_;refine aB fun K g=>?_;refine bB (fun x=>x≠b7) [(0,3),(1,3),(2,3),(3,1),(4,3),(5,3),(6,3),(7,1),(8,3),(9,3)] [] cX (by kernel_rfl) rfl rfl ?_;simp only[cH,f7,f8,f9,hb7,hgy,hg0,z1,e1,RR,seval];apply g;clear g;refine aB fun _ g=>aA rfl ?_;simp only[f7,f9,hb7,hg0,hs0,z1,RR,seval];apply g;clear g;refine aB fun _ g=>aA rfl ?_;simp only[f0,o9,o11,RR,seval]
   repeat' ((first|refine bA (fun h=>?_) (fun h=>?_)|refine bG (fun h=>?_) (fun h=>?_))<;>simp only[h,f0,f6,f7,f8,f9,hb7,aD,hlb,hgy,hg0,hg1,hs0,hs1,z1,e1,o9,o11,RR,seval])
   all_goals
    apply g;clear g;refine aF _ rfl (fun hc7=>?_) (fun hc7=>?_)
    ·try (cases hc7;done)
     all_goals
      refine aA rfl ?_;simp only[f7,f9,hg1,hs1,z1,RR,seval];refine aA rfl ?_;simp only[f9,RR,seval]
      try rw[aR _ (by omega)]
      refine hK0 _ _ hlt0 ⟨by first|rfl|(simp only[aJ,seval];rfl), ?_⟩ (by repeat (first|exact ag0|refine bE.upd rfl ?_));rw[hn,hbf]
      first|subst o9|subst o11|skip
      simp_all [upd]
    try (cases hc7;done)
    all_goals
     refine aM ?_;try simp only[RR]
     refine aA rfl ?_;simp only[f9,RR,seval]
     try rw[aR _ (by omega)]
     refine hK0 _ _ hlt0 ⟨by first|rfl|(simp only[aJ,seval];rfl), ?_⟩ (by repeat (first|exact ag0|refine bE.upd rfl ?_));rw[hn,hbf]
     first|subst o9|subst o11|skip
     simp_all [upd]
 have hkn0:k=32:=by have:=aE hc;omega
 clear hc;rw[hkn0,List.take_of_length_le (Nat.le_of_eq hlz),List.drop_of_length_le (Nat.le_of_eq hla),List.append_nil]at hb7;have hlz2:(Z.map kF).length=32:=by rw[aD,hlz]
 refine bH ?_;simp only[RR,seval];refine bL fun F4 M4 hfr hH=>?_;have g6:=hfr 6;have g7:=hfr 7;have gb7:=hH b7
 try simp only[f6,f7,hb7,RR,seval]at g6 g7 gb7
 have f6:=g6;clear g6;have f7:=g7;clear g7;have hb7:=gb7;clear gb7;clear hfr hH;refine qS hb7 ?_;refine bL fun F5 M5 hfr hH=>?_;have g6:=hfr 6;have g7:=hfr 7
 try simp only[By,Vk,and_self,hlz2,f6,f7,seval]at g6 g7
 have f6:=g6;clear g6;have f7:=g7;clear g7;clear hfr hH;refine aB fun _ g=>aA rfl ?_;simp only[f7,RR,seval];refine aU (hO) ?_;simp only[RR,seval];apply g;clear g;refine aQ ?_;simp only[aX,aN,bI,RR,seval];refine aW.pure ?_;rfl
end Go.Proofs.YtnfbbjhdflhmjaaGreatDoor
namespace Go.Proofs.YtnfbbjhdflhmjaaGreatDoor
open Go.Al
theorem Uf (n:Int):IntKind.wrap .u32 n=n % 4294967296:=by simp [IntKind.wrap,IntKind.signed,IntKind.bits]
theorem Qq (x y:Nat) (hy:y<4294967296):((x:Int)-y) % 4294967296=(((x+4294967296 -y) % 4294967296:Nat):Int):=by omega
theorem Sd (a b:Nat) (ha:a<4294967296) (hb:b<4294967296):dD cN 154 [.int .i64 12, .int .u32 (a:Int), .int .u32 (b:Int)] (.int .u32 (if 31<(b:Int)then 0 else IntKind.wrap .u32 ((a:Int) *2^(min ((b:Int)).toNat 32)))):=by
 by_cases h:31<(b:Int)
 ·rw[if_pos h]
  have z:(32:Int)≤(b:Int):=by omega
  refine bD 27 [.tmp 6] Tryz.func154 rfl rfl rfl rfl ?_;refine aB fun _ g=>aA rfl ?_;simp only[RR,seval];apply g;clear g;refine aH ?_;refine aB fun _ g=>aA rfl ?_;simp only[z,RR,seval];apply g;clear g;refine aF true rfl (fun _=>?_) (fun hc=>by cases hc);refine aB fun _ g=>aA rfl ?_;simp only[RR,seval];apply g;clear g;refine aQ ?_;simp only[aX,aN,bI,RR,seval];refine aW.pure ?_;rfl
 rw[if_neg h];have z: ¬(32:Int)≤(b:Int):=by omega
 have zr:IntKind.wrap .u32 ((a:Int) *2^(min ((b:Int)).toNat 32))=((a *2^b % 4294967296:Nat):Int):=by
  rw[Int.toNat_natCast,Nat.min_eq_left (by omega)];rw[Uf,Int.natCast_emod,Int.natCast_mul,Int.natCast_pow];rfl
 rw[zr];have e0:=Ke a (by omega);refine bD 27 [.tmp 6] Tryz.func154 rfl rfl rfl rfl ?_;refine aB fun _ g=>aA rfl ?_;simp only[RR,seval];apply g;clear g;refine aH ?_;refine aB fun _ g=>aA rfl ?_;simp only[z,RR,seval];apply g;clear g;refine aF false rfl (fun hc=>by cases hc) (fun _=>?_);refine aM ?_;try simp only[RR]
 refine aB fun _ g=>aA rfl ?_;simp only[e0,RR,seval];apply g;clear g;refine aH ?_;refine aB fun _ g=>aA rfl ?_;simp only[RR,seval];apply g;clear g;refine bL fun F1 M1 hfr hH=>?_;have g0:=hfr 0;have g2:=hfr 2;have g6:=hfr 6;have g7:=hfr 7;have g8:=hfr 8
 try simp only[RR,seval]at g0 g2 g6 g7 g8
 have f0:=g0;clear g0;have f2:=g2;clear g2;have f6:=g6;clear g6;have f7:=g7;clear g7;have f8:=g8;clear g8;clear hfr hH;refine aI ?_;refine jQ [0,2,6] (b) (fun m fr M=>m≤b∧fr 8= .int .u32 ((b-m:Nat):Int)∧fr 7= .int .u64 ((a *2^(b-m) % 4294967296:Nat):Int)) ⟨aY _,(by rw[f8,Nat.sub_self];rfl),(by rw[f7,Nat.sub_self,Nat.pow_zero,Nat.mul_one,Nat.mod_eq_of_lt ha])⟩ ?_;rintro m F2 M2 ⟨hm,f8,f7⟩ agx K0 hK0;have f0:=(agx 0 rfl).trans f0;have f2:=(agx 2 rfl).trans f2;have f6:=(agx 6 rfl).trans f6;have ag0:=bE.refl [0,2,6] F2;clear agx;refine aH ?_;refine aB fun _ g=>aA rfl ?_;simp only[f2,f8,RR,seval];apply g;clear g;refine aF _ rfl (fun hc=>?_) (fun hc=>?_)
 ·have hw0:=hc;clear hc
  obtain⟨j,rfl⟩: ∃j,m=j+1:=⟨m- 1,by have:=aC hw0;omega⟩
  have hnx:a *2^(b-j) % 4294967296=2 *(a *2^(b-(j+1)) % 4294967296) % 4294967296:=by
   rw[show b-j=b-(j+1)+1 by omega,Nat.pow_succ,←Nat.mul_assoc];omega
  have hx:a *2^(b-(j+1)) % 4294967296<4294967296:=Nat.mod_lt _ (by decide);generalize a *2^(b-(j+1)) % 4294967296=x at *;have e1:IntKind.wrap .u64 (2 *(x:Int))=((2 *x:Nat):Int):=by rw[show 2 *(x:Int)=((2 *x:Nat):Int)by omega,Ke _ (by omega)]
  have e2:((2 *x:Nat):Int).tmod 4294967296=((2 *x % 4294967296:Nat):Int):=jV _ _;have e3:IntKind.wrap .u32 (((b-(j+1):Nat):Int)+1)=((b-j:Nat):Int):=by rw[show((b-(j+1):Nat):Int)+1=((b-j:Nat):Int)by omega,Ox _ (by omega)]
  refine aM ?_;try simp only[RR]
  refine aH ?_;refine aI ?_;refine aB fun _ g=>aA rfl ?_;simp only[f0,RR,seval];apply g;clear g;refine aF true rfl (fun _=>?_) (fun hc=>by cases hc);refine aA rfl ?_;simp only[f7,e1,e2,RR,seval];refine aA rfl ?_;simp only[f8,e3,RR,seval];refine hK0 (j) _ _ (by omega) ⟨(by omega),rfl,(by rw[hnx];rfl)⟩ (by repeat (first|exact ag0|refine bE.upd rfl ?_))
 have hw0:=hc;clear hc;have hk0:m=0:=by have:=aE hw0;omega
 subst hk0;rw[Nat.sub_zero]at f7;have e6:=Ox _ (show a *2^b % 4294967296<4294967296 from Nat.mod_lt _ (by decide));refine bH ?_;simp only[RR,seval];refine aB fun _ g=>aA rfl ?_;simp only[f7,e6,RR,seval];apply g;clear g;refine aQ ?_;simp only[aX,aN,bI,RR,seval];refine aW.pure ?_;rfl
theorem Sc (a b:Nat) (ha:a<4294967296) (hb:b<4294967296):dD cN 154 [.int .i64 13, .int .u32 (a:Int), .int .u32 (b:Int)] (.int .u32 (if 31<(b:Int)then 0 else((a:Int)).fdiv (2^(min ((b:Int)).toNat 32)))):=by
 by_cases h:31<(b:Int)
 ·rw[if_pos h]
  have z:(32:Int)≤(b:Int):=by omega
  refine bD 27 [.tmp 6] Tryz.func154 rfl rfl rfl rfl ?_;refine aB fun _ g=>aA rfl ?_;simp only[RR,seval];apply g;clear g;refine aH ?_;refine aB fun _ g=>aA rfl ?_;simp only[z,RR,seval];apply g;clear g;refine aF true rfl (fun _=>?_) (fun hc=>by cases hc);refine aB fun _ g=>aA rfl ?_;simp only[RR,seval];apply g;clear g;refine aQ ?_;simp only[aX,aN,bI,RR,seval];refine aW.pure ?_;rfl
 rw[if_neg h];have z: ¬(32:Int)≤(b:Int):=by omega
 have zr:((a:Int)).fdiv (2^(min ((b:Int)).toNat 32))=((a/2^b:Nat):Int):=by
  rw[Int.toNat_natCast,Nat.min_eq_left (by omega),Int.fdiv_eq_ediv_of_nonneg _ (Int.pow_nonneg (by decide))];rw[Int.natCast_ediv,Int.natCast_pow];rfl
 rw[zr];have e0:=Ke a (by omega);refine bD 27 [.tmp 6] Tryz.func154 rfl rfl rfl rfl ?_;refine aB fun _ g=>aA rfl ?_;simp only[RR,seval];apply g;clear g;refine aH ?_;refine aB fun _ g=>aA rfl ?_;simp only[z,RR,seval];apply g;clear g;refine aF false rfl (fun hc=>by cases hc) (fun _=>?_);refine aM ?_;try simp only[RR]
 refine aB fun _ g=>aA rfl ?_;simp only[e0,RR,seval];apply g;clear g;refine aH ?_;refine aB fun _ g=>aA rfl ?_;simp only[RR,seval];apply g;clear g;refine bL fun F1 M1 hfr hH=>?_;have g0:=hfr 0;have g2:=hfr 2;have g6:=hfr 6;have g7:=hfr 7;have g8:=hfr 8
 try simp only[RR,seval]at g0 g2 g6 g7 g8
 have f0:=g0;clear g0;have f2:=g2;clear g2;have f6:=g6;clear g6;have f7:=g7;clear g7;have f8:=g8;clear g8;clear hfr hH;refine aI ?_;refine jQ [0,2,6] (b) (fun m fr M=>m≤b∧fr 8= .int .u32 ((b-m:Nat):Int)∧fr 7= .int .u64 ((a/2^(b-m):Nat):Int)) ⟨aY _,(by rw[f8,Nat.sub_self];rfl),(by rw[f7,Nat.sub_self,Nat.pow_zero,Nat.div_one])⟩ ?_;rintro m F2 M2 ⟨hm,f8,f7⟩ agx K0 hK0;have f0:=(agx 0 rfl).trans f0;have f2:=(agx 2 rfl).trans f2;have f6:=(agx 6 rfl).trans f6;have ag0:=bE.refl [0,2,6] F2;clear agx;refine aH ?_;refine aB fun _ g=>aA rfl ?_;simp only[f2,f8,RR,seval];apply g;clear g;refine aF _ rfl (fun hc=>?_) (fun hc=>?_)
 ·have hw0:=hc;clear hc
  obtain⟨j,rfl⟩: ∃j,m=j+1:=⟨m- 1,by have:=aC hw0;omega⟩
  have hnx:a/2^(b-j)=a/2^(b-(j+1))/2:=by
   rw[show b-j=b-(j+1)+1 by omega,Nat.pow_succ,Nat.div_div_eq_div_mul]
  have hx:a/2^(b-(j+1))≤a:=Nat.div_le_self _ _;generalize a/2^(b-(j+1))=x at *;have e1:IntKind.wrap .u64 (((x:Int)).tdiv 2)=((x/2:Nat):Int):=by rw[show((x:Int)).tdiv 2=((x/2:Nat):Int)from rO x 2,Ke _ (by omega)]
  have e3:IntKind.wrap .u32 (((b-(j+1):Nat):Int)+1)=((b-j:Nat):Int):=by rw[show((b-(j+1):Nat):Int)+1=((b-j:Nat):Int)by omega,Ox _ (by omega)]
  refine aM ?_;try simp only[RR]
  refine aH ?_;refine aI ?_;refine aB fun _ g=>aA rfl ?_;simp only[f0,RR,seval];apply g;clear g;refine aF false rfl (fun hc=>by cases hc) (fun _=>?_);refine aA rfl ?_;simp only[f7,e1,RR,seval];refine aA rfl ?_;simp only[f8,e3,RR,seval];refine hK0 (j) _ _ (by omega) ⟨(by omega),rfl,(by rw[hnx];rfl)⟩ (by repeat (first|exact ag0|refine bE.upd rfl ?_))
 have hw0:=hc;clear hc;have hk0:m=0:=by have:=aE hw0;omega
 subst hk0;rw[Nat.sub_zero]at f7;have e6:=Ox (a/2^b) (Nat.lt_of_le_of_lt (Nat.div_le_self _ _) ha);refine bH ?_;simp only[RR,seval];refine aB fun _ g=>aA rfl ?_;simp only[f7,e6,RR,seval];apply g;clear g;refine aQ ?_;simp only[aX,aN,bI,RR,seval];refine aW.pure ?_;rfl
set_option maxHeartbeats 4000000 in
theorem Ka (op:Int) {a b:Int} (ha:cC a) (hb:cC b):dD cN 150 [.int .i64 op, .int .u32 a, .int .u32 b] (.tup [.int .u32 (cU op a b).1, .int .i64 (cU op a b).2]):=by
 obtain⟨x,rfl⟩:=Int.eq_ofNat_of_zero_le ha.1;obtain⟨y,rfl⟩:=Int.eq_ofNat_of_zero_le hb.1;have hx:x<4294967296:=by have:=ha.2;omega
 have hy:y<4294967296:=by have:=hb.2;omega
 have c1:=Ke x (by omega);have c2:=Ke y (by omega);by_cases h:op=4∨op=5∨op=6∨op=7∨op=8∨op=9∨op=10∨op=11∨op=12∨op=13∨op=14∨op=15
 ·have hbo:=Nf op x y hx hy
  have hsl:=Sd x y hx hy;have hsr:=Sc x y hx hy;have hfl:=fun c=>Sn c;have s4:IntKind.wrap .u64 ((x:Int)+(y:Int))=((x+y:Nat):Int):=by rw[show(x:Int)+(y:Int)=((x+y:Nat):Int)by omega,Ke _ (by omega)]
  have r4:((x+y:Nat):Int).tmod 4294967296=(((x+y) % 4294967296:Nat):Int):=jV _ _;have t4:=Ox ((x+y) % 4294967296) (Nat.mod_lt _ (by decide));have u5:IntKind.wrap .u64 ((x:Int)+4294967296)=((x+4294967296:Nat):Int):=by rw[show(x:Int)+4294967296=((x+4294967296:Nat):Int)by omega,Ke _ (by omega)]
  have s5:IntKind.wrap .u64 (((x+4294967296:Nat):Int)-(y:Int))=((x+4294967296 -y:Nat):Int):=by rw[show((x+4294967296:Nat):Int)-(y:Int)=((x+4294967296 -y:Nat):Int)by omega,Ke _ (by omega)]
  have r5:((x+4294967296 -y:Nat):Int).tmod 4294967296=(((x+4294967296 -y) % 4294967296:Nat):Int):=jV _ _;have t5:=Ox ((x+4294967296 -y) % 4294967296) (Nat.mod_lt _ (by decide))
  have hxy:x *y<18446744073709551616:=by
   have h1:x *y≤4294967295 *4294967295:=Nat.mul_le_mul (by omega) (by omega);omega
  have s6:IntKind.wrap .u64 ((x:Int) *(y:Int))=((x *y:Nat):Int):=by rw[show(x:Int) *(y:Int)=((x *y:Nat):Int)by rw[Int.natCast_mul],Ke _ hxy]
  have r6:((x *y:Nat):Int).tmod 4294967296=(((x *y) % 4294967296:Nat):Int):=jV _ _;have t6:=Ox ((x *y) % 4294967296) (Nat.mod_lt _ (by decide));have hdv:x/y≤x:=Nat.div_le_self _ _;have s7:IntKind.wrap .u64 (((x:Int)).tdiv (y:Int))=((x/y:Nat):Int):=by rw[rO,Ke _ (by omega)]
  have t7:=Ox (x/y) (by omega);have hmd:x % y≤x:=Nat.mod_le _ _;have s8:((x:Int)).tmod (y:Int)=((x % y:Nat):Int):=jV x y;have t8:=Ox (x % y) (by omega);have z0:y=0∨ ∃q,(y:Int)≠0∧q=y:=by by_cases h:y=0;exact .inl h;exact .inr ⟨y,by omega,rfl⟩
  have a4:cU 4 x y=((((x+y) % 4294967296:Nat):Int),0):=by
   show(IntKind.wrap .u32 ((x:Int)+y),(0:Int))=_;rw[Uf,show((x:Int)+y) % 4294967296=(((x+y) % 4294967296:Nat):Int)from(Int.natCast_emod (x+y) 4294967296).symm]
  have a5:cU 5 x y=((((x+4294967296 -y) % 4294967296:Nat):Int),0):=by
   show(IntKind.wrap .u32 ((x:Int)-y),(0:Int))=_;rw[Uf,Qq x y hy]
  have a6:cU 6 x y=((((x *y) % 4294967296:Nat):Int),0):=by
   show(IntKind.wrap .u32 ((x:Int) *y),(0:Int))=_;rw[Uf,show((x:Int) *y) % 4294967296=(((x *y) % 4294967296:Nat):Int)from by rw[←Int.natCast_mul];omega]
  have a7:(y:Int)≠0→cU 7 x y=(((x/y:Nat):Int),0):=fun h=>by
   show(if(y:Int)=0 then((0:Int),(14:Int))else(IntKind.wrap .u32 (((x:Int)).tdiv (y:Int)),0))=_;rw[if_neg h,rO,t7]
  have a8:(y:Int)≠0→cU 8 x y=(((x % y:Nat):Int),0):=fun h=>by
   show(if(y:Int)=0 then((0:Int),(14:Int))else(((x:Int)).tmod (y:Int),0))=_;rw[if_neg h,jV]
  have a9:op=9∨op=10∨op=11→cU op x y=(((qQ op x y:Nat):Int),(0:Int)):=fun h=>Gc op h x y hx hy
  have a12:cU 12 x y=(if 31<(y:Int)then 0 else IntKind.wrap .u32 ((x:Int) *2^(min ((y:Int)).toNat 32)),0):=by
   show(if 31<(y:Int)then((0:Int),(0:Int))else(IntKind.wrap .u32 ((x:Int) *2^(min ((y:Int)).toNat 32)),0))=_;by_cases h:31<(y:Int)<;>simp only[h,if_true,if_false]
  have a13:cU 13 x y=(if 31<(y:Int)then 0 else((x:Int)).fdiv (2^(min ((y:Int)).toNat 32)),0):=by
   show(if 31<(y:Int)then((0:Int),(0:Int))else(((x:Int)).fdiv (2^(min ((y:Int)).toNat 32)),0))=_;by_cases h:31<(y:Int)<;>simp only[h,if_true,if_false]
  have a14:cU 14 x y=(if decide ((x:Int)<(y:Int))=true then 1 else 0,0):=by simp [cU]
  have a15:cU 15 x y=(if decide ((x:Int)=(y:Int))=true then 1 else 0,0):=by simp [cU]
  rcases h with rfl|rfl|rfl|rfl|rfl|rfl|rfl|rfl|rfl|rfl|rfl|rfl
  all_goals first|rw[a4]|rw[a5]|rw[a6]|(rw[a9 (.inl rfl)];have hcl:=hbo)|(rw[a9 (.inr (.inl rfl))];have hcl:=hbo)|(rw[a9 (.inr (.inr rfl))];have hcl:=hbo)|(rw[a12];have hcl:=hsl)|(rw[a13];have hcl:=hsr)|(rw[a14];have hcl:=hfl (decide ((x:Int)<(y:Int))))|(rw[a15];have hcl:=hfl (decide ((x:Int)=(y:Int))))|skip
  case inr.inr.inr.inl=>
   rcases z0 with rfl|⟨_,h0,_⟩
   ·rw[show cU 7 x ((0:Nat):Int)=(0,14)from rfl]
    refine bD 80 [.tmp 6, .tmp 7] Tryz.func150 rfl rfl rfl rfl ?_
    repeat' (first|(refine aB fun K g=>?_;refine aA rfl ?_;simp only[c1,RR,seval];apply g;clear g)|(refine aH ?_)|(refine aI ?_)|(refine aF true rfl (fun _=>?_) (fun hc=>by cases hc))|(refine aF false rfl (fun hc=>by cases hc) (fun _=>?_))|(refine aM ?_;simp only[aS,aT])|(refine bH ?_;simp only[aS,aT,reduceIte,Nat.reduceEqDiff])|(refine aA rfl ?_;simp only[c1,c2,Int.natCast_zero,aS,aT,RR,seval])|(refine bA (fun h=>?_) (fun h=>?_)<;>simp only[h,c1,c2,Int.natCast_zero,aS,aT,RR,seval])|(refine bG (fun h=>?_) (fun h=>?_)<;>simp only[h,c1,c2,Int.natCast_zero,aS,aT,RR,seval])|(refine aF _ rfl (fun h=>?_) (fun h=>?_))|(refine aQ ?_;simp only[aS,aT,aX,aN,bI,RR,seval];refine aW.pure ?_))
    all_goals rfl
   rw[a7 h0];have h0': ¬(y:Int)=0:=h0;refine bD 80 [.tmp 6, .tmp 7] Tryz.func150 rfl rfl rfl rfl ?_
   repeat' (first|(refine aB fun K g=>?_;refine aA rfl ?_;simp only[c1,c2,s7,t7,h0',RR,seval];apply g;clear g)|(refine aH ?_)|(refine aI ?_)|(refine aF true rfl (fun _=>?_) (fun hc=>by cases hc))|(refine aF false rfl (fun hc=>by cases hc) (fun _=>?_))|(refine aM ?_;simp only[aS])|(refine bH ?_;simp only[aS,aT,reduceIte,Nat.reduceEqDiff])|(refine aA rfl ?_;simp only[c1,c2,s7,t7,h0',aS,aT,RR,seval])|(refine bA (fun h=>?_) (fun h=>?_)<;>simp only[h,c1,c2,s7,t7,h0',aS,aT,RR,seval])|(refine bG (fun h=>?_) (fun h=>?_)<;>simp only[h,c1,c2,s7,t7,h0',aS,aT,RR,seval])|(refine aF _ rfl (fun h=>?_) (fun h=>?_))|(refine aQ ?_;simp only[aS,aT,aX,aN,bI,RR,seval];refine aW.pure ?_))
   all_goals rfl
  case inr.inr.inr.inr.inl=>
   rcases z0 with rfl|⟨_,h0,_⟩
   ·rw[show cU 8 x ((0:Nat):Int)=(0,14)from rfl]
    refine bD 80 [.tmp 6, .tmp 7] Tryz.func150 rfl rfl rfl rfl ?_
    repeat' (first|(refine aB fun K g=>?_;refine aA rfl ?_;simp only[c1,RR,seval];apply g;clear g)|(refine aH ?_)|(refine aI ?_)|(refine aF true rfl (fun _=>?_) (fun hc=>by cases hc))|(refine aF false rfl (fun hc=>by cases hc) (fun _=>?_))|(refine aM ?_;simp only[aS,aT])|(refine bH ?_;simp only[aS,aT,reduceIte,Nat.reduceEqDiff])|(refine aA rfl ?_;simp only[c1,c2,Int.natCast_zero,aS,aT,RR,seval])|(refine bA (fun h=>?_) (fun h=>?_)<;>simp only[h,c1,c2,Int.natCast_zero,aS,aT,RR,seval])|(refine bG (fun h=>?_) (fun h=>?_)<;>simp only[h,c1,c2,Int.natCast_zero,aS,aT,RR,seval])|(refine aF _ rfl (fun h=>?_) (fun h=>?_))|(refine aQ ?_;simp only[aS,aT,aX,aN,bI,RR,seval];refine aW.pure ?_))
    all_goals rfl
   rw[a8 h0];have h0': ¬(y:Int)=0:=h0;refine bD 80 [.tmp 6, .tmp 7] Tryz.func150 rfl rfl rfl rfl ?_
   repeat' (first|(refine aB fun K g=>?_;refine aA rfl ?_;simp only[c1,c2,s8,t8,h0',RR,seval];apply g;clear g)|(refine aH ?_)|(refine aI ?_)|(refine aF true rfl (fun _=>?_) (fun hc=>by cases hc))|(refine aF false rfl (fun hc=>by cases hc) (fun _=>?_))|(refine aM ?_;simp only[aS])|(refine bH ?_;simp only[aS,aT,reduceIte,Nat.reduceEqDiff])|(refine aA rfl ?_;simp only[c1,c2,s8,t8,h0',aS,aT,RR,seval])|(refine bA (fun h=>?_) (fun h=>?_)<;>simp only[h,c1,c2,s8,t8,h0',aS,aT,RR,seval])|(refine bG (fun h=>?_) (fun h=>?_)<;>simp only[h,c1,c2,s8,t8,h0',aS,aT,RR,seval])|(refine aF _ rfl (fun h=>?_) (fun h=>?_))|(refine aQ ?_;simp only[aS,aT,aX,aN,bI,RR,seval];refine aW.pure ?_))
   all_goals rfl
  all_goals
   refine bD 80 [.tmp 6, .tmp 7] Tryz.func150 rfl rfl rfl rfl ?_
   repeat' (first|(refine aB fun K g=>?_;refine aA rfl ?_;simp only[c1,c2,s4,r4,t4,u5,s5,r5,t5,s6,r6,t6,RR,seval];apply g;clear g)|(refine aH ?_)|(refine aI ?_)|(refine aF true rfl (fun _=>?_) (fun hc=>by cases hc))|(refine aF false rfl (fun hc=>by cases hc) (fun _=>?_))|(refine aM ?_;simp only[aS])|(refine bH ?_;simp only[aS,aT,reduceIte,Nat.reduceEqDiff])|(refine aA rfl ?_;simp only[aS,RR,seval])|(refine bA (fun h=>?_) (fun h=>?_)<;>simp only[h,c1,c2,s4,r4,t4,u5,s5,r5,t5,s6,r6,t6,aS,aT,RR,seval])|(refine bG (fun h=>?_) (fun h=>?_)<;>simp only[h,c1,c2,s4,r4,t4,u5,s5,r5,t5,s6,r6,t6,aS,aT,RR,seval])|(refine aF _ rfl (fun h=>?_) (fun h=>?_))|(refine aQ ?_;simp only[aS,aT,aX,aN,bI,RR,seval];refine aW.pure ?_)|(refine aU (hcl) ?_;simp only[aS,RR,seval]))
   all_goals rfl
 have n4: ¬op=4:=fun e=>h (by simp [e]);have n5: ¬op=5:=fun e=>h (by simp [e]);have n6: ¬op=6:=fun e=>h (by simp [e]);have n7: ¬op=7:=fun e=>h (by simp [e]);have n8: ¬op=8:=fun e=>h (by simp [e]);have n9: ¬op=9:=fun e=>h (by simp [e]);have n10: ¬op=10:=fun e=>h (by simp [e]);have n11: ¬op=11:=fun e=>h (by simp [e]);have n12: ¬op=12:=fun e=>h (by simp [e]);have n13: ¬op=13:=fun e=>h (by simp [e]);have n14: ¬op=14:=fun e=>h (by simp [e]);have n15: ¬op=15:=fun e=>h (by simp [e]);have e:cU op x y=(0,1):=by simp [cU,n4,n5,n6,n7,n8,n9,n10,n11,n12,n13,n14,n15]
 rw[e];refine bD 80 [.tmp 6, .tmp 7] Tryz.func150 rfl rfl rfl rfl ?_
 repeat' (first|(refine aB fun K g=>?_;refine aA rfl ?_;simp only[c1,c2,n4,n5,n6,n7,n8,n9,n10,n12,n14,n15,RR,seval];apply g;clear g)|(refine aH ?_)|(refine aI ?_)|(refine aF true rfl (fun _=>?_) (fun hc=>by cases hc))|(refine aF false rfl (fun hc=>by cases hc) (fun _=>?_))|(refine aM ?_;simp only[aS,aT])|(refine bH ?_;simp only[aS,aT,reduceIte,Nat.reduceEqDiff])|(refine aA rfl ?_;simp only[n11,n13,aS,RR,seval])|(refine bA (fun h=>?_) (fun h=>?_)<;>simp only[h,c1,c2,n4,n5,n6,n7,n8,n9,n10,n11,n12,n13,n14,n15,aS,aT,RR,seval])|(refine bG (fun h=>?_) (fun h=>?_)<;>simp only[h,c1,c2,n4,n5,n6,n7,n8,n9,n10,n11,n12,n13,n14,n15,aS,aT,RR,seval])|(refine aF _ rfl (fun h=>?_) (fun h=>?_))|(refine aQ ?_;simp only[aX,aN,bI,RR,seval];refine aW.pure ?_))
 all_goals rfl
end Go.Proofs.YtnfbbjhdflhmjaaGreatDoor
