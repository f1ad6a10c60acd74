/- Chapter 19, the program's: a tick, a byte that comes in, one that goes out, an array's word. -/
import Derived.Test.YtnfbbjhdflhmjaaGreatDoorGKa
import Derived.Test.YtnfbbjhdflhmjaaGreatDoorMb
set_option linter.unusedSimpArgs false
set_option linter.unusedVariables false
set_option maxRecDepth 10000
namespace Go.Proofs.YtnfbbjhdflhmjaaGreatDoor
open Go.Al
def Kz (e:Int):AV:= .ifc 78 (.agg [.int .i64 e])
def lD {α:Type} (cx:Kx) (W br bw:Nat) (vo:AV) (H:Hp) (f:α→AV) (P:α→Prop) (r:Rz α):nT→Hp→Prop:=fun ae H'=>
 ∃vo',(match r with | .val v _=>ae= .ret (f v)∧P v| .fin e _=>ae= .pan (Kz e))∧eX cx W br bw r.st vo' H'∧dP br bw vo vo' H H'
theorem eV {α:Type} {F:Nat→Prop} {ds:List (Option Nat)} {Q:dQ} {d:Option Nat} {rest:List Oper} {fr:Fr} {H:Hp} {g:FuncId} {args:List AV} {cx:Kx} {W br bw:Nat} {vo:AV} {f:α→AV} {P:α→Prop} {r:Rz α}
  (hc:mM cK g args H (lD cx W br bw vo H f P r)) (hF: ∀b,F b)
  (hp: ∀e s vo' H',r= .fin e s→eX cx W br bw s vo' H'→dP br bw vo vo' H H'→Q (.pan (Kz e)) Ha H')
  (hv: ∀v s vo' H',r= .val v s→P v→eX cx W br bw s vo' H'→dP br bw vo vo' H H'→cM cK F ds Q rest (dU fr d (f v)) H'):tL cK F ds Q d rest fr H g args:=by
 refine Un hc hF fun ae H' ⟨vo',h1,h2,h3⟩=>?_
 cases r with
 |val v s=>
  obtain⟨h1,h4⟩:=h1;subst h1;exact hv v s vo' H' rfl h4 h2 h3
 |fin e s=>
  subst h1;exact hp e s vo' H' rfl h2 h3
section
variable {cx : Kx} {W r w : Nat} {st : RS} {vo : AV} {H : Hp}
theorem Eu (hx:Ay cx W) (hR:eX cx W r w st vo H):mM cK 133 [.ptr 7 r 0 0] H (lD cx W r w vo H (fun _=> .tup []) (fun _=>True) (fN cx.cx st)):=by
 have hr:=hR.r;by_cases hf:cx.fuel≤st.ticks
 ·have zf:(cx.fuel:Int)≤(st.ticks:Int):=by omega
  have e:fN cx.cx st= .fin 5 st:=by unfold fN;rw[if_pos (show cx.cx.fuel≤st.ticks from hf)]
  rw[e];refine bI 20 [] Tryz.func133 rfl rfl rfl rfl ?_;refine aI ?_;refine aB fun K y=>?_;refine bJ (fun x=>x≠r) [(0,3),(1,3),(2,3),(3,1),(4,3),(5,3),(6,3),(7,1),(8,3)] [] dG (by kernel_rfl) rfl rfl ?_;simp only[cF,hr,zf,RR,seval];apply y;clear y;refine aH true rfl (fun _=>?_) (fun hc=>by cases hc);refine aA rfl ?_;simp only[RR,seval];simp only[cO,cQ];exact⟨vo,rfl,hR,dP.refl _ _ _ _⟩
 have zf: ¬(cx.fuel:Int)≤(st.ticks:Int):=by omega
 have e:fN cx.cx st= .val () {st with ticks:=st.ticks+1}:=by unfold fN;rw[if_neg (show ¬cx.cx.fuel≤st.ticks from hf)]
 rw[e];have hfu:=hx.fuel;have e1:IntKind.wrap .i64 ((st.ticks:Int)+1)=((st.ticks+1:Nat):Int):=by rw[aQ _ (by omega)];omega
 refine bI 20 [] Tryz.func133 rfl rfl rfl rfl ?_;refine aI ?_;refine aB fun K y=>?_;refine bJ (fun x=>x≠r) [(0,3),(1,3),(2,3),(3,1),(4,3),(5,3),(6,3),(7,1),(8,3)] [] dG (by kernel_rfl) rfl rfl ?_;simp only[cF,hr,zf,RR,seval];apply y;clear y;refine aH false rfl (fun hc=>by cases hc) (fun _=>?_);refine aK ?_;try simp only[RR]
 refine aA rfl ?_;simp only[hr,e1,RR,seval]
 try simp only[bB,aL,bH,seval]
 exact aZ.run ⟨vo,⟨rfl,trivial⟩,hR.turn (st':={st with ticks:=st.ticks+1}) rfl rfl hR.rd (by show st.ticks+1≤_;omega),dP.run _⟩
theorem Vw (hx:Ay cx W) (hR:eX cx W r w st vo H):mM cK 130 [.ptr 7 r 0 0] H (lD cx W r w vo H (fun n=> .int .u32 n) dI (oE cx.cx st)):=by
 have hr:=hR.r;have hrd:=hR.rd;have hin:=hx.inp;by_cases hf:cx.inp.length≤st.read
 ·have zf:(cx.inp.length:Int)≤(st.read:Int):=by omega
  have e:oE cx.cx st= .val 256 st:=by unfold oE;rw[List.getElem?_eq_none (show cx.cx.inp.length≤st.read from hf)]
  rw[e];refine bI 32 [.tmp 2] Tryz.func130 rfl rfl rfl rfl ?_;refine aB fun _ y=>aA rfl ?_;simp only[RR,seval];apply y;clear y;refine aI ?_;refine aB fun K y=>?_;refine bJ (fun x=>x≠r) [(0,3),(1,3),(2,3),(3,1),(4,3),(5,3),(6,3),(7,1),(8,3),(9,3)] [] dG (by kernel_rfl) rfl rfl ?_;simp only[cF,hr,zf,RR,seval];apply y;clear y;refine aH true rfl (fun _=>?_) (fun hc=>by cases hc);refine aB fun _ y=>aA rfl ?_;simp only[RR,seval];apply y;clear y;refine aO ?_;simp only[bB,aL,bH,RR,seval];exact aZ.run ⟨vo,⟨rfl,by simp [dI]⟩,hR,dP.refl _ _ _ _⟩;skip
 have zf: ¬(cx.inp.length:Int)≤(st.read:Int):=by omega
 have hg:=aG (show st.read<cx.inp.length by omega);generalize cx.inp[st.read]=c at hg;have e:oE cx.cx st= .val c.toNat {st with read:=st.read+1}:=by unfold oE;rw[show cx.cx.inp[st.read]?=some c from hg]
 rw[e];have e1:IntKind.wrap .i64 ((st.read:Int)+1)=((st.read+1:Nat):Int):=by rw[aQ _ (by omega)];omega
 have hc:=UInt8.toNat_lt c;have hu:dI (c.toNat:Int):=⟨by omega,by omega⟩;have e2:IntKind.wrap .u32 (c.toNat:Int)=(c.toNat:Int):=by simp [IntKind.wrap,IntKind.signed,IntKind.bits];omega
 refine bI 32 [.tmp 2] Tryz.func130 rfl rfl rfl rfl ?_;refine aB fun _ y=>aA rfl ?_;simp only[RR,seval];apply y;clear y;refine aI ?_;refine aB fun K y=>?_;refine bJ (fun x=>x≠r) [(0,3),(1,3),(2,3),(3,1),(4,3),(5,3),(6,3),(7,1),(8,3),(9,3)] [] dG (by kernel_rfl) rfl rfl ?_;simp only[cF,hr,zf,RR,seval];apply y;clear y;refine aH false rfl (fun hc=>by cases hc) (fun _=>?_);refine aK ?_;try simp only[RR]
 refine aB fun K y=>?_;refine bJ (fun x=>x≠r) [(0,3),(1,3),(2,3),(3,1),(4,3),(5,3),(6,3),(7,1),(8,3),(9,3)] [] dG (by kernel_rfl) rfl rfl ?_;simp only[cF,hr,hg,RR,seval];apply y;clear y;refine aB fun _ y=>aA rfl ?_;simp only[hr,e1,RR,seval];apply y;clear y;refine aB fun _ y=>aA rfl ?_;simp only[e2,RR,seval];apply y;clear y;refine aO ?_;simp only[bB,aL,bH,RR,seval];exact aZ.run ⟨vo,⟨rfl,hu⟩,hR.turn (st':={st with read:=st.read+1}) rfl rfl (by show st.read+1≤_;omega) hR.tk,dP.run _⟩;skip
theorem Vl (hR:eX cx W r w st vo H) (n:Int):mM cK 97 [.ptr 7 r 0 0, .int .u32 n] H (lD cx W r w vo H (fun _=> .tup []) (fun _=>True) (oV n st)):=by
 have hr:=hR.r;have hown:=hR.o;have hub:=hR.ub
 have hlen: ∃m,st.out.length=m∧(vo= .nsl∧m=0∨ ∃b,vo= .osl 1 b m):=⟨_,rfl,by
  rcases hown with⟨h1,h2⟩|⟨b,h1,h2⟩
  ·exact .inl ⟨h1,by simpa using h2⟩
  exact .inr ⟨b,by simpa using h1⟩⟩
 obtain⟨m,hm,hvo⟩:=hlen;by_cases hf:65536≤st.out.length
 ·have zf:(65536:Int)≤(m:Int):=by omega
  have e:oV n st= .fin 4 st:=by unfold oV;rw[if_pos hf]
  rw[e];rcases hvo with⟨rfl,rfl⟩|⟨b,rfl⟩
  ·omega
  skip;refine bI 23 [] Tryz.func97 rfl rfl rfl rfl ?_;refine aI ?_;refine aB fun _ y=>aA rfl ?_;simp only[hr,zf,RR,seval];apply y;clear y;refine aH true rfl (fun _=>?_) (fun hc=>by cases hc);refine aA rfl ?_;simp only[RR,seval];simp only[cO,cQ];exact⟨_,rfl,hR,dP.refl _ _ _ _⟩
 have zf: ¬(65536:Int)≤(m:Int):=by omega
 have e:oV n st= .val () {st with out:=st.out++[UInt8.ofNat (IntKind.wrap .u8 n).toNat]}:=by unfold oV;rw[if_neg hf]
 rw[e]
 have hc:((UInt8.ofNat (IntKind.wrap .u8 n).toNat).toNat:Int)=IntKind.wrap .u8 n:=by
  have h1:IntKind.wrap .u8 n=n % 256:=by simp [IntKind.wrap,IntKind.signed,IntKind.bits]
  rw[h1];have:=Int.emod_nonneg n (show(256:Int)≠0 by decide);have:=Int.emod_lt_of_pos n (show(0:Int)<256 by decide);simp only[UInt8.toNat_ofNat'];omega
 have hrow:[AV.int .u8 (IntKind.wrap .u8 n)]=xG (UInt8.ofNat (IntKind.wrap .u8 n).toNat):=by unfold xG;rw[hc]
 generalize UInt8.ofNat (IntKind.wrap .u8 n).toNat=c at hrow;clear hc e;rcases hvo with⟨rfl,rfl⟩|⟨b,rfl⟩
 all_goals
  have zg: ¬(65536:Int)≤0:=by decide
  refine bI 23 [] Tryz.func97 rfl rfl rfl rfl ?_;refine aI ?_;refine aB fun _ y=>aA rfl ?_;simp only[hr,zf,zg,RR,seval];apply y;clear y;refine aH false rfl (fun hc=>by cases hc) (fun _=>?_);refine aK ?_;try simp only[RR]
  refine aA rfl ?_;simp only[hr,RR,seval];refine cY ?_;simp only[RR,seval];refine kD hown (by simp only[aD,bU,List.length_nil];omega) (fun _ _=>trivial) fun v' H' ho' hk' hg'=>?_;have hce:=ho'.cells;have hoe:=ho'.one1;have hr:=hk' r _ hr (hown.offsz hr (by decide) _ _);simp only[hce,hoe,Option.bind_some,List.drop,hr,RR,seval];simp only[bB,aL,bH];rw[hrow]at ho';obtain⟨g1,g2⟩:=hR.put (by omega) ho' hk' hg';exact aZ.run ⟨v',⟨rfl,trivial⟩,g1,g2⟩
theorem Uo (q:AV) {a' z' x':Int} (hx:dI x') (hz:0≤z'∧z'≤4096) (ha:0≤a'∧a'≤32768) (hf:x'<z'):
  cJ cK 96 [q, .int .i64 a', .int .i64 z', .int .u32 x'] (.int .i64 (a'+x')):=by
 have hx1:=hx.1;have hx2:=hx.2;have e1:IntKind.wrap .u64 x'=x':=by simp [IntKind.wrap,IntKind.signed,IntKind.bits];omega
 have e2:IntKind.wrap .u64 z'=z':=by simp [IntKind.wrap,IntKind.signed,IntKind.bits];omega
 have e3:IntKind.wrap .i64 x'=x':=by rw[aQ _ (by omega)]
 have zf: ¬z'≤x':=by omega
 have e4:IntKind.wrap .i64 (a'+x')=a'+x':=by rw[aQ _ (by omega)]
 refine bI 20 [.tmp 8] Tryz.func96 rfl rfl rfl rfl ?_;refine aB fun _ y=>aA rfl ?_;simp only[RR,seval];apply y;clear y;refine aI ?_;refine aB fun _ y=>aA rfl ?_;simp only[zf,e1,e2,RR,seval];apply y;clear y;refine aH false rfl (fun hc=>by cases hc) (fun _=>?_);refine aK ?_;try simp only[RR]
 refine aB fun _ y=>aA rfl ?_;simp only[e3,e4,RR,seval];apply y;clear y;refine aO ?_;simp only[bB,aL,bH,RR,seval];refine aZ.pure ?_;rfl
theorem Zy (q:AV) (a':Int) {z' x':Int} (hx:dI x') (hz:0≤z'∧z'≤4096) (hf: ¬x'<z'):
  mM cK 96 [q, .int .i64 a', .int .i64 z', .int .u32 x'] rA (fun ae H'=>ae= .pan (Kz 3)∧H'=rA):=by
 have hx1:=hx.1;have hx2:=hx.2;have e1:IntKind.wrap .u64 x'=x':=by simp [IntKind.wrap,IntKind.signed,IntKind.bits];omega
 have e2:IntKind.wrap .u64 z'=z':=by simp [IntKind.wrap,IntKind.signed,IntKind.bits];omega
 have zf:z'≤x':=by omega
 refine bI 20 [.tmp 8] Tryz.func96 rfl rfl rfl rfl ?_;refine aB fun _ y=>aA rfl ?_;simp only[RR,seval];apply y;clear y;refine aI ?_;refine aB fun _ y=>aA rfl ?_;simp only[zf,e1,e2,RR,seval];apply y;clear y;refine aH true rfl (fun _=>?_) (fun hc=>by cases hc);refine aA rfl ?_;simp only[RR,seval];simp only[cO,cQ];exact⟨rfl,by first|rfl|trivial⟩
theorem Nu {F:Nat→Prop} {ds:List (Option Nat)} {Q:dQ} {d:Option Nat} {rest:List Oper} {fr:Fr} {q:AV} {a z x:Int} {H:Hp} (hx:dI x) (hz:0≤z∧z≤4096) (hf: ¬x<z) (hp:Q (.pan (Kz 3)) Ha H):
  tL cK F ds Q d rest fr H 96 [q, .int .i64 a, .int .i64 z, .int .u32 x]:=by
 refine nN (Zy q a hx hz hf) (eJ.refl _) (pN _) (fun b hb=>absurd rfl hb) fun ae H' h hnew=>?_;obtain⟨rfl,rfl⟩:=h;rw[Bv];exact hp
end
theorem tS (b:Bool):cJ cK 132 [.bool b] (.int .u32 (if b=true then 1 else 0)):=by
 cases b
 ·skip
  refine bI 4 [.tmp 2] Tryz.func132 rfl rfl rfl rfl ?_;refine aB fun _ y=>aA rfl ?_;simp only[RR,seval];apply y;clear y;refine aI ?_;refine aB fun _ y=>aA rfl ?_;simp only[RR,seval];apply y;clear y;refine aH false rfl (fun hc=>by cases hc) (fun _=>?_);refine aK ?_;try simp only[RR]
  refine aB fun _ y=>aA rfl ?_;simp only[RR,seval];apply y;clear y;refine aO ?_;simp only[bB,aL,bH,RR,seval];refine aZ.pure ?_;rfl
 skip;refine bI 4 [.tmp 2] Tryz.func132 rfl rfl rfl rfl ?_;refine aB fun _ y=>aA rfl ?_;simp only[RR,seval];apply y;clear y;refine aI ?_;refine aB fun _ y=>aA rfl ?_;simp only[RR,seval];apply y;clear y;refine aH true rfl (fun _=>?_) (fun hc=>by cases hc);refine aB fun _ y=>aA rfl ?_;simp only[RR,seval];apply y;clear y;refine aO ?_;simp only[bB,aL,bH,RR,seval];refine aZ.pure ?_;rfl
end Go.Proofs.YtnfbbjhdflhmjaaGreatDoor
