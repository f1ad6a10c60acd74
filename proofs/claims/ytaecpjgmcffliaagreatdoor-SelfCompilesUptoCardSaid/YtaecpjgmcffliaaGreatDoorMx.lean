/- Mx -/
import Derived.Test.YtaecpjgmcffliaaGreatDoorQd
import Derived.Test.YtaecpjgmcffliaaGreatDoorSc1
import Derived.Test.YtaecpjgmcffliaaGreatDoorJf
import Derived.Test.YtaecpjgmcffliaaGreatDoorSy2
import Derived.Test.YtaecpjgmcffliaaGreatDoorAl3
import Derived.Test.YtaecpjgmcffliaaGreatDoorWb
set_option linter.unusedSimpArgs false
set_option linter.unusedVariables false
set_option maxRecDepth 10000
set_option maxHeartbeats 8000000
namespace Go.Al
theorem tN (s:dE): ∀A B:List Pl,vI (A++B) s=match vI A s with |some r=>some r|none=>vI B s
 |[],B=>rfl
 |t::A,B=>by
  simp only[cU,vI];split
  ·rfl
  exact tN s A B
theorem oV (b:Bool) (s:dE): ∀(l:List dE) (i:Nat),vI (SK b i l) s=(dB l s).map fun k=>(b,((i+k:Nat):Int))
 |[],_=>rfl
 |x::l,i=>by
  simp only[SK,vI,dB];by_cases h:s=x
  ·subst h;simp
  rw[aO h,aO (fun e=>h e.symm),oV b s l (i+1)]
  cases dB l s with
  |none=>rfl
  |some k=>simp only[eE];congr 3;omega
theorem zE (s:dE): ∀A B:List dE,dB (A++B) s=match dB A s with |some k=>some k|none=>(dB B s).map (· +A.length)
 |[],B=>by
  simp only[cC,dB,aT];cases dB B s<;>rfl
 |x::A,B=>by
  simp only[cU,dB];split
  ·rfl
  rw[zE s A B]
  cases dB A s with
  |some k=>rfl
  |none=>
   cases dB B s with
   |none=>rfl
   |some k=>simp only[eE,aJ];congr 1
theorem O8 {p:Pg} {i:Nat} {f:Fu} (l:p.funs[i]?=some f) (s:dE):Ij (kI p) (Gv f) s=(decide ((eZ p i s).1=1),if(eZ p i s).1=0 then 0 else(eZ p i s).2)∧
  ((eZ p i s).1=1→0≤(eZ p i s).2∧(eZ p i s).2<((f.params.length+f.locs.length:Nat):Int))∧((eZ p i s).1=2→0≤(eZ p i s).2∧(eZ p i s).2<(p.vars.length:Int))∧((eZ p i s).1=3→0≤(eZ p i s).2∧(eZ p i s).2<(p.arrs.length:Int))∧((eZ p i s).1=4→0≤(eZ p i s).2∧(eZ p i s).2<(p.funs.length:Int)):=by
 have j:vI (Gv f) s=(dB (jH f) s).map fun k=>(true,((0+k:Nat):Int)):=oV true s _ 0
 have g:vI (kI p) s=match dB p.vars s with
  |some k=>some (false,(k:Int))
  |none=>match dB (p.arrs.map Ar.name) s with
   |some k=>some (false,(k:Int))
   |none=>(dB (p.funs.map Fu.name) s).map (fun k:Nat=>((false,(k:Int)):Bool×Int)):=by
  rw[kI,tN,tN,oV,oV,oV];cases dB p.vars s<;>cases dB (p.arrs.map Ar.name) s<;>cases dB (p.funs.map Fu.name) s<;>simp
 unfold eZ Ij;rw[j,g,l];simp only[bX];rcases LN (dB (jH f) s)with c|⟨k,c⟩
 rotate_left
 ·have:=(jK _ _ _ c).1
  have n:(jH f).length=f.params.length+f.locs.length:=aB;simp only[c,eE,rZ,cD];refine⟨by simp,fun _=>⟨by omega,by omega⟩,fun h=>absurd h (by simp),fun h=>absurd h (by simp),fun h=>absurd h (by simp)⟩
 simp only[c,jF];unfold tU mG;rw[zE,zE];rcases LN (dB p.vars s)with a|⟨k,a⟩
 rotate_left
 ·have:=(jK _ _ _ a).1
  simp only[a,bF this];refine⟨by simp,fun h=>absurd h (by simp),fun _=>⟨by omega,by omega⟩,fun h=>absurd h (by simp),fun h=>absurd h (by simp)⟩
 rcases LN (dB (p.arrs.map Ar.name) s)with b|⟨k,b⟩
 rotate_left
 ·have e:=(jK _ _ _ b).1
  rw[aF]at e;simp only[a,b,eE,aO (show ¬(k+p.vars.length<p.vars.length)from by omega),Nat.add_sub_cancel,bF e];refine⟨by simp,fun h=>absurd h (by simp),fun h=>absurd h (by simp),fun _=>⟨by omega,by omega⟩,fun h=>absurd h (by simp)⟩
 rcases LN (dB (p.funs.map Fu.name) s)with d|⟨k,d⟩
 rotate_left
 ·have e:=(jK _ _ _ d).1
  rw[aF]at e;simp only[a,b,d,eE,jF,aB,aF];rw[aO (show ¬(k+(p.vars.length+p.arrs.length)<p.vars.length)from by omega),aO (show ¬(k+(p.vars.length+p.arrs.length)-p.vars.length<p.arrs.length)from by omega),show k+(p.vars.length+p.arrs.length)-p.vars.length-p.arrs.length=k from by omega];refine⟨by simp,fun h=>absurd h (by simp),fun h=>absurd h (by simp),fun h=>absurd h (by simp),fun _=>⟨by omega,by omega⟩⟩
 simp only[a,b,d,jF];refine⟨by simp,fun h=>absurd h (by simp),fun h=>absurd h (by simp),fun h=>absurd h (by simp),fun h=>absurd h (by simp)⟩
theorem Go.trace {W:List Int} {inp:dE} {k:Nat} {s s':Mc} (h:Go W inp k s s'): ∃g:Nat→Mc,g 0=s∧g k=s'∧ ∀i,i<k→nB W inp (g i)=some (0,g (i+1)):=by
 induction h with
 |nil s=>exact⟨fun _=>s,rfl,rfl,fun i d=>by omega⟩
 | @step k s s1 s2 h _ ih=>
   obtain⟨g,a,b,c⟩:=ih;refine⟨fun i=>match i with |0=>s|i+1=>g i,rfl,b,fun i d=>?_⟩
   cases i with
   |zero=>show nB W inp s=some (0,g 0);rw[a];exact h
   |succ i=>exact c i (by omega)
def E5:Mc:=⟨0,0,0,List.replicate 4224 0,0,[],0⟩
def qX (T:List Int):List Int:=(iK T 0 PL).2
def rK (o:Int):dE:=if o=1∨o=2∨o=19∨o=25 then [97,99]else if o=3 then [97,98]else if o=16∨o=17 then [97,98,99]else if o=22∨o=23∨o=24 then [97]else if o=26 then []else [97,98,114]
def QS (o:Int):Prop:=o=1∨o=2∨o=3∨o=4∨o=5∨o=6∨o=7∨o=8∨o=9∨o=10∨o=11∨o=12∨o=13∨o=14∨o=15∨o=16∨o=17∨o=19∨o=22∨o=23∨o=24∨o=25∨o=26
def vQ (s:dE) (c:UInt8):Bool:=s.any fun x=>decide (x=c)
def vV (t:Bool) (n m:Int):Bool:=if t then decide (0≤n)&&decide (n≤m)else decide (n=0)
def AC (o a b c:Int):Bool:=vV (vQ (rK o) 97) a 15&&vV (vQ (rK o) 98) b 15&&vV (vQ (rK o) 99||vQ (rK o) 114) c (if vQ (rK o) 114 then 15 else 65535)
def yD (w:Int):List AV:=[.int .i64 (w/16777216), .int .i64 (w/1048576 % 16), .int .i64 (w/65536 % 16), .int .i64 (w % 65536)]
def sU (w:Int):Prop:=QS (w/16777216)∧AC (w/16777216) (w/1048576 % 16) (w/65536 % 16) (w % 65536)=true
def ML (x:Int):List AV:=[.int .i64 x]
def IP (W:List Int) (inp:dE) (bm bc:Nat) (vo:AV) (pc r1 r2 rd st en:Int):List AV:=[.int .i64 pc, .int .u32 0, .int .u32 r1, .int .u32 r2, .int .u32 0, .int .u32 0, .int .u32 0, .int .u32 0, .int .u32 0, .int .u32 0, .int .u32 0, .int .u32 0, .int .u32 0, .int .u32 0, .int .u32 0, .int .u32 0, .int .u32 0, .osl 1 bm 4224, .int .i64 rd, .str [], .int .i64 st, .int .i64 en,vo, .isl 4 (W.map yD), .isl 1 (W.map fun _=>[.bool true]), .isl 1 (W.map gI), .str inp, .osl 1 bc W.length]
structure jU (W:List Int) (inp:dE) (r bm bc:Nat) (vo:AV) (s:Mc) (en:Int) (H:Hp):Prop where
 r:H r=some (.rows 28 [[.int .i64 s.pc, .int .u32 0, .int .u32 s.r1, .int .u32 s.r2, .int .u32 0, .int .u32 0, .int .u32 0, .int .u32 0, .int .u32 0, .int .u32 0, .int .u32 0, .int .u32 0, .int .u32 0, .int .u32 0, .int .u32 0, .int .u32 0, .int .u32 0, .osl 1 bm 4224, .int .i64 s.rd, .str [], .int .i64 s.st, .int .i64 en,vo, .isl 4 (W.map yD), .isl 1 (W.map fun _=>[.bool true]), .isl 1 (W.map gI), .str inp, .osl 1 bc W.length]])
 m:H bm=some (.rows 1 (s.mem.map gI))
 ml:s.mem.length=4224
 c: ∃cn:List Int,cn.length=W.length∧H bc=some (.rows 1 (cn.map ML))
 o:dZ 1 vo (s.out.map rJ) H
 om:off vo bm
 oc:off vo bc
 mc:bm≠bc
 ol:s.out.length≤65536
 u1:dQ s.r1
 u2:dQ s.r2
 um: ∀x∈s.mem,dQ x
 rd:s.rd≤inp.length
def gM (r bm bc:Nat) (vo vo':AV) (H H':Hp):Prop:= ∀b o,H b=some o→b≠r→b≠bm→b≠bc→off vo b→H' b=some o∧off vo' b
section
variable {W : List Int} {inp : dE} {r bm bc : Nat} {vo vo' vo2 : AV} {s s' : Mc} {en en' : Int} {H H' H2 : Hp}
theorem gM.refl (r bm bc:Nat) (vo:AV) (H:Hp):gM r bm bc vo vo H H:=fun _ _ h _ _ _ a=>⟨h,a⟩
theorem gM.trans (h:gM r bm bc vo vo' H H') (g:gM r bm bc vo' vo2 H' H2):gM r bm bc vo vo2 H H2:=fun b o j a c d i=>by
 obtain⟨e,f⟩:=h b o j a c d i;exact g b o e a c d f
theorem jU.nmr (h:jU W inp r bm bc vo s en H):bm≠r:=fun e=>by have a:=h.m;have b:=h.r;rw[e,b]at a;cases a
theorem jU.ncr (h:jU W inp r bm bc vo s en H):bc≠r:=fun e=>by obtain⟨d,_,a⟩:=h.c;have b:=h.r;rw[e,b]at a;cases a
theorem jU.or (h:jU W inp r bm bc vo s en H):off vo r:=h.o.offsz h.r (by decide)
theorem jU.turn (h:jU W inp r bm bc vo s en H) (n:H' r=some (.rows 28 [[.int .i64 s'.pc, .int .u32 0, .int .u32 s'.r1, .int .u32 s'.r2, .int .u32 0, .int .u32 0, .int .u32 0, .int .u32 0, .int .u32 0, .int .u32 0, .int .u32 0, .int .u32 0, .int .u32 0, .int .u32 0, .int .u32 0, .int .u32 0, .int .u32 0, .osl 1 bm 4224, .int .i64 s'.rd, .str [], .int .i64 s'.st, .int .i64 en',vo, .isl 4 (W.map yD), .isl 1 (W.map fun _=>[.bool true]), .isl 1 (W.map gI), .str inp, .osl 1 bc W.length]])) (g: ∀b,b≠r→H' b=H b) (f:s'.mem=s.mem) (i:s'.out=s.out) (t:dQ s'.r1) (u:dQ s'.r2) (p:s'.rd≤inp.length):jU W inp r bm bc vo s' en' H':=by
 obtain⟨l,j,k⟩:=h.c;refine⟨n,by rw[f,g _ h.nmr];exact h.m,by rw[f];exact h.ml,⟨l,j,by rw[g _ h.ncr];exact k⟩, ?_,h.om,h.oc,h.mc,by rw[i];exact h.ol,t,u,by rw[f];exact h.um,p⟩;rw[i];rcases h.o with⟨a,d⟩|⟨b,a,d⟩
 ·exact .inl ⟨a,d⟩
 exact .inr ⟨b,a,by rw[g b (fun e=>h.or _ _ (by rw[a,e]))];exact d⟩
theorem gM.turn (e: ∀b,b≠r→H' b=H b):gM r bm bc vo vo H H':=fun b o d a _ _ c=>⟨by rw[e b a];exact d,c⟩
theorem jU.same (h:jU W inp r bm bc vo s en H) (a: ∀b,H' b=H b):jU W inp r bm bc vo s en H':=by
 have :H'=H:=funext a;rw[this];exact h
theorem jU.new (h:jU W inp r bm bc vo s en H) {b:Nat} (a:H b=none) (o:Option iG):jU W inp r bm bc vo s en (upd H b o):=by
 have i:r≠b:=fun e=>by have:=h.r;rw[e,a]at this;cases this
 have j:bm≠b:=fun e=>by have:=h.m;rw[e,a]at this;cases this
 obtain⟨g,f,d⟩:=h.c;have k:bc≠b:=fun e=>by rw[e,a]at d;cases d
 exact {h with r:=by rw[cG _ _ i];exact h.r,m:=by rw[cG _ _ j];exact h.m,c:=⟨g,f,by rw[cG _ _ k];exact d⟩,o:=h.o.upd a o}
theorem gM.new {b:Nat} {o:Option iG} (j:H b=none) (h:gM r bm bc vo vo' (Go.Al.upd H b o) H'):gM r bm bc vo vo' H H':=fun c k a d f g i=>by
 have :c≠b:=fun e=>by rw[e,j]at a;cases a
 exact h c k (by rw[cG _ _ this];exact a) d f g i
theorem jU.far (h:jU W inp r bm bc vo s en H) (d: ∀b,H b≠none→H' b=H b):jU W inp r bm bc vo s en H':=by
 obtain⟨i,g,f⟩:=h.c;refine⟨by rw[d _ (by rw[h.r];exact bY _)];exact h.r,by rw[d _ (by rw[h.m];exact bY _)];exact h.m,h.ml,⟨i,g,by rw[d _ (by rw[f];exact bY _)];exact f⟩, ?_,h.om,h.oc,h.mc,h.ol,h.u1,h.u2,h.um,h.rd⟩;rcases h.o with⟨e,a⟩|⟨b,e,a⟩
 ·exact .inl ⟨e,a⟩
 exact .inr ⟨b,e,by rw[d _ (by rw[a];exact bY _)];exact a⟩
theorem gM.upd2 {a c:Nat} {d f:Option iG} (g:a=r∨a=bm∨a=bc) (i:c=r∨c=bm∨c=bc) (k: ∀b,Go.Al.upd (Go.Al.upd H a d) c f b≠none→H' b=Go.Al.upd (Go.Al.upd H a d) c f b):gM r bm bc vo vo H H':=fun b o j t u v p=>by
 have l:b≠a:=fun e=>by subst e;rcases g with h|h|h<;>contradiction
 have n:b≠c:=fun e=>by subst e;rcases i with h|h|h<;>contradiction
 have e:Go.Al.upd (Go.Al.upd H a d) c f b=some o:=by rw[cG _ _ n,cG _ _ l];exact j
 exact⟨by rw[k b (by rw[e];exact bY _),e],p⟩
theorem G7 {l:List Int} {i:Nat} {x:Int} (h:l[i]?=some x):(l.map gI)[i]?=some [.int .u32 x]:=by rw[cT,h];rfl
end
def gE:Nat→Nat→List Nat
 |0,_=>[]
 |k+1,a=>a % 2::gE k (a/2)
def Tc:List Nat→Nat
 |[]=>0
 |b::l=>b+2 *Tc l
def qM (n:Nat):List AV:=[.int .i64 (n:Int)]
theorem rF: ∀(k a:Nat),(gE k a).length=k
 |0,_=>rfl
 |k+1,a=>by simp only[gE,aJ,rF k]
theorem qB: ∀(k a i:Nat),i<k→(gE k a)[i]?=some (a/2^i % 2)
 |0,_,_,h=>by omega
 |k+1,a,0,_=>by simp [gE]
 |k+1,a,i+1,h=>by
  simp only[gE,fB,qB k (a/2) i (by omega)];rw[XG,mU,Nat.mul_comm 2]
def pO (op:Int) (x y:Nat):Nat:=if(x+y=2∧op≠11)∨(x+y=1∧op≠9)then 1 else 0
theorem IG: ∀l:List Nat,(∀x∈l,x≤1)→Tc l<2^l.length
 |[],_=>by simp [Tc]
 |x::l,h=>by
  have b:=IG l fun y a=>h y (eR _ a);have c:=h x dN;simp only[Tc,aJ,mU];omega
theorem Yx (op:Int): ∀(k a b:Nat),List.zipWith (pO op) (gE k a) (gE k b)=gE k (Tc (List.zipWith (pO op) (gE k a) (gE k b)))
 |0,_,_=>rfl
 |k+1,a,b=>by
  simp only[gE,XH,Tc];have h:pO op (a % 2) (b % 2)≤1:=by unfold pO;split<;>omega
  rw[show(pO op (a % 2) (b % 2)+2 *Tc (List.zipWith (pO op) (gE k (a/2)) (gE k (b/2)))) % 2=pO op (a % 2) (b % 2)by omega,show(pO op (a % 2) (b % 2)+2 *Tc (List.zipWith (pO op) (gE k (a/2)) (gE k (b/2))))/2=Tc (List.zipWith (pO op) (gE k (a/2)) (gE k (b/2)))by omega,←Yx op k]
theorem P5: ∀(k a b:Nat),a<2^k→b<2^k→Tc (List.zipWith (pO 9) (gE k a) (gE k b))=a&&&b
 |0,a,b,ha,hb=>by
  have :a=0:=by simp at ha;exact ha
  subst this;simp [gE,Tc]
 |k+1,a,b,ha,hb=>by
  simp only[gE,XH,Tc];rw[P5 k (a/2) (b/2) (by rw[mU]at ha;omega) (by rw[mU]at hb;omega)];have c:(a&&&b)/2=a/2&&&b/2:=Nat.and_div_two;have d:(a&&&b) % 2=a % 2&&&b % 2:=Nat.and_mod_two_pow (n:=1);rw[←Nat.div_add_mod (a&&&b) 2,c,d]
  have e:pO 9 (a % 2) (b % 2)=a % 2&&&b % 2:=by
   rcases pE a with x|x<;>rcases pE b with y|y<;>rw[x,y]<;>decide
  rw[e];omega
theorem IF: ∀(k a b:Nat),a<2^k→b<2^k→Tc (List.zipWith (pO 10) (gE k a) (gE k b))=a|||b
 |0,a,b,ha,hb=>by
  have :a=0:=by simp at ha;exact ha
  have :b=0:=by simp at hb;exact hb
  subst a;subst b;simp [gE,Tc]
 |k+1,a,b,ha,hb=>by
  simp only[gE,XH,Tc];rw[IF k (a/2) (b/2) (by rw[mU]at ha;omega) (by rw[mU]at hb;omega)];have c:(a|||b)/2=a/2|||b/2:=Nat.or_div_two
  have d:(a|||b) % 2=a % 2|||b % 2:=Nat.or_mod_two_pow (n:=1)
  rw[←Nat.div_add_mod (a|||b) 2,c,d]
  have e:pO 10 (a % 2) (b % 2)=a % 2|||b % 2:=by
   rcases pE a with x|x<;>rcases pE b with y|y<;>rw[x,y]<;>decide
  rw[e];omega
theorem P4: ∀(k a b:Nat),a<2^k→b<2^k→Tc (List.zipWith (pO 11) (gE k a) (gE k b))=a^^^b
 |0,a,b,ha,hb=>by
  have :a=0:=by simp at ha;exact ha
  have :b=0:=by simp at hb;exact hb
  subst a;subst b;simp [gE,Tc]
 |k+1,a,b,ha,hb=>by
  simp only[gE,XH,Tc];rw[P4 k (a/2) (b/2) (by rw[mU]at ha;omega) (by rw[mU]at hb;omega)];have c:(a^^^b)/2=a/2^^^b/2:=Nat.xor_div_two;have d:(a^^^b) % 2=a % 2^^^b % 2:=Nat.xor_mod_two_pow (n:=1);rw[←Nat.div_add_mod (a^^^b) 2,c,d]
  have e:pO 11 (a % 2) (b % 2)=a % 2^^^b % 2:=by
   rcases pE a with x|x<;>rcases pE b with y|y<;>rw[x,y]<;>decide
  rw[e];omega
def yQ (op:Int) (a b:Nat):Nat:=Tc (List.zipWith (pO op) (gE 32 a) (gE 32 b))
theorem ON (op:Int) (x y:Nat):pO op x y≤1:=by unfold pO;split<;>omega
theorem KP (op:Int) (a b:Nat):yQ op a b<4294967296:=by
 have:=IG (List.zipWith (pO op) (gE 32 a) (gE 32 b)) fun x d=>by
  obtain⟨i,c⟩:=gO d;rw[List.getElem?_zipWith]at c;split at c
  ·cases c;exact ON _ _ _
  cases c
 simpa [List.length_zipWith,rF,yQ]using this
theorem xM (n:Nat) (h:n<4294967296):(BitVec.ofInt 32 (n:Int)).toNat=n:=by
 rw[BitVec.toNat_ofInt];omega
theorem Yu (op:Int) (f:op=9∨op=10∨op=11) (a b:Nat) (c:a<4294967296) (d:b<4294967296):eP op a b=(((yQ op a b:Nat):Int),(0:Int)):=by
 have e: ∀n:Nat,n<4294967296→IntKind.wrap .u32 (n:Int)=(n:Int):=fun n h=>by simp [IntKind.wrap,IntKind.signed,IntKind.bits];omega
 rcases f with rfl|rfl|rfl
 ·show(IntKind.wrap .u32 (BitVec.ofInt 32 a&&&BitVec.ofInt 32 b).toNat,(0:Int))=_
  rw[BitVec.toNat_and,xM a c,xM b d,yQ,P5 32 a b c d,e _ (Nat.lt_of_le_of_lt Nat.and_le_left c)]
 ·show(IntKind.wrap .u32 (BitVec.ofInt 32 a|||BitVec.ofInt 32 b).toNat,(0:Int))=_
  rw[BitVec.toNat_or,xM a c,xM b d,yQ,IF 32 a b c d,e _ (Nat.or_lt_two_pow (n:=32) c d)]
 show(IntKind.wrap .u32 (BitVec.ofInt 32 a^^^BitVec.ofInt 32 b).toNat,(0:Int))=_;rw[BitVec.toNat_xor,xM a c,xM b d,yQ,P4 32 a b c d,e _ (Nat.xor_lt_two_pow (n:=32) c d)]
theorem qI (a b:Nat):((a:Int)).tmod (b:Int)=((a % b:Nat):Int):=by rw[Int.ofNat_tmod]
theorem zX (a b:Nat):((a:Int)).tdiv (b:Int)=((a/b:Nat):Int):=by rw[Int.ofNat_tdiv]
theorem B7 (n:Nat) (h:n<4294967296):IntKind.wrap .u32 (n:Int)=(n:Int):=by simp [IntKind.wrap,IntKind.signed,IntKind.bits];omega
theorem L9 (n:Nat) (h:n<18446744073709551616):IntKind.wrap .u64 (n:Int)=(n:Int):=by simp [IntKind.wrap,IntKind.signed,IntKind.bits];omega
theorem Xh {l:List Nat} {i x:Nat} (h:l[i]?=some x):(l.map qM)[i]?=some [.int .i64 (x:Int)]:=by rw[cT,h];rfl
theorem CC (op:Int) (a b k:Nat) (c:k<32):(List.zipWith (pO op) (gE 32 a) (gE 32 b))[k]?=some (pO op (a/2^k % 2) (b/2^k % 2)):=by
 rw[List.getElem?_zipWith,qB _ _ _ c,qB _ _ _ c]
theorem D7 (f:AV) (d:List AV) (b c:Int) (a:Int) (h:0≤a∧a≤15):(f:: .int .u32 0:: .int .u32 b:: .int .u32 c:: .int .u32 0:: .int .u32 0:: .int .u32 0:: .int .u32 0:: .int .u32 0:: .int .u32 0:: .int .u32 0:: .int .u32 0:: .int .u32 0:: .int .u32 0:: .int .u32 0:: .int .u32 0:: .int .u32 0::d)[1+a.toNat]?=some (.int .u32 (if a=1 then b else if a=2 then c else 0)):=by
 have :a=0∨a=1∨a=2∨a=3∨a=4∨a=5∨a=6∨a=7∨a=8∨a=9∨a=10∨a=11∨a=12∨a=13∨a=14∨a=15:=by omega
 rcases this with rfl|rfl|rfl|rfl|rfl|rfl|rfl|rfl|rfl|rfl|rfl|rfl|rfl|rfl|rfl|rfl<;>rfl
section
variable {W : List Int} {inp : dE} {r bm bc : Nat} {vo vo' : AV} {s s' : Mc} {en en' : Int} {H H' : Hp}
theorem Mc.r_u (h:jU W inp r bm bc vo s en H) (a:Int):dQ (s.r a):=by
 unfold Mc.r;split
 ·exact h.u1
 split
 ·exact h.u2
 simp [dQ]
theorem jU.store (h:jU W inp r bm bc vo s en H) (j:Nat) (v:Int) (p:dQ v) (n:H' bm=some (.rows 1 ((s.mem.map gI).set j [.int .u32 v]))) (f: ∀b,b≠bm→H' b=H b):jU W inp r bm bc vo {s with mem:=s.mem.set j v} en H':=by
 obtain⟨l,i,k⟩:=h.c;refine⟨by rw[f _ (Ne.symm h.nmr)];exact h.r,by rw[n,rE],by rw[dK];exact h.ml,⟨l,i,by rw[f _ (Ne.symm h.mc)];exact k⟩, ?_,h.om,h.oc,h.mc,h.ol,h.u1,h.u2,fun x g=>?_,h.rd⟩
 ·rcases h.o with⟨a,d⟩|⟨b,a,d⟩
  ·exact .inl ⟨a,d⟩
  exact .inr ⟨b,a,by rw[f b (fun e=>h.om _ _ (by rw[a,e]))];exact d⟩
 rcases pR g with g|rfl
 ·exact h.um x g
 exact p
theorem jU.count (h:jU W inp r bm bc vo s en H) {cn:List Int} (f:cn.length=W.length) (g:H' bc=some (.rows 1 (cn.map ML))) (d: ∀b,b≠bc→H' b=H b):jU W inp r bm bc vo s en H':=by
 refine⟨by rw[d _ (Ne.symm h.ncr)];exact h.r,by rw[d _ h.mc];exact h.m,h.ml,⟨cn,f,g⟩, ?_,h.om,h.oc,h.mc,h.ol,h.u1,h.u2,h.um,h.rd⟩;rcases h.o with⟨a,c⟩|⟨b,a,c⟩
 ·exact .inl ⟨a,c⟩
 exact .inr ⟨b,a,by rw[d b (fun e=>h.oc _ _ (by rw[a,e]))];exact c⟩
theorem jU.put {c:UInt8} (h:jU W inp r bm bc vo s en H) (y:s.out.length<65536) (t:dZ 1 vo' (s.out.map rJ++[rJ c]) H') (i: ∀b o,H b=some o→vo≠ .osl 1 b (s.out.map rJ).length→H' b=some o) (f: ∀b,off vo b→H b≠none→off vo' b) {H2:Hp}
  (u:H2 r=some (.rows 28 [[.int .i64 s.pc, .int .u32 0, .int .u32 s.r1, .int .u32 s.r2, .int .u32 0, .int .u32 0, .int .u32 0, .int .u32 0, .int .u32 0, .int .u32 0, .int .u32 0, .int .u32 0, .int .u32 0, .int .u32 0, .int .u32 0, .int .u32 0, .int .u32 0, .osl 1 bm 4224, .int .i64 s.rd, .str [], .int .i64 s.st, .int .i64 en,vo', .isl 4 (W.map yD), .isl 1 (W.map fun _=>[.bool true]), .isl 1 (W.map gI), .str inp, .osl 1 bc W.length]])) (d: ∀b,b≠r→H2 b=H' b):
  jU W inp r bm bc vo' {s with out:=s.out++[c]} en H2∧gM r bm bc vo vo' H H2:=by
 obtain⟨p,n,j⟩:=h.c;have x:off vo' r:=f r h.or (by rw[h.r];exact bY _);refine⟨⟨u,by rw[d _ h.nmr];exact i _ _ h.m (h.om _ _),h.ml,⟨p,n,by rw[d _ h.ncr];exact i _ _ j (h.oc _ _)⟩, ?_,f _ h.om (by rw[h.m];exact bY _),f _ h.oc (by rw[j];exact bY _),h.mc, ?_,h.u1,h.u2,h.um,h.rd⟩,fun b o k v z A l=>⟨by rw[d _ v];exact i _ _ k (l _ _),f b l (by rw[k];exact bY _)⟩⟩
 ·rw[cP]
  rcases t with⟨a,g⟩|⟨b,a,g⟩
  ·exact .inl ⟨a,g⟩
  exact .inr ⟨b,a,by rw[d b (fun e=>x _ _ (by rw[a,e]))];exact g⟩
 simp only[aB,bW];omega
end
end Go.Al
namespace Go.Proofs.YtaecpjgmcffliaaGreatDoor
open Go.Al Go.Proofs.Tryz
theorem W9 (e:Ex) (a:Int):lA e a=(Q8 e a&&lG e.kind e.op e.kids.length&&kH e.kids (a+1)):=rfl
theorem Bq {p:Pg} {i:Nat} {f:Fu} {cx:Cx} (t:p.funs[i]?=some f) (o: ∀(j:Nat) (g:Fu),p.funs[j]?=some g→ ∃c,cx.funs[j]?=some c∧c.words=g.params.length+g.locs.length) {u:Us} (n:iQ p i u=true) (d:tL p i u=true):
  (u.kind=1→CJ cx p.vars.length i (Ij (kI p) (Gv f) u.name))∧(u.kind=3→0≤(Ij (kI p) (Gv f) u.name).2∧(Ij (kI p) (Gv f) u.name).2<(p.arrs.length:Int))∧(u.kind=4→ ∀k:Nat,u.num=(k:Int)→Up cx i (Ij (kI p) (Gv f) u.name) k):=by
 obtain⟨C,x,y,z,A⟩:=O8 t u.name;rw[C];simp only[iQ,eI,vS,uB,eQ,pG,bH]at n;obtain⟨⟨k1,k3⟩,k4⟩:=n;refine⟨fun e=>?_,fun e=>?_,fun e k E=>?_⟩
 ·rcases k1 with(h|h)|h
  ·exact absurd e h
  ·have:=x h
   refine⟨by simp only;rw[aO (by omega)];omega,fun _ c B=>?_,fun a=>?_⟩
   ·obtain⟨D,b,l⟩:=o i f t
    rw[B]at b;cases b;simp only;rw[aO (by omega),l];omega
   simp only[eQ]at a;exact absurd h a
  have:=y h;refine⟨by simp only;rw[aO (by omega)];omega,fun a=>?_,fun _=>?_⟩
  ·simp only[bH]at a;omega
  simp only;rw[aO (by omega)];omega
 ·rcases k3 with h|h
  ·exact absurd e h
  have:=z h;simp only;rw[aO (by omega)];omega
 rcases k4 with h|⟨h,a⟩
 ·exact absurd e h
 have:=A h;simp only[tL,e,rZ,Rq,PE]at d;have v:(eZ p i u.name).2.toNat<p.funs.length:=by omega
 rw[aC v]at d;simp only[bH]at d;obtain⟨c,b,l⟩:=o _ _ (aC v);refine⟨by simp only;rw[aO (by omega)];omega,by simp only;rw[aO (by omega)];omega,c,by simp only;rw[aO (by omega)];exact b,by rw[l];omega⟩
theorem RU {p:Pg} {i:Nat} {f:Fu} {cx:Cx} (z:p.funs[i]?=some f) (y: ∀(j:Nat) (g:Fu),p.funs[j]?=some g→ ∃c,cx.funs[j]?=some c∧c.words=g.params.length+g.locs.length) (n:Nat): ∀(l:List Ex) (x:Int),pB l≤n→kH l x=true→(∀u∈fO l,iQ p i u=true∧tL p i u=true)→yY cx p.vars.length p.arrs.length i (Ij (kI p) (Gv f)) l:=by
 induction n using Nat.strongRecOn with
 |_ n ih=>
  intro l x A t v
  match l,A,t,v with
  |[],_,_,_=>simp only[yY]
  |e::l,A,t,v=>
   rw[oU,W9]at t;simp only[aV]at t;obtain⟨⟨⟨_,a⟩,C⟩,D⟩:=t;have I:=e.sz_eq;simp only[pB]at A;have F: ∀u∈fO l,iQ p i u=true∧tL p i u=true:=fun u h=>v u (by rw[jN];simp [h]);have E: ∀u∈fO e.kids,iQ p i u=true∧tL p i u=true:=fun u h=>v u (by rw[jN];simp [h]);have B: ∀u∈pI e,iQ p i u=true∧tL p i u=true:=fun u h=>v u (by rw[jN];simp [h]);have G:=ih (pB e.kids) (by omega) e.kids (x+1) (aZ _) C E;have H:=ih (pB l) (by omega) l x (aZ _) D F;obtain⟨k,o,m,s,kids⟩:=e;simp only[Ex.kind,Ex.op,Ex.kids,Ex.name,pI]at *;simp only[yY,VA];refine⟨⟨fun h=>?_,fun h=>?_,fun h=>?_,fun h=>?_,fun J K L M N O=>?_,G⟩,H⟩
   ·subst h
    obtain⟨b,d⟩:=B ⟨s,1,0⟩ (by simp);exact(Bq z y b d).1 rfl
   ·subst h
    obtain⟨b,d⟩:=B ⟨s,3,0⟩ (by simp);have:=(Bq z y b d).2.1 rfl;exact⟨this.1,this.2,by simp [lG]at a;omega⟩
   ·subst h
    obtain⟨b,d⟩:=B ⟨s,4,kids.length⟩ (by simp);exact(Bq z y b d).2.2 rfl kids.length rfl
   ·subst h
    simp [lG]at a;omega
   unfold lG at a;rw[aO (by omega),aO (by omega),aO (by omega)]at a;split at a
   ·simp only[aV,bH]at a;omega
   split at a
   ·simp only[bH]at a;omega
   cases a
theorem RQ {p:Pg} {i:Nat} {f:Fu} {cx:Cx} (y:p.funs[i]?=some f) (x: ∀(j:Nat) (g:Fu),p.funs[j]?=some g→ ∃c,cx.funs[j]?=some c∧c.words=g.params.length+g.locs.length) (n:Nat): ∀(l:List Sm) (b:Int),lQ l≤n→jG l b=true→(∀u∈eN l,iQ p i u=true∧tL p i u=true)→Hg cx p.vars.length p.arrs.length i (Ij (kI p) (Gv f)) l:=by
 induction n using Nat.strongRecOn with
 |_ n ih=>
  intro l b A v a
  match l,A,v,a with
  |[],_,_,_=>simp only[Hg]
  |e::l,A,v,a=>
   rw[oS]at v;simp only[lB,aV]at v;obtain⟨⟨⟨⟨⟨_,z⟩,J⟩,D⟩,G⟩,C⟩:=v;have O:=e.sz_eq;simp only[lQ]at A;have F: ∀u∈eN l,iQ p i u=true∧tL p i u=true:=fun u h=>a u (by rw[jA];simp [h]);have E: ∀u∈fO e.es,iQ p i u=true∧tL p i u=true:=fun u h=>a u (by rw[jA];simp [h]);have H: ∀u∈eN e.thn,iQ p i u=true∧tL p i u=true:=fun u h=>a u (by rw[jA];simp [h]);have I: ∀u∈eN e.els,iQ p i u=true∧tL p i u=true:=fun u h=>a u (by rw[jA];simp [h]);have B: ∀u∈nD e,iQ p i u=true∧tL p i u=true:=fun u h=>a u (by rw[jA];simp [h]);have K:=RU y x _ e.es (b+1) (aZ _) J E;have L:=ih (lQ e.thn) (by omega) e.thn (b+1) (aZ _) D H;have N:=ih (lQ e.els) (by omega) e.els (b+1) (aZ _) G I;have M:=ih (lQ l) (by omega) l b (aZ _) C F;obtain⟨k,s,es,t,u⟩:=e;simp only[Sm.kind,Sm.name,Sm.es,Sm.thn,Sm.els,nD]at *;simp only[Hg,UQ];refine⟨⟨fun h=>?_,fun h=>?_,fun h=>?_,fun h=>?_,K,L,N⟩,M⟩
   ·subst h
    obtain⟨d,o⟩:=B ⟨s,1,0⟩ (by simp);exact(Bq y x d o).1 rfl
   ·subst h
    obtain⟨d,o⟩:=B ⟨s,3,0⟩ (by simp);have:=(Bq y x d o).2.1 rfl;exact⟨this.1,this.2,by simp [Gg]at z;omega⟩
   ·subst h
    obtain⟨d,o⟩:=B ⟨s,4,es.length⟩ (by simp);exact(Bq y x d o).2.2 rfl es.length rfl
   unfold Gg at z;rw[bF h]at z;simp only[bH]at z;omega
theorem xJ {p:Pg} (h:gZ p=0):fZ p=true∧(mG p).Nodup∧nJ p=true∧sN p=true:=by
 unfold gZ at h;by_cases b:fZ p=true
 ·rw[bF b]at h
  by_cases a:lW p=0
  ·refine⟨b, ?_⟩
   unfold lW at a;split at a
   ·rename_i c
    split at a
    ·rename_i e
     have d:=c;simp only[nJ,aV,bH]at d;exact⟨d.1,c,e⟩
    cases a
   cases a
  rw[aO a]at h;exact absurd h a
 rw[aO b]at h;cases h
theorem It (p:Pg): ∀(l:List Fu) (i:Nat),oC p i l=true→ ∀(j:Nat) f,l[j]?=some f→(eN f.body).all (tL p (i+j))=true
 |[],_,_,_,_,hf=>by simp at hf
 |g::l,i,h,j,f,hf=>by
  simp only[oC,aV]at h
  cases j with
  |zero=>simp at hf;subst hf;exact h.1
  |succ j=>
   have:=It p l (i+1) h.2 j f (by simpa using hf);rwa [show i+1+j=i+(j+1)by omega]at this
theorem W3 {p:Pg} (h:gZ p=0) (inp:dE) (z:Int): ∃n r,Nv (Qq p inp z) n p.vars.length (p.arrs.map fun a=>a.size.toNat)=some r:=by
 obtain⟨v,B,t,o⟩:=xJ h;simp only[fZ,aV,bH,cI]at v;simp only[nJ,aV]at t;simp only[sN,aV]at o;refine W7 (fun e=>?_) fun i c l=>?_
 ·have:=congrArg List.length e
  simp only[Qq,aF,aT]at this;omega
 simp only[Qq,cT,bG]at l;obtain⟨f,b,rfl⟩:=l;have d:=(oD p p.funs 0 t.2 i f b).2;have k:=It p p.funs 0 o.1 i f b;rw[cD,cI]at d k;have x:=v.2 f (aW b);simp only[lC,aV]at x;rw[aF];exact RQ b (fun j g A=>⟨Gz (kI p) g,by simp [Qq,cT,A],rfl⟩) _ f.body 1 (aZ _) x.2 fun u y=>⟨d u y,k u y⟩
theorem Wl {p:Pg} (b:p.few) (h:gZ p=0):LL p:=by
 obtain⟨c,j,d,l⟩:=xJ h;simp only[fZ,aV,bH,cI]at c;simp only[nJ,aV]at d;refine⟨b.ok,j,fun f g=>?_,b.v,b.a,b.f,c.1.1.1.2,b.fs,fun a e=>?_⟩
 ·obtain⟨i,k⟩:=gO g
  exact(oD p p.funs 0 d.2 i f k).1
 have:=c.1.2 a e;simp only[pX,aV,bH]at this;omega
theorem Pz: ∀{l:List dE} {s:dE},s∈l→ ∃k,dB l s=some k
 |x::l,s,h=>by
  rw[dB];by_cases e:x=s
  ·rw[bF e];exact⟨0,rfl⟩
  rw[aO e];obtain⟨k,b⟩:=Pz ((bJ.1 h).resolve_left fun a=>e a.symm);rw[b];exact⟨k+1,rfl⟩
theorem Io: ∀{l:List dE} {s:dE},s∉l→dB l s=none
 |[],_,_=>rfl
 |x::l,s,h=>by
  rw[dB,aO (fun e=>h (by rw[e];exact dN)),Io fun e=>h (eR _ e)];rfl
theorem Xc {p:Pg} {f:Fu} (h:rA p f) (s:dE):Ij (kI p) (Gv f) s=(match dB p.vars s with
  |some k=>some (false,(k:Int))
  |none=>match dB (p.arrs.map Ar.name) s with
   |some k=>some (false,(k:Int))
   |none=>(dB (p.funs.map Fu.name) s).map (fun k:Nat=>((false,(k:Int)):Bool×Int))).getD (false,0):=by
 have a:Gv f=[]:=by unfold Gv;rw[h.params,h.locs];rfl
 unfold Ij;rw[a,vI];simp only;rw[kI,tN,tN,oV,oV,oV];cases dB p.vars s<;>cases dB (p.arrs.map Ar.name) s<;>cases dB (p.funs.map Fu.name) s<;>simp
theorem xK {p:Pg} {f:Fu} (h:rA p f) {c:UInt8} (e:[c]∈p.vars): ∃k,Ij (kI p) (Gv f) [c]=(false,((k:Nat):Int))∧p.vars[k]?=some [c]∧k<p.vars.length:=by
 obtain⟨k,a⟩:=Pz e;obtain⟨b,d⟩:=jK _ _ _ a;exact⟨k,by rw[Xc h,a];rfl,d,b⟩
theorem GW {p:Pg} {f:Fu} (h:rA p f):Nm (fun c=>[c]∈p.vars) (p.arrs.length=1) (Ij (kI p) (Gv f)):=by
 have z: ∀c,[c]∈p.vars→97≤c.toNat∧c.toNat≤122:=fun c b=>by
  have:=h.vars _ b;simp only[Cj,aV,bH]at this;omega
 refine⟨z,fun c A b t e=>?_,fun c b=>?_,fun o=>?_⟩
 ·obtain⟨k,d,n,_⟩:=xK h b
  obtain⟨j,l,g,_⟩:=xK h t;rw[d,l]at e;have e:((k:Nat):Int)=((j:Nat):Int):=e;obtain rfl:k=j:=by omega
  rw[n]at g;simpa using g
 ·obtain⟨k,d,_⟩:=xK h b
  rw[d];exact⟨rfl,by simp⟩
 have y:dB p.vars [116]=none:=Io fun u=>by
  have:=h.vars _ u;simp [Cj]at this
 obtain⟨a,i⟩:=Eg o;have v:=(h.arrs a (by rw[i];exact bE.2 rfl)).1;have x:dB (p.arrs.map Ar.name) [116]=some 0:=by rw[i];simp [dB,v]
 rw[Xc h,y,x];rfl
theorem NM {p:Pg} {f:Fu} (h:rA p f) (D: ∀m∈f.body,SS (fun c=>[c]∈p.vars) (p.arrs.length=1) 1 m) (hl:(iL f.body).length+1≤2500) (inp:dE) (u:Int) {n:Nat} {e:Int} {Q:dE} {t:Nat} (C:Nv (Qq p inp u) n p.vars.length (p.arrs.map fun a=>a.size.toNat)=some (e,Q,t)) (he:e≠5):
  ∃k E,k+1≤4 *((iL f.body).length+1) *(t+1)∧Fin (qX (pY 0 f.body++[36])) inp k E5 e E∧E.out=Q∧e≠0:=by
 have J:=GW h
 have a2:(Qq p inp u).main=some (Gz (kI p) f):=by
  show(p.funs.map (Gz (kI p)))[(p.funs.map (Gz (kI p))).length- 1]?=_;rw[h.funs];rfl
 unfold Nv at C;rw[a2]at C;have hw:(Gz (kI p) f).words=0:=by show f.params.length+f.locs.length=0;rw[h.params,h.locs];rfl
 simp only[bX,bG,hw,List.replicate_zero]at C;obtain⟨r,F,y⟩:=C;have F:nK (Qq p inp u) n (Ij (kI p) (Gv f)) [] f.body (RS.init p.vars.length (p.arrs.map fun a=>a.size.toNat))=some r:=F;have a0:=qV (b:=0) fun x hx=>jL (D x hx);obtain⟨w1,S⟩:=jM (W:=qX (pY 0 f.body++[36])) (q:=0) (A:=pY 0 f.body) (B:=[36]) (z:=PL) (fun i _=>by rw[Nat.mul_zero,cD];rfl);have G:=LU (N:=2500) (l:=f.body) (q:=0) (d:=0) (fun m P q hq=>⟨LQ (by decide) (D m P) q 0 (by decide) hq,jL (D m P) q⟩) (by omega);have G:(iK (pY 0 f.body) 0 PL).1=zl ((0:Nat):Int) 0:=G;rw[G,a0,cD,eJ,(pS (A:=1509949440) (X:=gB 26 0 0 0) (g:=2) (by decide) (by decide) (by decide) (by decide) (by decide) (by decide) (by decide) (by decide)).1]at S
 have hM:MR (fun c=>[c]∈p.vars) (p.arrs.length=1) (Ij (kI p) (Gv f)) (RS.init p.vars.length (p.arrs.map fun a=>a.size.toNat)) E5:=by
  refine⟨by show(List.replicate 4224 (0:Int)).length=4224;rw[fG],rfl,rfl,fun c O=>?_,fun Z=>?_⟩
  ·obtain⟨k,U,_,V⟩:=xK h O
   have:=J.lt c O;refine⟨0, ?_,by simp [dQ], ?_⟩
   ·rw[U]
    show(List.replicate p.vars.length (0:Int))[((k:Nat):Int).toNat]?=_;rw[cA,rC,bF V]
   show(List.replicate 4224 (0:Int))[c.toNat]?=_;rw[rC,bF (by omega)]
  obtain⟨a,K⟩:=Eg Z;have hn:=(h.arrs a (by rw[K];exact bE.2 rfl)).2;refine⟨List.replicate 4096 0, ?_,fG,fun j hj=>⟨0,by rw[rC,bF hj],by simp [dQ], ?_⟩⟩
  ·show((p.arrs.map fun a=>a.size.toNat).map fun n=>List.replicate n (0:Int))[0]?=_
   rw[K];show some (List.replicate a.size.toNat (0:Int))=_;rw[hn,show(4096:Int).toNat=4096 from rfl]
  show(List.replicate 4224 (0:Int))[128+j]?=_;rw[rC,bF (by omega)]
 have o:=(ZG (W:=qX (pY 0 f.body++[36])) (cx:=Qq p inp u) J (N:=(iL f.body).length+1) (by omega) (M:=4 *((iL f.body).length+1)) rfl n).L D 0 0 (RS.init p.vars.length (p.arrs.map fun a=>a.size.toNat)) E5 r (by decide) (by omega) w1 rfl hM F;have a3:(RS.init p.vars.length (p.arrs.map fun a=>a.size.toNat)).ticks=0:=rfl;rw[a3]at o;have a4:4 *((iL f.body).length+1) *(t+1)=4 *((iL f.body).length+1) *t+4 *((iL f.body).length+1):=Nat.mul_succ _ _
 cases r with
 |val v st=>
  simp only[Ul,Prod.mk.injEq]at y;obtain⟨rfl,rfl,rfl⟩:=y;obtain⟨_,k,R,hk,T,H,I,_⟩:=o;rw[cD]at H;obtain⟨k1,k2⟩:=An (inp:=inp) (d:=0) (e:=0) S (by decide) H (by decide) I.len;have a1:uG inp 26 0 0 0 (R.hd (iL f.body).length 0)=some (1,(R.hd (iL f.body).length 0).stp):=rfl;exact⟨k+2,_,by omega,⟨_,Go.app T k1,k2.trans a1⟩,I.out,by decide⟩
 |fin x st=>
  simp only[Ul,Prod.mk.injEq]at y;obtain⟨rfl,rfl,rfl⟩:=y;obtain⟨x0,o⟩:=o;rcases o with Y|⟨k,E,hk,hf,ho⟩
  ·exact absurd Y he
  exact⟨k,E,by omega,hf,ho,x0⟩
def ZH:dE→Bool×Int:=Ij (kI fW) (Gv qQ)
theorem VU:pD ZH:=⟨rfl,rfl,rfl,rfl,rfl,rfl,rfl,rfl,rfl,rfl,rfl⟩
theorem HC {V:UInt8→Prop} {A:Prop} {l:List Sm} (g: ∀m∈l,SS V A 1 m) (f:(iL l++[36]).length≤2500) (c:Int) (y:7 *((iL l++[36]).length:Int)+50<c):
  ∃n t,Nv (Qq fW (iL l++[36]) c) n fW.vars.length (fW.arrs.map fun a=>a.size.toNat)=some (1,uZ (Tv (pY 0 l++[36])),t)∧t≤7 *(iL l++[36]).length+50:=by
 have p:=MZ g
 have v: ∀x∈pY 0 l++[36],0≤x∧x<4294967296:=fun x d=>by
  rw[eV,bE]at d;rcases d with d|rfl
  ·exact P7 (N:=2500) (by decide) (b:=0) (fun m u b k=>WJ (by decide) (g m u) b k) (by rw[aB]at f;omega) x d
  decide
 have o:(Qq fW (iL l++[36]) c).fuel=c.toNat:=by
  show(if c<0 then 0 else c).toNat=_;rw[aO (by omega)]
 obtain⟨n,st,e,i,j⟩:=MG (cx:=Qq fW (iL l++[36]) c) (t:=iL l++[36]) VU rfl f (by rw[o];omega) p v;refine⟨n,st.ticks, ?_,j⟩;have e:nK (Qq fW (iL l++[36]) c) n (Gz (kI fW) qQ).res (List.replicate (Gz (kI fW) qQ).words 0) (Gz (kI fW) qQ).body (RS.init fW.vars.length (fW.arrs.map fun a=>a.size.toNat))=_:=e;show(some (Gz (kI fW) qQ)).bind _=_;rw[bX,e,eE];simp only[Ul,i]
mutual
def YG:Ex→Int→Bool
 | .mk k o n s l,lv=>Q8 (.mk k o n s l) lv&&lG k o l.length&&UU l (lv+1)
def UU:List Ex→Int→Bool
 |[],_=>true
 |e::l,lv=>YG e lv&&UU l lv
end
mutual
theorem SH: ∀(e:Ex) (a:Int),YG e a=lA e a
 | .mk k o n s l,a=>by simp only[YG,lA,Ex.kind,Ex.op,Ex.kids,D5 l]
theorem D5: ∀(l:List Ex) (a:Int),UU l a=kH l a
 |[],_=>by simp only[UU,oO]
 |e::l,a=>by simp only[UU,oU,SH e,D5 l]
end
mutual
def YH:Sm→Int→Bool
 | .mk k s l t u,lv=>Q9 (.mk k s l t u) lv&&Gg k l.length&&UU l (lv+1)&&UT t (lv+1)&&UT u (lv+1)
def UT:List Sm→Int→Bool
 |[],_=>true
 |e::l,lv=>YH e lv&&UT l lv
end
mutual
def uX:Ex→List Us
 | .mk k o n s l=>pI (.mk k o n s l)++uE l
def uE:List Ex→List Us
 |[]=>[]
 |e::l=>uX e++uE l
end
mutual
theorem VC: ∀e:Ex,uX e=pI e++fO e.kids
 | .mk k o n s l=>by simp only[uX,Ex.kids,CO l]
theorem CO: ∀l:List Ex,uE l=fO l
 |[]=>by simp only[uE,fO]
 |e::l=>by simp only[uE,jN,VC e,CO l]
end
mutual
def uM:Sm→List Us
 | .mk k s l t u=>nD (.mk k s l t u)++uE l++uS t++uS u
def uS:List Sm→List Us
 |[]=>[]
 |e::l=>uM e++uS l
end
mutual
theorem VE: ∀e:Sm,uM e=nD e++fO e.es++eN e.thn++eN e.els
 | .mk k s l t u=>by simp only[uM,Sm.es,Sm.thn,Sm.els,CO l,Vv t,Vv u]
theorem Vv: ∀l:List Sm,uS l=eN l
 |[]=>by simp only[uS,eN]
 |e::l=>by simp only[uS,jA,VE e,Vv l]
end
mutual
def kX:Ex→Bool
 | .mk k o n s l=>decide (-9223372036854775808≤k∧k<9223372036854775808)&&decide (-9223372036854775808≤o∧o<9223372036854775808)&&decide (0≤n∧n<4294967296)&&decide (s.length≤9223372036854775807)&&decide (l.length≤9223372036854775807)&&WR l
def WR:List Ex→Bool
 |[]=>true
 |e::l=>kX e&&WR l
end
mutual
theorem WO: ∀e:Ex,kX e=true→e.ok
 | .mk k o n s l,h=>by
   simp only[kX,aV,bH]at h;exact .mk _ _ _ _ _ h.1.1.1.1.1 h.1.1.1.1.2 h.1.1.1.2 h.1.1.2 h.1.2 (IZ l h.2)
theorem IZ: ∀l:List Ex,WR l=true→ ∀e∈l,e.ok
 |[],_=>fun e he=>by cases he
 |x::l,h=>fun e he=>by
  simp only[WR,aV]at h;rcases bJ.1 he with a|he
  ·rw[a];exact WO x h.1
  exact IZ l h.2 e he
end
mutual
def kM:Sm→Bool
 | .mk k s l t u=>decide (-9223372036854775808≤k∧k<9223372036854775808)&&decide (s.length≤9223372036854775807)&&decide (l.length≤9223372036854775807)&&WR l&&decide (t.length≤9223372036854775807)&&WP t&&decide (u.length≤9223372036854775807)&&WP u
def WP:List Sm→Bool
 |[]=>true
 |e::l=>kM e&&WP l
end
mutual
theorem WQ: ∀e:Sm,kM e=true→e.ok
 | .mk k s l t u,h=>by
   simp only[kM,aV,bH]at h;exact .mk _ _ _ _ _ h.1.1.1.1.1.1.1 h.1.1.1.1.1.1.2 ⟨h.1.1.1.1.1.2,IZ l h.1.1.1.1.2⟩ h.1.1.1.2 (Q4 t h.1.1.2) h.1.2 (Q4 u h.2)
theorem Q4: ∀l:List Sm,WP l=true→ ∀e∈l,e.ok
 |[],_=>fun e he=>by cases he
 |x::l,h=>fun e he=>by
  simp only[WP,aV]at h;rcases bJ.1 he with a|he
  ·rw[a];exact WQ x h.1
  exact Q4 l h.2 e he
end
mutual
theorem SI: ∀(e:Sm) (a:Int),YH e a=lB e a
 | .mk k s l t u,a=>by simp only[YH,lB,Sm.kind,Sm.es,Sm.thn,Sm.els,D5 l,Ta t,Ta u]
theorem Ta: ∀(l:List Sm) (a:Int),UT l a=jG l a
 |[],_=>by simp only[UT,uJ]
 |e::l,a=>by simp only[UT,oS,SI e,Ta l]
end
theorem MH:YI Sl=some fW:=by kernel_rfl
theorem Ic:fZ fW=true:=by
 have h:jG yK 1=true:=by rw[←Ta];kernel_rfl
 simp only[fZ,lC,fW,qQ,eD,gW,h]
 decide+kernel
theorem HB:D2 Sl=(fW,0,0):=O2 MH Ic
theorem O7:fW.ok:=by
 have a:zG yK:=⟨show yK.length≤9223372036854775807 from aD (by kernel_rfl),Q4 yK (by kernel_rfl)⟩;have b:qQ.ok:=⟨by simp [eY,qQ],⟨by simp [eY,qQ],by simp [qQ]⟩,⟨by simp [eY,qQ],by simp [qQ]⟩,a⟩;refine⟨⟨by simp [eY,fW],by simp [eY,fW]⟩,by simp [eY,fW],by simp [fW,iU,eY],by simp [eY,fW],fun f h=>?_⟩;simp only[fW,bE]at h;subst h;exact b
theorem Ie:fW.few:=by
 refine⟨O7,by simp [fW],by simp [fW],by simp [fW],fun f h=>?_⟩;simp only[fW,bE]at h;subst h;exact⟨by simp [qQ],by simp [qQ],show lQ yK≤1000000 from aD (by kernel_rfl)⟩
theorem uI:gZ fW=0:=by
 unfold gZ;rw[bF Ic]
 have a:nJ fW=true:=by
  show(decide (mG fW).Nodup&&(decide (jH qQ).Nodup&&(eN yK).all (iQ fW 0)&&true))=true;rw[←Vv]
  decide+kernel
 have b:sN fW=true:=by
  show(((eN yK).all (tL fW 0)&&true)&&Iw fW)=true;rw[←Vv]
  decide+kernel
 unfold lW;rw[bF a,bF b,bF rfl]
 decide+kernel
theorem D4:iF (fun l=>l.all zC) fW=true:=by
 unfold iF;rw[uI]
 decide+kernel
theorem MC:decide ((Sl.length:Int)≤12000)=true:=by kernel_rfl
theorem MQ:eG dR 16 [] (.tup [fW.av, .bool true]):=by
 have b:=Pq Sl (show Sl.length≤1000000 from aD (by kernel_rfl));rw[HB]at b;have j:=Lm;have c:=zJ fW O7 (fun _=>Ie);rw[←zB,D4]at c;have k:=MC;have l:fW.av= .agg [.isl 1 (fW.vars.map bT), .isl 2 (fW.arrs.map Ar.row), .isl 5 (fW.funs.map Fu.row)]:=rfl;have n:D6 (fW,0,0)= .tup [fW.av, .int .i64 0, .int .i64 0]:=rfl;rw[n]at b;generalize Sl=y at *;rw[l]at b c⊢;generalize fW.vars.map bT=t at *;generalize fW.arrs.map Ar.row=u at *;generalize fW.funs.map Fu.row=v at *;refine bU 25 [.cell 0 26, .tmp 1] func16 ?_;refine aA fun K a=>?_;simp only[RR,seval];refine aN fun d p=>?_;simp only[RR,seval];refine a _ _ (aA fun K a=>?_);simp only[RR,seval];refine aI (j) ?_;simp only[RR,seval];refine a _ _ (aA fun K a=>?_);simp only[RR,seval];refine aI (b) ?_;simp only[RR,seval];refine aN fun f g=>?_;have i:f≠d:=fun e=>by rw[e]at g;simp only[RR,seval,reduceCtorEq]at g
 have o:=i.symm;simp only[RR,seval];refine a _ _ (aG fun K a=>?_);refine bA (fun x=>x≠d∧x≠f) [(0,0),(1,3),(2,3),(3,3),(4,3),(5,3),(6,3),(7,3),(8,3),(9,1),(10,1),(11,3)] [(12,1),(13,3)] eB (by kernel_rfl) rfl rfl ?_;simp only[dI,fP,i,k,RR,seval];refine aI (c) ?_;simp only[o,RR,seval];apply a;refine aP ?_;simp only[aY,aK,bP,RR,seval];refine bB.pure ?_;rfl
theorem BQ (o:Int) (h:QS o):eG dR 228 [.int .i64 o] (.str (rK o)):=by
 rcases h with rfl|rfl|rfl|rfl|rfl|rfl|rfl|rfl|rfl|rfl|rfl|rfl|rfl|rfl|rfl|rfl|rfl|rfl|rfl|rfl|rfl|rfl|rfl
 all_goals
  refine bU 31 [.tmp 2] func228 ?_;have b:True:=trivial
  repeat' (first|(refine aG fun K a=>?_;refine aM ?_;simp only[RR,seval];apply a;clear a K)|(refine aH ?_)|(refine aQ ?_)|(refine cM ?_)|(refine bK ?_)|(refine aL ?_;simp only[bR,dC])|(refine aM ?_;simp only[bR,RR,seval])|(refine aP ?_;simp only[bR,dC,aY,aK,bP,RR,seval];refine bB.pure ?_))
  all_goals rfl
theorem Am (s:dE) (Q:s.length≤100) (c:UInt8):eG dR 229 [.str s, .int .u8 (c.toNat:Int)] (.bool (vQ s c)):=by
 have B: ∀{k:Nat} {x:UInt8},s[k]?=some x→x=c→AV.bool true=AV.bool (vQ s c):=fun {k x} y z=>by
  have :vQ s c=true:=List.any_eq_true.2 ⟨x,aW y,by simp [z]⟩;rw[this]
 have O:=c.toNat_lt;refine bU 17 [.tmp 4] func229 ?_;refine aA fun K a=>?_;simp only[RR,seval];refine a _ _ (aH (aA fun K a=>?_));simp only[RR,seval];refine a _ _ (bN fun G I f L=>?_);have d:=f 0;have i:=f 1;have u:=f 4;have b:=f 5;simp only[RR,seval]at d i u b;refine aQ (eT [0,1] (s.length) (fun k v M=>v 5= .int .i64 (k:Nat)∧(s.take k).any (fun x=>decide (x=c))=false) ⟨b,rfl⟩ ?_);rintro k p J P ⟨o,l⟩ g H A;have d:=(g 0 rfl).trans d;have i:=(g 1 rfl).trans i;have b:=o;clear o;have t:=bC.refl [0,1] p;clear g;refine aH (aA fun K a=>?_);simp only[d,b,RR,seval];refine a _ _ (aX ?_ ?_)<;>intro j
 ·have n:k<s.length:=by have:=aD j;omega
  clear j;have D:=aC n;have F:s.take (k+1)=s.take k++[s[k]]:=bQ n;have C:=B D;generalize s[k]=x at *;have S:=x.toNat_lt;have R:decide ((x.toNat:Int)=(c.toNat:Int))=decide (x=c):=decide_eq_decide.2 ⟨fun e=>UInt8.toNat_inj.1 (by omega),fun e=>by rw[e]⟩;refine aL ?_;simp only[RR];refine aH (aQ (aA fun K a=>?_));simp only[*,RR,seval];refine a _ _ (aX ?_ ?_)<;>intro N
  ·refine aA fun K a=>?_
   simp only[RR,seval];apply a;refine aP ?_;simp only[aY,aK,bP,RR,seval];refine bB.pure ?_;exact C (by simp_all)
  refine aL ?_;try simp only[RR]
  refine aM ?_;simp only[b,RR,seval];rw[aU _ (by omega)];refine A _ _ n ⟨by rfl,by rw[F,List.any_append,l];simp_all⟩ (by repeat (first|exact t|refine bC.upd rfl ?_))
 have E:k=s.length:=by have:=aE j;omega
 rw[E,dV]at l;refine cH ?_;simp only[RR,seval];refine aA fun K a=>?_;simp only[RR,seval];apply a;refine aP ?_;simp only[aY,aK,bP,RR,seval];refine bB.pure ?_
 (unfold vQ;rw[l])
theorem pV (t:Bool) (n m:Int):eG dR 230 [.bool t, .int .i64 n, .int .i64 m] (.bool (vV t n m)):=by
 cases t
 ·skip
  refine bU 18 [.tmp 6] func230 ?_;refine aA fun K a=>?_;simp only[RR,seval];refine a _ _ (aH (aA fun K a=>?_));simp only[RR,seval];refine a _ _ (cM (aA fun K a=>?_));simp only[RR,seval];apply a;refine aP ?_;simp only[aY,aK,bP,RR,seval];refine bB.pure ?_;simp [vV]
 skip;by_cases h:0≤n
 ·have b:vV true n m=decide (n≤m):=by simp [vV,h]
  rw[b];refine bU 18 [.tmp 6] func230 ?_;refine aA fun K a=>?_;simp only[RR,seval];refine a _ _ (aH (aA fun K a=>?_));simp only[RR,seval];refine a _ _ (bK ?_);refine aL ?_;simp only[RR];refine aA fun K a=>?_;simp only[h,RR,seval]
  repeat' ((refine cL (fun h=>?_) (fun h=>?_))<;>simp only[h,h,RR,seval])
  all_goals
   apply a;refine aP ?_;simp only[aY,aK,bP,RR,seval];refine bB.pure ?_;rfl
 have b:vV true n m=false:=by simp [vV,h]
 rw[b];refine bU 18 [.tmp 6] func230 ?_;refine aA fun K a=>?_;simp only[RR,seval];refine a _ _ (aH (aA fun K a=>?_));simp only[RR,seval];refine a _ _ (bK ?_);refine aL ?_;simp only[RR];refine aA fun K a=>?_;simp only[h,RR,seval]
 repeat' ((refine cL (fun h=>?_) (fun h=>?_))<;>simp only[h,h,RR,seval])
 all_goals
  apply a;refine aP ?_;simp only[aY,aK,bP,RR,seval];refine bB.pure ?_;rfl
theorem J9 (o a b c:Int) (v:QS o) (h:AC o a b c=true):eG dR 198 [.agg [.int .i64 o, .int .i64 a, .int .i64 b, .int .i64 c]] (.bool true):=by
 have y:=BQ o v;have j:(rK o).length≤100:=by rcases v with rfl|rfl|rfl|rfl|rfl|rfl|rfl|rfl|rfl|rfl|rfl|rfl|rfl|rfl|rfl|rfl|rfl|rfl|rfl|rfl|rfl|rfl|rfl<;>decide
 have z:decide (rK o=[63])=false:=by rcases v with rfl|rfl|rfl|rfl|rfl|rfl|rfl|rfl|rfl|rfl|rfl|rfl|rfl|rfl|rfl|rfl|rfl|rfl|rfl|rfl|rfl|rfl|rfl<;>decide
 have n:=Am (rK o) j 97;have t:=Am (rK o) j 98;have u:=Am (rK o) j 99;have i:=Am (rK o) j 114;simp only[AC,aV]at h;obtain⟨⟨F,G⟩,e⟩:=h;generalize vQ (rK o) 97=C at *;generalize vQ (rK o) 98=D at *;generalize vQ (rK o) 99=B at *;generalize vQ (rK o) 114=E at *;have k:=pV C a 15;have l:=pV D b 15;rw[F]at k;rw[G]at l;generalize rK o=p at *;clear j v;cases E
 ·cases B
  ·have f:=pV false c 65535
   have e:vV false c 65535=true:=e;rw[e]at f;refine bU 38 [.tmp 2] func198 ?_;refine aA fun K d=>?_;simp only[RR,seval];refine aN fun g A=>?_;simp only[RR,seval];refine d _ _ (aA fun K d=>?_);simp only[RR,seval];refine aI (y) ?_;simp only[RR,seval];refine d _ _ (aA fun K d=>?_);simp only[RR,seval];refine d _ _ (aH (aA fun K d=>?_));simp only[RR,seval];refine aI (i) ?_;simp only[RR,seval];refine d _ _ (bK ?_);refine aL ?_;simp only[RR];refine aG fun K d=>?_;refine bA (fun x=>x≠g) [(0,3),(1,3),(2,3),(3,3),(5,3),(6,0),(4,1),(7,1),(8,3),(9,3),(10,3),(12,3),(13,0),(11,1),(14,1),(15,3),(16,3),(17,3),(23,3),(24,0),(25,3),(18,1),(19,3),(20,3),(21,1),(22,3),(26,1),(27,3),(28,3)] [] eB (by kernel_rfl) rfl rfl ?_;simp only[dI,fP,z,RR,seval]
   all_goals (refine aI (n) ?_;simp only[RR,seval])
   all_goals (refine aI (k) ?_;simp only[RR,seval])
   all_goals (refine aI (t) ?_;simp only[RR,seval])
   all_goals (refine aI (l) ?_;simp only[RR,seval])
   all_goals (refine aI (u) ?_;simp only[RR,seval])
   all_goals (refine aI (i) ?_;simp only[RR,seval])
   all_goals (refine aI (f) ?_;simp only[RR,seval])
   all_goals
    apply d;refine aP ?_;simp only[aY,aK,bP,RR,seval];refine bB.pure ?_;rfl
  have f:=pV true c 65535;have e:vV true c 65535=true:=e;rw[e]at f;refine bU 38 [.tmp 2] func198 ?_;refine aA fun K d=>?_;simp only[RR,seval];refine aN fun g A=>?_;simp only[RR,seval];refine d _ _ (aA fun K d=>?_);simp only[RR,seval];refine aI (y) ?_;simp only[RR,seval];refine d _ _ (aA fun K d=>?_);simp only[RR,seval];refine d _ _ (aH (aA fun K d=>?_));simp only[RR,seval];refine aI (i) ?_;simp only[RR,seval];refine d _ _ (bK ?_);refine aL ?_;simp only[RR];refine aG fun K d=>?_;refine bA (fun x=>x≠g) [(0,3),(1,3),(2,3),(3,3),(5,3),(6,0),(4,1),(7,1),(8,3),(9,3),(10,3),(12,3),(13,0),(11,1),(14,1),(15,3),(16,3),(17,3),(23,3),(24,0),(25,3),(18,1),(19,3),(20,3),(21,1),(22,3),(26,1),(27,3),(28,3)] [] eB (by kernel_rfl) rfl rfl ?_;simp only[dI,fP,z,RR,seval]
  all_goals (refine aI (n) ?_;simp only[RR,seval])
  all_goals (refine aI (k) ?_;simp only[RR,seval])
  all_goals (refine aI (t) ?_;simp only[RR,seval])
  all_goals (refine aI (l) ?_;simp only[RR,seval])
  all_goals (refine aI (u) ?_;simp only[RR,seval])
  all_goals (refine aI (f) ?_;simp only[RR,seval])
  all_goals
   apply d;refine aP ?_;simp only[aY,aK,bP,RR,seval];refine bB.pure ?_;rfl
 cases B
 ·have f:=pV true c 15
  have e:vV true c 15=true:=e;rw[e]at f;refine bU 38 [.tmp 2] func198 ?_;refine aA fun K d=>?_;simp only[RR,seval];refine aN fun g A=>?_;simp only[RR,seval];refine d _ _ (aA fun K d=>?_);simp only[RR,seval];refine aI (y) ?_;simp only[RR,seval];refine d _ _ (aA fun K d=>?_);simp only[RR,seval];refine d _ _ (aH (aA fun K d=>?_));simp only[RR,seval];refine aI (i) ?_;simp only[RR,seval];refine d _ _ (cM (aM ?_));simp only[RR,seval];refine aG fun K d=>?_;refine bA (fun x=>x≠g) [(0,3),(1,3),(2,3),(3,3),(5,3),(6,0),(4,1),(7,1),(8,3),(9,3),(10,3),(12,3),(13,0),(11,1),(14,1),(15,3),(16,3),(17,3),(23,3),(24,0),(25,3),(18,1),(19,3),(20,3),(21,1),(22,3),(26,1),(27,3),(28,3)] [] eB (by kernel_rfl) rfl rfl ?_;simp only[dI,fP,z,RR,seval]
  all_goals (refine aI (n) ?_;simp only[RR,seval])
  all_goals (refine aI (k) ?_;simp only[RR,seval])
  all_goals (refine aI (t) ?_;simp only[RR,seval])
  all_goals (refine aI (l) ?_;simp only[RR,seval])
  all_goals (refine aI (u) ?_;simp only[RR,seval])
  all_goals (refine aI (i) ?_;simp only[RR,seval])
  all_goals (refine aI (f) ?_;simp only[RR,seval])
  all_goals
   apply d;refine aP ?_;simp only[aY,aK,bP,RR,seval];refine bB.pure ?_;rfl
 have f:=pV true c 15;have e:vV true c 15=true:=e;rw[e]at f;refine bU 38 [.tmp 2] func198 ?_;refine aA fun K d=>?_;simp only[RR,seval];refine aN fun g A=>?_;simp only[RR,seval];refine d _ _ (aA fun K d=>?_);simp only[RR,seval];refine aI (y) ?_;simp only[RR,seval];refine d _ _ (aA fun K d=>?_);simp only[RR,seval];refine d _ _ (aH (aA fun K d=>?_));simp only[RR,seval];refine aI (i) ?_;simp only[RR,seval];refine d _ _ (cM (aM ?_));simp only[RR,seval];refine aG fun K d=>?_;refine bA (fun x=>x≠g) [(0,3),(1,3),(2,3),(3,3),(5,3),(6,0),(4,1),(7,1),(8,3),(9,3),(10,3),(12,3),(13,0),(11,1),(14,1),(15,3),(16,3),(17,3),(23,3),(24,0),(25,3),(18,1),(19,3),(20,3),(21,1),(22,3),(26,1),(27,3),(28,3)] [] eB (by kernel_rfl) rfl rfl ?_;simp only[dI,fP,z,RR,seval]
 all_goals (refine aI (n) ?_;simp only[RR,seval])
 all_goals (refine aI (k) ?_;simp only[RR,seval])
 all_goals (refine aI (t) ?_;simp only[RR,seval])
 all_goals (refine aI (l) ?_;simp only[RR,seval])
 all_goals (refine aI (u) ?_;simp only[RR,seval])
 all_goals (refine aI (f) ?_;simp only[RR,seval])
 all_goals
  apply d;refine aP ?_;simp only[aY,aK,bP,RR,seval];refine bB.pure ?_;rfl
theorem K9 (w:Int) (d:dQ w) (h:sU w):eG dR 156 [.int .u32 w] (.tup [.agg (yD w), .int .i64 0]):=by
 have i:=J9 _ _ _ _ h.1 h.2;have b:=d.1;have G:=d.2;have l:w.tdiv 16777216=w/16777216:=Int.tdiv_eq_ediv_of_nonneg b;have n:w.tdiv 1048576=w/1048576:=Int.tdiv_eq_ediv_of_nonneg b;have o:w.tdiv 65536=w/65536:=Int.tdiv_eq_ediv_of_nonneg b;have p:w.tmod 65536=w % 65536:=vR b;have t:(w/1048576).tmod 16=w/1048576 % 16:=vR (by omega);have u:(w/65536).tmod 16=w/65536 % 16:=vR (by omega);have v:IntKind.wrap .u32 (w/16777216)=w/16777216:=dX _ (by omega);have x:IntKind.wrap .u32 (w/1048576)=w/1048576:=dX _ (by omega);have y:IntKind.wrap .u32 (w/65536)=w/65536:=dX _ (by omega);have z:IntKind.wrap .u32 (w % 65536)=w % 65536:=dX _ (by omega);have A:IntKind.wrap .u32 (w/1048576 % 16)=w/1048576 % 16:=dX _ (by omega);have B:IntKind.wrap .u32 (w/65536 % 16)=w/65536 % 16:=dX _ (by omega);have C:IntKind.wrap .i64 (w/16777216)=w/16777216:=aU _ (by omega);have D:IntKind.wrap .i64 (w % 65536)=w % 65536:=aU _ (by omega);have E:IntKind.wrap .i64 (w/1048576 % 16)=w/1048576 % 16:=aU _ (by omega);have F:IntKind.wrap .i64 (w/65536 % 16)=w/65536 % 16:=aU _ (by omega);unfold yD;refine bU 25 [.cell 2 231, .tmp 3] func156 ?_;refine aA fun K a=>?_;simp only[RR,seval];refine aN fun f H=>?_;simp only[RR,seval];refine a _ _ (aA fun K a=>?_);simp only[*,RR,seval];refine aN fun g c=>?_;have k:g≠f:=fun e=>by rw[e]at c;simp only[RR,seval,reduceCtorEq]at c
 have j:=k.symm;simp only[RR,seval];refine a _ _ (aH (aA fun K a=>?_));simp only[RR,seval];refine aI (i) ?_;simp only[RR,seval];refine a _ _ (bK ?_);refine aL ?_;simp only[RR];refine aA fun K a=>?_;simp only[j,RR,seval];apply a;refine aP ?_;simp only[aY,aK,bP,RR,seval];refine bB.pure ?_;rfl
theorem AM {H:Hp} {bm:Nat} {l:List Int} {b c x:Int} (v:H bm=some (.rows 1 (l.map gI))) (n:l.length=4224) (y:0≤c∧c≤65535) (h:l[(gR (b+c)).toNat]?=some x):pP dR 158 [.osl 1 bm 4224, .int .u32 b, .int .i64 c] H (fun d H'=>d= .ret (.tup [.int .u32 x, .bool true])∧H'=H):=by
 have e:IntKind.wrap .u32 c=c:=dX _ (by omega);have A:(gR (b+c)).toNat<4224:=by rw[←n];exact(bD.1 h).1
 have o:=Ll (b+c);have z:=G7 h;generalize k:gR (b+c)=at' at *;have f:IntKind.wrap .u32 (b+c)=at':=k;have g:IntKind.wrap .u64 at'=at':=BU _ (by omega);have i:IntKind.wrap .u64 4224=4224:=rfl;have j:decide (4224≤at')=false:=bI (by omega);have p:decide (at'<4224)=true:=cV (by omega);have t:at'<4224:=by omega
 have u:0≤at':=o.1;refine bU 23 [.tmp 6, .tmp 7] func158 ?_;refine aA fun K a=>?_;simp only[RR,seval];refine a _ _ (aA fun K a=>?_);simp only[e,f,RR,seval];refine a _ _ (aH (aA fun K a=>?_));simp only[g,i,j,RR,seval];refine a _ _ (bK ?_);refine aL ?_;simp only[RR];refine aA fun K a=>?_;simp only[*,RR,seval];apply a;refine aP ?_;simp only[aY,aK,bP,RR,seval];exact bB.run ⟨rfl,rfl⟩
section
variable {W : List Int} {inp : dE} {r bm bc : Nat} {vo : AV} {s : Mc} {en : Int} {H : Hp}
theorem Y1 (a:jU W inp r bm bc vo s en H) (x:Int) (i:dQ x) (j:0≤s.pc∧s.pc≤1000000):pP dR 157 [.ptr 28 r 0 0, .int .i64 1, .int .u32 x] H (fun d H'=>d= .ret (.tup [])∧jU W inp r bm bc vo {s with pc:=s.pc+1,r1:=x} en H'∧gM r bm bc vo vo H H'):=by
 have g:=a.r;have e:IntKind.wrap .i64 (s.pc+1)=s.pc+1:=aU _ (by omega);refine bU 22 [] func157 ?_;refine aA fun K f=>?_;simp only[g,RR,seval];refine f _ _ (aM ?_);simp only[e,RR,seval];simp only[aY,aK,bP,seval];exact bB.run ⟨rfl,a.turn (by simp only[bO]) (fun b c=>by simp only[cG _ _ c]) rfl rfl i a.u2 a.rd,gM.turn (fun b c=>by simp only[cG _ _ c])⟩
theorem Y0 (a:jU W inp r bm bc vo s en H) (x:Int) (i:dQ x) (j:0≤s.pc∧s.pc≤1000000):pP dR 157 [.ptr 28 r 0 0, .int .i64 2, .int .u32 x] H (fun d H'=>d= .ret (.tup [])∧jU W inp r bm bc vo {s with pc:=s.pc+1,r2:=x} en H'∧gM r bm bc vo vo H H'):=by
 have g:=a.r;have e:IntKind.wrap .i64 (s.pc+1)=s.pc+1:=aU _ (by omega);refine bU 22 [] func157 ?_;refine aA fun K f=>?_;simp only[g,RR,seval];refine f _ _ (aM ?_);simp only[e,RR,seval];simp only[aY,aK,bP,seval];exact bB.run ⟨rfl,a.turn (by simp only[bO]) (fun b c=>by simp only[cG _ _ c]) rfl rfl a.u1 i a.rd,gM.turn (fun b c=>by simp only[cG _ _ c])⟩
theorem Y3 (a:jU W inp r bm bc vo s en H) (y:Bool) (p:Int) (i:0≤s.pc∧s.pc≤1000000):pP dR 159 [.ptr 28 r 0 0, .bool y, .int .i64 p] H (fun f H'=>f= .ret (.tup [])∧jU W inp r bm bc vo {s with pc:=if y then p else s.pc+1} en H'∧gM r bm bc vo vo H H'):=by
 have e:=a.r;have g:IntKind.wrap .i64 (s.pc+1)=s.pc+1:=aU _ (by omega);cases y
 ·skip
  refine bU 21 [] func159 ?_;refine aA fun K d=>?_;simp only[RR,seval];refine d _ _ (bK (aM ?_));simp only[e,g,RR,seval];simp only[aY,aK,bP,seval];exact bB.run ⟨rfl,a.turn (by simp only[bO]) (fun b c=>by simp only[cG _ _ c]) rfl rfl a.u1 a.u2 a.rd,gM.turn (fun b c=>by simp only[cG _ _ c])⟩
 skip;refine bU 21 [] func159 ?_;refine aA fun K d=>?_;simp only[RR,seval];refine d _ _ (cM (aM ?_));simp only[e,RR,seval];simp only[aY,aK,bP,seval];exact bB.run ⟨rfl,a.turn (by simp only[bO]) (fun b c=>by simp only[cG _ _ c]) rfl rfl a.u1 a.u2 a.rd,gM.turn (fun b c=>by simp only[cG _ _ c])⟩
end
theorem JR (b:Bool):eG dR 201 [.bool b] (.int .u32 (if b=true then 1 else 0)):=by
 cases b
 ·skip
  refine bU 4 [.tmp 2] func201 ?_;refine aA fun K a=>?_;simp only[RR,seval];refine a _ _ (aH (aA fun K a=>?_));simp only[RR,seval];refine a _ _ (bK ?_);refine aL ?_;simp only[RR];refine aA fun K a=>?_;simp only[RR,seval];apply a;refine aP ?_;simp only[aY,aK,bP,RR,seval];refine bB.pure ?_;rfl
 skip;refine bU 4 [.tmp 2] func201 ?_;refine aA fun K a=>?_;simp only[RR,seval];refine a _ _ (aH (aA fun K a=>?_));simp only[RR,seval];refine a _ _ (cM (aA fun K a=>?_));simp only[RR,seval];apply a;refine aP ?_;simp only[aY,aK,bP,RR,seval];refine bB.pure ?_;rfl
theorem A3 (a:Nat) (S:a<4294967296):Zu dR 231 [.int .u32 (a:Int)] 1 ((gE 32 a).map qM):=by
 have E:=rF 32 a;refine bU 18 [.tmp 2] func231 ?_;refine aA fun K b=>?_;simp only[RR,seval];refine b _ _ (aA fun K b=>?_);simp only[RR,seval];refine b _ _ (aH (aA fun K b=>?_));simp only[RR,seval];refine b _ _ (bN fun I L f R=>?_);have e:=f 0;have i:=f 2;have c:=f 3;have d:=f 4;simp only[RR,seval]at e i c d;refine aQ (eT [2] (32) (fun k j M=>j 4= .int .i64 (k:Nat)∧j 0= .int .u32 ((a/2^k:Nat):Int)∧dZ 1 (j 3) (((gE 32 a).take k).map qM) M) ⟨d,(by rw[e,Nat.pow_zero,Nat.div_one]), .inl ⟨c,rfl⟩⟩ ?_);rintro k n N U ⟨p,e,g⟩ o J C;have i:=(o 2 rfl).trans i;have d:=p;clear p;have u:=bC.refl [2] n;clear o;obtain⟨X,c⟩: ∃v,n 3=v:=⟨_,rfl⟩;rw[c]at g;refine aH (aA fun K b=>?_);simp only[d,RR,seval];refine b _ _ (aX ?_ ?_)<;>intro l
 ·have t:k<32:=by have:=aD l;omega
  clear l
  have H:(gE 32 a).take (k+1)=(gE 32 a).take k++[a/2^k % 2]:=by
   have z:=qB 32 a k t;obtain⟨A,B⟩:=bD.1 z;rw[bQ A,B]
  have W:((gE 32 a).take k).length≤32:=by rw[dS];omega
  have V:a/2^k≤a:=XS _ _;have F:a/2^(k+1)=a/2^k/2:=by rw[mU,XG]
  generalize a/2^k=x at *;have P:((x:Int)).tmod 2=((x % 2:Nat):Int):=qI x 2;have y:IntKind.wrap .u32 (((x:Int)).tdiv 2)=((x/2:Nat):Int):=by rw[show((x:Int)).tdiv 2=((x/2:Nat):Int)from zX x 2,B7 _ (by omega)]
  have Q:IntKind.wrap .i64 ((x % 2:Nat):Int)=((x % 2:Nat):Int):=aU _ (by omega);refine aL ?_;simp only[RR];refine aH (aQ (aA fun K b=>?_));simp only[*,RR,seval];refine dG ?_;simp only[RR,seval];refine jT g (by simp only[aF,aJ,aT];omega) (fun _=>trivial) fun Y O G T=>?_;simp only[RR,seval];refine b _ _ (aM ?_);simp only[e,y,RR,seval];refine aM ?_;simp only[d,RR,seval];rw[aU _ (by omega)];refine C _ _ t ⟨by rfl,(by rw[F];rfl),(by rw[H,cP,List.map_singleton];exact G)⟩ (by repeat (first|exact u|refine bC.upd rfl ?_))
 have D:k=32:=by have:=aE l;omega
 rw[D,sH (qE E)]at g;refine cH ?_;simp only[RR,seval];refine aA fun K b=>?_;simp only[c,RR,seval];apply b;refine aP ?_;simp only[aY,aK,bP,RR,seval];exact Zu.gives g
theorem NJ (n:Nat) (o:n<4294967296):eG dR 232 [.isl 1 ((gE 32 n).map qM)] (.int .u32 (n:Int)):=by
 have C:=rF 32 n;refine bU 23 [.tmp 2] func232 ?_;refine aA fun K a=>?_;simp only[RR,seval];refine a _ _ (aA fun K a=>?_);simp only[RR,seval];refine a _ _ (aH (aA fun K a=>?_));simp only[aF,C,RR,seval];refine a _ _ (bN fun F H d O=>?_);have f:=d 0;have g:=d 2;have b:=d 3;have c:=d 4;simp only[RR,seval]at f g b c;refine aQ ?_;refine iP [0,2] (32) (fun k l M=>k≤32∧l 4= .int .i64 ((k:Int)- 1)∧l 3= .int .u64 ((n/2^k:Nat):Int)) ⟨aZ _,c,(by rw[b,Nat.div_eq_of_lt (by omega)];rfl)⟩ ?_;rintro k p I ⟨Q,c,b⟩ e G A;have f:=(e 0 rfl).trans f;have g:=(e 2 rfl).trans g;have t:=bC.refl [0,2] p;clear e;refine aH (aA fun K a=>?_);simp only[c,RR,seval];refine a _ _ (aX ?_ ?_)<;>intro i
 ·have j:=i;clear i
  obtain⟨m,rfl⟩: ∃m,k=m+1:=⟨k- 1,by have:=aD j;omega⟩;have P:=Xh (qB 32 n m (by omega));have R:n/2^m≤n:=XS _ _;have D:n/2^(m+1)=n/2^m/2:=by rw[mU,XG]
  rw[D]at b;generalize E:n/2^m=x at *;have u:((m+1:Nat):Int)- 1=(m:Int):=by omega
  rw[u]at c;have J:IntKind.wrap .u64 (2 *((x/2:Nat):Int))=((2 *(x/2):Nat):Int):=by rw[show 2 *((x/2:Nat):Int)=((2 *(x/2):Nat):Int)by omega,L9 _ (by omega)]
  have L:IntKind.wrap .u64 ((x % 2:Nat):Int)=((x % 2:Nat):Int):=L9 _ (by omega);have N:IntKind.wrap .u64 (((2 *(x/2):Nat):Int)+((x % 2:Nat):Int))=(x:Int):=by rw[show((2 *(x/2):Nat):Int)+((x % 2:Nat):Int)=(x:Int)by omega,L9 _ (by omega)]
  have v:IntKind.wrap .i64 ((m:Int)- 1)=(m:Int)- 1:=aU _ (by omega);have S:(m:Int)<32:=by omega
  refine aL ?_;simp only[RR];refine aH (aQ (aM ?_));simp only[*,RR,seval];refine aM ?_;simp only[c,v,RR,seval];refine A (m) _ _ (by omega) ⟨(by omega),rfl,(by rw[E];rfl)⟩ (by repeat (first|exact t|refine bC.upd rfl ?_))
 have j:=i;have B:k=0:=by have:=aE j;omega
 subst B;rw[Nat.pow_zero,Nat.div_one]at b;have y:((n:Int)).tmod 4294967296=(n:Int):=by rw[show((n:Int)).tmod 4294967296=((n % 4294967296:Nat):Int)from qI n 4294967296,Nat.mod_eq_of_lt o]
 have z:=B7 n o;refine cH ?_;simp only[RR,seval];refine aA fun K a=>?_;simp only[b,y,z,RR,seval];apply a;refine aP ?_;simp only[aY,aK,bP,RR,seval];refine bB.pure ?_;rfl
theorem Z9 (op:Int) (a b:Nat) (ha:a<4294967296) (hb:b<4294967296):eG dR 199 [.int .i64 op, .int .u32 (a:Int), .int .u32 (b:Int)] (.int .u32 ((yQ op a b:Nat):Int)):=by
 have hO:=NJ _ (KP op a b);have a2:gE 32 (yQ op a b)=List.zipWith (pO op) (gE 32 a) (gE 32 b):=(Yx op 32 a b).symm;rw[a2]at hO;have O:=A3 b hb;have hA:=A3 a ha;have H:=rF 32 a;have a6:=rF 32 b;have a7:(List.zipWith (pO op) (gE 32 a) (gE 32 b)).length=32:=by rw[List.length_zipWith,H,a6];rfl
 generalize hZ:List.zipWith (pO op) (gE 32 a) (gE 32 b)=Z at *;generalize yQ op a b=w at *;have a1:=fun k E=>CC op a b k E;rw[hZ]at a1;clear hZ a2;have O:=O.pure;have b1:=fun k (E:k<32)=>qB 32 a k E;have b2:=fun k (E:k<32)=>Xh (qB 32 b k E);generalize gE 32 a=A at *;generalize gE 32 b=B at *;refine bU 50 [.tmp 6] func199 ?_;refine aA fun K c=>?_;simp only[RR,seval];apply c;clear c K;refine aA fun K c=>?_;simp only[RR,seval];refine KV (hA) fun c2 M1 b8 c3 c5=>?_;simp only[RR,seval];refine aI (O) ?_;simp only[RR,seval];apply c;clear c K;refine aH ?_
 obtain⟨i,b9,f⟩: ∃i,c2= .osl 1 i 32∧M1 i=some (.rows 1 (A.map qM)):=by
  rcases b8 with⟨_,N⟩|⟨i,Y,N⟩
  ·have:=congrArg List.length N
   rw[aF,H]at this;cases this
  rw[aF,H]at Y;exact⟨i,Y,N⟩
 subst b9;refine aA fun K c=>?_;simp only[RR,seval];apply c;clear c K;refine bN fun F2 M2 d p=>?_;have C:=d 0;have j:=d 6;have e:=d 7;have D:=d 8;have g:=d 9;have o:=p i;simp only[f,RR,seval]at C j e D g o;have f:=o;clear o;clear d p;refine aQ ?_;refine eT [0,6,7,8] (32) (fun k fr M=>fr 9= .int .i64 (k:Nat)∧M i=some (.rows 1 ((Z.take k++A.drop k).map qM))) ⟨g,(by rw[gN,dP,cC];exact f)⟩ ?_;rintro k F3 M3 c4 ⟨X,f⟩ z K0 a0;have C:=(z 0 rfl).trans C;have j:=(z 6 rfl).trans j;have e:=(z 7 rfl).trans e;have D:=(z 8 rfl).trans D;have g:=X;clear X;have V:=bC.refl [0,6,7,8] F3;clear z;refine aH ?_;refine aA fun K c=>?_;simp only[g,RR,seval];apply c;clear c K;refine aX ?_ ?_<;>intro G
 ·have F:k<32:=by have:=aD G;omega
  clear G;have a5:=b1 k F;have S:=b2 k F;have U:=a1 k F;have c0:a/2^k % 2<2:=sF _ (by decide);have c1:b/2^k % 2<2:=sF _ (by decide);generalize a/2^k % 2=x at a5 U c0;generalize b/2^k % 2=y at S U c1;obtain⟨q1,q2⟩:=bD.1 a5;have b0:A.drop k=x::A.drop (k+1):=by rw[bM q1,q2]
  have b6:Z.take (k+1)=Z.take k++[pO op x y]:=by
   obtain⟨q3,q4⟩:=bD.1 U;rw[bQ q3,q4]
  have T: ∀(u v:List AV),((Z.take k).map qM++u::(A.drop (k+1)).map qM).set k v=(Z.take k).map qM++v::(A.drop (k+1)).map qM:=fun u v=>by
   have:=List.set_append_right (s:=(Z.take k).map qM) (t:=u::(A.drop (k+1)).map qM) k v (by rw[aF,dS];omega);rw[this,show k-((Z.take k).map qM).length=0 by rw[aF,dS];omega];rfl
  have R: ∀(u:List AV),((Z.take k).map qM++u::(A.drop (k+1)).map qM)[k]?=some u:=fun u=>by
   rw[gC (by rw[aF,dS];omega),show k-((Z.take k).map qM).length=0 by rw[aF,dS];omega];rfl
  have hR:(Z.take k++A.drop k).map qM=(Z.take k).map qM++[.int .i64 (x:Int)]::(A.drop (k+1)).map qM:=by rw[b0,cP,cX];rfl
  have hn:(Z.take (k+1)++A.drop (k+1)).map qM=(Z.take k).map qM++[.int .i64 ((pO op x y:Nat):Int)]::(A.drop (k+1)).map qM:=by rw[b6,cP,cP,bV];rfl
  rw[hR]at f;have Q:=R [.int .i64 (x:Int)];have a4:=R [.int .i64 0];have a8:=T [.int .i64 (x:Int)] [.int .i64 0];have a9:=T [.int .i64 0] [.int .i64 1];generalize(Z.take k).map qM=ZT at *;generalize(A.drop (k+1)).map qM=AT at *;have L:(k:Int)<32:=by omega
  clear T R hR;have P:pO op x y=if(x+y=2∧op≠11)∨(x+y=1∧op≠9)then 1 else 0:=rfl
  obtain⟨s,hs⟩: ∃s,s=x+y:=⟨_,rfl⟩;have W:IntKind.wrap .i64 ((x:Int)+(y:Int))=(s:Int):=by rw[aU _ (by omega)];omega
  rw[←hs]at P;generalize pO op x y=w at *;have b5:s=0∨s=1∨s=2:=by omega
  clear hs;by_cases J:op=9<;>by_cases I:op=11<;>rcases b5 with rfl|rfl|rfl
  all_goals
   refine aL ?_;simp only[RR];refine aH ?_;refine aQ ?_;refine aG fun K c=>?_;refine bA (fun x=>x≠i) [(0,3),(1,3),(2,3),(3,1),(4,3),(5,3),(6,3),(7,1),(8,3),(9,3)] [] eB (by kernel_rfl) rfl rfl ?_;simp only[dI,e,D,g,f,S,Q,L,W,RR,seval];apply c;clear c K;refine aA fun K c=>?_;simp only[e,g,f,Q,a8,L,RR,seval];apply c;clear c K;refine aA fun K c=>?_;simp only[C,J,I,RR,seval]
   repeat' ((refine cL (fun h=>?_) (fun h=>?_))<;>simp only[h,C,j,e,D,g,f,aF,a6,S,Q,a4,a8,a9,L,W,J,I,RR,seval])
   all_goals
    apply c;clear c K;refine aX ?_ ?_<;>intro a3
    ·try (cases a3;done)
     all_goals
      refine aM ?_;simp only[e,g,a4,a9,L,RR,seval];refine aM ?_;simp only[g,RR,seval];rw[aU _ (by omega)];refine a0 _ _ F ⟨by rfl, ?_⟩ (by repeat (first|exact V|refine bC.upd rfl ?_));rw[hn,P]
      first|subst J|subst I|skip
      simp_all [upd]
    try (cases a3;done)
    all_goals
     refine aL ?_;simp only[RR];refine aM ?_;simp only[g,RR,seval];rw[aU _ (by omega)];refine a0 _ _ F ⟨by rfl, ?_⟩ (by repeat (first|exact V|refine bC.upd rfl ?_));rw[hn,P]
     first|subst J|subst I|skip
     simp_all [upd]
 have b3:k=32:=by have:=aE G;omega
 clear G;rw[b3,sH (qE a7),List.drop_of_length_le (qE H),eF]at f;have b4:(Z.map qM).length=32:=by rw[aF,a7]
 refine cH ?_;simp only[RR,seval];refine bN fun F4 M4 d p=>?_;have l:=d 6;have n:=d 7;have o:=p i;simp only[j,e,f,RR,seval]at l n o;have j:=l;clear l;have e:=n;clear n;have f:=o;clear o;clear d p;refine oG f ?_;refine bN fun F5 M5 d p=>?_;have l:=d 6;have n:=d 7;simp only[xQ,Gx,and_self,b4,j,e,seval]at l n;have j:=l;clear l;have e:=n;clear n;clear d p;refine aA fun K c=>?_;simp only[e,RR,seval];refine aI (hO) ?_;simp only[RR,seval];apply c;clear c K;refine aP ?_;simp only[aY,aK,bP,RR,seval];refine bB.pure ?_;rfl
theorem LX (n:Int):IntKind.wrap .u32 n=n % 4294967296:=by simp [IntKind.wrap,IntKind.signed,IntKind.bits]
theorem GN (x y:Nat) (a:y<4294967296):((x:Int)-y) % 4294967296=(((x+4294967296 -y) % 4294967296:Nat):Int):=by omega
theorem JC (a b:Nat) (E:a<4294967296) (P:b<4294967296):eG dR 200 [.int .i64 12, .int .u32 (a:Int), .int .u32 (b:Int)] (.int .u32 (if 31<(b:Int)then 0 else IntKind.wrap .u32 ((a:Int) *2^(min ((b:Int)).toNat 32)))):=by
 by_cases h:31<(b:Int)
 ·rw[bF h]
  have z:(32:Int)≤(b:Int):=by omega
  refine bU 27 [.tmp 6] func200 ?_;refine aA fun K c=>?_;simp only[RR,seval];refine c _ _ (aH (aA fun K c=>?_));simp only[z,RR,seval];refine c _ _ (cM (aA fun K c=>?_));simp only[RR,seval];apply c;refine aP ?_;simp only[aY,aK,bP,RR,seval];refine bB.pure ?_;rfl
 rw[aO h];have z: ¬(32:Int)≤(b:Int):=by omega
 have H:IntKind.wrap .u32 ((a:Int) *2^(min ((b:Int)).toNat 32))=((a *2^b % 4294967296:Nat):Int):=by
  rw[cA,Nat.min_eq_left (by omega)];rw[LX,Int.natCast_emod,Int.natCast_mul,Int.natCast_pow];rfl
 rw[H];have v:=L9 a (by omega);refine bU 27 [.tmp 6] func200 ?_;refine aA fun K c=>?_;simp only[RR,seval];refine c _ _ (aH (aA fun K c=>?_));simp only[z,RR,seval];refine c _ _ (bK ?_);refine aL ?_;simp only[RR];refine aA fun K c=>?_;simp only[v,RR,seval];refine c _ _ (aH (aA fun K c=>?_));simp only[RR,seval];refine c _ _ (bN fun I L f O=>?_);have i:=f 0;have k:=f 2;have l:=f 6;have d:=f 7;have e:=f 8;simp only[RR,seval]at i k l d e;refine aQ (iP [0,2,6] (b) (fun m o M=>m≤b∧o 8= .int .u32 ((b-m:Nat):Int)∧o 7= .int .u64 ((a *2^(b-m) % 4294967296:Nat):Int)) ⟨aZ _,(by rw[e,Gm];rfl),(by rw[d,Gm,Nat.pow_zero,nE,Nat.mod_eq_of_lt E])⟩ ?_);rintro m t N ⟨Q,e,d⟩ g J D;have i:=(g 0 rfl).trans i;have k:=(g 2 rfl).trans k;have l:=(g 6 rfl).trans l;have u:=bC.refl [0,2,6] t;clear g;refine aH (aA fun K c=>?_);simp only[k,e,RR,seval];refine c _ _ (aX ?_ ?_)<;>intro p
 ·have n:=p
  obtain⟨j,rfl⟩: ∃j,m=j+1:=⟨m- 1,by have:=aD n;omega⟩
  have G:a *2^(b-j) % 4294967296=2 *(a *2^(b-(j+1)) % 4294967296) % 4294967296:=by
   rw[show b-j=b-(j+1)+1 by omega,mU,←Nat.mul_assoc];omega
  have R:a *2^(b-(j+1)) % 4294967296<4294967296:=sF _ (by decide);generalize a *2^(b-(j+1)) % 4294967296=x at *;have y:IntKind.wrap .u64 (2 *(x:Int))=((2 *x:Nat):Int):=by rw[show 2 *(x:Int)=((2 *x:Nat):Int)by omega,L9 _ (by omega)]
  have A:((2 *x:Nat):Int).tmod 4294967296=((2 *x % 4294967296:Nat):Int):=qI _ _;have B:IntKind.wrap .u32 (((b-(j+1):Nat):Int)+1)=((b-j:Nat):Int):=by rw[show((b-(j+1):Nat):Int)+1=((b-j:Nat):Int)by omega,B7 _ (by omega)]
  refine aL ?_;simp only[RR];refine aH (aQ (aA fun K c=>?_));simp only[i,RR,seval];refine c _ _ (cM (aM ?_));simp only[d,y,A,RR,seval];refine aM ?_;simp only[e,B,RR,seval];refine D (j) _ _ (by omega) ⟨(by omega),rfl,(by rw[G];rfl)⟩ (by repeat (first|exact u|refine bC.upd rfl ?_))
 have n:=p;have F:m=0:=by have:=aE n;omega
 subst F;rw[Nat.sub_zero]at d;have C:=B7 _ (show a *2^b % 4294967296<4294967296 from sF _ (by decide));refine cH ?_;simp only[RR,seval];refine aA fun K c=>?_;simp only[d,C,RR,seval];apply c;refine aP ?_;simp only[aY,aK,bP,RR,seval];refine bB.pure ?_;rfl
theorem JB (a b:Nat) (D:a<4294967296) (O:b<4294967296):eG dR 200 [.int .i64 13, .int .u32 (a:Int), .int .u32 (b:Int)] (.int .u32 (if 31<(b:Int)then 0 else((a:Int)).fdiv (2^(min ((b:Int)).toNat 32)))):=by
 by_cases h:31<(b:Int)
 ·rw[bF h]
  have z:(32:Int)≤(b:Int):=by omega
  refine bU 27 [.tmp 6] func200 ?_;refine aA fun K c=>?_;simp only[RR,seval];refine c _ _ (aH (aA fun K c=>?_));simp only[z,RR,seval];refine c _ _ (cM (aA fun K c=>?_));simp only[RR,seval];apply c;refine aP ?_;simp only[aY,aK,bP,RR,seval];refine bB.pure ?_;rfl
 rw[aO h];have z: ¬(32:Int)≤(b:Int):=by omega
 have G:((a:Int)).fdiv (2^(min ((b:Int)).toNat 32))=((a/2^b:Nat):Int):=by
  rw[cA,Nat.min_eq_left (by omega),pF _ (Int.pow_nonneg (by decide))];rw[Int.natCast_ediv,Int.natCast_pow];rfl
 rw[G];have v:=L9 a (by omega);refine bU 27 [.tmp 6] func200 ?_;refine aA fun K c=>?_;simp only[RR,seval];refine c _ _ (aH (aA fun K c=>?_));simp only[z,RR,seval];refine c _ _ (bK ?_);refine aL ?_;simp only[RR];refine aA fun K c=>?_;simp only[v,RR,seval];refine c _ _ (aH (aA fun K c=>?_));simp only[RR,seval];refine c _ _ (bN fun H J f N=>?_);have i:=f 0;have k:=f 2;have l:=f 6;have d:=f 7;have e:=f 8;simp only[RR,seval]at i k l d e;refine aQ (iP [0,2,6] (b) (fun m o M=>m≤b∧o 8= .int .u32 ((b-m:Nat):Int)∧o 7= .int .u64 ((a/2^(b-m):Nat):Int)) ⟨aZ _,(by rw[e,Gm];rfl),(by rw[d,Gm,Nat.pow_zero,Nat.div_one])⟩ ?_);rintro m t L ⟨P,e,d⟩ g I C;have i:=(g 0 rfl).trans i;have k:=(g 2 rfl).trans k;have l:=(g 6 rfl).trans l;have u:=bC.refl [0,2,6] t;clear g;refine aH (aA fun K c=>?_);simp only[k,e,RR,seval];refine c _ _ (aX ?_ ?_)<;>intro p
 ·have n:=p
  obtain⟨j,rfl⟩: ∃j,m=j+1:=⟨m- 1,by have:=aD n;omega⟩
  have F:a/2^(b-j)=a/2^(b-(j+1))/2:=by
   rw[show b-j=b-(j+1)+1 by omega,mU,XG]
  have Q:a/2^(b-(j+1))≤a:=XS _ _;generalize a/2^(b-(j+1))=x at *;have y:IntKind.wrap .u64 (((x:Int)).tdiv 2)=((x/2:Nat):Int):=by rw[show((x:Int)).tdiv 2=((x/2:Nat):Int)from zX x 2,L9 _ (by omega)]
  have A:IntKind.wrap .u32 (((b-(j+1):Nat):Int)+1)=((b-j:Nat):Int):=by rw[show((b-(j+1):Nat):Int)+1=((b-j:Nat):Int)by omega,B7 _ (by omega)]
  refine aL ?_;simp only[RR];refine aH (aQ (aA fun K c=>?_));simp only[i,RR,seval];refine c _ _ (bK (aM ?_));simp only[d,y,RR,seval];refine aM ?_;simp only[e,A,RR,seval];refine C (j) _ _ (by omega) ⟨(by omega),rfl,(by rw[F];rfl)⟩ (by repeat (first|exact u|refine bC.upd rfl ?_))
 have n:=p;have E:m=0:=by have:=aE n;omega
 subst E;rw[Nat.sub_zero]at d;have B:=B7 (a/2^b) (Nat.lt_of_le_of_lt (XS _ _) D);refine cH ?_;simp only[RR,seval];refine aA fun K c=>?_;simp only[d,B,RR,seval];apply c;refine aP ?_;simp only[aY,aK,bP,RR,seval];refine bB.pure ?_;rfl
theorem Lu (op:Int) {a b:Int} (t:dQ a) (u:dQ b):eG dR 160 [.int .i64 op, .int .u32 a, .int .u32 b] (.tup [.int .u32 (eP op a b).1, .int .i64 (eP op a b).2]):=by
 obtain⟨x,rfl⟩:=iY t.1;obtain⟨y,rfl⟩:=iY u.1;have l:x<4294967296:=by have:=t.2;omega
 have j:y<4294967296:=by have:=u.2;omega
 have g:=L9 x (by omega);have k:=L9 y (by omega);by_cases h:op=4∨op=5∨op=6∨op=7∨op=8∨op=9∨op=10∨op=11∨op=12∨op=13∨op=14∨op=15
 ·have p:=Z9 op x y l j
  have X:=JC x y l j;have Y:=JB x y l j;have v:=fun c=>JR c;have s4:IntKind.wrap .u64 ((x:Int)+(y:Int))=((x+y:Nat):Int):=by rw[show(x:Int)+(y:Int)=((x+y:Nat):Int)by omega,L9 _ (by omega)]
  have r4:((x+y:Nat):Int).tmod 4294967296=(((x+y) % 4294967296:Nat):Int):=qI _ _;have t4:=B7 ((x+y) % 4294967296) (sF _ (by decide));have u5:IntKind.wrap .u64 ((x:Int)+4294967296)=((x+4294967296:Nat):Int):=by rw[show(x:Int)+4294967296=((x+4294967296:Nat):Int)by omega,L9 _ (by omega)]
  have s5:IntKind.wrap .u64 (((x+4294967296:Nat):Int)-(y:Int))=((x+4294967296 -y:Nat):Int):=by rw[show((x+4294967296:Nat):Int)-(y:Int)=((x+4294967296 -y:Nat):Int)by omega,L9 _ (by omega)]
  have r5:((x+4294967296 -y:Nat):Int).tmod 4294967296=(((x+4294967296 -y) % 4294967296:Nat):Int):=qI _ _;have t5:=B7 ((x+4294967296 -y) % 4294967296) (sF _ (by decide))
  have Z:x *y<18446744073709551616:=by
   have h1:x *y≤4294967295 *4294967295:=Nat.mul_le_mul (by omega) (by omega);omega
  have s6:IntKind.wrap .u64 ((x:Int) *(y:Int))=((x *y:Nat):Int):=by rw[show(x:Int) *(y:Int)=((x *y:Nat):Int)by rw[Int.natCast_mul],L9 _ Z]
  have r6:((x *y:Nat):Int).tmod 4294967296=(((x *y) % 4294967296:Nat):Int):=qI _ _;have t6:=B7 ((x *y) % 4294967296) (sF _ (by decide));have a0:x/y≤x:=XS _ _;have s7:IntKind.wrap .u64 (((x:Int)).tdiv (y:Int))=((x/y:Nat):Int):=by rw[zX,L9 _ (by omega)]
  have M:=B7 (x/y) (by omega);have a1:x % y≤x:=Nat.mod_le _ _;have s8:((x:Int)).tmod (y:Int)=((x % y:Nat):Int):=qI x y;have t8:=B7 (x % y) (by omega);have N:y=0∨ ∃q,(y:Int)≠0∧q=y:=by by_cases h:y=0;exact .inl h;exact .inr ⟨y,by omega,rfl⟩
  have S:eP 4 x y=((((x+y) % 4294967296:Nat):Int),0):=by
   show(IntKind.wrap .u32 ((x:Int)+y),(0:Int))=_;rw[LX,show((x:Int)+y) % 4294967296=(((x+y) % 4294967296:Nat):Int)from(Int.natCast_emod (x+y) 4294967296).symm]
  have T:eP 5 x y=((((x+4294967296 -y) % 4294967296:Nat):Int),0):=by
   show(IntKind.wrap .u32 ((x:Int)-y),(0:Int))=_;rw[LX,GN x y j]
  have U:eP 6 x y=((((x *y) % 4294967296:Nat):Int),0):=by
   show(IntKind.wrap .u32 ((x:Int) *y),(0:Int))=_;rw[LX,show((x:Int) *y) % 4294967296=(((x *y) % 4294967296:Nat):Int)from by rw[←Int.natCast_mul];omega]
  have V:(y:Int)≠0→eP 7 x y=(((x/y:Nat):Int),0):=fun h=>by
   show(if(y:Int)=0 then((0:Int),(14:Int))else(IntKind.wrap .u32 (((x:Int)).tdiv (y:Int)),0))=_;rw[aO h,zX,M]
  have W:(y:Int)≠0→eP 8 x y=(((x % y:Nat):Int),0):=fun h=>by
   show(if(y:Int)=0 then((0:Int),(14:Int))else(((x:Int)).tmod (y:Int),0))=_;rw[aO h,qI]
  have n:op=9∨op=10∨op=11→eP op x y=(((yQ op x y:Nat):Int),(0:Int)):=fun h=>Yu op h x y l j
  have O:eP 12 x y=(if 31<(y:Int)then 0 else IntKind.wrap .u32 ((x:Int) *2^(min ((y:Int)).toNat 32)),0):=by
   show(if 31<(y:Int)then((0:Int),(0:Int))else(IntKind.wrap .u32 ((x:Int) *2^(min ((y:Int)).toNat 32)),0))=_;by_cases h:31<(y:Int)<;>simp only[h,cQ,dT]
  have P:eP 13 x y=(if 31<(y:Int)then 0 else((x:Int)).fdiv (2^(min ((y:Int)).toNat 32)),0):=by
   show(if 31<(y:Int)then((0:Int),(0:Int))else(((x:Int)).fdiv (2^(min ((y:Int)).toNat 32)),0))=_;by_cases h:31<(y:Int)<;>simp only[h,cQ,dT]
  have Q:eP 14 x y=(if decide ((x:Int)<(y:Int))=true then 1 else 0,0):=by simp [eP]
  have R:eP 15 x y=(if decide ((x:Int)=(y:Int))=true then 1 else 0,0):=by simp [eP]
  rcases h with rfl|rfl|rfl|rfl|rfl|rfl|rfl|rfl|rfl|rfl|rfl|rfl
  all_goals first|rw[S]|rw[T]|rw[U]|(rw[n (.inl rfl)];have f:=p)|(rw[n (.inr (.inl rfl))];have f:=p)|(rw[n (.inr (.inr rfl))];have f:=p)|(rw[O];have f:=X)|(rw[P];have f:=Y)|(rw[Q];have f:=v (decide ((x:Int)<(y:Int))))|(rw[R];have f:=v (decide ((x:Int)=(y:Int))))|skip
  case inr.inr.inr.inl=>
   rcases N with rfl|⟨_,i,_⟩
   ·rw[show eP 7 x ((0:Nat):Int)=(0,14)from rfl]
    refine bU 80 [.tmp 6, .tmp 7] func160 ?_
    repeat' (first|(refine aG fun K d=>?_;refine aM ?_;simp only[g,RR,seval];apply d;clear d K)|(refine aH ?_)|(refine aQ ?_)|(refine cM ?_)|(refine bK ?_)|(refine aP ?_;simp only[bR,dC,aY,aK,bP,RR,seval];refine bB.pure ?_))
    all_goals rfl
   rw[V i];have o: ¬(y:Int)=0:=i;refine bU 80 [.tmp 6, .tmp 7] func160 ?_
   repeat' (first|(refine aG fun K d=>?_;refine aM ?_;simp only[g,k,s7,M,o,RR,seval];apply d;clear d K)|(refine aH ?_)|(refine aQ ?_)|(refine cM ?_)|(refine bK ?_)|(refine aL ?_;simp only[bR])|(refine aP ?_;simp only[bR,dC,aY,aK,bP,RR,seval];refine bB.pure ?_))
   all_goals rfl
  case inr.inr.inr.inr.inl=>
   rcases N with rfl|⟨_,i,_⟩
   ·rw[show eP 8 x ((0:Nat):Int)=(0,14)from rfl]
    refine bU 80 [.tmp 6, .tmp 7] func160 ?_
    repeat' (first|(refine aG fun K d=>?_;refine aM ?_;simp only[g,RR,seval];apply d;clear d K)|(refine aH ?_)|(refine aQ ?_)|(refine cM ?_)|(refine bK ?_)|(refine aP ?_;simp only[bR,dC,aY,aK,bP,RR,seval];refine bB.pure ?_))
    all_goals rfl
   rw[W i];have o: ¬(y:Int)=0:=i;refine bU 80 [.tmp 6, .tmp 7] func160 ?_
   repeat' (first|(refine aG fun K d=>?_;refine aM ?_;simp only[g,k,s8,t8,o,RR,seval];apply d;clear d K)|(refine aH ?_)|(refine aQ ?_)|(refine cM ?_)|(refine bK ?_)|(refine aL ?_;simp only[bR])|(refine aP ?_;simp only[bR,dC,aY,aK,bP,RR,seval];refine bB.pure ?_))
   all_goals rfl
  all_goals
   refine bU 80 [.tmp 6, .tmp 7] func160 ?_
   repeat' (first|(refine aG fun K d=>?_;refine aM ?_;simp only[g,k,s4,r4,t4,u5,s5,r5,t5,s6,r6,t6,RR,seval];apply d;clear d K)|(refine aH ?_)|(refine aQ ?_)|(refine cM ?_)|(refine bK ?_)|(refine aL ?_;simp only[bR])|(refine aM ?_;simp only[bR,RR,seval])|(refine aP ?_;simp only[bR,dC,aY,aK,bP,RR,seval];refine bB.pure ?_)|(refine aI (f) ?_;simp only[bR,RR,seval]))
   all_goals rfl
 have F: ¬op=4:=fun e=>h (by simp [e]);have G: ¬op=5:=fun e=>h (by simp [e]);have H: ¬op=6:=fun e=>h (by simp [e]);have I: ¬op=7:=fun e=>h (by simp [e]);have J: ¬op=8:=fun e=>h (by simp [e]);have L: ¬op=9:=fun e=>h (by simp [e]);have z: ¬op=10:=fun e=>h (by simp [e]);have A: ¬op=11:=fun e=>h (by simp [e]);have B: ¬op=12:=fun e=>h (by simp [e]);have C: ¬op=13:=fun e=>h (by simp [e]);have D: ¬op=14:=fun e=>h (by simp [e]);have E: ¬op=15:=fun e=>h (by simp [e]);have e:eP op x y=(0,1):=by simp [eP,F,G,H,I,J,L,z,A,B,C,D,E]
 rw[e];refine bU 80 [.tmp 6, .tmp 7] func160 ?_
 repeat' (first|(refine aG fun K d=>?_;refine aM ?_;simp only[g,k,F,G,H,I,J,L,z,B,D,E,RR,seval];apply d;clear d K)|(refine aH ?_)|(refine aQ ?_)|(refine bK ?_)|(refine aL ?_;simp only[bR,dC])|(refine aM ?_;simp only[A,C,bR,RR,seval])|(refine aP ?_;simp only[aY,aK,bP,RR,seval];refine bB.pure ?_))
 all_goals rfl
section
variable {W : List Int} {inp : dE} {r bm bc : Nat} {vo : AV} {s s' : Mc} {e en : Int} {H : Hp}
theorem rM {a x:Int} (j:jU W inp r bm bc vo s.stp en H) (l:dQ x) (h:s.set a x=some (e,s')) (k:0≤s.pc∧s.pc≤1000000):pP dR 157 [.ptr 28 r 0 0, .int .i64 a, .int .u32 x] H (fun b H'=>b= .ret (.tup [])∧jU W inp r bm bc vo s' en H'∧gM r bm bc vo vo H H'∧e=0):=by
 unfold Mc.set at h;by_cases g:a=1
 ·subst g
  rw[bF rfl]at h;simp only[Option.some.injEq,Prod.mk.injEq]at h;obtain⟨rfl,rfl⟩:=h;exact pP.mono (Y1 j x l k) fun b H' ⟨c,d,f⟩=>⟨c,d,f,rfl⟩
 rw[aO g]at h;by_cases i:a=2
 ·subst i
  rw[bF rfl]at h;simp only[Option.some.injEq,Prod.mk.injEq]at h;obtain⟨rfl,rfl⟩:=h;exact pP.mono (Y0 j x l k) fun b H' ⟨c,d,f⟩=>⟨c,d,f,rfl⟩
 rw[aO i]at h;cases h
theorem TF {W:List Int} {p:Nat} {w:Int} (h:W[p]?=some w):p<W.length:=(bD.1 h).1
theorem X9 (hM:jU W inp r bm bc vo s 0 H) (l0:W.length≤20000) (i7: ∀w∈W,dQ w∧sU w) (hst:s.st≤1000000000000) (l2:inp.length≤2000000) (f:nB W inp s=some (e,s')):pP dR 106 [.ptr 28 r 0 0] H (fun U H'=>U= .ret (.tup [])∧ ∃vo',jU W inp r bm bc vo' s' e H'∧gM r bm bc vo vo' H H'):=by
 unfold nB at f;by_cases h0:s.pc<0
 ·rw[bF h0]at f;cases f
 rw[aO h0]at f;obtain⟨p,N⟩:=iY (show 0≤s.pc by omega)
 cases hw:W[s.pc.toNat]? with
 |none=>rw[hw]at f;cases f
 |some w=>
 rw[hw]at f;simp only at f;rw[N,cA]at hw;have l4:=TF hw;obtain⟨hu,a9⟩:=i7 w (aW hw);unfold sU at a9;have c4:(W.map yD)[p]?=some [.int .i64 (w/16777216), .int .i64 (w/1048576 % 16), .int .i64 (w/65536 % 16), .int .i64 (w % 65536)]:=by rw[cT,hw];rfl
 have d7:(W.map fun _=>[AV.bool true])[p]?=some [.bool true]:=by rw[cT,hw];rfl
 obtain⟨o,ho⟩: ∃o,w/16777216=o:=⟨_,rfl⟩;obtain⟨a,ha⟩: ∃a,w/1048576 % 16=a:=⟨_,rfl⟩;obtain⟨b,g⟩: ∃b,w/65536 % 16=b:=⟨_,rfl⟩;obtain⟨c,hc⟩: ∃c,w % 65536=c:=⟨_,rfl⟩;have b6:(0≤a∧a≤15)∧(0≤b∧b≤15)∧(0≤c∧c≤65535):=by have:=hu.1;omega
 rw[ho,ha,g,hc]at f c4 a9;clear ho ha g hc hu i7 hw;obtain⟨b6,g7,d5⟩:=b6
 have j4:4≤o∧o≤15→c≤15:=fun h=>by
  have N:rK o=[97,98,114]:=by
   unfold rK;rw[aO (by omega),aO (by omega),aO (by omega),aO (by omega),aO (by omega)]
  have h2:=a9.2;unfold AC at h2;rw[N]at h2;simp [vQ,vV]at h2;omega
 have a0:0≤a:=b6.1;have a1:a<16:=by omega
 have b0:0≤b:=g7.1;have b1:b<16:=by omega
 have c9:=fun x0 b4=>show _=some (AV.int .u32 (s.r a))from D7 x0 b4 s.r1 s.r2 a b6
 have a4:=fun x0 b4=>show _=some (AV.int .u32 (s.r b))from D7 x0 b4 s.r1 s.r2 b g7
 obtain⟨cn,j3,P⟩:=hM.c;obtain⟨v,hv⟩: ∃v,cn[p]?=some v:=⟨_,aC (by omega)⟩;have d6:(cn.map ML)[p]?=some [.int .i64 v]:=by rw[cT,hv];rfl
 have k:=hM.r;rw[N]at k;have b3:=hM.ncr;have nbr:=b3.symm;have d1:decide ((p:Int)<0)=false:=bI (by omega);have d2:decide ((W.length:Int)≤(p:Int))=false:=bI (by omega);have d3:(p:Int)<(W.length:Int):=by omega
 have d4:(0:Int)≤(p:Int):=by omega
 have e1:IntKind.wrap .i64 ((s.st:Int)+1)=((s.st+1:Nat):Int):=by rw[aU _ (by omega)];omega
 have e2:IntKind.wrap .u32 c=c:=dX _ (by omega);have e3:IntKind.wrap .i64 ((p:Int)+1)=((p+1:Nat):Int):=by rw[aU _ (by omega)];omega
 have k5:=a9.1;have d9:(p:Int)+1=((p+1:Nat):Int):=by omega
 unfold QS at k5;have e5: ¬o=18:=by omega
 have e6: ¬o=20:=by omega
 have e7: ¬o=21:=by omega
 have c7: ¬o=27:=by omega
 clear a9;obtain⟨X,hX⟩: ∃X,X=upd (upd H r (some (.rows 28 [IP W inp bm bc vo (p:Int) s.r1 s.r2 s.rd ((s.st+1:Nat):Int) 0]))) bc (some (.rows 1 ((cn.map ML).set p [.int .i64 (IntKind.i64.wrap (v+1))]))):=⟨_,rfl⟩
 have g5:jU W inp r bm bc vo s.stp 0 X:=by
  rw[hX];refine(hM.turn (s':=s.stp) (en':=0) (H':=upd H r (some (.rows 28 [IP W inp bm bc vo (p:Int) s.r1 s.r2 s.rd ((s.st+1:Nat):Int) 0]))) ?_ (fun b g=>cG _ _ g) rfl rfl hM.u1 hM.u2 hM.rd).count (cn:=cn.set p (IntKind.i64.wrap (v+1))) (by rw[dK];exact j3) ?_ (fun b g=>cG _ _ g)
  ·rw[show s.stp.pc=(p:Int)from N];exact bO _ _ _
  rw[bO,List.map_set];rfl
 obtain⟨HO,I⟩: ∃X,X=H:=⟨_,rfl⟩;refine bU 411 [] func106 ?_;refine aH (aG fun K d=>?_);refine bA (fun x=>x≠r∧x≠bc) [(0,3),(1,3),(2,3),(3,3),(4,1),(5,3),(6,3),(7,3),(8,3),(9,3),(10,3),(11,1),(12,3),(13,3),(14,3),(15,1),(16,3),(17,3),(18,3)] [] eB (by kernel_rfl) rfl rfl ?_;simp only[dI,k,aF,d1,d2,RR,seval]
 repeat' ((refine cL (fun h=>?_) (fun h=>?_))<;>simp only[h,k,P,b3,nbr,aF,c4,d7,d6,d1,d2,d3,d4,e1,e2,e3,a0,a1,b0,b1,c9,a4,e5,e6,e7,c7,cA,RR,seval])
 all_goals
  refine d _ _ (bK ?_);refine aL ?_;simp only[RR];refine aA fun K d=>?_;simp only[k,e1,RR,seval];refine d _ _ (aG fun K d=>?_);refine bA (fun x=>x≠r∧x≠bc) [(0,3),(1,3),(2,3),(3,1),(4,3),(5,3),(6,3),(7,3),(8,1),(9,3),(10,1),(11,3),(12,3)] [(13,1)] eB (by kernel_rfl) rfl rfl ?_;simp only[dI,P,b3,d6,d3,d4,cA,RR,seval];refine d _ _ (aG fun K d=>?_);refine bA (fun x=>x≠r∧x≠bc) [(0,3),(1,3),(2,3),(3,0),(4,3),(5,3),(6,3),(7,3),(8,0),(9,3),(10,0),(11,1)] [(12,1)] eB (by kernel_rfl) rfl rfl ?_;simp only[dI,fP,nbr,c4,d4,cA,RR,seval];refine aN fun E a8=>?_;have e8:E≠r:=fun e=>by rw[e]at a8;simp only[nbr,RR,seval,reduceCtorEq]at a8
  have c8:=e8.symm;have i8:E≠bc:=fun e=>by rw[e]at a8;simp only[RR,seval,reduceCtorEq]at a8
  have i9:=i8.symm;simp only[RR,seval];refine d _ _ (aH (aG fun K d=>?_));refine bA (fun x=>x≠r∧x≠bc∧x≠E) [(0,3),(1,3),(2,3),(3,1),(4,3),(5,3),(6,3),(7,3),(8,1),(9,3),(10,1),(11,3)] [] eB (by kernel_rfl) rfl rfl ?_;simp only[dI,nbr,c8,d7,d4,cA,RR,seval];refine d _ _ (bK ?_);refine aL ?_;simp only[RR];refine aG fun K d=>?_;refine bA (fun x=>x≠r∧x≠bc∧x≠E) [(0,3),(1,3),(2,1),(3,3),(4,3),(5,3),(6,3),(7,1),(8,3)] [] eB (by kernel_rfl) rfl rfl ?_;simp only[dI,nbr,c8,a0,a1,c9,RR,seval];refine d _ _ (bN fun F1 M1 L B=>?_);have j:=L 0;have D:=L 2;have Q:=L 3;have k:=B r;have P:=B bc;have A:=B E;simp only[nbr,c8,i9,RR,seval]at j D Q k P A;have a7:=funext B;have i5:X E=none:=by rw[hX];exact a8
  have b5: ∀b,X b≠none→M1 b=X b:=fun b g=>by
   have n:b≠E:=fun e=>g (by rw[e];exact i5);rw[a7,hX];simp only[cG _ _ n];rfl
  have i:jU W inp r bm bc vo s.stp 0 M1:=g5.far b5
  have C:gM r bm bc vo vo HO M1:=by
   rw[hX,←I]at b5;exact gM.upd2 (.inl rfl) (.inr (.inr rfl)) b5
  clear b5 i5 g5 hX a7;refine aA fun K d=>?_;simp only[D,A,RR,seval];refine d _ _ (aQ (aA fun K d=>?_));simp only[RR,seval];refine d _ _ (aX ?_ ?_)<;>intro b8
  ·try (cases b8;done)
   all_goals
    obtain rfl:=aD b8;have f:s.set a c=some (e,s'):=by simpa [uG]using f
    refine aM ?_;simp only[j,D,A,e2,RR,seval];refine jS (rM i ⟨d5.1,by omega⟩ f (by omega)) (fun _=>trivial) fun U H2 ⟨G,l,F,O⟩=>?_;subst G;subst O;simp only[RR,seval];simp only[aY,aK,bP,seval];exact bB.run ⟨rfl,_,l,I▸C.trans F⟩
  try (cases b8;done)
  all_goals
   refine aA fun K d=>?_;simp only[RR,seval];refine d _ _ (aX ?_ ?_)<;>intro g9
   ·obtain rfl:=aD g9
    have f:s.set a (s.r a % 65536+c *65536)=some (e,s'):=by simpa [uG]using f
    have a3:dQ (s.r a):=Mc.r_u i a;have q1:(s.r a).tmod 65536=s.r a % 65536:=vR a3.1;have q2:IntKind.wrap .u32 (c *65536)=c *65536:=dX _ (by omega);have q3:IntKind.wrap .u32 (s.r a % 65536)=s.r a % 65536:=dX _ (by omega);have q4:IntKind.wrap .u32 (s.r a % 65536+c *65536)=s.r a % 65536+c *65536:=dX _ (by omega);refine aM ?_;simp only[j,D,Q,A,e2,q1,q2,q4,RR,seval];refine jS (rM i ⟨by omega,by omega⟩ f (by omega)) (fun _=>trivial) fun U H2 ⟨G,l,F,O⟩=>?_;subst G;subst O;simp only[RR,seval];simp only[aY,aK,bP,seval];exact bB.run ⟨rfl,_,l,I▸C.trans F⟩
   refine aA fun K d=>?_;simp only[RR,seval];refine d _ _ (aX ?_ ?_)<;>intro h3
   ·obtain rfl:=aD h3
    have f:s.set a (s.r b)=some (e,s'):=by simpa [uG]using f
    refine bA (fun _=>True) [(0,3),(1,3),(2,1),(3,3),(4,3),(5,1),(6,3),(7,3),(8,3),(9,3),(10,1),(11,1)] [] eB (by kernel_rfl) rfl rfl ?_;simp only[dI,j,D,k,A,b0,b1,a4,RR,seval];refine jS (rM i (show dQ (s.r b)from Mc.r_u i b) f (by omega)) (fun _=>trivial) fun U H2 ⟨G,l,F,O⟩=>?_;subst G;subst O;simp only[RR,seval];simp only[aY,aK,bP,seval];exact bB.run ⟨rfl,_,l,I▸C.trans F⟩
   refine aH (bN fun F2 R L B=>?_);have S:=L 0;have l:=L 2;have F:=L 3;have J:=L 92;have gr:=B r;have Y:=B bc;have V:=B E;simp only[j,D,Q,k,P,A,RR,seval]at S l F J gr Y V;have a7:=funext B;have i:jU W inp r bm bc vo s.stp 0 R:=i.same B;have C:gM r bm bc vo vo HO R:=by rw[a7];exact C
   clear a7;have j:=S;have D:=l;have Q:=F;have k:=gr;have P:=Y;have A:=V;refine gP (fun fr M=>bC [0,2,3,92] F2 fr∧M r=R r∧M bc=R bc∧M E=R E∧fr 162= .bool (decide (o=16))∧jU W inp r bm bc vo s.stp 0 M∧gM r bm bc vo vo HO M) (fun k9 f9=>?_) ?_
   ·have e9:=bC.refl [0,2,3,92] F2
    have f5:R r=R r:=rfl;have f4:R bc=R bc:=rfl;have f1:R E=R E:=rfl;refine aA fun K d=>?_;simp only[J,RR,seval];refine d _ _ (aX ?_ ?_)<;>intro j1
    ·refine aL ?_;try simp only[RR]
     refine f9 _ _ ⟨(by repeat (first|exact e9|refine bC.upd rfl ?_)),f5,f4,f1, ?_,i,C⟩
     (simp only[aS,seval];done)
    refine aM ?_;simp only[J,c7,RR,seval];refine f9 _ _ ⟨(by repeat (first|exact e9|refine bC.upd rfl ?_)),f5,f4,f1, ?_,i,C⟩
    (simp only[aS,seval,j1];done)
   rintro F3 M3 ⟨a6,gr,Y,V,f6,i,C⟩;have j:=(a6 0 rfl).trans j;have D:=(a6 2 rfl).trans D;have Q:=(a6 3 rfl).trans Q;have J:=(a6 92 rfl).trans J;have k:=gr.trans k;have P:=Y.trans P;have A:=V.trans A;clear a6;simp only[RR,seval];refine eO _ f6 (fun d0=>?_) (fun d0=>?_)
   ·obtain rfl:=aD d0
    obtain⟨x,hx,f⟩: ∃x,s.mem[(gR (s.r b+c)).toNat]?=some x∧s.set a x=some (e,s'):=by
     simp [uG]at f
     cases hm:s.mem[(gR (s.r b+c)).toNat]? with
     |none=>rw[hm]at f;cases f
     |some x=>rw[hm]at f;exact⟨x,rfl,f⟩
    refine aA fun K d=>?_;simp only[j,k,RR,seval];refine d _ _ (aH (aA fun K d=>?_));simp only[D,A,c7,RR,seval];refine d _ _ (bK ?_);refine aL ?_;simp only[RR];refine aG fun K d=>?_;refine bA (fun _=>True) [(0,3),(1,3),(2,3),(3,1),(4,3),(5,3),(6,3),(7,3),(8,1),(9,3),(10,1),(11,1),(12,3),(13,3),(14,3),(15,3),(16,3)] [] eB (by kernel_rfl) rfl rfl ?_;simp only[dI,j,D,k,A,b0,b1,a4,RR,seval];refine jS (AM i.m i.ml d5 hx) (fun _=>trivial) fun U H2 ⟨G,l⟩=>?_;subst G;subst l;simp only[RR,seval];refine d _ _ (aH (aA fun K d=>?_));simp only[RR,seval];refine d _ _ (bK ?_);refine aL ?_;simp only[RR];refine aM ?_;simp only[j,D,A,RR,seval];refine jS (rM i (i.um x (aW hx)) f (by omega)) (fun _=>trivial) fun U H2 ⟨G,l,F,O⟩=>?_;subst G;subst O;simp only[RR,seval];simp only[aY,aK,bP,seval];exact bB.run ⟨rfl,_,l,I▸C.trans F⟩
   refine aA fun K d=>?_;simp only[J,RR,seval];refine d _ _ (aX ?_ ?_)<;>intro h4
   ·obtain rfl:=aD h4
    obtain⟨a5,f⟩:(gR (s.r b+c)).toNat<4224∧(0,{s.nx with mem:=s.mem.set (gR (s.r b+c)).toNat (s.r a)})=(e,s'):=by
     have d8:s.mem.length=4224:=i.ml;simp only[uG,d8]at f;by_cases z:(gR (s.r b+c)).toNat<4224
     ·exact⟨z,by simpa [z]using f⟩
     simp [z]at f
    have g6:=Ll (s.r b+c);obtain⟨t,ht⟩: ∃t,gR (s.r b+c)=t:=⟨_,rfl⟩;rw[ht]at a5 f g6;simp only[Prod.mk.injEq]at f;obtain⟨rfl,rfl⟩:=f;have a3:dQ (s.r a):=Mc.r_u i a;have b7:=i.m;have j8:=i.nmr;have k0:r≠bm:=fun e=>j8 e.symm;have i4:E≠bm:=fun e=>by rw[e,b7]at A;cases A
    have l3:bm≠E:=fun e=>i4 e.symm;have d8:s.stp.mem.length=4224:=i.ml;have q1:IntKind.wrap .u32 (s.r b+c)=t:=ht;have q2:IntKind.wrap .u64 t=t:=BU _ (by omega);have q3:IntKind.wrap .u64 4224=4224:=rfl;have q4:decide (4224≤t)=false:=bI (by omega);have q5:t<4224:=by omega
    have q6:0≤t:=g6.1;have q7:t.toNat<4224:=a5;obtain⟨y,hy⟩: ∃y,s.stp.mem[t.toNat]?=some y:=⟨_,aC (by rw[d8];exact a5)⟩;have j7:=G7 hy;refine aG fun K d=>?_;refine bA (fun x=>x≠r∧x≠bc∧x≠E∧x≠bm) [(0,3),(1,3),(2,1),(3,3),(4,3),(5,3),(6,3),(7,1),(8,3),(9,1),(10,3),(11,3),(12,3)] [] eB (by kernel_rfl) rfl rfl ?_;simp only[dI,j,D,k,A,e2,b0,b1,a4,q1,RR,seval];refine d _ _ (aH (aA fun K d=>?_));simp only[j,k,q2,q3,q4,RR,seval];refine d _ _ (bK ?_);refine aL ?_;simp only[RR];refine aA fun K d=>?_;simp only[j,Q,k,b7,q5,q6,j7,RR,seval];refine d _ _ (bN fun F4 M4 L B=>?_);have S:=L 0;have gr:=B r;have Y:=B bc;have V:=B E;have b7:=B bm;simp only[j,k,P,A,k0,i4,RR,seval]at S gr Y V b7;have a2:=funext B
    have u:jU W inp r bm bc vo {s.stp with mem:=s.mem.set t.toNat (s.r a)} 0 M4:=by
     rw[a2];exact i.store t.toNat (s.r a) a3 (bO _ _ _) (fun b g=>cG _ _ g)
    have Z:=C.trans (H2:=M4) (by
     rw[a2]
     exact fun b o g n1 n2 n3 n4=>⟨by rw[cG _ _ n2];exact g,n4⟩)
    have j:=S;have k:=gr;have P:=Y;have A:=V;refine aM ?_;simp only[j,k,e3,RR,seval];simp only[aY,aK,bP,seval];exact bB.run ⟨rfl,_,u.turn (by rw[bO];simp only[Mc.nx,N,d9]) (fun b g=>cG _ _ g) rfl rfl u.u1 u.u2 u.rd,I▸Z.trans (gM.turn fun b g=>cG _ _ g)⟩
   refine aA fun K d=>?_;simp only[J,e5,RR,seval];refine d _ _ (bK (aA fun K d=>?_));simp only[J,RR,seval];refine d _ _ (aX ?_ ?_)<;>intro h5
   ·obtain rfl:=aD h5
    have f:(0,if s.r a=0 then s.to c else s.nx)=(e,s'):=by simpa [uG]using f
    simp only[Prod.mk.injEq]at f;obtain⟨rfl,k8⟩:=f;refine aM ?_;simp only[j,D,Q,A,RR,seval];refine jS (Y3 i (decide (s.r a=0)) c (show 0≤s.pc∧s.pc≤1000000 by omega)) (fun _=>trivial) fun U H2 ⟨G,l,F⟩=>?_;subst G
    have l:jU W inp r bm bc vo s' 0 H2:=by
     rw[←k8];by_cases z:s.r a=0
     ·simp only[z,rZ,cQ]at l⊢;exact l
     simp only[z,decide_false,dT,cK]at l⊢;exact l
    simp only[RR,seval];simp only[aY,aK,bP,seval];exact bB.run ⟨rfl,_,l,I▸C.trans F⟩
   refine aA fun K d=>?_;simp only[J,e6,RR,seval];refine d _ _ (bK (aA fun K d=>?_));simp only[J,e7,RR,seval];refine d _ _ (bK (aA fun K d=>?_));simp only[J,RR,seval];refine d _ _ (aX ?_ ?_)<;>intro h6
   ·obtain rfl:=aD h6
    have f:(0,s.to (s.r a))=(e,s'):=by simpa [uG]using f
    simp only[Prod.mk.injEq]at f;obtain⟨rfl,rfl⟩:=f;have a3:dQ (s.r a):=Mc.r_u i a;have q1:IntKind.wrap .i64 (s.r a)=s.r a:=aU _ (by have:=a3.1;have:=a3.2;omega);have u:=i;have Z:=C;refine aM ?_;simp only[j,Q,k,q1,RR,seval];simp only[aY,aK,bP,seval];exact bB.run ⟨rfl,_,u.turn (by rw[bO];simp only[Mc.to]) (fun b g=>cG _ _ g) rfl rfl u.u1 u.u2 u.rd,I▸Z.trans (gM.turn fun b g=>cG _ _ g)⟩
   refine aA fun K d=>?_;simp only[J,RR,seval];refine d _ _ (aX ?_ ?_)<;>intro h7
   ·obtain rfl:=aD h7
    have q0:decide ((s.rd:Int)<0)=false:=bI (by omega)
    have q9:IntKind.wrap .i64 ((s.rd:Int)+1)=((s.rd+1:Nat):Int):=by
     have:=i.rd;have :s.rd≤inp.length:=this;rw[aU _ (by omega)];omega
    have q8:(0:Int)≤(s.rd:Int):=by omega
    refine aH (aG fun K d=>?_);refine bA (fun x=>x≠r∧x≠bc∧x≠E) [(0,3),(1,3),(2,3),(3,3),(4,1),(5,3),(6,3),(7,3),(8,3),(9,3),(10,3),(11,1),(12,3),(13,3),(14,3),(15,1),(16,3),(17,3),(18,3)] [] eB (by kernel_rfl) rfl rfl ?_;simp only[dI,j,k,q0,RR,seval]
    repeat' ((refine cL (fun h=>?_) (fun h=>?_))<;>simp only[h,j,D,Q,J,f6,k,P,A,b3,nbr,e8,c8,i8,i9,aF,c4,d7,d6,d1,d2,d3,d4,e1,e2,e3,a0,a1,b0,b1,c9,a4,e5,e6,e7,c7,cA,q0,q8,q9,RR,seval])
    all_goals
     refine d _ _ (aX ?_ ?_)<;>intro c2
     ·try (cases c2;done)
      all_goals
       have j6:inp.length≤s.rd:=by(have:=aD c2;omega)
       have j9:inp[s.rd]?=none:=dO j6;have f:s.set a 256=some (e,s'):=by simpa [uG,j9]using f
       refine aA fun K d=>?_;simp only[j,D,A,RR,seval];refine jS (rM i ⟨by decide,by decide⟩ f (by omega)) (fun _=>trivial) fun U H2 ⟨G,l,F,O⟩=>?_;subst G;subst O;simp only[RR,seval];apply d;refine aP ?_;simp only[aY,aK,bP,RR,seval];exact bB.run ⟨rfl,_,l,I▸C.trans F⟩
     try (cases c2;done)
     all_goals
      have a5:s.rd<inp.length:=by(have:=aE c2;omega)
      obtain⟨ch,i2⟩: ∃ch,inp[s.rd]?=some ch:=⟨_,aC a5⟩;have l1:=Vw ch;have f:({s with rd:=s.rd+1}:Mc).set a (ch.toNat:Int)=some (e,s'):=by simpa [uG,i2]using f
      have q1:IntKind.wrap .u32 (ch.toNat:Int)=(ch.toNat:Int):=dX _ (by omega);refine aL ?_;simp only[RR];refine aG fun K d=>?_;refine bA (fun x=>x≠r∧x≠bc∧x≠E) [(0,3),(1,3),(2,3),(3,1),(4,3),(5,3),(6,3),(7,3),(8,1),(9,3),(10,3),(11,3)] [] eB (by kernel_rfl) rfl rfl ?_;simp only[dI,j,k,cA,q8,i2,q1,RR,seval];refine d _ _ (aA fun K d=>?_);simp only[j,k,q9,RR,seval];refine d _ _ (bN fun F5 M5 L B=>?_);have S:=L 0;have l:=L 2;have f8:=L 8;have k:=B r;have Y:=B bc;have V:=B E;simp only[j,D,P,A,b3,e8,RR,seval]at S l f8 k Y V;have a2:=funext B
      have u:jU W inp r bm bc vo ({s with rd:=s.rd+1}:Mc).stp 0 M5:=by
       rw[a2];exact i.turn (by rw[bO];simp only[Mc.stp,N]) (fun b g=>cG _ _ g) rfl rfl i.u1 i.u2 a5
      have C:=C.trans (H2:=M5) (by
       rw[a2]
       exact gM.turn fun b g=>cG _ _ g)
      have j:=S;have D:=l;have P:=Y;have A:=V;refine aM ?_;simp only[j,D,f8,A,RR,seval];refine jS (rM (s:={s with rd:=s.rd+1}) u ⟨by omega,by omega⟩ f (by show 0≤s.pc∧s.pc≤1000000;omega)) (fun _=>trivial) fun U H2 ⟨G,l,F,O⟩=>?_;subst G;subst O;simp only[RR,seval];simp only[aY,aK,bP,seval];exact bB.run ⟨rfl,_,l,I▸C.trans F⟩
   refine aA fun K d=>?_;simp only[J,RR,seval];refine d _ _ (aX ?_ ?_)<;>intro h8
   ·obtain rfl:=aD h8
    have f:(if 65536≤s.out.length then some (4,s.stp)else some (0,{s.nx with out:=s.out++[UInt8.ofNat (IntKind.wrap .u8 (s.r a)).toNat]}))=some (e,s'):=by simpa [uG]using f
    have c6:=i.o;rw[show s.stp.out=s.out from rfl]at c6;have e0:s.out.length≤65536:=i.ol;have a3:dQ (s.r a):=Mc.r_u i a;have q1:(s.r a).tmod 256=s.r a % 256:=vR a3.1;have q2:IntKind.wrap .u32 (s.r a % 256)=s.r a % 256:=dX _ (by omega);have q3:IntKind.wrap .u8 (s.r a % 256)=s.r a % 256:=IntWalk.u8_in _ (by omega)
    have k7:[AV.int .u8 (s.r a % 256)]=rJ (UInt8.ofNat (IntKind.wrap .u8 (s.r a)).toNat):=by
     unfold rJ;rw[IntKind.wrap_u8,UInt8.toNat_ofNat'];congr 2;omega
    have e4: ∃m,s.out.length=m∧(vo= .nsl∧m=0∨ ∃b,vo= .osl 1 b m):=⟨_,rfl,by
     rcases c6 with⟨h1,h2⟩|⟨b,h1,h2⟩
     ·exact .inl ⟨h1,by simpa using h2⟩
     exact .inr ⟨b,by simpa using h1⟩⟩
    obtain⟨m,hm,e4⟩:=e4;rcases e4 with⟨rfl,rfl⟩|⟨b9,rfl⟩
    all_goals
     refine aH (aA fun K d=>?_);simp only[j,k,RR,seval];refine d _ _ (aX ?_ ?_)<;>intro c3
     ·try (cases c3;done)
      all_goals
       have T:65536≤s.out.length:=by(have:=aD c3;omega)
       rw[bF T]at f;simp only[Option.some.injEq,Prod.mk.injEq]at f;obtain⟨rfl,rfl⟩:=f;refine aA fun K d=>?_;simp only[j,k,RR,seval];apply d;refine aP ?_;simp only[aY,aK,bP,RR,seval];exact bB.run ⟨rfl,_,i.turn (by rw[bO];simp only[Mc.stp,N]) (fun b g=>cG _ _ g) rfl rfl i.u1 i.u2 i.rd,I▸C.trans (gM.turn fun b g=>cG _ _ g)⟩
     try (cases c3;done)
     all_goals
      have T: ¬65536≤s.out.length:=by first|omega|(have:=aE c3;omega)
      rw[aO T]at f;simp only[Option.some.injEq,Prod.mk.injEq]at f;obtain⟨rfl,rfl⟩:=f;refine aL ?_;simp only[RR];refine aA fun K d=>?_;simp only[j,Q,k,q1,q3,RR,seval];refine dG ?_;simp only[RR,seval];refine jC c6 (by simp only[aF,aJ,aT];omega) (fun _ _=>trivial) fun v' H' c5 i3 j5=>?_;have j2:=c5.cells;have k2:=c5.one1;have k6:=i3 r _ k (c6.offsz k (by decide) _ _);simp only[j2,k2,bX,List.drop,k6,RR,seval];refine d _ _ (bN fun F6 M6 L B=>?_);have S:=L 0;have k:=B r;simp only[j,RR,seval]at S k;have a2:=funext B;rw[k7]at c5;obtain⟨u,q9⟩:=i.put (c:=UInt8.ofNat (IntKind.wrap .u8 (s.r a)).toNat) (by show s.out.length<65536;omega) c5 i3 j5 (H2:=M6) (by rw[a2,bO];simp only[Mc.stp,N]) (fun b g=>by rw[a2];exact cG _ _ g);have Z:=C.trans q9;have j:=S;refine aM ?_;simp only[j,k,e3,RR,seval];simp only[aY,aK,bP,seval];exact bB.run ⟨rfl,_,u.turn (by rw[bO];simp only[Mc.nx,N,d9]) (fun b g=>cG _ _ g) rfl rfl u.u1 u.u2 u.rd,I▸Z.trans (gM.turn fun b g=>cG _ _ g)⟩
   refine aA fun K d=>?_;simp only[J,RR,seval];refine d _ _ (aX ?_ ?_)<;>intro h9
   ·obtain rfl:=aD h9
    have f:(if s.r a<c then some (0,s.nx)else some (3,s.stp))=some (e,s'):=by simpa [uG]using f
    have u:=i;have Z:=C;refine aH (aA fun K d=>?_);simp only[D,Q,A,e2,RR,seval];refine d _ _ (aX ?_ ?_)<;>intro i0
    ·have T: ¬s.r a<c:=by first|(have:=aD i0;omega)|omega
     rw[aO T]at f;simp only[Option.some.injEq,Prod.mk.injEq]at f;obtain⟨rfl,rfl⟩:=f;refine aA fun K d=>?_;simp only[j,k,RR,seval];apply d;refine aP ?_;simp only[aY,aK,bP,RR,seval];exact bB.run ⟨rfl,_,i.turn (by rw[bO];simp only[Mc.stp,N]) (fun b g=>cG _ _ g) rfl rfl i.u1 i.u2 i.rd,I▸C.trans (gM.turn fun b g=>cG _ _ g)⟩
    have T:s.r a<c:=by first|(have:=aE i0;omega)|omega
    rw[bF T]at f;simp only[Option.some.injEq,Prod.mk.injEq]at f;obtain⟨rfl,rfl⟩:=f;refine aL ?_;simp only[RR];refine aM ?_;simp only[j,k,e3,RR,seval];simp only[aY,aK,bP,seval];exact bB.run ⟨rfl,_,u.turn (by rw[bO];simp only[Mc.nx,N,d9]) (fun b g=>cG _ _ g) rfl rfl u.u1 u.u2 u.rd,I▸Z.trans (gM.turn fun b g=>cG _ _ g)⟩
   refine aA fun K d=>?_;simp only[J,RR,seval];refine d _ _ (aX ?_ ?_)<;>intro i1
   ·obtain rfl:=aD i1
    have f:(1,s.stp)=(e,s'):=by simpa [uG]using f
    simp only[Prod.mk.injEq]at f;obtain⟨rfl,rfl⟩:=f;have u:=i;have Z:=C;refine aM ?_;simp only[j,k,RR,seval];simp only[aY,aK,bP,seval];exact bB.run ⟨rfl,_,u.turn (by rw[bO];simp only[Mc.stp,N]) (fun b g=>cG _ _ g) rfl rfl u.u1 u.u2 u.rd,I▸Z.trans (gM.turn fun b g=>cG _ _ g)⟩
   have m1:=aE b8;have m2:=aE g9;have m3:=aE h3;have m4:=aE d0;have m5:=aE h4;have m6:=aE h5;have m7:=aE h6;have m8:=aE h7;have m9:=aE h8;have l5:=aE h9;have l6:=aE i1;have f7:4≤o∧o≤15:=by omega
   have c0:0≤c:=d5.1;have c1:c<16:=by have:=j4 f7;omega
   have j0:=fun x0 b4=>show _=some (AV.int .u32 (s.r c))from D7 x0 b4 s.r1 s.r2 c ⟨c0,by omega⟩
   have f:(if(eP o (s.r b) (s.r c)).2=0 then s.set a (eP o (s.r b) (s.r c)).1 else some (2,s.stp))=some (e,s'):=by
    unfold uG at f;rw[aO m1,aO m2,aO m3,bF f7]at f;exact f
   have e0:dQ (s.r b):=Mc.r_u i b;have i6:dQ (s.r c):=Mc.r_u i c;refine aG fun K d=>?_;refine bA (fun x=>x≠r∧x≠bc∧x≠E) [(0,3),(1,1),(2,3),(3,3),(4,1),(5,3),(6,3),(7,3),(8,3),(9,1),(10,3),(11,3),(12,1),(13,3),(14,3),(15,3),(16,3),(17,1),(18,1),(19,3),(20,3),(21,3),(22,3),(23,3)] [] eB (by kernel_rfl) rfl rfl ?_;simp only[dI,j,D,k,A,b0,b1,a4,c0,c1,j0,RR,seval];refine aI (Lu o e0 i6) ?_;simp only[RR,seval];refine d _ _ (aH (aA fun K d=>?_));simp only[RR,seval];refine d _ _ (aX ?_ ?_)<;>intro g8
   ·have T: ¬(eP o (s.r b) (s.r c)).2=0:=by simpa using g8
    rw[aO T]at f;simp only[Option.some.injEq,Prod.mk.injEq]at f;obtain⟨rfl,rfl⟩:=f;refine aA fun K d=>?_;simp only[j,k,RR,seval];apply d;refine aP ?_;simp only[aY,aK,bP,RR,seval];exact bB.run ⟨rfl,_,i.turn (by rw[bO];simp only[Mc.stp,N]) (fun b g=>cG _ _ g) rfl rfl i.u1 i.u2 i.rd,I▸C.trans (gM.turn fun b g=>cG _ _ g)⟩
   have T:(eP o (s.r b) (s.r c)).2=0:=by simpa using g8
   rw[bF T]at f;refine aL ?_;simp only[RR];refine aM ?_;simp only[j,D,A,RR,seval];refine jS (rM i (Lh o e0 i6) f (by omega)) (fun _=>trivial) fun U H2 ⟨G,l,F,O⟩=>?_;subst G;subst O;simp only[RR,seval];simp only[aY,aK,bP,seval];exact bB.run ⟨rfl,_,l,I▸C.trans F⟩
end
end Go.Proofs.YtaecpjgmcffliaaGreatDoor
