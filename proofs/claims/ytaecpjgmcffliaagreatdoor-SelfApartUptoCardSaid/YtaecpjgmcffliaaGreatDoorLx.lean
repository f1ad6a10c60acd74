/- Chapter 15, the lexer (after chapter 13): what it begins with; the signs. Chapter 15, the lexer: names, bytes, numbers. Chapter 15, the lexer: the first token. Chapter 15, the lexer: the next token. Chapter 15, the lexer, in plain Lean. Chapter 15, the lexer: the program's. Chapter 15, the lexer: the judge's. -/
import Derived.Test.YtaecpjgmcffliaaGreatDoorSy3
import Derived.Test.YtaecpjgmcffliaaGreatDoorAl4
set_option linter.unusedSimpArgs false
set_option linter.unusedVariables false
set_option maxRecDepth 10000
namespace Go.Proofs.YtaecpjgmcffliaaGreatDoor
open Go.Al
def sB (s p:List UInt8):Bool:=decide (s.take p.length=p)
theorem Ru:cM cG 149 [] (.isl 1 (gE.map fun w=>[.str w])):=by
 refine bM 2 [.tmp 0] Tryz.func149 rfl rfl rfl rfl ?_;refine aB fun K y=>?_;refine aA rfl ?_;simp only[RR,seval];apply y;clear y;refine aB fun K y=>?_;refine aA rfl ?_;simp only[RR,seval];refine cK ?_;simp only[RR,seval];apply y;clear y;refine aM ?_;simp only[aZ,aL,bJ,RR,seval];refine bB.pure ?_;rfl
end Go.Proofs.YtaecpjgmcffliaaGreatDoor
namespace Go.Proofs.YtaecpjgmcffliaaGreatDoor
open Go.Al
structure dC where
 kind:Int
 text:List UInt8
 num:Int
 pos:Int
def dC.row (t:dC):List AV:=[.int .i64 t.kind, .str t.text, .int .u32 t.num, .int .i64 t.pos]
def eV:dC:=⟨0,[],0,0⟩
def Yt (p:dC×Int):AV:= .tup [.agg p.1.row, .int .i64 p.2]
def Av (s:List UInt8):dC×Int:=if 20<s.length then(eV,2)else if dA.contains s then(⟨3,s,0,0⟩,0)else(⟨1,s,0,0⟩,0)
def xU (c d:UInt8):Bool:=decide ((d.toNat:Int)=39)&& !decide ((c.toNat:Int)<32)&& !decide (126<(c.toNat:Int))&& !decide ((c.toNat:Int)=39)&& !decide ((c.toNat:Int)=92)
def Bn (s:List UInt8):dC×Int:=
 match s with
 |_::c::d::_=>if xU c d then(⟨2,s.take 3,c.toNat,0⟩,0)else(eV,3)
 |_=>(eV,3)
def Dv:Int→List UInt8→Option Int
 |n,[]=>some n
 |n,c::cs=>if 4294967295<n *10+((c.toNat:Int)- 48)then none else Dv (n *10+((c.toNat:Int)- 48)) cs
def rA (s:List UInt8):dC×Int:=match Dv 0 s with |some n=>(⟨2,s,n,0⟩,0)|none=>(eV,2)
theorem sL {c:UInt8} (h:xQ c.toNat=true):48≤(c.toNat:Int)∧(c.toNat:Int)≤57:=by
 simpa [xQ]using h
theorem rB: ∀(s:List UInt8) (n m:Int),0≤n→n≤4294967295→s.all (fun c=>xQ c.toNat)=true→Dv n s=some m→0≤m∧m≤4294967295
 |[],n,m,h0,h1,_,h=>by simp only[Dv,Option.some.injEq]at h;omega
 |c::cs,n,m,h0,h1,hd,h=>by
  simp only[List.all_cons,bA]at hd;have hb:=sL hd.1;simp only[Dv]at h;split at h
  ·cases h
  exact rB cs _ m (by omega) (by omega) hd.2 h
end Go.Proofs.YtaecpjgmcffliaaGreatDoor
namespace Go.Proofs.YtaecpjgmcffliaaGreatDoor
open Go.Al
theorem xY (s w:List UInt8) (i:Nat) (hs:s.length≤1000000) (hw:w.length≤1000000) (hi:i≤s.length):cM cG 147 [.str s, .int .i64 i, .str w] (.bool (sB (s.drop i) w)):=by
 refine bM 25 [.tmp 6] Tryz.func147 rfl rfl rfl rfl ?_;refine aB fun K y=>?_;refine aA rfl ?_;simp only[RR,seval];apply y;clear y;refine aB fun K y=>?_;refine aA rfl ?_;simp only[RR,seval];rw[aV _ (by omega)];refine aR (fun h=>?_) (fun h=>?_)
 ·have h':(i:Int)+w.length≤s.length:=aD h
  have e1:((i:Int)+w.length).toNat=i+w.length:=by omega
  have e2:(0:Int)≤(i:Int)+w.length:=by omega
  have e3:(i:Int)≤((i+w.length:Nat):Int):=by omega
  simp only[h',RR,seval]
  repeat' ((first|refine aO (fun h=>?_) (fun h=>?_)|refine aR (fun h=>?_) (fun h=>?_))<;>simp only[h,e1,e2,h',e3,RR,seval])
  rw[aV _ (by omega)];simp only[h',e1,e2,e3,RR,seval];apply y;clear y;refine aM ?_;simp only[aZ,aL,bJ,RR,seval];refine bB.pure ?_;rw[sB,Nat.add_sub_cancel_left]
 simp only[h,RR,seval];apply y;clear y;refine aM ?_;simp only[aZ,aL,bJ,RR,seval];refine bB.pure ?_;have h': ¬(i:Int)+w.length≤s.length:=aE h
 have : ¬(s.drop i).take w.length=w:=fun e=>by
  have:=congrArg List.length e;rw[dR,List.length_drop]at this;omega
 simp [sB,this]
def tG:Int→Bool→List UInt8→Int×Bool
 |n,g,[]=>(n,g)
 |n,g,c::cs=>if 4294967295<n *10+((c.toNat:Int)- 48)then tG 0 true cs else tG (n *10+((c.toNat:Int)- 48)) g cs
theorem wU: ∀(s:List UInt8) (n:Int),(tG n true s).2=true
 |[],_=>rfl
 |c::cs,n=>by simp only[tG];split<;>exact wU cs _
theorem tD: ∀(s:List UInt8) (n:Int),match Dv n s with |some m=>tG n false s=(m,false)|none=>(tG n false s).2=true
 |[],n=>rfl
 |c::cs,n=>by
  simp only[Dv,tG];split
  ·rename_i m h
   split at h
   ·cases h
   rename_i h2;have:=tD cs (n *10+((c.toNat:Int)- 48));rw[h]at this;rw[if_neg h2];exact this
  rename_i h;split at h
  ·rename_i h2;rw[if_pos h2];exact wU _ _
  rename_i h2;have:=tD cs (n *10+((c.toNat:Int)- 48));rw[h]at this;rw[if_neg h2];exact this
def zD (c:UInt8):Bool:=xQ c.toNat
theorem Lt (s:List UInt8) (i0:Nat) (hs:s.length≤1000000) (hi0:i0≤s.length):cM cG 148 [.str s, .int .i64 i0]
  (.tup [.int .u64 (tG 0 false ((s.drop i0).takeWhile zD)).1, .int .i64 ((i0+((s.drop i0).takeWhile zD).length:Nat)), .bool (tG 0 false ((s.drop i0).takeWhile zD)).2]):=by
 refine bM 34 [.tmp 4, .tmp 5, .tmp 6] Tryz.func148 rfl rfl rfl rfl ?_;refine aB fun K y=>?_;refine aA rfl ?_;simp only[RR,seval];apply y;clear y;refine aB fun K y=>?_;refine aA rfl ?_;simp only[RR,seval];apply y;clear y;refine bT (fun fr H=> ∃(i:Nat) (n:Int) (g:Bool),fr 7= .int .u64 n∧fr 1= .int .i64 i∧fr 8= .bool g∧tG 0 false ((s.drop i0).takeWhile zD)=(n,g)∧i0+((s.drop i0).takeWhile zD).length=i) (fun K y=>?_) ?_
 ·refine aN ?_
  refine cJ (fun k fr H=> ∃(i:Nat) (n:Int) (g:Bool),k=s.length-i∧i≤s.length∧0≤n∧n≤4294967295∧fr 0= .str s∧fr 7= .int .u64 n∧fr 1= .int .i64 i∧fr 8= .bool g∧tG 0 false ((s.drop i0).takeWhile zD)=tG n g ((s.drop i).takeWhile zD)∧i0+((s.drop i0).takeWhile zD).length=i+((s.drop i).takeWhile zD).length) (s.length-i0) ⟨i0,0,false,rfl,hi0,by omega,by omega,rfl,rfl,rfl,rfl,rfl,rfl⟩ ?_;rintro k fr H ⟨i,n,g,rfl,hi,hn0,hn1,h0,h7,h1,h8,hnum,hlen⟩ K2 hK2;refine aJ ?_;refine bT (fun fr' H'=> ∃b,fr' 18= .bool b∧fr' 0= .str s∧fr' 1= .int .i64 i∧fr' 7= .int .u64 n∧fr' 8= .bool g∧(b=true→ ∃c,s[i]?=some c∧zD c=true)∧(b=false→ ∀c,s[i]?=some c→zD c=false)) (fun K y=>?_) ?_
  ·refine aA rfl ?_;simp only[RR,seval]
   simp only[h0,h1,RR,seval];refine aR (fun h=>?_) (fun h=>?_)
   ·have h2:(i:Int)<s.length:=aD h
    have hl:i<s.length:=by omega
    have hg:s[i]?=some s[i]:=aG hl;simp only[h,h0,h1,hg,RR,seval];refine aP (nD _) ?_;simp only[RR,seval];refine y _ _ ⟨_,rfl,h0,h1,h7,h8, ?_, ?_⟩
    ·intro e;exact⟨_,hg,e⟩
    intro e c hc;rw[hg]at hc;cases hc;exact e
   simp only[h,RR,seval];refine y _ _ ⟨_,rfl,h0,h1,h7,h8, ?_, ?_⟩
   ·intro e;cases e
   intro _ c hc;have h2: ¬(i:Int)<s.length:=aE h;rw[List.getElem?_eq_none (by omega)]at hc;cases hc
  rintro fr H ⟨b,h18,h0,h1,h7,h8,ht,hf⟩;refine aH _ h18 (fun hc=>?_) (fun hc=>?_)
  ·refine aK ?_;simp only[aU]
   obtain⟨c,hg,hd⟩:=ht hc;obtain⟨hl,hce⟩:=bV.1 hg;have hbd:=sL hd;have hdrop:s.drop i=c::s.drop (i+1):=by rw[bD hl,hce]
   rw[hdrop]at hnum hlen;simp only[List.takeWhile,hd,tG,aQ]at hnum hlen;refine aN ?_;refine aB fun K y=>?_;refine aA rfl ?_;simp only[RR,seval];simp only[h0,h1,h7,hg,RR,seval];rw[IntWalk.u64_in (n *10) (by omega),IntWalk.u8_in _ (by omega),IntWalk.u64_in ((c.toNat:Int)- 48) (by omega),IntWalk.u64_in _ (by omega)];apply y;clear y;refine aJ ?_;refine aB fun K y=>?_;refine aA rfl ?_;simp only[RR,seval];apply y;clear y;refine aH _ rfl (fun hc=>?_) (fun hc=>?_)
   ·have h:4294967295<n *10+((c.toNat:Int)- 48):=aD hc
    rw[if_pos h]at hnum;refine aB fun K y=>?_;refine aA rfl ?_;simp only[RR,seval];apply y;clear y;refine aA rfl ?_;simp only[RR,seval];refine aA rfl ?_;simp only[RR,seval];simp only[h1,RR,seval];rw[aV _ (by omega)];exact hK2 (s.length-(i+1)) _ _ (by omega) ⟨i+1,0,true,rfl,by omega,by omega,by omega,h0,rfl,rfl,rfl,hnum,by omega⟩
   have h: ¬4294967295<n *10+((c.toNat:Int)- 48):=aE hc;rw[if_neg h]at hnum;refine aK ?_;simp only[aU];refine aA rfl ?_;simp only[RR,seval];simp only[h1,RR,seval];rw[aV _ (by omega)];exact hK2 (s.length-(i+1)) _ _ (by omega) ⟨i+1,_,g,rfl,by omega,by omega,by omega,h0,rfl,rfl,h8,hnum,by omega⟩
  refine bI ?_;simp only[aU,aW,reduceIte]
  have hnil:(s.drop i).takeWhile zD=[]:=by
   cases hd:s.drop i with
   |nil=>rfl
   |cons c r=>
    have :s[i]?=some c:=by
     have:=List.getElem?_drop (xs:=s) (i:=i) (j:=0);rw[hd]at this;simpa using this.symm
    simp only[List.takeWhile,hf hc c this]
  rw[hnil]at hnum hlen;exact y _ _ ⟨i,n,g,h7,h1,h8,hnum,hlen⟩
 rintro fr H ⟨i,n,g,h7,h1,h8,hnum,hlen⟩;refine aB fun K y=>?_;refine aA rfl ?_;simp only[RR,seval];simp only[h1,h7,h8,seval];apply y;clear y;refine aM ?_;simp only[aZ,aL,bJ,RR,seval];refine bB.pure ?_;rw[hnum,hlen]
def eA (s:List UInt8):dC×Int:=
 match s with
 |[]=>(eV,3)
 |c::r=>if xQ c.toNat then rA ((c::r).takeWhile zD)else if decide ((c.toNat:Int)=39)then Bn (c::r)else if oD c.toNat then Av ((c::r).takeWhile oL)else
  match gE.find? (sB (c::r))with
  |some w=>(⟨4,w,0,0⟩,0)
  |none=>(eV,3)
theorem lT (p:UInt8→Bool): ∀s:List UInt8,(s.takeWhile p).all p=true
 |[]=>rfl
 |c::s=>by
  simp only[List.takeWhile];cases h:p c
  ·rfl
  simp [h,lT p s]
theorem fM (p:UInt8→Bool): ∀s:List UInt8,(s.takeWhile p).length≤s.length
 |[]=>by simp
 |c::s=>by
  simp only[List.takeWhile];have:=fM p s;cases h:p c<;>simp<;>omega
theorem Q0 {α:Type} (p:α→Bool) (l:List α) (i:Nat) (hl:i<l.length) (hn:(l.take i).find? p=none) (h:p l[i]=true):l.find? p=some l[i]:=by
 rw[show l.find? p=(l.take i++l.drop i).find? p by rw[List.take_append_drop],List.find?_append,hn,bD hl];simp [List.find?,h]
end Go.Proofs.YtaecpjgmcffliaaGreatDoor
namespace Go.Proofs.YtaecpjgmcffliaaGreatDoor
open Go.Al
def oS (s:List UInt8) (i:Nat):dC×Int:=if(eA (s.drop i)).2=0 then({(eA (s.drop i)).1 with pos:=i},0)else(eV,(eA (s.drop i)).2)
theorem nO (x:UInt8) (r:List UInt8):Bn (x::r)=match r[0]?,r[1]? with |some c,some d=>if xU c d then(⟨2,(x::r).take 3,c.toNat,0⟩,0)else(eV,3)|_,_=>(eV,3):=by
 match r with
 |[]=>rfl
 |[_]=>rfl
 |c::d::r=>rfl
theorem kM (p:UInt8→Bool): ∀s:List UInt8,s.take (s.takeWhile p).length=s.takeWhile p
 |[]=>rfl
 |c::s=>by
  simp only[List.takeWhile];cases h:p c<;>simp [kM p s]
theorem Ur (c d:UInt8):xU c d=(decide ((d.toNat:Int)=39)&&decide (32≤(c.toNat:Int))&&decide ((c.toNat:Int)≤126)&& !decide ((c.toNat:Int)=39)&& !decide ((c.toNat:Int)=92)):=by
 have h1:(!decide ((c.toNat:Int)<32))=decide (32≤(c.toNat:Int)):=by rw[Bool.eq_iff_iff];simp
 have h2:(!decide (126<(c.toNat:Int)))=decide ((c.toNat:Int)≤126):=by rw[Bool.eq_iff_iff];simp
 rw[xU,h1,h2]
theorem A3 (s:List UInt8) (i:Nat) (hs:s.length≤1000000) (hi:i<s.length):cM cG 98 [.str s, .int .i64 i] (Yt (oS s i)):=by
 refine bM 161 [.cell 4 159, .tmp 5] Tryz.func98 rfl rfl rfl rfl ?_;have hg:s[i]?=some s[i]:=aG hi;have hdrop:s.drop i=s[i]::s.drop (i+1):=bD hi;have hlen:(s.drop i).length=s.length-i:=List.length_drop;generalize hc:s[i]=c at hg hdrop;refine aB fun K y=>?_;refine aA rfl ?_;simp only[RR,seval];refine aT fun b hb=>?_;simp only[RR,seval];apply y;clear y;refine aB fun K y=>?_;refine aA rfl ?_;simp only[RR,seval];simp only[hg,RR,seval];apply y;clear y;refine bT (fun fr H=>xQ c.toNat=false∧ ∃b,fr 0= .str s∧fr 1= .int .i64 i∧fr 4= .ptr 4 b 0 0∧H b=some (.rows 4 [eV.row])∧fr 6= .int .u8 c.toNat) (fun K y=>?_) ?_
 ·refine aB fun K y=>?_;refine aA rfl ?_;simp only[RR,seval]
  refine aP (nD _) ?_;simp only[RR,seval];apply y;clear y;refine aH _ rfl (fun hd=>?_) (fun hd=>?_)
  ·have hf:eA (s.drop i)=rA ((s.drop i).takeWhile zD):=by
    rw[hdrop];simp only[eA,hd,if_true]
   have hsp:=tD ((s.drop i).takeWhile zD) 0;have htl:=fM zD (s.drop i);refine aB fun K y=>?_;refine aA rfl ?_;simp only[RR,seval];refine aP (Lt s i hs (by omega)) ?_;simp only[RR,seval];apply y;clear y;refine aJ ?_;refine aB fun K y=>?_;refine aA rfl ?_;simp only[RR,seval];apply y;clear y;refine aH _ rfl (fun hgr=>?_) (fun hgr=>?_)
   ·refine aB fun K y=>?_;refine aA rfl ?_;simp only[RR,seval]
    apply y;clear y;refine aM ?_;simp only[aU,aZ,aL,bJ,RR,seval];refine bB.pure ?_
    cases hn:Dv 0 ((s.drop i).takeWhile zD)with
    |some m=>rw[hn]at hsp;simp only at hsp;rw[hsp]at hgr;cases hgr
    |none=>simp [oS,hf,rA,hn,Yt,eV,dC.row]
   refine aK ?_;simp only[aU];have h1:(i:Int)≤((i+((s.drop i).takeWhile zD).length:Nat):Int):=by omega
   have h2:(((i+((s.drop i).takeWhile zD).length:Nat)):Int)≤s.length:=by omega
   refine aB fun K y=>?_;refine aA rfl ?_;simp only[RR,seval];simp only[h1,h2,RR,seval];apply y;clear y;refine aM ?_;simp only[aU,aZ,aL,bJ,RR,seval];refine bB.pure ?_
   cases hn:Dv 0 ((s.drop i).takeWhile zD)with
   |none=>rw[hn]at hsp;simp only at hsp;rw[hsp]at hgr;cases hgr
   |some m=>
    rw[hn]at hsp;simp only at hsp;have hbd:=rB _ 0 m (by omega) (by omega) (lT zD _) hn;rw[hsp,IntWalk.u32_in _ (by simp only;omega),Nat.add_sub_cancel_left];simp only[oS,hf,rA,hn,Yt,dC.row,if_true,kM]
  refine aK ?_;simp only[aU];exact y _ _ ⟨hd,b,rfl,rfl,rfl,aS _ _ _,rfl⟩
 rintro fr H ⟨hd,b,h0,h1,h4,hb,h6⟩;refine bT (fun fr H=>decide ((c.toNat:Int)=39)=false∧fr 0= .str s∧fr 1= .int .i64 i∧fr 4= .ptr 4 b 0 0∧H b=some (.rows 4 [eV.row])∧fr 6= .int .u8 c.toNat) (fun K y=>?_) ?_
 ·refine aB fun K y=>?_;refine aA rfl ?_;simp only[RR,seval]
  simp only[h6,RR,seval];apply y;clear y;refine aH _ rfl (fun hq=>?_) (fun hq=>?_)
  ·have hf:eA (s.drop i)=Bn (s.drop i):=by
    rw[hdrop];simp only[eA,hd,hq,if_true,if_false,Bool.false_eq_true]
   have hby:Bn (s.drop i)=match s[i+1]?,s[i+2]? with |some c,some d=>if xU c d then(⟨2,(s.drop i).take 3,c.toNat,0⟩,0)else(eV,3)|_,_=>(eV,3):=by
    rw[hdrop,nO];simp only[List.getElem?_drop]
   refine aJ ?_;refine bT (fun fr H=> ∃t,fr 76= .bool t∧fr 0= .str s∧fr 1= .int .i64 i∧fr 4= .ptr 4 b 0 0∧H b=some (.rows 4 [eV.row])∧(t=false→Bn (s.drop i)=(eV,3))∧(t=true→ ∃e:UInt8,s[i+1]?=some e∧i+2<s.length∧Bn (s.drop i)=(⟨2,(s.drop i).take 3,e.toNat,0⟩,0))) (fun K y=>?_) ?_
   ·refine aA rfl ?_;simp only[RR,seval]
    simp only[h0,h1,RR,seval];rw[aV _ (by omega)];by_cases hl:i+2<s.length
    ·have h:decide ((i:Int)+2<s.length)=true:=bQ (by omega)
     have e1:(0:Int)≤(i:Int)+1:=by omega
     have e2:(0:Int)≤(i:Int)+2:=by omega
     have e3:((i:Int)+1).toNat=i+1:=by omega
     have e4:((i:Int)+2).toNat=i+2:=by omega
     have g1:s[i+1]?=some s[i+1]:=aG (by omega);have g2:s[i+2]?=some s[i+2]:=aG (by omega);have w1:IntKind.wrap .i64 ((i:Int)+1)=(i:Int)+1:=aV _ (by omega);have w2:IntKind.wrap .i64 ((i:Int)+2)=(i:Int)+2:=aV _ (by omega);generalize s[i+1]=e at g1;generalize s[i+2]=d at g2
     rw[g1,g2]at hby
     simp only[Ur]at hby
     simp only[h,h0,h1,w2,e2,e4,g2,RR,seval]
     repeat' ((first|refine aO (fun h=>?_) (fun h=>?_)|refine aR (fun h=>?_) (fun h=>?_))<;>simp only[h,h0,h1,w1,e1,e3,g1,RR,seval])
     all_goals
      refine y _ _ ⟨_,rfl,h0,h1,h4,hb, ?_, ?_⟩<;>clear y
      ·intro g;first|(simp only[]at g;done)|(rw[hby];simp_all<;>(intros;omega))
      intro g;first|(simp only[Bool.false_eq_true]at g;done)|exact⟨e,g1,hl,by rw[hby];simp_all⟩
    have h:decide ((i:Int)+2<s.length)=false:=aX (by omega);have g2:s[i+2]?=none:=List.getElem?_eq_none (by omega);simp only[h,RR,seval];refine y _ _ ⟨_,rfl,h0,h1,h4,hb,fun _=>?_,fun e=>by cases e⟩;rw[hby,g2];cases s[i+1]?<;>rfl
   rintro fr H ⟨t,h76,h0,h1,h4,hb,ht,htt⟩;refine aH _ h76 (fun hc=>?_) (fun hc=>?_)
   ·obtain⟨e,g1,hl,hby2⟩:=htt hc
    have e1:(0:Int)≤(i:Int)+1:=by omega
    have e2:(0:Int)≤(i:Int)+3:=by omega
    have e3:((i:Int)+1).toNat=i+1:=by omega
    have e4:((i:Int)+3).toNat=i+3:=by omega
    have e5:(i:Int)+3≤s.length:=by omega
    have e6:(i:Int)≤((i+3:Nat):Int):=by omega
    have w1:IntKind.wrap .i64 ((i:Int)+1)=(i:Int)+1:=aV _ (by omega);have w3:IntKind.wrap .i64 ((i:Int)+3)=(i:Int)+3:=aV _ (by omega);have w4:IntKind.wrap .u32 (e.toNat:Int)=e.toNat:=IntWalk.u32_in _ (by have:=e.toNat_lt;omega);refine aB fun K y=>?_;refine dE (fun _=>True) [(0,true),(1,true),(2,true),(3,true),(4,true),(5,true),(6,true),(7,true),(8,true),(9,true),(10,true),(11,true),(12,true),(13,true)] cX (by kernel_rfl) rfl ?_;simp only[mR,h0,h1,h4,hb,w1,w3,w4,e1,e2,e3,e4,e5,e6,g1,dC.row,eV,RR,seval];apply y;clear y;refine aM ?_;simp only[aU,aZ,aL,bJ,h4,RR,seval];refine bB.pure ?_;simp only[oS,hf,hby2,if_true,Yt,dC.row];rw[Nat.add_sub_cancel_left]
   refine aK ?_;simp only[aU];refine aB fun K y=>?_;refine aA rfl ?_;simp only[RR,seval];simp only[h4,hb,dC.row,eV,RR,seval];apply y;clear y;refine aM ?_;simp only[aU,aZ,aL,bJ,h4,RR,seval];refine bB.pure ?_;simp only[oS,hf,ht hc];rfl
  refine aK ?_;simp only[aU];exact y _ _ ⟨hq,h0,h1,h4,hb,h6⟩
 rintro fr H ⟨hq,h0,h1,h4,hb,h6⟩;refine bT (fun fr H=>oD c.toNat=false∧fr 0= .str s∧fr 1= .int .i64 i∧fr 4= .ptr 4 b 0 0∧H b=some (.rows 4 [eV.row])) (fun K y=>?_) ?_
 ·refine aB fun K y=>?_;refine aA rfl ?_;simp only[RR,seval]
  simp only[h6,seval];refine aP (nE _) ?_;simp only[RR,seval];apply y;clear y;refine aH _ rfl (fun ha=>?_) (fun ha=>?_)
  ·have hf:eA (s.drop i)=Av ((s.drop i).takeWhile oL):=by
    rw[hdrop];simp only[eA,hd,hq,ha,if_true,if_false,Bool.false_eq_true]
   have htl:=fM oL (s.drop i);have htk:=kM oL (s.drop i);refine aB fun K y=>?_;refine aA rfl ?_;simp only[RR,seval];simp only[h1,seval];apply y;clear y;refine bT (fun fr H=>fr 0= .str s∧fr 1= .int .i64 i∧fr 4= .ptr 4 b 0 0∧H b=some (.rows 4 [eV.row])∧fr 10= .int .i64 ((i+((s.drop i).takeWhile oL).length:Nat))) (fun K y=>?_) ?_
   ·refine aN ?_
    refine cJ (fun k fr H=> ∃j:Nat,k=s.length-j∧j≤s.length∧fr 0= .str s∧fr 1= .int .i64 i∧fr 4= .ptr 4 b 0 0∧H b=some (.rows 4 [eV.row])∧fr 10= .int .i64 j∧i+((s.drop i).takeWhile oL).length=j+((s.drop j).takeWhile oL).length) (s.length-i) ⟨i,rfl,by omega,h0,h1,h4,hb,rfl,rfl⟩ ?_;rintro k fr H ⟨j,rfl,hj,h0,h1,h4,hb,h10,hjl⟩ K2 hK2;refine aJ ?_;refine bT (fun fr' H'=> ∃t,fr' 114= .bool t∧fr' 0= .str s∧fr' 1= .int .i64 i∧fr' 4= .ptr 4 b 0 0∧H' b=some (.rows 4 [eV.row])∧fr' 10= .int .i64 j∧(t=true→ ∃c,s[j]?=some c∧oL c=true)∧(t=false→ ∀c,s[j]?=some c→oL c=false)) (fun K y=>?_) ?_
    ·refine aA rfl ?_;simp only[RR,seval]
     simp only[h0,h10,RR,seval];refine aR (fun h=>?_) (fun h=>?_)
     ·have h2:(j:Int)<s.length:=aD h
      have hl:j<s.length:=by omega
      have hg:s[j]?=some s[j]:=aG hl;generalize s[j]=e at hg;simp only[h,h0,h10,hg,RR,seval];refine aP (nE _) ?_;simp only[RR,seval];refine aO (fun ha=>?_) (fun ha=>?_)<;>simp only[ha,h0,h10,hg,RR,seval]
      ·refine aP (nD _) ?_
       simp only[RR,seval]
       repeat' ((first|refine aO (fun h=>?_) (fun h=>?_)|refine aR (fun h=>?_) (fun h=>?_))<;>simp only[h,h0,h10,hg,RR,seval])
       all_goals
        refine y _ _ ⟨_,rfl,h0,h1,h4,hb,h10, ?_, ?_⟩
        ·intro g;refine⟨e,hg, ?_⟩;simp [oL,C9, *]
        intro g c' hc';rw[hg]at hc';cases hc';simp [oL,C9, *]at g⊢
      refine y _ _ ⟨_,rfl,h0,h1,h4,hb,h10, ?_, ?_⟩
      ·intro g;refine⟨e,hg, ?_⟩;simp [oL,C9,ha]
      intro g;cases g
     simp only[h,RR,seval];refine y _ _ ⟨_,rfl,h0,h1,h4,hb,h10, ?_, ?_⟩
     ·intro g;cases g
     intro _ c hc;have h2: ¬(j:Int)<s.length:=aE h;rw[List.getElem?_eq_none (by omega)]at hc;cases hc
    rintro fr H ⟨t,h114,h0,h1,h4,hb,h10,ht,hff⟩;refine aH _ h114 (fun hc=>?_) (fun hc=>?_)
    ·refine aK ?_;simp only[aU]
     obtain⟨e,hg,he⟩:=ht hc;obtain⟨hl,hce⟩:=bV.1 hg;have hdj:s.drop j=e::s.drop (j+1):=by rw[bD hl,hce]
     rw[hdj]at hjl;simp only[List.takeWhile,he,aQ]at hjl;refine aN ?_;refine aA rfl ?_;simp only[RR,seval];simp only[h10,RR,seval];rw[aV _ (by omega)];exact hK2 (s.length-(j+1)) _ _ (by omega) ⟨j+1,rfl,by omega,h0,h1,h4,hb,rfl,by omega⟩
    refine bI ?_;simp only[aU,aW,reduceIte]
    have hnil:(s.drop j).takeWhile oL=[]:=by
     cases hdj:s.drop j with
     |nil=>rfl
     |cons e r=>
      have :s[j]?=some e:=by
       have:=List.getElem?_drop (xs:=s) (i:=j) (j:=0);rw[hdj]at this;simpa using this.symm
      simp only[List.takeWhile,hff hc e this]
    rw[hnil]at hjl;exact y _ _ ⟨h0,h1,h4,hb,by rw[h10,hjl];rfl⟩
   rintro fr H ⟨h0,h1,h4,hb,h10⟩;have hnm:Av ((s.drop i).takeWhile oL)=if 20<((s.drop i).takeWhile oL).length then(eV,2)else if dA.contains ((s.drop i).takeWhile oL)then(⟨3,(s.drop i).takeWhile oL,0,0⟩,0)else(⟨1,(s.drop i).takeWhile oL,0,0⟩,0):=rfl
   generalize htw:(s.drop i).takeWhile oL=tw at *;have e1:(i:Int)≤((i+tw.length:Nat):Int):=by omega
   have e2:((i+tw.length:Nat):Int)≤s.length:=by omega
   refine aJ ?_;refine aB fun K y=>?_;refine aA rfl ?_;simp only[RR,seval];simp only[h1,h10,RR,seval];rw[aV _ (by omega)];apply y;clear y;refine aH _ rfl (fun hc=>?_) (fun hc=>?_)
   ·have h:20<tw.length:=by have:=aD hc;omega
    refine aB fun K y=>?_;refine aA rfl ?_;simp only[RR,seval];simp only[h4,hb,dC.row,eV,RR,seval];apply y;clear y;refine aM ?_;simp only[aU,aZ,aL,bJ,h4,RR,seval];refine bB.pure ?_;simp only[oS,hf,hnm,h,if_true];rfl
   have h: ¬20<tw.length:=by have:=aE hc;omega
   refine aK ?_;simp only[aU];refine aJ ?_;refine aB fun K y=>?_;refine dE (fun _=>True) [(1,false),(2,false),(3,false),(4,false),(0,true),(5,true)] cX (by kernel_rfl) rfl ?_;simp only[mR,dG,h0,h1,h10,e1,e2,RR,seval];refine aP Aa ?_;simp only[RR,seval];refine aP (C7 dA _ (by decide)) ?_;simp only[Nat.add_sub_cancel_left,htk,RR,seval];apply y;clear y;refine aH _ rfl (fun hw=>?_) (fun hw=>?_)
   ·refine aB fun K y=>?_;refine aA rfl ?_;simp only[RR,seval]
    simp only[h0,h1,h4,h10,hb,e1,e2,Nat.add_sub_cancel_left,htk,dC.row,eV,RR,seval];apply y;clear y;refine aM ?_;simp only[aU,aZ,aL,bJ,h4,RR,seval];refine bB.pure ?_;simp only[oS,hf,hnm,h,hw,if_true,if_false];rfl
   refine aK ?_;simp only[aU];refine aB fun K y=>?_;refine aA rfl ?_;simp only[RR,seval];simp only[h0,h1,h4,h10,hb,e1,e2,Nat.add_sub_cancel_left,htk,dC.row,eV,RR,seval];apply y;clear y;refine aM ?_;simp only[aU,aZ,aL,bJ,h4,RR,seval];refine bB.pure ?_;simp only[oS,hf,hnm,h,hw,if_true,if_false,Bool.false_eq_true];rfl
  refine aK ?_;simp only[aU];exact y _ _ ⟨ha,h0,h1,h4,hb⟩
 rintro fr H ⟨ha,h0,h1,h4,hb⟩
 have hfirst:eA (s.drop i)=match gE.find? (sB (s.drop i))with |some w=>(⟨4,w,0,0⟩,0)|none=>(eV,3):=by
  rw[hdrop];simp only[eA,hd,hq,ha,if_false,Bool.false_eq_true]
  all_goals rfl
 refine aB fun K y=>?_;refine aA rfl ?_;simp only[RR,seval];refine aP Ru ?_;simp only[RR,seval];apply y;clear y;refine bT (fun fr H=>gE.find? (sB (s.drop i))=none∧fr 4= .ptr 4 b 0 0∧H b=some (.rows 4 [eV.row])) (fun K y=>?_) ?_
 ·refine aB fun K y=>?_;refine aA rfl ?_;simp only[RR,seval]
  apply y;clear y;refine aN ?_;refine cJ (fun n fr H=> ∃j:Nat,n=24 -j∧j≤24∧(gE.take j).find? (sB (s.drop i))=none∧fr 0= .str s∧fr 1= .int .i64 i∧fr 4= .ptr 4 b 0 0∧H b=some (.rows 4 [eV.row])∧fr 11= .isl 1 (gE.map fun w=>[.str w])∧fr 12= .int .i64 j) 24 ⟨0,rfl,by omega,rfl,h0,h1,h4,hb,rfl,rfl⟩ ?_;rintro n fr H ⟨j,rfl,hj,hnone,h0,h1,h4,hb,h11,h12⟩ K2 hK2;refine aJ ?_;refine aB fun K y=>?_;refine aA rfl ?_;simp only[RR,seval];simp only[h11,h12,aC,RR,seval];apply y;clear y;refine aH _ rfl (fun hc=>?_) (fun hc=>?_)
  ·refine aK ?_;simp only[aU]
   have hi2:(j:Int)<gE.length:=aD hc;have hl:j<gE.length:=by omega
   have hl24:gE.length=24:=rfl;have hgs:(gE.map fun w=>[AV.str w])[j]?=some [.str gE[j]]:=by rw[cE,aG hl];rfl
   have hlw:gE[j].length≤1000000:=by
    have : ∀w∈gE,w.length≤2:=by decide
    have:=this _ (bE hl);omega
   refine aJ ?_;refine aN ?_;refine aB fun K y=>?_;refine aA rfl ?_;simp only[RR,seval];simp only[h0,h1,h11,h12,hgs,RR,seval];refine aP (xY s gE[j] i hs hlw (by omega)) ?_;simp only[RR,seval];apply y;clear y;refine aH _ rfl (fun hc=>?_) (fun hc=>?_)
   ·refine aB fun K y=>?_;refine aA rfl ?_;simp only[RR,seval]
    simp only[h1,h4,h11,h12,hgs,hb,dC.row,eV,RR,seval];apply y;clear y;refine aM ?_;simp only[aU,aW,aZ,aL,bJ,h4,RR,seval];refine bB.pure ?_;have hf:gE.find? (sB (s.drop i))=some gE[j]:=Q0 _ _ _ hl hnone hc;simp only[oS,hfirst,hf,if_true];rfl
   refine aK ?_;simp only[aU,aW];refine aA rfl ?_;simp only[RR,seval];simp only[h12,RR,seval];rw[aV _ (by omega)];refine hK2 (24 -(j+1)) _ _ (by omega) ⟨j+1,rfl,by omega, ?_,h0,h1,h4,hb,h11,rfl⟩;rw[bL hl,List.find?_append,hnone];simp [List.find?,hc]
  refine bI ?_;simp only[aU,aW,reduceIte];have hi2: ¬(j:Int)<gE.length:=aE hc;have hl24:gE.length=24:=rfl;have :j=24:=by omega
  subst this;exact y _ _ ⟨hnone,h4,hb⟩
 rintro fr H ⟨hnone,h4,hb⟩;refine aB fun K y=>?_;refine aA rfl ?_;simp only[RR,seval];simp only[h4,hb,dC.row,eV,RR,seval];apply y;clear y;refine aM ?_;simp only[aZ,aL,bJ,h4,RR,seval];refine bB.pure ?_;simp only[oS,hfirst,hnone];rfl
end Go.Proofs.YtaecpjgmcffliaaGreatDoor
namespace Go.Proofs.YtaecpjgmcffliaaGreatDoor
open Go.Al
def W9 (c:Int):Bool:=decide (c=32)||decide (c=9)||decide (c=10)
def lK (c:UInt8):Bool:= !decide ((c.toNat:Int)=10)
def iP:List UInt8→Nat→Nat→Except (Nat×Int) (List dC)
 |[],_,_=> .ok []
 |_::r,k+1,i=>iP r k (i+1)
 |c::r,0,i=>
  if W9 c.toNat then iP r 0 (i+1)
  else if sB (c::r) [47,47]then iP r (((c::r).takeWhile lK).length- 1) (i+1)
  else if(eA (c::r)).2=0 then(iP r ((eA (c::r)).1.text.length - 1) (i+1)).map ({(eA (c::r)).1 with pos:=i}:: ·)
  else .error (i,(eA (c::r)).2)
theorem tL: ∀(s:List UInt8) (k i:Nat),iP s k i=iP (s.drop k) 0 (i+k)
 |[],k,i=>by cases k<;>simp [iP]
 |c::r,0,i=>by simp
 |c::r,k+1,i=>by
  simp only[iP,List.drop_succ_cons];rw[tL r k (i+1)];congr 1;omega
def BB:Except (Nat×Int) (List dC)→AV
 | .ok l=> .tup [BL 4 (l.map dC.row), .int .i64 0, .int .i64 0]
 | .error (i,e)=> .tup [.nsl, .int .i64 i, .int .i64 e]
def tK (s:List UInt8):Except (Nat×Int) (List dC):=if 20000<s.length then .error (0,2)else iP s 0 0
def qC (l:List dC) (x:Except (Nat×Int) (List dC)):Except (Nat×Int) (List dC):=x.map (l++ ·)
theorem N6 (x:Except (Nat×Int) (List dC)):qC [] x=x:=by cases x<;>rfl
theorem Zn (l:List dC) (t:dC) (x:Except (Nat×Int) (List dC)):qC l (x.map (t:: ·))=qC (l++[t]) x:=by cases x<;>simp [qC,Except.map]
theorem Nv {s:List UInt8} (hs:s≠[]) (h:(eA s).2=0):0<(eA s).1.text.length:=by
 cases s with
 |nil=>exact absurd rfl hs
 |cons c r=>
  simp only[eA]at *;split at h
  ·rename_i hd
   rw[if_pos hd];simp only[rA]at *;split at h
   ·rename_i n e;have :zD c=true:=hd;simp [List.takeWhile,this]
   exact absurd h (by decide)
  rename_i hd;rw[if_neg hd];split at h
  ·rename_i hq
   rw[if_pos hq];rw[nO]at *;split at h
   ·rename_i e1 e2;split at h
    ·rename_i e3;simp only[e3,if_true];simp
    exact absurd h (by decide)
   exact absurd h (by decide)
  rename_i hq;rw[if_neg hq];split at h
  ·rename_i ha
   rw[if_pos ha]
   have hlen:0<((c::r).takeWhile oL).length:=by
    have :oL c=true:=by simp [oL,C9,ha]
    simp only[List.takeWhile,this];simp
   simp only[Av]at *;split at h
   ·exact absurd h (by decide)
   rename_i h20;rw[if_neg h20];split<;>exact hlen
  rename_i ha;rw[if_neg ha];split at h
  ·rename_i w e
   have:=List.mem_of_find?_eq_some e;have h2: ∀w∈gE,0<w.length:=by decide
   exact h2 w this
  exact absurd h (by decide)
theorem Bi (s:List UInt8):(eA s).1.text.length≤s.length:=by
 cases s with
 |nil=>simp [eA,eV]
 |cons c r=>
  simp only[eA];split
  ·simp only[rA]
   split
   ·exact fM _ _
   simp [eV]
  split
  ·rw[nO]
   split
   ·split
    ·rename_i e1 e2 _
     have:=(bV.1 e2).1;simp only[dR];omega
    simp [eV]
   simp [eV]
  split
  ·simp only[Av]
   split
   ·simp [eV]
   split<;>exact fM _ _
  split
  ·rename_i w e
   have h:=List.find?_some e;have h2:(c::r).take w.length=w:=aD h;have:=congrArg List.length h2;rw[dR]at this;simp only;omega
  simp [eV]
end Go.Proofs.YtaecpjgmcffliaaGreatDoor
namespace Go.Proofs.YtaecpjgmcffliaaGreatDoor
open Go.Al
end Go.Proofs.YtaecpjgmcffliaaGreatDoor
namespace Go.Proofs.YtaecpjgmcffliaaGreatDoor
open Go.Al
def fQ:List UInt8→Nat→Nat
 |[],_=>0
 |_::r,k+1=>fQ r k+1
 |c::r,0=>if W9 c.toNat then fQ r 0+1 else if sB (c::r) [47,47]then fQ r (((c::r).takeWhile lK).length- 1)+1 else 0
theorem qY: ∀(s:List UInt8) (k:Nat),k≤s.length→fQ s k=fQ (s.drop k) 0+k
 |[],k,h=>by simp at h;subst h;rfl
 |c::r,0,_=>by simp
 |c::r,k+1,h=>by
  simp only[fQ,List.drop_succ_cons];rw[qY r k (by simpa using h)];omega
theorem uQ {c:UInt8} {r:List UInt8} (h:sB (c::r) [47,47]=true):1≤((c::r).takeWhile lK).length:=by
 have :(c::r).take 2=[47,47]:=aD h;simp only[List.take_succ_cons,List.cons.injEq]at this;have hc47:lK c=true:=by rw[this.1];rfl
 simp only[List.takeWhile,hc47];simp
theorem wQ (n:Nat): ∀(s:List UInt8) (i:Nat),s.length≤n→fQ s 0≤s.length∧iP s 0 i=iP (s.drop (fQ s 0)) 0 (i+fQ s 0)∧(∀c r,s.drop (fQ s 0)=c::r→W9 c.toNat=false∧sB (c::r) [47,47]=false):=by
 induction n with
 |zero=>
  intro s i h
  cases s with
  |nil=>exact⟨by simp [fQ],by simp [fQ],fun c r e=>by simp at e⟩
  |cons=>simp at h
 |succ n ih=>
  intro s i h
  cases s with
  |nil=>exact⟨by simp [fQ],by simp [fQ],fun c r e=>by simp at e⟩
  |cons c r=>
   simp only[aQ]at h
   cases hw:W9 c.toNat with
   |true=>
    obtain⟨h1,h2,h3⟩:=ih r (i+1) (by omega);simp only[fQ,hw,if_true,iP,aQ,List.drop_succ_cons];refine⟨by omega, ?_,h3⟩;rw[h2];congr 1;omega
   |false=>
    cases hp:sB (c::r) [47,47]with
    |true=>
     have hn:=uQ hp;have hn2:=fM lK (c::r);simp only[aQ]at hn2;simp only[fQ,hw,hp,if_true,if_false,Bool.false_eq_true,iP,aQ];rw[tL,qY _ _ (by omega)];obtain⟨h1,h2,h3⟩:=ih (r.drop (((c::r).takeWhile lK).length- 1)) (i+1+(((c::r).takeWhile lK).length- 1)) (by rw[List.length_drop];omega);rw[List.length_drop]at h1;rw[List.drop_drop]at h2 h3;refine⟨by omega, ?_, ?_⟩
     ·rw[h2,List.drop_succ_cons]
      congr 1
      ·congr 1;omega
      omega
     intro c' r' e;rw[List.drop_succ_cons]at e;refine h3 c' r' ?_;rw[←e];congr 1;omega
    |false=>
     simp only[fQ,hw,hp,if_false,Bool.false_eq_true];refine⟨by omega,by simp,fun c' r' e=>?_⟩;simp only[List.drop_zero,List.cons.injEq]at e;rw[←e.1,←e.2];exact⟨hw,hp⟩
theorem Hv (s:List UInt8) (i:Nat) (hs:s.length≤1000000) (hi:i≤s.length):cM cG 97 [.str s, .int .i64 i] (.int .i64 ((i+fQ (s.drop i) 0:Nat))):=by
 refine bM 46 [.tmp 4] Tryz.func97 rfl rfl rfl rfl ?_;refine aB fun K y=>?_;refine aA rfl ?_;simp only[RR,seval];apply y;clear y;refine bT (fun fr H=>fr 1= .int .i64 ((i+fQ (s.drop i) 0:Nat))) (fun K y=>?_) ?_
 ·refine aN ?_
  refine cJ (fun n fr H=> ∃j:Nat,n=s.length-j∧j≤s.length∧fr 0= .str s∧fr 1= .int .i64 j∧i+fQ (s.drop i) 0=j+fQ (s.drop j) 0) (s.length-i) ⟨i,rfl,hi,rfl,rfl,rfl⟩ ?_;rintro n fr H ⟨j,rfl,hj,h0,h1,hp⟩ K2 hK2;refine aJ ?_;refine aB fun K y=>?_;refine aA rfl ?_;simp only[RR,seval];simp only[h0,h1,RR,seval];apply y;clear y;refine aH _ rfl (fun hc=>?_) (fun hc=>?_)
  ·have hl:j<s.length:=by have:=aD hc;omega
   have hg:s[j]?=some s[j]:=aG hl;have hdrop:s.drop j=s[j]::s.drop (j+1):=bD hl;generalize s[j]=c at hg hdrop;refine aK ?_;simp only[aU];refine aN ?_;refine aN ?_;refine bT (fun fr H=>fr 10= .bool (W9 c.toNat)∧fr 0= .str s∧fr 1= .int .i64 j) (fun K y=>?_) ?_
   ·refine aA rfl ?_;simp only[RR,seval]
    simp only[h0,h1,hg,RR,seval]
    repeat' ((first|refine aO (fun h=>?_) (fun h=>?_)|refine aR (fun h=>?_) (fun h=>?_))<;>simp only[h,h0,h1,hg,RR,seval])
    all_goals exact y _ _ ⟨by simp [upd,W9, *],h0,h1⟩
   rintro fr H ⟨h10,h0,h1⟩;refine aH _ h10 (fun hw=>?_) (fun hw=>?_)
   ·refine aA rfl ?_;simp only[RR,seval]
    simp only[h1,aW,RR,seval];rw[aV _ (by omega)];refine hK2 (s.length-(j+1)) _ _ (by omega) ⟨j+1,rfl,by omega,h0,rfl, ?_⟩;rw[hp,hdrop];simp only[fQ,hw,if_true];omega
   refine aB fun K y=>?_;refine aA rfl ?_;simp only[RR,seval];simp only[h0,h1,seval];refine aP (xY s _ j hs (by decide) hj) ?_;simp only[RR,seval];apply y;clear y;refine aH _ rfl (fun hb=>?_) (fun hb=>?_)
   ·have hlen:=fM lK (s.drop j)
    rw[List.length_drop]at hlen;refine aN ?_;refine cJ (fun n fr H=> ∃k:Nat,n=s.length-k∧k≤s.length∧fr 0= .str s∧fr 1= .int .i64 k∧j+((s.drop j).takeWhile lK).length=k+((s.drop k).takeWhile lK).length) (s.length-j) ⟨j,rfl,hj,h0,h1,rfl⟩ ?_;rintro n fr H ⟨k,rfl,hk,h0,h1,hkl⟩ K3 hK3;refine aJ ?_;refine bT (fun fr' H'=> ∃t,fr' 42= .bool t∧fr' 0= .str s∧fr' 1= .int .i64 k∧(t=true→ ∃c,s[k]?=some c∧lK c=true)∧(t=false→ ∀c,s[k]?=some c→lK c=false)) (fun K y=>?_) ?_
    ·refine aA rfl ?_;simp only[RR,seval]
     simp only[h0,h1,RR,seval];refine aR (fun h=>?_) (fun h=>?_)
     ·have h2:(k:Int)<s.length:=aD h
      have hl:k<s.length:=by omega
      have hg:s[k]?=some s[k]:=aG hl;generalize s[k]=e at hg;simp only[h,h0,h1,hg,RR,seval]
      repeat' ((first|refine aO (fun h=>?_) (fun h=>?_)|refine aR (fun h=>?_) (fun h=>?_))<;>simp only[h,h0,h1,hg,RR,seval])
      refine y _ _ ⟨_,rfl,h0,h1, ?_, ?_⟩
      ·intro g;exact⟨e,hg,g⟩
      intro g c' hc';rw[hg]at hc';cases hc';exact g
     simp only[h,RR,seval];refine y _ _ ⟨_,rfl,h0,h1, ?_, ?_⟩
     ·intro g;cases g
     intro _ c hc;have h2: ¬(k:Int)<s.length:=aE h;rw[List.getElem?_eq_none (by omega)]at hc;cases hc
    rintro fr H ⟨t,h42,h0,h1,ht,hff⟩;refine aH _ h42 (fun hc=>?_) (fun hc=>?_)
    ·refine aK ?_;simp only[aU]
     obtain⟨e,hg,he⟩:=ht hc;obtain⟨hl,hce⟩:=bV.1 hg;have hdj:s.drop k=e::s.drop (k+1):=by rw[bD hl,hce]
     rw[hdj]at hkl;simp only[List.takeWhile,he,aQ]at hkl;refine aN ?_;refine aA rfl ?_;simp only[RR,seval];simp only[h1,RR,seval];rw[aV _ (by omega)];exact hK3 (s.length-(k+1)) _ _ (by omega) ⟨k+1,rfl,by omega,h0,rfl,by omega⟩
    refine bI ?_;simp only[aU,aW,reduceIte,Nat.reduceEqDiff]
    have hnil:(s.drop k).takeWhile lK=[]:=by
     cases hdj:s.drop k with
     |nil=>rfl
     |cons e r=>
      have :s[k]?=some e:=by
       have:=List.getElem?_drop (xs:=s) (i:=k) (j:=0);rw[hdj]at this;simpa using this.symm
      simp only[List.takeWhile,hff hc e this]
    rw[hnil]at hkl;simp only[List.length_nil,Nat.add_zero]at hkl;rw[hdrop]at hb;have hn1:=uQ hb;rw[←hdrop]at hn1;refine hK2 (s.length-k) _ _ (by omega) ⟨k,rfl,hk,h0,h1, ?_⟩;rw[hp]
    conv=>lhs;rw[hdrop]
    simp only[fQ,hw,hb,if_true,if_false,Bool.false_eq_true];rw[←hdrop,qY _ _ (by rw[List.length_drop];omega),List.drop_drop,show j+1+(((s.drop j).takeWhile lK).length- 1)=k by omega];omega
   refine aB fun K y=>?_;refine aA rfl ?_;simp only[RR,seval];simp only[h1,seval];apply y;clear y;refine aM ?_;simp only[aU,aW,aZ,aL,bJ,RR,seval];refine bB.pure ?_;rw[hp,hdrop];rw[hdrop]at hb;simp only[fQ,hw,hb,if_false,Bool.false_eq_true];simp
  refine bI ?_;simp only[aU,aW,reduceIte];have :j=s.length:=by have:=aE hc;omega
  subst this;rw[List.drop_length]at hp;refine y _ _ ?_;rw[hp];exact h1
 intro fr H h1;refine aB fun K y=>?_;refine aA rfl ?_;simp only[RR,seval];simp only[h1,seval];apply y;clear y;refine aM ?_;simp only[aZ,aL,bJ,RR,seval];refine bB.pure ?_;rfl
theorem Hr (s:List UInt8) (hs:s.length≤1000000):cM cG 64 [.str s] (BB (tK s)):=by
 refine bM 40 [.tmp 2, .tmp 3, .tmp 4] Tryz.func64 rfl rfl rfl rfl ?_;refine aB fun K y=>?_;refine aA rfl ?_;simp only[RR,seval];apply y;clear y;refine aJ ?_;refine aB fun K y=>?_;refine aA rfl ?_;simp only[RR,seval];apply y;clear y;refine aH _ rfl (fun hc=>?_) (fun hc=>?_)
 ·have h:20000<s.length:=by have:=aD hc;omega
  refine aB fun K y=>?_;refine aA rfl ?_;simp only[RR,seval];apply y;clear y;refine aM ?_;simp only[aU,aZ,aL,bJ,RR,seval];refine bB.pure ?_;simp [tK,h,BB]
 have h: ¬20000<s.length:=by have:=aE hc;omega
 have hS:tK s=iP s 0 0:=if_neg h;refine aK ?_;simp only[aU];refine aB fun K y=>?_;refine aA rfl ?_;simp only[RR,seval];apply y;clear y;have hp0:=Hv s 0 hs (by omega);obtain⟨hps1,hps2,hps3⟩:=wQ s.length s 0 (bF _);simp only[List.drop_zero,Nat.zero_add]at hp0 hps2;refine aB fun K y=>?_;refine aA rfl ?_;simp only[RR,seval];refine aP hp0 ?_;simp only[RR,seval];apply y;clear y;refine bT (fun fr H=> ∃l:List dC,iP s 0 0= .ok l∧yV 4 (fr 5) (l.map dC.row) H) (fun K y=>?_) ?_
 ·refine aN ?_
  refine cJ (fun n fr H=> ∃(a:Nat) (l:List dC),n=s.length-a∧a≤s.length∧iP s 0 0=qC l (iP (s.drop a) 0 a)∧(∀c r,s.drop a=c::r→W9 c.toNat=false∧sB (c::r) [47,47]=false)∧l.length≤a∧fr 0= .str s∧yV 4 (fr 5) (l.map dC.row) H∧fr 6= .int .i64 a) (s.length-fQ s 0) ⟨fQ s 0,[],rfl,by omega,by rw[N6];exact hps2,hps3,by simp,rfl, .inl ⟨rfl,rfl⟩,rfl⟩ ?_;rintro n fr H ⟨a,l,rfl,ha,hlex,hstop,hll,h0,h5,h6⟩ K2 hK2;refine aJ ?_;refine aB fun K y=>?_;refine aA rfl ?_;simp only[RR,seval];simp only[h0,h6,RR,seval];apply y;clear y;refine aH _ rfl (fun hc=>?_) (fun hc=>?_)
  ·have hl:a<s.length:=by have:=aD hc;omega
   have hdrop:s.drop a=s[a]::s.drop (a+1):=bD hl;generalize s[a]=c at hdrop;obtain⟨hws,hp⟩:=hstop _ _ hdrop
   have hstep:iP (s.drop a) 0 a=if(eA (s.drop a)).2=0 then(iP (s.drop (a+1)) ((eA (s.drop a)).1.text.length - 1) (a+1)).map ({(eA (s.drop a)).1 with pos:=a}:: ·)else .error (a,(eA (s.drop a)).2):=by
    rw[hdrop];simp only[iP,hws,hp,if_false,Bool.false_eq_true]
   have hfc:=A3 s a hs hl;have hflen:=Bi (s.drop a);rw[List.length_drop]at hflen;have htext:=Nv (s:=s.drop a) (by rw[hdrop];simp);simp only[oS]at hfc;refine aK ?_;simp only[aU];refine aN ?_;generalize eA (s.drop a)=p at *;obtain⟨t,e⟩:=p;simp only at hstep hflen htext hfc
   have hsplit: ∃t',(if e=0 then(({t with pos:=(a:Int)}:dC),(0:Int))else(eV,e))=(t',e)∧(e=0→t'={t with pos:=(a:Int)}):=by
    by_cases he:e=0
    ·exact⟨_,by rw[if_pos he,he],fun _=>rfl⟩
    exact⟨eV,if_neg he,fun h=>absurd h he⟩
   obtain⟨t',ht1,ht2⟩:=hsplit;rw[ht1]at hfc;simp only[Yt]at hfc;refine aB fun K y=>?_;refine aA rfl ?_;simp only[RR,seval];simp only[h0,h6,seval];refine aP hfc ?_;simp only[dC.row,RR,seval];refine aT fun b hb=>?_;simp only[RR,seval];apply y;clear y
   have hne: ∀b',fr 5= .osl 4 b' (l.map dC.row).length→b'≠b:=fun b' e e2=>by
    rcases h5 with⟨h5,_⟩|⟨_,b'',h7,h8⟩
    ·rw[h5]at e;cases e
    rw[h7]at e;cases e;rw[e2,hb]at h8;cases h8
   have hown:yV 4 (fr 5) (l.map dC.row) (upd (upd H b (some (.rows 4 [[.int .i64 0, .str [], .int .u32 0, .int .i64 0]]))) b (some (.rows 4 [t'.row]))):=by
    rcases h5 with h5|⟨h5,b',h7,h8⟩
    ·exact .inl h5
    exact .inr ⟨h5,b',h7,by simp [upd,hne b' h7,h8]⟩
   have hb2:(upd (upd H b (some (.rows 4 [[.int .i64 0, .str [], .int .u32 0, .int .i64 0]]))) b (some (.rows 4 [t'.row]))) b=some (.rows 4 [t'.row]):=aS _ _ _;simp only[dC.row]at hown hb2;generalize(upd (upd H b (some (.rows 4 [[.int .i64 0, .str [], .int .u32 0, .int .i64 0]]))) b (some (.rows 4 [[AV.int .i64 t'.kind, .str t'.text, .int .u32 t'.num, .int .i64 t'.pos]])))=H1 at hown hb2⊢;refine aJ ?_;refine aB fun K y=>?_;refine aA rfl ?_;simp only[RR,seval];apply y;clear y;refine aH _ rfl (fun hc=>?_) (fun hc=>?_)
   ·have he: ¬e=0:=by simpa using hc
    refine aB fun K y=>?_;refine aA rfl ?_;simp only[RR,seval]
    try simp only[h6,seval]
    apply y;clear y;refine aM ?_;simp only[aU,aW,aZ,aL,bJ,RR,seval];refine bB.pure ?_;rw[hS,hlex,hstep,if_neg he];rfl
   have he:e=0:=by simpa using hc
   have ht3:=ht2 he;subst ht3;refine aK ?_;simp only[aU];refine aB fun K y=>?_;refine aA rfl ?_;simp only[RR,seval];simp only[hb2,RR,seval];refine cK ?_;simp only[RR,seval];refine eZ (rows:=l.map dC.row) hown.own (by simp only[aC,aQ,List.length_nil];omega) (fun _=>trivial) fun v' H' hv' hkeep=>?_;have hb3:=hkeep b _ hb2 (fun e=>hne b e rfl);simp only[RR,seval];apply y;clear y;have htx:=htext he;have hpc:=Hv s (a+t.text.length) hs (by omega);obtain⟨hq1,hq2,hq3⟩:=wQ s.length (s.drop (a+t.text.length)) (a+t.text.length) (by rw[List.length_drop];omega);rw[List.length_drop]at hq1;rw[List.drop_drop]at hq2 hq3;refine aA rfl ?_;simp only[RR,seval];simp only[h0,h6,hb3,RR,seval];rw[aV _ (by omega)];refine aP hpc ?_;simp only[RR,seval];refine hK2 (s.length-(a+t.text.length+fQ (s.drop (a+t.text.length)) 0)) _ _ (by omega) ⟨a+t.text.length+fQ (s.drop (a+t.text.length)) 0,l++[{t with pos:=a}],rfl,by omega, ?_,hq3, ?_,h0, ?_,rfl⟩
   ·rw[hlex,hstep,if_pos he,Zn,tL,List.drop_drop,show a+1+(t.text.length- 1)=a+t.text.length by omega,hq2]
   ·simp only[aI,aQ,List.length_nil];omega
   refine cH.ne ?_ (by simp);rw[List.map_append];exact hv'
  refine bI ?_;simp only[aU,aW,reduceIte];have :a=s.length:=by have:=aE hc;omega
  subst this;rw[List.drop_length]at hlex;exact y _ _ ⟨l,by rw[hlex];simp [iP,qC,Except.map],h5⟩
 rintro fr H ⟨l,hl,h5⟩;refine aB fun K y=>?_;refine aA rfl ?_;simp only[RR,seval];apply y;clear y;refine aM ?_;simp only[aZ,aL,bJ,RR,seval];refine yV.gives h5 ?_;rw[hS,hl];rfl
end Go.Proofs.YtaecpjgmcffliaaGreatDoor
