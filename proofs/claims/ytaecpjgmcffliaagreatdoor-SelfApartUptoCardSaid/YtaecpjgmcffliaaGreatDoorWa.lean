/- Chapter 52, the program's: is a program of the small part? -/
import Derived.Test.YtaecpjgmcffliaaGreatDoorPa
import Derived.Test.YtaecpjgmcffliaaGreatDoorT2
set_option linter.unusedSimpArgs false
set_option linter.unusedVariables false
set_option maxRecDepth 10000
namespace Go.Al
theorem tB: ∀l:List Ex,l.length≤jA l
 |[]=>Nat.zero_le _
 |e::l=>by have:=tB l;have:=e.sz_eq;simp only[jA,aQ];omega
theorem tA: ∀l:List Sm,l.length≤gH l
 |[]=>Nat.zero_le _
 |e::l=>by have:=tA l;have:=e.sz_eq;simp only[gH,aQ];omega
theorem jS {α:Type} {p:α→Bool} {l:List α} {k:Nat} {e:α} (h:l[k]?=some e) (hp:p e=false):l.all p=false:=by
 rw[Bool.eq_false_iff];intro c;have:=List.all_eq_true.1 c e (fG h);rw[hp]at this;cases this
theorem gZ {α:Type} {p:α→Bool} {l:List α} {k:Nat} {e:α} (h:l[k]?=some e) (hk:(l.take k).all p=true) (hp:p e=true):(l.take (k+1)).all p=true:=by
 obtain⟨hl,rfl⟩:=bV.1 h;rw[bL hl,List.all_append,hk];simp only[List.all_cons,List.all_nil,hp,Bool.and_true]
end Go.Al
namespace Go.Proofs.YtaecpjgmcffliaaGreatDoor
open Go.Al
theorem Hu (s:cN):cM cG 33 [.str s] (.bool (oZ s)):=by
 rcases s with _|⟨c,_|⟨d,l⟩⟩
 ·skip
  refine bM 20 [.tmp 2] Tryz.func33 rfl rfl rfl rfl ?_;refine aB fun _ y=>aA rfl ?_;simp only[RR,seval];apply y;clear y;refine aB fun _ y=>aA rfl ?_;simp only[RR,seval];apply y;clear y;refine aM ?_;simp only[aZ,aL,bJ,RR,seval];refine bB.pure ?_;rfl
 ·skip
  refine bM 20 [.tmp 2] Tryz.func33 rfl rfl rfl rfl ?_;refine aB fun _ y=>aA rfl ?_;simp only[RR,seval];apply y;clear y;refine aB fun _ y=>aA rfl ?_;simp only[RR,seval]
  repeat' ((first|refine aO (fun h=>?_) (fun h=>?_)|refine aR (fun h=>?_) (fun h=>?_))<;>simp only[h,RR,seval])
  all_goals
   apply y;clear y;refine aM ?_;simp only[aZ,aL,bJ,RR,seval];refine bB.pure ?_;simp [oZ, *]
 have z:decide (((c::d::l).length:Int)=1)=false:=aX (by simp only[aQ];omega);refine bM 20 [.tmp 2] Tryz.func33 rfl rfl rfl rfl ?_;refine aB fun _ y=>aA rfl ?_;simp only[RR,seval];apply y;clear y;refine aB fun _ y=>aA rfl ?_;simp only[RR,seval];apply y;clear y;refine aM ?_;simp only[aZ,aL,bJ,RR,seval];refine bB.pure ?_;rfl
theorem Lo (n:Nat): ∀l:List Ex,jA l≤n→n≤1000000000→cM cG 60 [.isl 5 (l.map Ex.row)] (.bool (l.all (rD jJ))):=by
 induction n using Nat.strongRecOn with
 |_ n ih=>
  intro l hn hb;have hlen:=tB l
  have hkid: ∀e∈l,cM cG 60 [.isl 5 (e.kids.map Ex.row)] (.bool (e.kids.all (rD jJ))):=fun e he=>by
   have h1:=fH he;have h2:=e.sz_eq;exact ih (jA e.kids) (by omega) e.kids (bF _) (by omega)
  have hbad: ∀{k:Nat} {e:Ex},l[k]?=some e→rD jJ e=false→AV.bool false=AV.bool (l.all (rD jJ)):=fun h0 h1=>by rw[jS h0 h1]
  clear ih;refine bM 25 [.tmp 2] Tryz.func60 rfl rfl rfl rfl ?_;refine aB fun _ y=>aA rfl ?_;simp only[RR,seval];apply y;clear y;refine aJ ?_;refine aB fun _ y=>aA rfl ?_;simp only[aC,RR,seval];apply y;clear y;refine bN fun F1 M1 hfr hH=>?_;have g2:=hfr 2;have g5:=hfr 5;have g6:=hfr 6;have g7:=hfr 7
  try simp only[RR,seval]at g2 g5 g6 g7
  have f2:=g2;clear g2;have f5:=g5;clear g5;have f6:=g6;clear g6;have f7:=g7;clear g7;clear hfr hH;refine aN ?_;refine cF [5,6] (l.length) (fun k fr M=>fr 7= .int .i64 (k:Nat)∧(l.take k).all (rD jJ)=true) ⟨f7,rfl⟩ ?_;rintro k F2 M2 hk0 ⟨fx,hk⟩ agx K0 hK0;have f5:=(agx 5 rfl).trans f5;have f6:=(agx 6 rfl).trans f6;have f7:=fx;clear fx;have ag0:=aY.refl [5,6] F2;clear agx;refine aB fun _ y=>aA rfl ?_;simp only[f6,f7,RR,seval];apply y;clear y;refine aJ ?_;refine aH _ rfl (fun hc=>?_) (fun hc=>?_)
  ·have hlt0:k<l.length:=by have:=aD hc;omega
   clear hc;have hg0:=aG hlt0;have hkd:=hkid _ (bE hlt0);have hbd:=hbad hg0;have htk:=gZ hg0 hk;have hg:=nM hg0;generalize l[k]=e at *;rw[rC]at hbd htk;generalize e.kids.all (rD jJ)=a6 at *;refine aK ?_;try simp only[RR]
   refine aJ ?_;refine aN ?_;refine aB fun _ y=>aA rfl ?_;simp only[f5,f7,hg,RR,seval];refine aT fun b4 hn4=>?_;simp only[RR,seval];apply y;clear y;refine aJ ?_;refine aB fun _ y=>aA rfl ?_;simp only[RR,seval];apply y;clear y;refine aN ?_;refine aJ ?_;refine bN fun F3 M3 hfr hH=>?_;have g2:=hfr 2;have g4:=hfr 4;have g5:=hfr 5;have g6:=hfr 6;have g7:=hfr 7;have g12:=hfr 12;have gb4:=hH b4
   try simp only[f5,f6,f7,RR,seval]at g2 g4 g5 g6 g7 g12 gb4
   have ag0:aY [5,6] F2 F3:=aY.same hfr (by repeat (first|exact ag0|refine aY.upd rfl ?_));have f2:=g2;clear g2;have f4:=g4;clear g4;have f5:=g5;clear g5;have f6:=g6;clear g6;have f7:=g7;clear g7;have f12:=g12;clear g12;have hb4:=gb4;clear gb4;clear hfr hH;refine dU (fun fr M=>aY [2,4,5,6,7,12] F3 fr∧M b4=M3 b4∧fr 13= .bool (jJ e.kind)) (fun KS6 hKS6=>?_) ?_
   ·have agS6:=aY.refl [2,4,5,6,7,12] F3
    have eS6_b4:M3 b4=M3 b4:=rfl;refine aB fun _ y=>aA rfl ?_;simp only[f12,RR,seval];apply y;clear y;refine aH _ rfl (fun hc6=>?_) (fun hc6=>?_)
    ·refine aK ?_;try simp only[RR]
     refine hKS6 _ _ ⟨(by repeat (first|exact agS6|refine aY.upd rfl ?_)),(by first|exact eS6_b4|(simp only[aF,seval];first|done|exact eS6_b4)), ?_⟩;simp only[aF,seval];simp_all [jJ]
    refine aB fun _ y=>aA rfl ?_;simp only[f12,RR,seval];apply y;clear y;refine aH _ rfl (fun hc7=>?_) (fun hc7=>?_)
    ·refine aK ?_;try simp only[RR]
     refine hKS6 _ _ ⟨(by repeat (first|exact agS6|refine aY.upd rfl ?_)),(by first|exact eS6_b4|(simp only[aF,seval];first|done|exact eS6_b4)), ?_⟩;simp only[aF,seval];simp_all [jJ]
    refine aB fun _ y=>aA rfl ?_;simp only[f12,RR,seval];apply y;clear y;refine aH _ rfl (fun hc8=>?_) (fun hc8=>?_)
    ·refine aK ?_;try simp only[RR]
     refine hKS6 _ _ ⟨(by repeat (first|exact agS6|refine aY.upd rfl ?_)),(by first|exact eS6_b4|(simp only[aF,seval];first|done|exact eS6_b4)), ?_⟩;simp only[aF,seval];simp_all [jJ]
    refine aB fun _ y=>aA rfl ?_;simp only[f12,RR,seval];apply y;clear y;refine aH _ rfl (fun hc9=>?_) (fun hc9=>?_)
    ·refine aK ?_;try simp only[RR]
     refine hKS6 _ _ ⟨(by repeat (first|exact agS6|refine aY.upd rfl ?_)),(by first|exact eS6_b4|(simp only[aF,seval];first|done|exact eS6_b4)), ?_⟩;simp only[aF,seval];simp_all [jJ]
    refine aB fun _ y=>aA rfl ?_;simp only[f12,RR,seval];apply y;clear y;refine aH _ rfl (fun hc10=>?_) (fun hc10=>?_)
    ·refine aK ?_;try simp only[RR]
     refine hKS6 _ _ ⟨(by repeat (first|exact agS6|refine aY.upd rfl ?_)),(by first|exact eS6_b4|(simp only[aF,seval];first|done|exact eS6_b4)), ?_⟩;simp only[aF,seval];simp_all [jJ]
    refine aA rfl ?_;simp only[f12,RR,seval];refine hKS6 _ _ ⟨(by repeat (first|exact agS6|refine aY.upd rfl ?_)),(by first|exact eS6_b4|(simp only[aF,seval];first|done|exact eS6_b4)), ?_⟩;simp only[aF,seval];simp_all [jJ]
   rintro F4 M4 ⟨agx,gb4,f13⟩;have f2:=(agx 2 rfl).trans f2;have f4:=(agx 4 rfl).trans f4;have f5:=(agx 5 rfl).trans f5;have f6:=(agx 6 rfl).trans f6;have f7:=(agx 7 rfl).trans f7;have f12:=(agx 12 rfl).trans f12;have hb4:=gb4.trans hb4;have ag0:aY [5,6] F2 F4:=aY.sub agx rfl ag0;clear agx;clear gb4;simp only[RR,seval];refine aH _ (by first|rfl|exact f13) (fun hc11=>?_) (fun hc11=>?_)
   ·refine aK ?_;try simp only[RR]
    refine aB fun _ y=>aA rfl ?_;simp only[f4,hb4,RR,seval];refine aP (hkd) ?_;simp only[RR,seval];apply y;clear y;refine aH _ rfl (fun hc12=>?_) (fun hc12=>?_)
    ·refine aB fun _ y=>aA rfl ?_
     simp only[RR,seval];apply y;clear y;refine aM ?_;simp only[aZ,aL,bJ,RR,seval];refine bB.pure ?_
     first|exact hbd (by rw[(by simpa using hc12:a6=false)];simp only[Bool.and_false])|exact hbd (by rw[‹jJ e.kind=false›];rfl)|(rw[hkn0,List.take_length]at hk;rw[hk])
    refine aK ?_;try simp only[RR]
    refine aA rfl ?_;simp only[f7,RR,seval]
    try rw[aV _ (by omega)]
    refine hK0 _ _ hlt0 ⟨by first|rfl|(simp only[aF,seval];rfl),htk (by rw[‹jJ e.kind=true›,(by simpa using hc12:a6=true)];rfl)⟩ (by repeat (first|exact ag0|refine aY.upd rfl ?_))
   refine aB fun _ y=>aA rfl ?_;simp only[RR,seval];apply y;clear y;refine aM ?_;simp only[aZ,aL,bJ,RR,seval];refine bB.pure ?_
   first|exact hbd (by rw[(by simpa using hc12:a6=false)];simp only[Bool.and_false])|exact hbd (by rw[‹jJ e.kind=false›];rfl)|(rw[hkn0,List.take_length]at hk;rw[hk])
  have hkn0:k=l.length:=by have:=aE hc;omega
  clear hc;refine bI ?_;simp only[RR,seval];refine aB fun _ y=>aA rfl ?_;simp only[RR,seval];apply y;clear y;refine aM ?_;simp only[aZ,aL,bJ,RR,seval];refine bB.pure ?_
  first|exact hbd (by rw[(by simpa using hc12:a6=false)];simp only[Bool.and_false])|exact hbd (by rw[‹jJ e.kind=false›];rfl)|(rw[hkn0,List.take_length]at hk;rw[hk])
theorem Ln (n:Nat): ∀l:List Sm,gH l≤n→n≤1000000000→cM cG 34 [.isl 5 (l.map Sm.row)] (.bool (l.all lJ)):=by
 induction n using Nat.strongRecOn with
 |_ n ih=>
  intro l hn hb;have hlen:=tA l
  have hkid: ∀e∈l,cM cG 34 [.isl 5 (e.thn.map Sm.row)] (.bool (e.thn.all lJ)):=fun e he=>by
   have h1:=eS he;have h2:=e.sz_eq;exact ih (gH e.thn) (by omega) e.thn (bF _) (by omega)
  have hkex: ∀e∈l,cM cG 60 [.isl 5 (e.es.map Ex.row)] (.bool (e.es.all (rD jJ))):=fun e he=>Lo _ e.es (bF _) (by have:=eS he;have:=e.sz_eq;omega);have hbad: ∀{k:Nat} {e:Sm},l[k]?=some e→lJ e=false→AV.bool false=AV.bool (l.all lJ):=fun h0 h1=>by rw[jS h0 h1]
  clear ih;refine bM 35 [.tmp 2] Tryz.func34 rfl rfl rfl rfl ?_;refine aB fun _ y=>aA rfl ?_;simp only[RR,seval];apply y;clear y;refine aJ ?_;refine aB fun _ y=>aA rfl ?_;simp only[aC,RR,seval];apply y;clear y;refine bN fun F1 M1 hfr hH=>?_;have g2:=hfr 2;have g5:=hfr 5;have g6:=hfr 6;have g7:=hfr 7
  try simp only[RR,seval]at g2 g5 g6 g7
  have f2:=g2;clear g2;have f5:=g5;clear g5;have f6:=g6;clear g6;have f7:=g7;clear g7;clear hfr hH;refine aN ?_;refine cF [5,6] (l.length) (fun k fr M=>fr 7= .int .i64 (k:Nat)∧(l.take k).all lJ=true) ⟨f7,rfl⟩ ?_;rintro k F2 M2 hk0 ⟨fx,hk⟩ agx K0 hK0;have f5:=(agx 5 rfl).trans f5;have f6:=(agx 6 rfl).trans f6;have f7:=fx;clear fx;have ag0:=aY.refl [5,6] F2;clear agx;refine aB fun _ y=>aA rfl ?_;simp only[f6,f7,RR,seval];apply y;clear y;refine aJ ?_;refine aH _ rfl (fun hc=>?_) (fun hc=>?_)
  ·have hlt0:k<l.length:=by have:=aD hc;omega
   clear hc;have hg0:=aG hlt0;have hkd:=hkid _ (bE hlt0);have hke:=hkex _ (bE hlt0);have hbd:=hbad hg0;have htk:=gZ hg0 hk;have hg:=sC hg0;generalize l[k]=e at *;rw[qW]at hbd htk;generalize e.thn.all lJ=a6 at *;generalize e.es.all (rD jJ)=a5 at *;obtain⟨fo,hfo⟩: ∃fo,(if e.kind=4 then decide (e.els.length=0)else decide (e.kind=1)||decide (e.kind=2)||decide (e.kind=3)||decide (e.kind=5))=fo:=⟨_,rfl⟩;rw[hfo]at hbd htk;refine aK ?_;try simp only[RR]
   refine aJ ?_;refine aN ?_;refine aB fun _ y=>aA rfl ?_;simp only[f5,f7,hg,RR,seval];refine aT fun b4 hn4=>?_;simp only[RR,seval];apply y;clear y;refine aJ ?_;refine aB fun _ y=>aA rfl ?_;simp only[RR,seval];apply y;clear y;refine bN fun F3 M3 hfr hH=>?_;have g2:=hfr 2;have g4:=hfr 4;have g5:=hfr 5;have g6:=hfr 6;have g7:=hfr 7;have g12:=hfr 12;have gb4:=hH b4
   try simp only[f5,f6,f7,RR,seval]at g2 g4 g5 g6 g7 g12 gb4
   have ag0:aY [5,6] F2 F3:=aY.same hfr (by repeat (first|exact ag0|refine aY.upd rfl ?_));have f2:=g2;clear g2;have f4:=g4;clear g4;have f5:=g5;clear g5;have f6:=g6;clear g6;have f7:=g7;clear g7;have f12:=g12;clear g12;have hb4:=gb4;clear gb4;clear hfr hH;refine dU (fun fr M=>aY [4,5,6,7,12] F3 fr∧M b4=M3 b4∧fo=true) (fun KB2 hKB2=>?_) ?_
   ·have agB2:=aY.refl [4,5,6,7,12] F3
    have eB2_b4:M3 b4=M3 b4:=rfl;refine aN ?_;refine aJ ?_;refine bN fun F4 M4 hfr hH=>?_;have g2:=hfr 2;have g4:=hfr 4;have g5:=hfr 5;have g6:=hfr 6;have g7:=hfr 7;have g12:=hfr 12;have gb4:=hH b4
    try simp only[f2,f4,f5,f6,f7,f12,hb4,seval]at g2 g4 g5 g6 g7 g12 gb4
    have ag0:aY [5,6] F2 F4:=aY.same hfr (by repeat (first|exact ag0|refine aY.upd rfl ?_));have agB2:aY [4,5,6,7,12] F3 F4:=aY.same hfr (by repeat (first|exact agB2|refine aY.upd rfl ?_));have eB2_b4:=(hH b4).trans (by first|exact eB2_b4|(simp only[aF,seval];first|done|exact eB2_b4));have f2:=g2;clear g2;have f4:=g4;clear g4;have f5:=g5;clear g5;have f6:=g6;clear g6;have f7:=g7;clear g7;have f12:=g12;clear g12;have hb4:=gb4;clear gb4;clear hfr hH;refine dU (fun fr M=>aY [2,4,5,6,7,12] F4 fr∧M b4=M4 b4∧fr 13= .bool (decide (e.kind=1)||decide (e.kind=2)||decide (e.kind=3)||decide (e.kind=5))) (fun KS6 hKS6=>?_) ?_
    ·have agS6:=aY.refl [2,4,5,6,7,12] F4
     have eS6_b4:M4 b4=M4 b4:=rfl;refine aB fun _ y=>aA rfl ?_;simp only[f12,RR,seval];apply y;clear y;refine aH _ rfl (fun hc6=>?_) (fun hc6=>?_)
     ·refine aK ?_;try simp only[RR]
      refine hKS6 _ _ ⟨(by repeat (first|exact agS6|refine aY.upd rfl ?_)),(by first|exact eS6_b4|(simp only[aF,seval];first|done|exact eS6_b4)), ?_⟩;simp only[aF,seval];simp_all
     refine aB fun _ y=>aA rfl ?_;simp only[f12,RR,seval];apply y;clear y;refine aH _ rfl (fun hc7=>?_) (fun hc7=>?_)
     ·refine aK ?_;try simp only[RR]
      refine hKS6 _ _ ⟨(by repeat (first|exact agS6|refine aY.upd rfl ?_)),(by first|exact eS6_b4|(simp only[aF,seval];first|done|exact eS6_b4)), ?_⟩;simp only[aF,seval];simp_all
     refine aB fun _ y=>aA rfl ?_;simp only[f12,RR,seval];apply y;clear y;refine aH _ rfl (fun hc8=>?_) (fun hc8=>?_)
     ·refine aK ?_;try simp only[RR]
      refine hKS6 _ _ ⟨(by repeat (first|exact agS6|refine aY.upd rfl ?_)),(by first|exact eS6_b4|(simp only[aF,seval];first|done|exact eS6_b4)), ?_⟩;simp only[aF,seval];simp_all
     refine aA rfl ?_;simp only[f12,RR,seval];refine hKS6 _ _ ⟨(by repeat (first|exact agS6|refine aY.upd rfl ?_)),(by first|exact eS6_b4|(simp only[aF,seval];first|done|exact eS6_b4)), ?_⟩;simp only[aF,seval];simp_all
    rintro F5 M5 ⟨agx,gb4,f13⟩;have f2:=(agx 2 rfl).trans f2;have f4:=(agx 4 rfl).trans f4;have f5:=(agx 5 rfl).trans f5;have f6:=(agx 6 rfl).trans f6;have f7:=(agx 7 rfl).trans f7;have f12:=(agx 12 rfl).trans f12;have hb4:=gb4.trans hb4;have ag0:aY [5,6] F2 F5:=aY.sub agx rfl ag0;have agB2:aY [4,5,6,7,12] F3 F5:=aY.sub agx rfl agB2;have eB2_b4:=gb4.trans eB2_b4;clear agx;clear gb4;simp only[RR,seval];refine aH _ (by first|rfl|exact f13) (fun hc9=>?_) (fun hc9=>?_)
    ·refine aK ?_;try simp only[RR]
     refine hKB2 _ _ ⟨(by repeat (first|exact agB2|refine aY.upd rfl ?_)),(by first|exact eB2_b4|(simp only[aF,seval];first|done|exact eB2_b4)), ?_⟩;rw[←hfo];split
     ·simp_all
     simp_all
    refine aB fun _ y=>aA rfl ?_;simp only[f12,RR,seval];apply y;clear y;refine aH _ rfl (fun hc10=>?_) (fun hc10=>?_)
    ·refine aB fun _ y=>aA rfl ?_
     simp only[f4,hb4,aC,RR,seval];apply y;clear y;refine aH _ rfl (fun hc11=>?_) (fun hc11=>?_)
     ·refine aB fun _ y=>aA rfl ?_
      simp only[RR,seval];apply y;clear y;refine aM ?_;simp only[aZ,aL,bJ,RR,seval];refine bB.pure ?_
      first|(rw[hkn0,List.take_length]at hk;rw[hk])|exact hbd (by rw[(by simpa using ‹(!a5)=true› :a5=false)];simp only[Bool.and_false,Bool.false_and])|exact hbd (by rw[(by simpa using hc13:a6=false)];simp only[Bool.and_false])|exact hbd (by rw[show fo=false by(rw[←hfo,if_pos (aD hc10)];exact aX (by have:=aD hc11;omega))];rfl)|exact hbd (by rw[show fo=false by(rw[←hfo,if_neg (aE hc10)];exact ‹(decide (e.kind=1)||decide (e.kind=2)||decide (e.kind=3)||decide (e.kind=5))=false›)];rfl)
     refine aK ?_;try simp only[RR]
     refine hKB2 _ _ ⟨(by repeat (first|exact agB2|refine aY.upd rfl ?_)),(by first|exact eB2_b4|(simp only[aF,seval];first|done|exact eB2_b4)), ?_⟩;rw[←hfo];split
     ·simp_all
     simp_all
    refine aB fun _ y=>aA rfl ?_;simp only[RR,seval];apply y;clear y;refine aM ?_;simp only[aZ,aL,bJ,RR,seval];refine bB.pure ?_
    first|(rw[hkn0,List.take_length]at hk;rw[hk])|exact hbd (by rw[(by simpa using ‹(!a5)=true› :a5=false)];simp only[Bool.and_false,Bool.false_and])|exact hbd (by rw[(by simpa using hc13:a6=false)];simp only[Bool.and_false])|exact hbd (by rw[show fo=false by(rw[←hfo,if_pos (aD hc10)];exact aX (by have:=aD hc11;omega))];rfl)|exact hbd (by rw[show fo=false by(rw[←hfo,if_neg (aE hc10)];exact ‹(decide (e.kind=1)||decide (e.kind=2)||decide (e.kind=3)||decide (e.kind=5))=false›)];rfl)
   rintro F6 M6 ⟨agx,gb4,hft⟩;have f4:=(agx 4 rfl).trans f4;have f5:=(agx 5 rfl).trans f5;have f6:=(agx 6 rfl).trans f6;have f7:=(agx 7 rfl).trans f7;have f12:=(agx 12 rfl).trans f12;have hb4:=gb4.trans hb4;have ag0:aY [5,6] F2 F6:=aY.sub agx rfl ag0;clear agx;clear gb4;simp only[RR,seval];refine aB fun _ y=>aA rfl ?_;simp only[f4,hb4,RR,seval]
   all_goals try (refine aP (hke) ?_;simp only[RR,seval])
   all_goals try ((first|refine aO (fun h=>?_) (fun h=>?_)|refine aR (fun h=>?_) (fun h=>?_))<;>simp only[h,f4,hb4,RR,seval])
   all_goals try (refine aP (hkd) ?_;simp only[RR,seval])
   all_goals
    apply y;clear y;refine aH _ rfl (fun hc13=>?_) (fun hc13=>?_)
    ·try (cases hc13;done)
     all_goals
      refine aB fun _ y=>aA rfl ?_;simp only[RR,seval];apply y;clear y;refine aM ?_;simp only[aZ,aL,bJ,RR,seval];refine bB.pure ?_
      first|(rw[hkn0,List.take_length]at hk;rw[hk])|exact hbd (by rw[(by simpa using ‹(!a5)=true› :a5=false)];simp only[Bool.and_false,Bool.false_and])|exact hbd (by rw[(by simpa using hc13:a6=false)];simp only[Bool.and_false])|exact hbd (by rw[show fo=false by(rw[←hfo,if_pos (aD hc10)];exact aX (by have:=aD hc11;omega))];rfl)|exact hbd (by rw[show fo=false by(rw[←hfo,if_neg (aE hc10)];exact ‹(decide (e.kind=1)||decide (e.kind=2)||decide (e.kind=3)||decide (e.kind=5))=false›)];rfl)
    try (cases hc13;done)
    all_goals
     refine aK ?_;try simp only[RR]
     refine aA rfl ?_;simp only[f7,RR,seval]
     try rw[aV _ (by omega)]
     refine hK0 _ _ hlt0 ⟨by first|rfl|(simp only[aF,seval];rfl),htk (by rw[hft,(by simpa using ‹(!a5)=false› :a5=true),(by simpa using hc13:a6=true)];rfl)⟩ (by repeat (first|exact ag0|refine aY.upd rfl ?_))
  have hkn0:k=l.length:=by have:=aE hc;omega
  clear hc;refine bI ?_;simp only[RR,seval];refine aB fun _ y=>aA rfl ?_;simp only[RR,seval];apply y;clear y;refine aM ?_;simp only[aZ,aL,bJ,RR,seval];refine bB.pure ?_
  first|(rw[hkn0,List.take_length]at hk;rw[hk])|exact hbd (by rw[(by simpa using ‹(!a5)=true› :a5=false)];simp only[Bool.and_false,Bool.false_and])|exact hbd (by rw[(by simpa using hc13:a6=false)];simp only[Bool.and_false])|exact hbd (by rw[show fo=false by(rw[←hfo,if_pos (aD hc10)];exact aX (by have:=aD hc11;omega))];rfl)|exact hbd (by rw[show fo=false by(rw[←hfo,if_neg (aE hc10)];exact ‹(decide (e.kind=1)||decide (e.kind=2)||decide (e.kind=3)||decide (e.kind=5))=false›)];rfl)
set_option maxHeartbeats 4000000 in
theorem qZ (p:Pg) (hp:p.ok) (hfew:dH p=true→p.few):cM cG 14 [p.av] (.bool (dY (fun l=>l.all lJ) p)):=by
 have hS:=Hw p hp hfew;have hX:dY (fun l=>l.all lJ) p=(decide (fN p=0)&&(decide (p.funs.length=1)&&(p.funs.all (fun g=>decide (g.locs.length=0))&&(decide (p.arrs.length≤1)&&(p.vars.all oZ&&(p.arrs.all zH&&p.funs.all fun g=>g.body.all lJ)))))):=rfl;have fv:p.vars.length≤9223372036854775807:=hp.vars.fit;have fa:p.arrs.length≤9223372036854775807:=hp.afit;have hbody:fN p=0→ ∀g∈p.funs,cM cG 34 [.isl 5 (g.body.map Sm.row)] (.bool (g.body.all lJ)):=fun h g hg=>Ln _ g.body (bF _) (by have:=(hfew (jE h)).fs g hg;omega);clear hfew hp;generalize fN p=so at *;generalize dY (fun l=>l.all lJ) p=res at *;obtain⟨vs,aa,fs⟩:=p;simp only[Pg.av,Pg.row]at *;by_cases z0:so=0
 rotate_left
 ·rw[aX z0,Bool.false_and]at hX
  subst hX;refine bM 64 [.tmp 2] Tryz.func14 rfl rfl rfl rfl ?_;refine aB fun _ y=>aA rfl ?_;simp only[RR,seval];refine aT fun b1 hn1=>?_;simp only[RR,seval];apply y;clear y;refine aJ ?_;refine aB fun _ y=>aA rfl ?_;simp only[RR,seval];refine aP (hS) ?_;simp only[z0,RR,seval];apply y;clear y;refine aH true rfl (fun _=>?_) (fun hc=>by cases hc);refine aB fun _ y=>aA rfl ?_;simp only[RR,seval];apply y;clear y;refine aM ?_;simp only[aZ,aL,bJ,RR,seval];refine bB.pure ?_;rfl
 subst z0;by_cases z1:fs.length=1
 rotate_left
 ·rw[aX z1,Bool.false_and,Bool.and_false]at hX
  subst hX;have y1:decide ((fs.length:Int)=1)=false:=aX (by omega);refine bM 64 [.tmp 2] Tryz.func14 rfl rfl rfl rfl ?_;refine aB fun _ y=>aA rfl ?_;simp only[RR,seval];refine aT fun b1 hn1=>?_;simp only[RR,seval];apply y;clear y;refine aJ ?_;refine aB fun _ y=>aA rfl ?_;simp only[RR,seval];refine aP (hS) ?_;simp only[aC,y1,RR,seval];apply y;clear y;refine aH true rfl (fun _=>?_) (fun hc=>by cases hc);refine aB fun _ y=>aA rfl ?_;simp only[RR,seval];apply y;clear y;refine aM ?_;simp only[aZ,aL,bJ,RR,seval];refine bB.pure ?_;rfl
 obtain⟨f,rfl⟩:=List.length_eq_one_iff.1 z1;have hb:=hbody rfl f (List.mem_singleton.2 rfl);have hrw:f.row=[.str f.name, .isl 1 (f.params.map bG), .isl 1 (f.locs.map bG), .bool f.word, .isl 5 (f.body.map Sm.row)]:=rfl;have w1:decide ((([f]:List Fu).length:Int)=1)=true:=rfl;have w2:(0:Int)<(([f]:List Fu).length:Int):=by simp
 simp only[List.all_cons,List.all_nil,Bool.and_true,aQ,List.length_nil,Nat.zero_add,decide_true,Bool.true_and]at hX;clear z1 hbody;by_cases z2:f.locs.length=0
 rotate_left
 ·rw[aX z2,Bool.false_and]at hX
  subst hX;have y1:decide ((0:Int)<(f.locs.length:Int))=true:=bQ (by omega);have hg:([f].map Fu.row)[0]?=some [.str f.name, .isl 1 (f.params.map bG), .isl 1 (f.locs.map bG), .bool f.word, .isl 5 (f.body.map Sm.row)]:=jK rfl;refine bM 64 [.tmp 2] Tryz.func14 rfl rfl rfl rfl ?_;refine aB fun _ y=>aA rfl ?_;simp only[hrw,RR,seval];refine aT fun b1 hn1=>?_;simp only[RR,seval];apply y;clear y;refine aJ ?_;refine aB fun _ y=>aA rfl ?_;simp only[RR,seval];refine aP (hS) ?_;simp only[aC,y1,RR,seval];apply y;clear y;refine aH true rfl (fun _=>?_) (fun hc=>by cases hc);refine aB fun _ y=>aA rfl ?_;simp only[RR,seval];apply y;clear y;refine aM ?_;simp only[aZ,aL,bJ,RR,seval];refine bB.pure ?_;rfl
 rw[bQ z2,Bool.true_and]at hX;have y2:decide ((0:Int)<(f.locs.length:Int))=false:=aX (by omega);have hg:([f].map Fu.row)[0]?=some [.str f.name, .isl 1 (f.params.map bG), .isl 1 (f.locs.map bG), .bool f.word, .isl 5 (f.body.map Sm.row)]:=jK rfl;by_cases z3:aa.length≤1
 rotate_left
 ·rw[aX z3,Bool.false_and]at hX
  subst hX;have y3:decide ((1:Int)<(aa.length:Int))=true:=bQ (by omega);refine bM 64 [.tmp 2] Tryz.func14 rfl rfl rfl rfl ?_;refine aB fun _ y=>aA rfl ?_;simp only[hrw,RR,seval];refine aT fun b1 hn1=>?_;simp only[RR,seval];apply y;clear y;refine aJ ?_;refine aB fun _ y=>aA rfl ?_;simp only[RR,seval];refine aP (hS) ?_;simp only[aC,y2,y3,RR,seval];apply y;clear y;refine aH true rfl (fun _=>?_) (fun hc=>by cases hc);refine aB fun _ y=>aA rfl ?_;simp only[RR,seval];apply y;clear y;refine aM ?_;simp only[aZ,aL,bJ,RR,seval];refine bB.pure ?_;rfl
 rw[bQ z3,Bool.true_and]at hX;have y3:decide ((1:Int)<(aa.length:Int))=false:=aX (by omega);have hbadV: ∀{k:Nat} {s:cN},vs[k]?=some s→oZ s=false→AV.bool false=AV.bool res:=fun h0 h1=>by rw[hX,jS h0 h1];rfl
 have hbadA: ∀{k:Nat} {a:Ar},aa[k]?=some a→zH a=false→AV.bool false=AV.bool res:=fun h0 h1=>by rw[hX,jS h0 h1];simp only[Bool.false_and,Bool.and_false]
 generalize f.body.all lJ=a6 at *;refine bM 64 [.tmp 2] Tryz.func14 rfl rfl rfl rfl ?_;refine aB fun _ y=>aA rfl ?_;simp only[hrw,RR,seval];refine aT fun b1 hn1=>?_;simp only[RR,seval];apply y;clear y;refine aJ ?_;refine aB fun _ y=>aA rfl ?_;simp only[RR,seval];refine aP (hS) ?_;simp only[aC,y2,y3,RR,seval];apply y;clear y;refine aH false rfl (fun hc=>by cases hc) (fun _=>?_);refine aK ?_;try simp only[RR]
 refine aJ ?_;refine aB fun _ y=>aA rfl ?_;simp only[aC,RR,seval];apply y;clear y;refine bN fun F1 M1 hfr hH=>?_;have g1:=hfr 1;have g2:=hfr 2;have g32:=hfr 32;have g33:=hfr 33;have g34:=hfr 34;have gb1:=hH b1
 try simp only[RR,seval]at g1 g2 g32 g33 g34 gb1
 have f1:=g1;clear g1;have f2:=g2;clear g2;have f32:=g32;clear g32;have f33:=g33;clear g33;have f34:=g34;clear g34;have hb1:=gb1;clear gb1;clear hfr hH;refine aN ?_;refine cF [1,32,33] (vs.length) (fun k fr M=>fr 34= .int .i64 (k:Nat)∧M b1=M1 b1∧(vs.take k).all oZ=true) ⟨f34,rfl,rfl⟩ ?_;rintro k F2 M2 hk0 ⟨fx,gb1,hk⟩ agx K0 hK0;have f1:=(agx 1 rfl).trans f1;have f32:=(agx 32 rfl).trans f32;have f33:=(agx 33 rfl).trans f33;have f34:=fx;clear fx;have hb1:=gb1.trans hb1;have ag0:=aY.refl [1,32,33] F2;have e0_b1:=gb1;clear gb1;clear agx;refine aB fun _ y=>aA rfl ?_;simp only[f33,f34,RR,seval];apply y;clear y;refine aJ ?_;refine aH _ rfl (fun hc=>?_) (fun hc=>?_)
 ·have hlt0:k<vs.length:=by have:=aD hc;omega
  clear hc;have hg0:=aG hlt0;have hlc:=Hu vs[k];have hbd:=hbadV hg0;have htk:=gZ hg0 hk;have hgn:=vH hg0;generalize vs[k]=s at *;generalize oZ s=a5 at *;refine aK ?_;try simp only[RR]
  refine aJ ?_;refine aN ?_;refine aB fun _ y=>aA rfl ?_;simp only[f32,f34,hgn,RR,seval];apply y;clear y;refine aB fun _ y=>aA rfl ?_;simp only[RR,seval];refine aP (hlc) ?_;simp only[RR,seval];apply y;clear y;refine aH _ rfl (fun hc6=>?_) (fun hc6=>?_)
  ·refine aB fun _ y=>aA rfl ?_
   simp only[RR,seval];apply y;clear y;refine aM ?_;simp only[aZ,aL,bJ,RR,seval];refine bB.pure ?_
   first|exact hbd (by simpa using hc6)|exact hbd (by simp_all)
  refine aK ?_;try simp only[RR]
  refine aA rfl ?_;simp only[f34,RR,seval]
  try rw[aV _ (by omega)]
  refine hK0 _ _ hlt0 ⟨by first|rfl|(simp only[aF,seval];rfl),(by first|exact e0_b1|(simp only[aF,seval];first|done|exact e0_b1)),htk (by simpa using hc6)⟩ (by repeat (first|exact ag0|refine aY.upd rfl ?_))
 have hkn0:k=vs.length:=by have:=aE hc;omega
 clear hc;rw[hkn0,List.take_length]at hk;rw[hk,Bool.true_and]at hX;refine bI ?_;simp only[RR,seval];refine aJ ?_;refine aB fun _ y=>aA rfl ?_;simp only[f1,hb1,aC,RR,seval];apply y;clear y;refine bN fun F3 M3 hfr hH=>?_;have g1:=hfr 1;have g2:=hfr 2;have g43:=hfr 43;have g44:=hfr 44;have g45:=hfr 45;have gb1:=hH b1
 try simp only[f1,hb1,RR,seval]at g1 g2 g43 g44 g45 gb1
 have f1:=g1;clear g1;have f2:=g2;clear g2;have f43:=g43;clear g43;have f44:=g44;clear g44;have f45:=g45;clear g45;have hb1:=gb1;clear gb1;clear hfr hH;refine aN ?_;refine cF [1,43,44] (aa.length) (fun j fr M=>fr 45= .int .i64 (j:Nat)∧M b1=M3 b1∧(aa.take j).all zH=true) ⟨f45,rfl,rfl⟩ ?_;rintro j F4 M4 hk2 ⟨fx,gb1,hj⟩ agx K2 hK2;have f1:=(agx 1 rfl).trans f1;have f43:=(agx 43 rfl).trans f43;have f44:=(agx 44 rfl).trans f44;have f45:=fx;clear fx;have hb1:=gb1.trans hb1;have ag2:=aY.refl [1,43,44] F4;have e2_b1:=gb1;clear gb1;clear agx;refine aB fun _ y=>aA rfl ?_;simp only[f44,f45,RR,seval];apply y;clear y;refine aJ ?_;refine aH _ rfl (fun hc=>?_) (fun hc=>?_)
 ·have hlt2:j<aa.length:=by have:=aD hc;omega
  clear hc;have hg0:=aG hlt2;have hbd:=hbadA hg0;have htk:=gZ hg0 hj;have hga:=Ip hg0;generalize aa[j]=a at *;have hta:zH a=(decide (a.name=[116])&&decide (a.size=4096)):=rfl;rw[hta]at hbd htk;generalize hx1:decide (a.name=[116])=x1 at *;generalize hx2:decide (a.size=4096)=x2 at *;refine aK ?_;try simp only[RR]
  refine aJ ?_;refine aN ?_;refine aB fun _ y=>aA rfl ?_;simp only[f43,f45,hga,RR,seval];refine aT fun b6 hn6=>?_;have nb6_b1:b6≠b1:=fun e=>by rw[e]at hn6;simp only[hb1,seval,reduceCtorEq]at hn6
  have nb1_b6:b1≠b6:=fun e=>nb6_b1 e.symm;simp only[RR,seval];apply y;clear y;refine aB fun _ y=>aA rfl ?_;simp only[hx1,RR,seval]
  repeat' ((first|refine aO (fun h=>?_) (fun h=>?_)|refine aR (fun h=>?_) (fun h=>?_))<;>simp only[h,hx2,RR,seval])
  all_goals
   apply y;clear y;refine aH _ rfl (fun hc12=>?_) (fun hc12=>?_)
   ·try (cases hc12;done)
    all_goals
     refine aB fun _ y=>aA rfl ?_;simp only[RR,seval];apply y;clear y;refine aM ?_;simp only[aZ,aL,bJ,RR,seval];refine bB.pure ?_
     first|exact hbd (by simpa using hc6)|exact hbd (by simp_all)
   try (cases hc12;done)
   all_goals
    refine aK ?_;try simp only[RR]
    refine aA rfl ?_;simp only[f45,RR,seval]
    try rw[aV _ (by omega)]
    refine hK2 _ _ hlt2 ⟨by first|rfl|(simp only[aF,seval];rfl),(by first|exact e2_b1|(simp only[nb1_b6,aF,seval];first|done|exact e2_b1)),htk (by simp_all)⟩ (by repeat (first|exact ag2|refine aY.upd rfl ?_))
 have hkn2:j=aa.length:=by have:=aE hc;omega
 clear hc;rw[hkn2,List.take_length]at hj;rw[hj,Bool.true_and]at hX;refine bI ?_;simp only[RR,seval];refine aB fun _ y=>aA rfl ?_;simp only[f1,hb1,RR,seval];refine aP (hb) ?_;simp only[RR,seval];apply y;clear y;refine aM ?_;simp only[aZ,aL,bJ,RR,seval];refine bB.pure ?_;rw[hX]
end Go.Proofs.YtaecpjgmcffliaaGreatDoor
