/- Chapter 19: are cores alike? Both sides. -/
import Derived.Test.YtnfbbjhdflhmjaaGreatDoorCx
import Derived.Test.YtnfbbjhdflhmjaaGreatDoorAl4
import Derived.Test.YtnfbbjhdflhmjaaGreatDoorSy1
import Derived.Test.YtnfbbjhdflhmjaaGreatDoorSy2
set_option linter.unusedSimpArgs false
set_option linter.unusedVariables false
set_option maxRecDepth 10000
namespace Go.Al
noncomputable def wD {α:Type} (a b:α):Bool:= @decide (a=b) (Classical.propDecidable _)
theorem jU {α:Type} {a b:α} (h:a=b):wD a b=true:= @bG _ (Classical.propDecidable _) h
theorem jD {α:Type} {a b:α} (h: ¬a=b):wD a b=false:= @aU _ (Classical.propDecidable _) h
theorem qZ {α:Type} {a b:α}:wD a b=true↔a=b:=⟨fun h=> @aC _ (Classical.propDecidable _) h,jU⟩
theorem fK {α:Type} (a:α):wD a a=true:=jU rfl
theorem P3 {α:Type} {a b:α} (h:wD a b=false): ¬a=b:=fun e=>by rw[jU e]at h;cases h
theorem I8 {α:Type} (a b:α):wD a b=wD b a:=by
 by_cases h:a=b
 ·rw[jU h,jU h.symm]
 rw[jD h,jD fun e=>h e.symm]
theorem uP {α:Type} {l m:List α} {i:Nat} {a b:α} (h1:l[i]?=some a) (h2:m[i]?=some b) (h: ¬a=b):wD l m=false:=
 jD fun e=>by subst e;rw[h1]at h2;cases h2;exact h rfl
theorem wL {α:Type} {l m:List α} (h: ¬l.length=m.length):wD l m=false:=jD fun e=>h (by rw[e])
theorem kV {α:Type} {l m:List α} {k:Nat} (hk:l.take k=m.take k) {a b:α} (h1:l[k]?=some a) (h2:m[k]?=some b) (h:a=b):l.take (k+1)=m.take (k+1):=by
 obtain⟨i1,rfl⟩:=bW.1 h1;obtain⟨i2,rfl⟩:=bW.1 h2;rw[bR i1,bR i2,hk,h]
theorem eF {α:Type} {l m:List α} (hl:l.length=m.length) (hk:l.take l.length=m.take l.length):l=m:=by
 rw[List.take_length,hl,List.take_length]at hk;exact hk
end Go.Al
namespace Go.Proofs.YtnfbbjhdflhmjaaGreatDoor
open Go.Al
theorem Oa {α:Type} (m:List α):List.append [] m=m:=rfl
theorem Io {α:Type} (a:α) (l m:List α):List.append (a::l) m=a::List.append l m:=rfl
set_option maxHeartbeats 4000000 in
theorem Ag (n:Nat): ∀(l m:List CE),dR l≤n→pH l→pH m→cJ cK 58 [.isl 6 (l.map CE.row), .isl 6 (m.map CE.row)] (.bool (wD l m)):=by
 induction n using Nat.strongRecOn with
 |_ n ih=>
  intro l m hn hol hom;have hfl:l.length≤9223372036854775807:=hol.fit;refine bI 64 [.tmp 4] Tryz.func58 rfl rfl rfl rfl ?_;refine aB fun _ y=>aA rfl ?_;simp only[RR,seval];apply y;clear y;refine aI ?_;refine aB fun _ y=>aA rfl ?_;simp only[aD,RR,seval];apply y;clear y;refine aH _ rfl (fun hc1=>?_) (fun hc1=>?_)
  ·refine aB fun _ y=>aA rfl ?_
   simp only[RR,seval];apply y;clear y;refine aO ?_;simp only[bB,aL,bH,RR,seval];refine aZ.pure ?_;rw[wL];intro e;simp [e]at hc1
  have hlen:l.length=m.length:=by
   have :decide ((l.length:Int)=(m.length:Int))=true:=by simpa using hc1
   have:=aC this;omega
  refine aK ?_;try simp only[RR]
  refine aI ?_;refine aB fun _ y=>aA rfl ?_;simp only[aD,RR,seval];apply y;clear y;refine bM fun F1 M1 hfr hH=>?_;have g1:=hfr 1;have g4:=hfr 4;have g13:=hfr 13;have g14:=hfr 14;have g15:=hfr 15
  try simp only[RR,seval]at g1 g4 g13 g14 g15
  have f1:=g1;clear g1;have f4:=g4;clear g4;have f13:=g13;clear g13;have f14:=g14;clear g14;have f15:=g15;clear g15;clear hfr hH;refine aM ?_;refine bZ [1,13,14] (l.length) (fun k fr M=>fr 15= .int .i64 (k:Nat)∧l.take k=m.take k) ⟨f15,rfl⟩ ?_;rintro k F2 M2 hk0 ⟨fx,hk⟩ agx K0 hK0;have f1:=(agx 1 rfl).trans f1;have f13:=(agx 13 rfl).trans f13;have f14:=(agx 14 rfl).trans f14;have f15:=fx;clear fx;have ag0:=bC.refl [1,13,14] F2;clear agx;refine aB fun _ y=>aA rfl ?_;simp only[f14,f15,RR,seval];apply y;clear y;refine aI ?_;refine aH _ rfl (fun hc=>?_) (fun hc=>?_)
  ·have hlt0:k<l.length:=by have:=aC hc;omega
   clear hc;have g1:=aG hlt0;have g2:=aG (show k<m.length by omega);have ga:=yG g1;have gb:=yG g2;have o1:=hol.all _ (bA hlt0);have o2:=hom.all _ (bA (show k<m.length by omega));have z1:=mU (bA hlt0);generalize l[k]=a at *;generalize m[k]=b at *;have z2:=a.sz_eq;have hih:=ih (dR a.kids) (by omega) a.kids b.kids (aY _) o1.kids o2.kids;obtain⟨k1,p1,n1,s1,y1,l1⟩:=a;obtain⟨k2,p2,n2,s2,y2,l2⟩:=b;simp only[CE.kind,CE.op,CE.num,CE.slot,CE.size,CE.kids]at ga gb hih;refine aK ?_;try simp only[RR]
   refine aI ?_;refine aM ?_;refine aB fun _ y=>aA rfl ?_;simp only[f13,f15,ga,RR,seval];refine aP fun b6 hn6=>?_;simp only[RR,seval];apply y;clear y;refine aB fun _ y=>aA rfl ?_;simp only[f1,gb,RR,seval];refine aP fun b7 hn7=>?_;have nb7_b6:b7≠b6:=fun e=>by rw[e]at hn7;simp only[RR,seval,reduceCtorEq]at hn7
   have nb6_b7:b6≠b7:=fun e=>nb7_b6 e.symm;simp only[RR,seval];apply y;clear y;refine aI ?_;refine aB fun _ y=>aA rfl ?_;simp only[nb6_b7,RR,seval]
   repeat' ((first|refine aR (fun h=>?_) (fun h=>?_)|refine aV (fun h=>?_) (fun h=>?_))<;>simp only[h,nb6_b7,RR,seval])
   all_goals
    apply y;clear y;refine aH _ rfl (fun hc7=>?_) (fun hc7=>?_)
    ·try (cases hc7;done)
     all_goals
      refine aB fun _ y=>aA rfl ?_;simp only[RR,seval];apply y;clear y;refine aO ?_;simp only[bB,aL,bH,RR,seval];refine aZ.pure ?_;rw[uP g1 g2];intro e;cases e;simp_all
    try (cases hc7;done)
    all_goals
     refine aK ?_;try simp only[RR]
     refine aB fun _ y=>aA rfl ?_;simp only[nb6_b7,RR,seval];refine aN (hih) ?_;simp only[RR,seval];apply y;clear y;refine aH _ rfl (fun hc9=>?_) (fun hc9=>?_)
     ·refine aB fun _ y=>aA rfl ?_
      simp only[RR,seval];apply y;clear y;refine aO ?_;simp only[bB,aL,bH,RR,seval];refine aZ.pure ?_;rw[uP g1 g2];intro e;cases e;simp [fK]at hc9
     refine aK ?_;try simp only[RR]
     refine aA rfl ?_;simp only[f15,RR,seval]
     try rw[aQ _ (by omega)]
     refine hK0 _ _ hlt0 ⟨by first|rfl|(simp only[aJ,seval];rfl),kV hk g1 g2 (by have hq:=qZ.1 (by simpa using hc9:wD l1 l2=true);simp_all)⟩ (by repeat (first|exact ag0|refine bC.upd rfl ?_))
  have hkn0:k=l.length:=by have:=aF hc;omega
  clear hc;refine bF ?_;simp only[RR,seval];refine aB fun _ y=>aA rfl ?_;simp only[RR,seval];apply y;clear y;refine aO ?_;simp only[bB,aL,bH,RR,seval];refine aZ.pure ?_;rw[hkn0]at hk;rw[jU (eF hlen hk)]
set_option maxHeartbeats 4000000 in
theorem Av (n:Nat): ∀(l m:List CE),dR l≤n→pH l→pH m→cJ cK 57 [.isl 6 (l.map CE.row), .isl 6 (m.map CE.row)] (.bool (wD l m)):=by
 induction n using Nat.strongRecOn with
 |_ n ih=>
  intro l m hn hol hom;have hfl:l.length≤9223372036854775807:=hol.fit;refine bI 94 [.tmp 4] Tryz.func57 rfl rfl rfl rfl ?_;refine aB fun _ y=>aA rfl ?_;simp only[RR,seval];apply y;clear y;refine aI ?_;refine aB fun _ y=>aA rfl ?_;simp only[aD,RR,seval];apply y;clear y;refine aH _ rfl (fun hc1=>?_) (fun hc1=>?_)
  ·refine aB fun _ y=>aA rfl ?_
   simp only[RR,seval];apply y;clear y;refine aO ?_;simp only[bB,aL,bH,RR,seval];refine aZ.pure ?_;rw[wL];intro e;simp [e]at hc1
  have hlen:l.length=m.length:=by
   have :decide ((l.length:Int)=(m.length:Int))=true:=by simpa using hc1
   have:=aC this;omega
  refine aK ?_;try simp only[RR]
  refine aI ?_;refine aB fun _ y=>aA rfl ?_;simp only[RR,seval];apply y;clear y;refine bM fun F1 M1 hfr hH=>?_;have g0:=hfr 0;have g1:=hfr 1;have g4:=hfr 4;have g5:=hfr 5
  try simp only[RR,seval]at g0 g1 g4 g5
  have f0:=g0;clear g0;have f1:=g1;clear g1;have f4:=g4;clear g4;have f5:=g5;clear g5;clear hfr hH;refine aM ?_;refine bZ [0,1] (l.length) (fun k fr M=>fr 5= .int .i64 (k:Nat)∧l.take k=m.take k) ⟨f5,rfl⟩ ?_;rintro k F2 M2 hk0 ⟨fx,hk⟩ agx K0 hK0;have f0:=(agx 0 rfl).trans f0;have f1:=(agx 1 rfl).trans f1;have f5:=fx;clear fx;have ag0:=bC.refl [0,1] F2;clear agx;refine aI ?_;refine aB fun _ y=>aA rfl ?_;simp only[f0,f5,aD,RR,seval];apply y;clear y;refine aH _ rfl (fun hc=>?_) (fun hc=>?_)
  ·have hlt0:k<l.length:=by have:=aC hc;omega
   clear hc;have g1:=aG hlt0;have g2:=aG (show k<m.length by omega);have ga:=yG g1;have gb:=yG g2;have o1:=hol.all _ (bA hlt0);have o2:=hom.all _ (bA (show k<m.length by omega));have z1:=mU (bA hlt0);generalize l[k]=a at *;generalize m[k]=b at *;have z2:=a.sz_eq;have hih:=ih (dR a.kids) (by omega) a.kids b.kids (aY _) o1.kids o2.kids;obtain⟨k1,p1,n1,s1,y1,l1⟩:=a;obtain⟨k2,p2,n2,s2,y2,l2⟩:=b;simp only[CE.kind,CE.op,CE.num,CE.slot,CE.size,CE.kids]at ga gb hih;refine aK ?_;try simp only[RR]
   refine aI ?_;refine aM ?_;refine aB fun K y=>?_;refine bJ (fun x=>True) [(0,3),(1,3),(2,3),(3,3),(4,1),(5,3),(6,3),(7,3),(8,3),(9,1),(10,3),(11,3),(12,3),(13,3),(14,3),(15,3),(16,1),(17,3),(18,3),(19,3),(20,3),(21,1),(22,3),(23,3),(24,3),(25,3),(26,3),(27,3),(28,3),(29,1),(30,3),(31,3),(32,3),(33,3),(34,1),(35,3),(36,3),(37,3),(38,3),(39,3),(40,3),(41,3),(42,1),(43,3),(44,3),(45,3),(46,3),(47,1),(48,3),(49,3),(50,3),(51,3),(52,3),(53,3),(54,3),(55,1),(56,3),(57,3),(58,3),(59,3),(60,1),(61,3),(62,3),(63,3),(64,3),(65,3),(66,3),(67,3),(68,1),(69,3),(70,3),(71,3),(72,3),(73,1),(74,1),(75,3),(76,3)] [] dG (by kernel_rfl) rfl rfl ?_;simp only[cF,f0,f1,f5,ga,gb,Oa,Io,RR,seval]
   all_goals try ((first|refine aR (fun h=>?_) (fun h=>?_)|refine aV (fun h=>?_) (fun h=>?_))<;>simp only[h,f0,f1,f5,ga,gb,RR,seval])
   all_goals try ((first|refine aR (fun h=>?_) (fun h=>?_)|refine aV (fun h=>?_) (fun h=>?_))<;>simp only[h,f0,f1,f5,ga,gb,RR,seval])
   all_goals try ((first|refine aR (fun h=>?_) (fun h=>?_)|refine aV (fun h=>?_) (fun h=>?_))<;>simp only[h,f0,f1,f5,ga,gb,RR,seval])
   all_goals try ((first|refine aR (fun h=>?_) (fun h=>?_)|refine aV (fun h=>?_) (fun h=>?_))<;>simp only[h,f0,f1,f5,ga,gb,RR,seval])
   all_goals try ((first|refine aR (fun h=>?_) (fun h=>?_)|refine aV (fun h=>?_) (fun h=>?_))<;>simp only[h,f0,f1,f5,ga,gb,RR,seval])
   all_goals try (refine aN (hih) ?_;simp only[RR,seval])
   all_goals
    apply y;clear y;refine aH _ rfl (fun hc6=>?_) (fun hc6=>?_)
    ·try (cases hc6;done)
     all_goals
      refine aB fun _ y=>aA rfl ?_;simp only[RR,seval];apply y;clear y;refine aO ?_;simp only[bB,aL,bH,RR,seval];refine aZ.pure ?_;rw[uP g1 g2];intro e;cases e;simp_all [fK]
    try (cases hc6;done)
    all_goals
     refine aK ?_;try simp only[RR]
     refine aA rfl ?_;simp only[f5,RR,seval]
     try rw[aQ _ (by omega)]
     refine hK0 _ _ hlt0 ⟨by first|rfl|(simp only[aJ,seval];rfl),kV hk g1 g2 (by have hq:=qZ.1 (by simpa using hc6:wD l1 l2=true);simp_all)⟩ (by repeat (first|exact ag0|refine bC.upd rfl ?_))
  have hkn0:k=l.length:=by have:=aF hc;omega
  clear hc;refine bF ?_;simp only[RR,seval];refine aB fun _ y=>aA rfl ?_;simp only[RR,seval];apply y;clear y;refine aO ?_;simp only[bB,aL,bH,RR,seval];refine aZ.pure ?_;rw[hkn0]at hk;rw[jU (eF hlen hk)]
set_option maxHeartbeats 4000000 in
theorem Af (n:Nat): ∀(l m:List CS),dB l≤n→uE l→uE m→cJ cK 31 [.isl 6 (l.map CS.row), .isl 6 (m.map CS.row)] (.bool (wD l m)):=by
 induction n using Nat.strongRecOn with
 |_ n ih=>
  intro l m hn hol hom;have hfl:l.length≤9223372036854775807:=hol.fit;refine bI 66 [.tmp 4] Tryz.func31 rfl rfl rfl rfl ?_;refine aB fun _ y=>aA rfl ?_;simp only[RR,seval];apply y;clear y;refine aI ?_;refine aB fun _ y=>aA rfl ?_;simp only[aD,RR,seval];apply y;clear y;refine aH _ rfl (fun hc1=>?_) (fun hc1=>?_)
  ·refine aB fun _ y=>aA rfl ?_
   simp only[RR,seval];apply y;clear y;refine aO ?_;simp only[bB,aL,bH,RR,seval];refine aZ.pure ?_;rw[wL];intro e;simp [e]at hc1
  have hlen:l.length=m.length:=by
   have :decide ((l.length:Int)=(m.length:Int))=true:=by simpa using hc1
   have:=aC this;omega
  refine aK ?_;try simp only[RR]
  refine aI ?_;refine aB fun _ y=>aA rfl ?_;simp only[aD,RR,seval];apply y;clear y;refine bM fun F1 M1 hfr hH=>?_;have g1:=hfr 1;have g4:=hfr 4;have g13:=hfr 13;have g14:=hfr 14;have g15:=hfr 15
  try simp only[RR,seval]at g1 g4 g13 g14 g15
  have f1:=g1;clear g1;have f4:=g4;clear g4;have f13:=g13;clear g13;have f14:=g14;clear g14;have f15:=g15;clear g15;clear hfr hH;refine aM ?_;refine bZ [1,13,14] (l.length) (fun k fr M=>fr 15= .int .i64 (k:Nat)∧l.take k=m.take k) ⟨f15,rfl⟩ ?_;rintro k F2 M2 hk0 ⟨fx,hk⟩ agx K0 hK0;have f1:=(agx 1 rfl).trans f1;have f13:=(agx 13 rfl).trans f13;have f14:=(agx 14 rfl).trans f14;have f15:=fx;clear fx;have ag0:=bC.refl [1,13,14] F2;clear agx;refine aB fun _ y=>aA rfl ?_;simp only[f14,f15,RR,seval];apply y;clear y;refine aI ?_;refine aH _ rfl (fun hc=>?_) (fun hc=>?_)
  ·have hlt0:k<l.length:=by have:=aC hc;omega
   clear hc;have g1:=aG hlt0;have g2:=aG (show k<m.length by omega);have ga:=yF g1;have gb:=yF g2;have o1:=hol.all _ (bA hlt0);have o2:=hom.all _ (bA (show k<m.length by omega));have z1:=mT (bA hlt0);generalize l[k]=a at *;generalize m[k]=b at *;have z2:=a.sz_eq;have hx:=Ag (dR a.es) a.es b.es (aY _) o1.es o2.es;have ht:=ih (dB a.thn) (by omega) a.thn b.thn (aY _) o1.thn o2.thn;have hu:=ih (dB a.els) (by omega) a.els b.els (aY _) o1.els o2.els;obtain⟨k1,s1,y1,l1,t1,u1⟩:=a;obtain⟨k2,s2,y2,l2,t2,u2⟩:=b;simp only[CS.kind,CS.slot,CS.size,CS.es,CS.thn,CS.els]at ga gb hx ht hu;refine aK ?_;try simp only[RR]
   refine aI ?_;refine aM ?_;refine aB fun _ y=>aA rfl ?_;simp only[f13,f15,ga,RR,seval];refine aP fun b6 hn6=>?_;simp only[RR,seval];apply y;clear y;refine aB fun _ y=>aA rfl ?_;simp only[f1,gb,RR,seval];refine aP fun b7 hn7=>?_;have nb7_b6:b7≠b6:=fun e=>by rw[e]at hn7;simp only[RR,seval,reduceCtorEq]at hn7
   have nb6_b7:b6≠b7:=fun e=>nb7_b6 e.symm;simp only[RR,seval];apply y;clear y;refine aI ?_;refine aB fun _ y=>aA rfl ?_;simp only[nb6_b7,RR,seval]
   all_goals try ((first|refine aR (fun h=>?_) (fun h=>?_)|refine aV (fun h=>?_) (fun h=>?_))<;>simp only[h,nb6_b7,RR,seval])
   all_goals try ((first|refine aR (fun h=>?_) (fun h=>?_)|refine aV (fun h=>?_) (fun h=>?_))<;>simp only[h,nb6_b7,RR,seval])
   all_goals try ((first|refine aR (fun h=>?_) (fun h=>?_)|refine aV (fun h=>?_) (fun h=>?_))<;>simp only[h,nb6_b7,RR,seval])
   all_goals try (refine aN (hx) ?_;simp only[RR,seval])
   all_goals
    apply y;clear y;refine aH _ rfl (fun hc7=>?_) (fun hc7=>?_)
    ·try (cases hc7;done)
     all_goals
      refine aB fun _ y=>aA rfl ?_;simp only[RR,seval];apply y;clear y;refine aO ?_;simp only[bB,aL,bH,RR,seval];refine aZ.pure ?_;rw[uP g1 g2];intro e;cases e;simp_all [fK]
    try (cases hc7;done)
    all_goals
     refine aK ?_;try simp only[RR]
     refine aB fun _ y=>aA rfl ?_;simp only[nb6_b7,RR,seval]
     all_goals try (refine aN (ht) ?_;simp only[RR,seval])
     all_goals try ((first|refine aR (fun h=>?_) (fun h=>?_)|refine aV (fun h=>?_) (fun h=>?_))<;>simp only[h,nb6_b7,RR,seval])
     all_goals try (refine aN (hu) ?_;simp only[RR,seval])
     all_goals
      apply y;clear y;refine aH _ rfl (fun hc9=>?_) (fun hc9=>?_)
      ·try (cases hc9;done)
       all_goals
        refine aB fun _ y=>aA rfl ?_;simp only[RR,seval];apply y;clear y;refine aO ?_;simp only[bB,aL,bH,RR,seval];refine aZ.pure ?_;rw[uP g1 g2];intro e;cases e;simp_all [fK]
      try (cases hc9;done)
      all_goals
       refine aK ?_;try simp only[RR]
       refine aA rfl ?_;simp only[f15,RR,seval]
       try rw[aQ _ (by omega)]
       refine hK0 _ _ hlt0 ⟨by first|rfl|(simp only[aJ,seval];rfl),kV hk g1 g2 (by simp_all [qZ])⟩ (by repeat (first|exact ag0|refine bC.upd rfl ?_))
  have hkn0:k=l.length:=by have:=aF hc;omega
  clear hc;refine bF ?_;simp only[RR,seval];refine aB fun _ y=>aA rfl ?_;simp only[RR,seval];apply y;clear y;refine aO ?_;simp only[bB,aL,bH,RR,seval];refine aZ.pure ?_;rw[hkn0]at hk;rw[jU (eF hlen hk)]
set_option maxHeartbeats 4000000 in
theorem Au (n:Nat): ∀(l m:List CS),dB l≤n→uE l→uE m→cJ cK 30 [.isl 6 (l.map CS.row), .isl 6 (m.map CS.row)] (.bool (wD l m)):=by
 induction n using Nat.strongRecOn with
 |_ n ih=>
  intro l m hn hol hom;have hfl:l.length≤9223372036854775807:=hol.fit;refine bI 96 [.tmp 4] Tryz.func30 rfl rfl rfl rfl ?_;refine aB fun _ y=>aA rfl ?_;simp only[RR,seval];apply y;clear y;refine aI ?_;refine aB fun _ y=>aA rfl ?_;simp only[aD,RR,seval];apply y;clear y;refine aH _ rfl (fun hc1=>?_) (fun hc1=>?_)
  ·refine aB fun _ y=>aA rfl ?_
   simp only[RR,seval];apply y;clear y;refine aO ?_;simp only[bB,aL,bH,RR,seval];refine aZ.pure ?_;rw[wL];intro e;simp [e]at hc1
  have hlen:l.length=m.length:=by
   have :decide ((l.length:Int)=(m.length:Int))=true:=by simpa using hc1
   have:=aC this;omega
  refine aK ?_;try simp only[RR]
  refine aI ?_;refine aB fun _ y=>aA rfl ?_;simp only[RR,seval];apply y;clear y;refine bM fun F1 M1 hfr hH=>?_;have g0:=hfr 0;have g1:=hfr 1;have g4:=hfr 4;have g5:=hfr 5
  try simp only[RR,seval]at g0 g1 g4 g5
  have f0:=g0;clear g0;have f1:=g1;clear g1;have f4:=g4;clear g4;have f5:=g5;clear g5;clear hfr hH;refine aM ?_;refine bZ [0,1] (l.length) (fun k fr M=>fr 5= .int .i64 (k:Nat)∧l.take k=m.take k) ⟨f5,rfl⟩ ?_;rintro k F2 M2 hk0 ⟨fx,hk⟩ agx K0 hK0;have f0:=(agx 0 rfl).trans f0;have f1:=(agx 1 rfl).trans f1;have f5:=fx;clear fx;have ag0:=bC.refl [0,1] F2;clear agx;refine aI ?_;refine aB fun _ y=>aA rfl ?_;simp only[f0,f5,aD,RR,seval];apply y;clear y;refine aH _ rfl (fun hc=>?_) (fun hc=>?_)
  ·have hlt0:k<l.length:=by have:=aC hc;omega
   clear hc;have g1:=aG hlt0;have g2:=aG (show k<m.length by omega);have ga:=yF g1;have gb:=yF g2;have o1:=hol.all _ (bA hlt0);have o2:=hom.all _ (bA (show k<m.length by omega));have z1:=mT (bA hlt0);generalize l[k]=a at *;generalize m[k]=b at *;have z2:=a.sz_eq;have hx:=Av (dR a.es) a.es b.es (aY _) o1.es o2.es;have ht:=ih (dB a.thn) (by omega) a.thn b.thn (aY _) o1.thn o2.thn;have hu:=ih (dB a.els) (by omega) a.els b.els (aY _) o1.els o2.els;obtain⟨k1,s1,y1,l1,t1,u1⟩:=a;obtain⟨k2,s2,y2,l2,t2,u2⟩:=b;simp only[CS.kind,CS.slot,CS.size,CS.es,CS.thn,CS.els]at ga gb hx ht hu;refine aK ?_;try simp only[RR]
   refine aI ?_;refine aM ?_;refine aB fun K y=>?_;refine bJ (fun x=>True) [(0,3),(1,3),(2,3),(3,3),(4,1),(5,3),(6,3),(7,3),(8,3),(9,1),(10,3),(11,3),(12,3),(13,3),(14,3),(15,3),(16,1),(17,3),(18,3),(19,3),(20,3),(21,1),(22,3),(23,3),(24,3),(25,3),(26,3),(27,3),(28,3),(29,1),(30,3),(31,3),(32,3),(33,3),(34,1),(35,3),(36,3),(37,3),(38,3),(39,3),(40,3),(41,3),(42,1),(43,3),(44,3),(45,3),(46,3),(47,1),(48,1),(49,3),(50,3),(51,3),(52,3),(53,3),(54,3),(55,3),(56,1),(57,3),(58,3),(59,3),(60,3),(61,1),(62,1),(63,3),(64,3),(65,3),(66,3),(67,3),(68,3),(69,3),(70,1),(71,3),(72,3),(73,3),(74,3),(75,1),(76,1),(77,3),(78,3)] [] dG (by kernel_rfl) rfl rfl ?_;simp only[cF,f0,f1,f5,ga,gb,Oa,Io,RR,seval]
   all_goals try ((first|refine aR (fun h=>?_) (fun h=>?_)|refine aV (fun h=>?_) (fun h=>?_))<;>simp only[h,f0,f1,f5,ga,gb,RR,seval])
   all_goals try ((first|refine aR (fun h=>?_) (fun h=>?_)|refine aV (fun h=>?_) (fun h=>?_))<;>simp only[h,f0,f1,f5,ga,gb,RR,seval])
   all_goals try ((first|refine aR (fun h=>?_) (fun h=>?_)|refine aV (fun h=>?_) (fun h=>?_))<;>simp only[h,f0,f1,f5,ga,gb,RR,seval])
   all_goals try (refine aN (hx) ?_;simp only[RR,seval])
   all_goals try ((first|refine aR (fun h=>?_) (fun h=>?_)|refine aV (fun h=>?_) (fun h=>?_))<;>simp only[h,f0,f1,f5,ga,gb,RR,seval])
   all_goals try (refine aN (ht) ?_;simp only[RR,seval])
   all_goals try ((first|refine aR (fun h=>?_) (fun h=>?_)|refine aV (fun h=>?_) (fun h=>?_))<;>simp only[h,f0,f1,f5,ga,gb,RR,seval])
   all_goals try (refine aN (hu) ?_;simp only[RR,seval])
   all_goals
    apply y;clear y;refine aH _ rfl (fun hc6=>?_) (fun hc6=>?_)
    ·try (cases hc6;done)
     all_goals
      refine aB fun _ y=>aA rfl ?_;simp only[RR,seval];apply y;clear y;refine aO ?_;simp only[bB,aL,bH,RR,seval];refine aZ.pure ?_;rw[uP g1 g2];intro e;cases e;simp_all [fK]
    try (cases hc6;done)
    all_goals
     refine aK ?_;try simp only[RR]
     refine aA rfl ?_;simp only[f5,RR,seval]
     try rw[aQ _ (by omega)]
     refine hK0 _ _ hlt0 ⟨by first|rfl|(simp only[aJ,seval];rfl),kV hk g1 g2 (by simp_all [qZ])⟩ (by repeat (first|exact ag0|refine bC.upd rfl ?_))
  have hkn0:k=l.length:=by have:=aF hc;omega
  clear hc;refine bF ?_;simp only[RR,seval];refine aB fun _ y=>aA rfl ?_;simp only[RR,seval];apply y;clear y;refine aO ?_;simp only[bB,aL,bH,RR,seval];refine aZ.pure ?_;rw[hkn0]at hk;rw[jU (eF hlen hk)]
end Go.Proofs.YtnfbbjhdflhmjaaGreatDoor
