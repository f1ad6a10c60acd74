/- Chapter 14: are statements and programs alike? Both sides. -/
import Derived.Test.YtaecpjgmcffliaaGreatDoorBk
set_option linter.unusedSimpArgs false
set_option linter.unusedVariables false
set_option maxRecDepth 10000
namespace Go.Proofs.YtaecpjgmcffliaaGreatDoor
open Go.Al
theorem Q7 {α:Type} (m:List α):List.append [] m=m:=rfl
theorem I5 {α:Type} (a:α) (l m:List α):List.append (a::l) m=a::List.append l m:=rfl
set_option maxHeartbeats 4000000 in
theorem zX (n:Nat): ∀(l m:List Sm),gH l≤n→rI l→rI m→cM cG 49 [.isl 5 (l.map Sm.row), .isl 5 (m.map Sm.row)] (.bool (Qm l m)):=by
 induction n using Nat.strongRecOn with
 |_ n ih=>
  intro l m hn hol hom;have hfl:l.length≤9223372036854775807:=hol.fit;refine bM 83 [.tmp 4] Tryz.func49 rfl rfl rfl rfl ?_;refine aB fun _ y=>aA rfl ?_;simp only[RR,seval];apply y;clear y;refine aJ ?_;refine aB fun _ y=>aA rfl ?_;simp only[aC,RR,seval];apply y;clear y;refine aH _ rfl (fun hc1=>?_) (fun hc1=>?_)
  ·refine aB fun _ y=>aA rfl ?_
   simp only[RR,seval];apply y;clear y;refine aM ?_;simp only[aZ,aL,bJ,RR,seval];refine bB.pure ?_;rw[En];intro e;simp [e]at hc1
  have hlen:l.length=m.length:=by
   have :decide ((l.length:Int)=(m.length:Int))=true:=by simpa using hc1
   have:=aD this;omega
  refine aK ?_;try simp only[RR]
  refine aJ ?_;refine aB fun _ y=>aA rfl ?_;simp only[RR,seval];apply y;clear y;refine bN fun F1 M1 hfr hH=>?_;have g0:=hfr 0;have g1:=hfr 1;have g4:=hfr 4;have g5:=hfr 5
  try simp only[RR,seval]at g0 g1 g4 g5
  have f0:=g0;clear g0;have f1:=g1;clear g1;have f4:=g4;clear g4;have f5:=g5;clear g5;clear hfr hH;refine aN ?_;refine cF [0,1] (l.length) (fun k fr M=>fr 5= .int .i64 (k:Nat)∧l.take k=m.take k) ⟨f5,rfl⟩ ?_;rintro k F2 M2 hk0 ⟨fx,hk⟩ agx K0 hK0;have f0:=(agx 0 rfl).trans f0;have f1:=(agx 1 rfl).trans f1;have f5:=fx;clear fx;have ag0:=aY.refl [0,1] F2;clear agx;refine aJ ?_;refine aB fun _ y=>aA rfl ?_;simp only[f0,f5,aC,RR,seval];apply y;clear y;refine aH _ rfl (fun hc=>?_) (fun hc=>?_)
  ·have hlt0:k<l.length:=by have:=aD hc;omega
   clear hc;have g1:=aG hlt0;have g2:=aG (show k<m.length by omega);have ga:=sC g1;have gb:=sC g2;have o1:=hol.all _ (bE hlt0);have o2:=hom.all _ (bE (show k<m.length by omega));have z1:=eS (bE hlt0);generalize l[k]=a at *;generalize m[k]=b at *;have z2:=a.sz_eq;have hx:=zY (jA a.es) a.es b.es (bF _) o1.es o2.es;have ht:=ih (gH a.thn) (by omega) a.thn b.thn (bF _) o1.thn o2.thn;have hu:=ih (gH a.els) (by omega) a.els b.els (bF _) o1.els o2.els;obtain⟨k1,s1,l1,t1,u1⟩:=a;obtain⟨k2,s2,l2,t2,u2⟩:=b;simp only[Sm.kind,Sm.name,Sm.es,Sm.thn,Sm.els]at ga gb hx ht hu;refine aK ?_;try simp only[RR]
   refine aJ ?_;refine aN ?_;refine aB fun K y=>?_;refine bK (fun x=>True) [(0,3),(1,3),(2,3),(3,3),(4,1),(5,3),(6,3),(7,3),(8,3),(9,1),(10,3),(11,3),(12,3),(13,3),(14,3),(15,3),(16,1),(17,3),(18,3),(19,3),(20,3),(21,1),(22,3),(23,3),(24,3),(25,3),(26,3),(27,3),(28,3),(29,1),(30,3),(31,3),(32,3),(33,3),(34,1),(35,1),(36,3),(37,3),(38,3),(39,3),(40,3),(41,3),(42,3),(43,1),(44,3),(45,3),(46,3),(47,3),(48,1),(49,1),(50,3),(51,3),(52,3),(53,3),(54,3),(55,3),(56,3),(57,1),(58,3),(59,3),(60,3),(61,3),(62,1),(63,1),(64,3),(65,3)] [] cX (by kernel_rfl) rfl rfl ?_;simp only[cO,f0,f1,f5,ga,gb,Q7,I5,RR,seval]
   all_goals try ((first|refine aO (fun h=>?_) (fun h=>?_)|refine aR (fun h=>?_) (fun h=>?_))<;>simp only[h,f0,f1,f5,ga,gb,RR,seval])
   all_goals try ((first|refine aO (fun h=>?_) (fun h=>?_)|refine aR (fun h=>?_) (fun h=>?_))<;>simp only[h,f0,f1,f5,ga,gb,RR,seval])
   all_goals try (refine aP (hx) ?_;simp only[RR,seval])
   all_goals try ((first|refine aO (fun h=>?_) (fun h=>?_)|refine aR (fun h=>?_) (fun h=>?_))<;>simp only[h,f0,f1,f5,ga,gb,RR,seval])
   all_goals try (refine aP (ht) ?_;simp only[RR,seval])
   all_goals try ((first|refine aO (fun h=>?_) (fun h=>?_)|refine aR (fun h=>?_) (fun h=>?_))<;>simp only[h,f0,f1,f5,ga,gb,RR,seval])
   all_goals try (refine aP (hu) ?_;simp only[RR,seval])
   all_goals
    apply y;clear y;refine aH _ rfl (fun hc6=>?_) (fun hc6=>?_)
    ·try (cases hc6;done)
     all_goals
      refine aB fun _ y=>aA rfl ?_;simp only[RR,seval];apply y;clear y;refine aM ?_;simp only[aZ,aL,bJ,RR,seval];refine bB.pure ?_;rw[xN g1 g2];intro e;cases e;simp_all [sJ]
    try (cases hc6;done)
    all_goals
     refine aK ?_;try simp only[RR]
     refine aA rfl ?_;simp only[f5,RR,seval]
     try rw[aV _ (by omega)]
     refine hK0 _ _ hlt0 ⟨by first|rfl|(simp only[aF,seval];rfl),mB hk g1 g2 (by simp_all [vO])⟩ (by repeat (first|exact ag0|refine aY.upd rfl ?_))
  have hkn0:k=l.length:=by have:=aE hc;omega
  clear hc;refine bI ?_;simp only[RR,seval];refine aB fun _ y=>aA rfl ?_;simp only[RR,seval];apply y;clear y;refine aM ?_;simp only[aZ,aL,bJ,RR,seval];refine bB.pure ?_;rw[hkn0]at hk;rw[kA (iH hlen hk)]
theorem Zr {p q:Pg} (h: ¬(p.vars=q.vars∧p.arrs=q.arrs∧p.funs=q.funs)):Qm p q=false:=pW fun e=>h (by subst e;exact⟨rfl,rfl,rfl⟩)
theorem AO {p q:Pg} (h1:p.vars=q.vars) (h2:p.arrs=q.arrs) (h3:p.funs=q.funs):Qm p q=true:=kA (by cases p;cases q;simp_all)
set_option maxHeartbeats 4000000 in
theorem J1 (p q:Pg) (hp:p.ok) (hq:q.ok):cM cG 24 [p.av,q.av] (.bool (Qm p q)):=by
 have hv:=sY p.vars q.vars hp.vars.fit hq.vars.fit;have fa:p.arrs.length≤9223372036854775807:=hp.afit;have ff:p.funs.length≤9223372036854775807:=hp.ffit;have hav:p.av= .agg p.row:=rfl;have hrow:p.row=[.isl 1 (p.vars.map bG), .isl 2 (p.arrs.map Ar.row), .isl 5 (p.funs.map Fu.row)]:=rfl;have hav2:q.av= .agg q.row:=rfl;have hrow2:q.row=[.isl 1 (q.vars.map bG), .isl 2 (q.arrs.map Ar.row), .isl 5 (q.funs.map Fu.row)]:=rfl;rw[hav,hrow,hav2,hrow2];refine bM 104 [.tmp 4] Tryz.func24 rfl rfl rfl rfl ?_;refine aB fun _ y=>aA rfl ?_;simp only[RR,seval];refine aT fun b2 hn2=>?_;simp only[RR,seval];refine aT fun b3 hn3=>?_;have nb3_b2:b3≠b2:=fun e=>by rw[e]at hn3;simp only[RR,seval,reduceCtorEq]at hn3
 have nb2_b3:b2≠b3:=fun e=>nb3_b2 e.symm;simp only[RR,seval];apply y;clear y;refine aJ ?_;refine aB fun _ y=>aA rfl ?_;simp only[nb2_b3,RR,seval]
 all_goals try (refine aP (hv) ?_;simp only[RR,seval])
 all_goals try ((first|refine aO (fun h=>?_) (fun h=>?_)|refine aR (fun h=>?_) (fun h=>?_))<;>simp only[h,nb2_b3,aC,RR,seval])
 all_goals try ((first|refine aO (fun h=>?_) (fun h=>?_)|refine aR (fun h=>?_) (fun h=>?_))<;>simp only[h,nb2_b3,aC,RR,seval])
 all_goals
  apply y;clear y;refine aH _ rfl (fun hc1=>?_) (fun hc1=>?_)
  ·try (cases hc1;done)
   all_goals
    refine aB fun _ y=>aA rfl ?_;simp only[RR,seval];apply y;clear y;refine aM ?_;simp only[aZ,aL,bJ,RR,seval];refine bB.pure ?_;rw[Zr];rintro⟨h1,h2,h3⟩;simp_all [sJ]
  try (cases hc1;done)
  all_goals
   have hvv:p.vars=q.vars:=by simp_all [vO]
   have hla:p.arrs.length=q.arrs.length:=by simp_all<;>omega
   have hlf:p.funs.length=q.funs.length:=by simp_all<;>omega
   refine aK ?_;try simp only[RR]
   refine aJ ?_;refine aB fun _ y=>aA rfl ?_;simp only[RR,seval];apply y;clear y;refine bN fun F1 M1 hfr hH=>?_;have g2:=hfr 2;have g3:=hfr 3;have g4:=hfr 4;have g5:=hfr 5;have gb2:=hH b2;have gb3:=hH b3
   try simp only[nb2_b3,RR,seval]at g2 g3 g4 g5 gb2 gb3
   have f2:=g2;clear g2;have f3:=g3;clear g3;have f4:=g4;clear g4;have f5:=g5;clear g5;have hb2:=gb2;clear gb2;have hb3:=gb3;clear gb3;clear hfr hH;refine aN ?_;refine cF [2,3] (p.arrs.length) (fun k fr M=>fr 5= .int .i64 (k:Nat)∧M b2=M1 b2∧M b3=M1 b3∧p.arrs.take k=q.arrs.take k) ⟨f5,rfl,rfl,rfl⟩ ?_;rintro k F2 M2 hk0 ⟨fx,gb2,gb3,hk⟩ agx K0 hK0;have f2:=(agx 2 rfl).trans f2;have f3:=(agx 3 rfl).trans f3;have f5:=fx;clear fx;have hb2:=gb2.trans hb2;have hb3:=gb3.trans hb3;have ag0:=aY.refl [2,3] F2;have e0_b2:=gb2;clear gb2;have e0_b3:=gb3;clear gb3;clear agx;refine aJ ?_;refine aB fun _ y=>aA rfl ?_;simp only[f2,f5,hb2,aC,RR,seval];apply y;clear y;refine aH _ rfl (fun hc=>?_) (fun hc=>?_)
   ·have hlt0:k<p.arrs.length:=by have:=aD hc;omega
    clear hc;have g1:=aG hlt0;have g2:=aG (show k<q.arrs.length by omega);have ga:=Ip g1;have gb:=Ip g2;generalize p.arrs[k]=a at *;generalize q.arrs[k]=b at *;obtain⟨n1,s1⟩:=a;obtain⟨n2,s2⟩:=b;simp only at ga gb;refine aK ?_;try simp only[RR]
    refine aJ ?_;refine aN ?_;refine aB fun K y=>?_;refine bK (fun x=>x≠b2∧x≠b3) [(0,3),(1,1),(2,3),(3,3),(4,1),(5,3),(6,1),(7,3),(8,3),(9,1),(10,3)] [] cX (by kernel_rfl) rfl rfl ?_;simp only[cO,f2,f3,f5,hb2,hb3,ga,gb,RR,seval];apply y;clear y;refine aH _ rfl (fun hc6=>?_) (fun hc6=>?_)
    ·refine aB fun _ y=>aA rfl ?_
     simp only[RR,seval];apply y;clear y;refine aM ?_;simp only[aZ,aL,bJ,RR,seval];refine bB.pure ?_;rw[Zr];rintro⟨h1,h2,h3⟩;have:=A0 (xN g1 g2 (by rintro e;cases e;simp_all));exact this h2
    refine aK ?_;try simp only[RR]
    refine aA rfl ?_;simp only[f5,RR,seval]
    try rw[aV _ (by omega)]
    refine hK0 _ _ hlt0 ⟨by first|rfl|(simp only[aF,seval];rfl),(by first|exact e0_b2|(simp only[nb3_b2,nb2_b3,aF,seval];first|done|exact e0_b2)),(by first|exact e0_b3|(simp only[nb3_b2,nb2_b3,aF,seval];first|done|exact e0_b3)),mB hk g1 g2 (by simp_all)⟩ (by repeat (first|exact ag0|refine aY.upd rfl ?_))
   have hkn0:k=p.arrs.length:=by have:=aE hc;omega
   clear hc;have haa:p.arrs=q.arrs:=iH hla (by rw[hkn0]at hk;exact hk);refine bI ?_;simp only[RR,seval];refine aJ ?_;refine aB fun _ y=>aA rfl ?_;simp only[RR,seval];apply y;clear y;refine bN fun F3 M3 hfr hH=>?_;have g2:=hfr 2;have g3:=hfr 3;have g4:=hfr 4;have g6:=hfr 6;have gb2:=hH b2;have gb3:=hH b3
   try simp only[f2,f3,hb2,hb3,RR,seval]at g2 g3 g4 g6 gb2 gb3
   have f2:=g2;clear g2;have f3:=g3;clear g3;have f4:=g4;clear g4;have f6:=g6;clear g6;have hb2:=gb2;clear gb2;have hb3:=gb3;clear gb3;clear hfr hH;refine aN ?_;refine cF [2,3] (p.funs.length) (fun k fr M=>fr 6= .int .i64 (k:Nat)∧M b2=M3 b2∧M b3=M3 b3∧p.funs.take k=q.funs.take k) ⟨f6,rfl,rfl,rfl⟩ ?_;rintro k F4 M4 hk2 ⟨fx,gb2,gb3,hk⟩ agx K2 hK2;have f2:=(agx 2 rfl).trans f2;have f3:=(agx 3 rfl).trans f3;have f6:=fx;clear fx;have hb2:=gb2.trans hb2;have hb3:=gb3.trans hb3;have ag2:=aY.refl [2,3] F4;have e2_b2:=gb2;clear gb2;have e2_b3:=gb3;clear gb3;clear agx;refine aJ ?_;refine aB fun _ y=>aA rfl ?_;simp only[f2,f6,hb2,aC,RR,seval];apply y;clear y;refine aH _ rfl (fun hc=>?_) (fun hc=>?_)
   ·have hlt2:k<p.funs.length:=by have:=aD hc;omega
    clear hc;have g1:=aG hlt2;have g2:=aG (show k<q.funs.length by omega);have ga:=jK g1;have gb:=jK g2;have o1:=hp.funs _ (bE hlt2);have o2:=hq.funs _ (bE (show k<q.funs.length by omega));generalize p.funs[k]=a at *;generalize q.funs[k]=b at *;have c1:=sY a.params b.params o1.params.fit o2.params.fit;have c2:=sY a.locs b.locs o1.locs.fit o2.locs.fit;have c3:=zX (gH a.body) a.body b.body (bF _) o1.body o2.body;obtain⟨n1,p1,l1,w1,d1⟩:=a;obtain⟨n2,p2,l2,w2,d2⟩:=b;simp only at ga gb c1 c2 c3;refine aK ?_;try simp only[RR]
    refine aJ ?_;refine aN ?_;refine aB fun _ y=>aA rfl ?_;simp only[f2,f6,hb2,ga,RR,seval];refine aT fun b7 hn7=>?_;have nb7_b2:b7≠b2:=fun e=>by rw[e]at hn7;simp only[hb2,seval,reduceCtorEq]at hn7
    have nb2_b7:b2≠b7:=fun e=>nb7_b2 e.symm;have nb7_b3:b7≠b3:=fun e=>by rw[e]at hn7;simp only[hb3,seval,reduceCtorEq]at hn7
    have nb3_b7:b3≠b7:=fun e=>nb7_b3 e.symm;simp only[RR,seval];apply y;clear y;refine aB fun _ y=>aA rfl ?_;simp only[f3,f6,hb3,nb3_b7,gb,RR,seval];refine aT fun b8 hn8=>?_;have nb8_b2:b8≠b2:=fun e=>by rw[e]at hn8;simp only[hb2,nb2_b7,RR,seval,reduceCtorEq]at hn8
    have nb2_b8:b2≠b8:=fun e=>nb8_b2 e.symm;have nb8_b3:b8≠b3:=fun e=>by rw[e]at hn8;simp only[hb3,nb3_b7,RR,seval,reduceCtorEq]at hn8
    have nb3_b8:b3≠b8:=fun e=>nb8_b3 e.symm;have nb8_b7:b8≠b7:=fun e=>by rw[e]at hn8;simp only[RR,seval,reduceCtorEq]at hn8
    have nb7_b8:b7≠b8:=fun e=>nb8_b7 e.symm;simp only[RR,seval];apply y;clear y;refine aB fun _ y=>aA rfl ?_;simp only[nb7_b8,RR,seval]
    all_goals try ((first|refine aO (fun h=>?_) (fun h=>?_)|refine aR (fun h=>?_) (fun h=>?_))<;>simp only[h,nb7_b8,RR,seval])
    all_goals try ((first|refine aO (fun h=>?_) (fun h=>?_)|refine aR (fun h=>?_) (fun h=>?_))<;>simp only[h,nb7_b8,RR,seval])
    all_goals try (refine aP (c1) ?_;simp only[RR,seval])
    all_goals try ((first|refine aO (fun h=>?_) (fun h=>?_)|refine aR (fun h=>?_) (fun h=>?_))<;>simp only[h,nb7_b8,RR,seval])
    all_goals try (refine aP (c2) ?_;simp only[RR,seval])
    all_goals try ((first|refine aO (fun h=>?_) (fun h=>?_)|refine aR (fun h=>?_) (fun h=>?_))<;>simp only[h,nb7_b8,RR,seval])
    all_goals try (refine aP (c3) ?_;simp only[RR,seval])
    all_goals
     apply y;clear y;refine aH _ rfl (fun hc13=>?_) (fun hc13=>?_)
     ·try (cases hc13;done)
      all_goals
       refine aB fun _ y=>aA rfl ?_;simp only[RR,seval];apply y;clear y;refine aM ?_;simp only[aZ,aL,bJ,RR,seval];refine bB.pure ?_;rw[Zr];rintro⟨h1,h2,h3⟩;have:=A0 (xN g1 g2 (by rintro e;cases e;simp_all [sJ]));exact this h3
     try (cases hc13;done)
     all_goals
      refine aK ?_;try simp only[RR]
      refine aA rfl ?_;simp only[f6,RR,seval]
      try rw[aV _ (by omega)]
      refine hK2 _ _ hlt2 ⟨by first|rfl|(simp only[aF,seval];rfl),(by first|exact e2_b2|(simp only[nb2_b7,nb2_b8,aF,seval];first|done|exact e2_b2)),(by first|exact e2_b3|(simp only[nb3_b7,nb3_b8,aF,seval];first|done|exact e2_b3)),mB hk g1 g2 (by simp_all [vO])⟩ (by repeat (first|exact ag2|refine aY.upd rfl ?_))
   have hkn2:k=p.funs.length:=by have:=aE hc;omega
   clear hc;refine bI ?_;simp only[RR,seval];refine aB fun _ y=>aA rfl ?_;simp only[RR,seval];apply y;clear y;refine aM ?_;simp only[aZ,aL,bJ,RR,seval];refine bB.pure ?_;rw[hkn2]at hk;rw[AO hvv haa (iH hlf hk)]
end Go.Proofs.YtaecpjgmcffliaaGreatDoor
namespace Go.Proofs.YtaecpjgmcffliaaGreatDoor
open Go.Al
theorem Fz {p:Pg} {f:Fu} (h:dY (fun l=>l.all lJ) p=true) (hf:p.funs=[f]):zC p=(iZ f.body++[36],0):=by
 unfold zC;rw[if_pos h,hf]
theorem zW (p:Pg) (hp:Fg p) (q:Pg) (hq:Fg q):cM cG 8 [p.av,q.av] (.bool true):=by
 have hF:=tR p hp;have hG:=tR q hq;have hA:=Ce;have k1:=fun h=>mK p hp.ok (jZ hp h) (Dk hp);have k2:=fun h=>mK q hq.ok (jZ hq h) (Dk hq);have k3:=fun h=>nK p hp.ok (jZ hp h);have k4:=fun h=>nK q hq.ok (jZ hq h);rw[←qV]at k3 k4
 have key:dY (fun l=>l.all lJ) p=true→dY (fun l=>l.all lJ) q=true→ ∃f g,p.funs=[f]∧q.funs=[g]∧(zC p).2=0∧(zC q).2=0∧ ∃res,cM cG 24 [p.av,Pg.av ⟨p.vars,p.arrs,[⟨f.name,f.params,f.locs,f.word,g.body⟩]⟩] (.bool res)∧decide ((zC p).1=(zC q).1)=res:=by
  intro h1 h2;obtain⟨f,hf,sf⟩:=wH hp.ok h1;obtain⟨g,hg,sg⟩:=wH hq.ok h2;have e1:=Fz h1 hf;have e2:=Fz h2 hg;have of1:=hp.ok.funs f (by rw[hf];exact List.mem_singleton.2 rfl);have og1:=hq.ok.funs g (by rw[hg];exact List.mem_singleton.2 rfl);refine⟨f,g,hf,hg,by rw[e1],by rw[e2],_,J1 p _ hp.ok ⟨hp.ok.vars,hp.ok.afit,hp.ok.arrs,by simp [cQ],fun x hx=>by rw[List.mem_singleton]at hx;subst hx;exact⟨of1.name,of1.params,of1.locs,og1.body⟩⟩, ?_⟩;rw[e1,e2];by_cases c:f.body=g.body
  ·have :p=⟨p.vars,p.arrs,[⟨f.name,f.params,f.locs,f.word,g.body⟩]⟩:=by
    obtain⟨a,b,d⟩:=p;simp only at hf;subst hf;rw[←c]
   rw[kA this];exact bQ (by rw[c])
  rw[pW]
  ·refine aX fun e=>c ?_
   exact Yu sf sg (List.append_cancel_right e)
  intro e;apply c;have:=congrArg Pg.funs e;rw[hf]at this;simp only[List.cons.injEq,and_true]at this;rw[this]
 generalize dY (fun l=>l.all lJ) p=sb at *;generalize dY (fun l=>l.all lJ) q=sc at *;generalize(zC p).1=tx at *;generalize(zC p).2=te at *;generalize(zC q).1=ux at *;generalize(zC q).2=ue at *;generalize Nw p=fb at *;generalize Nw q=gb at *;obtain⟨vs,aa,fs⟩:=p;obtain⟨vs',aa',fs'⟩:=q;simp only[Pg.av,Pg.row]at *;clear hp hq
 cases fb with
 |false=>
  refine bM 75 [.tmp 4] Tryz.func8 rfl rfl rfl rfl ?_;refine aB fun _ y=>aA rfl ?_;simp only[RR,seval];refine aT fun b2 hn2=>?_;simp only[RR,seval];refine aT fun b3 hn3=>?_;have nb3_b2:b3≠b2:=fun e=>by rw[e]at hn3;simp only[RR,seval,reduceCtorEq]at hn3
  have nb2_b3:b2≠b3:=fun e=>nb3_b2 e.symm;simp only[RR,seval];apply y;clear y;refine aJ ?_;refine aB fun _ y=>aA rfl ?_;simp only[nb2_b3,RR,seval]
  all_goals try (refine aP (hF) ?_;simp only[RR,seval])
  all_goals try ((first|refine aO (fun h=>?_) (fun h=>?_)|refine aR (fun h=>?_) (fun h=>?_))<;>simp only[h,nb3_b2,nb2_b3,RR,seval])
  all_goals try ((first|refine aO (fun h=>?_) (fun h=>?_)|refine aR (fun h=>?_) (fun h=>?_))<;>simp only[h,nb3_b2,nb2_b3,RR,seval])
  all_goals try ((first|refine aO (fun h=>?_) (fun h=>?_)|refine aR (fun h=>?_) (fun h=>?_))<;>simp only[h,nb3_b2,nb2_b3,RR,seval])
  all_goals
   apply y;clear y;refine aH true rfl (fun _=>?_) (fun hc=>by cases hc);refine aB fun _ y=>aA rfl ?_;simp only[RR,seval];refine aP (hA) ?_;simp only[RR,seval];apply y;clear y;refine aM ?_;simp only[aZ,aL,bJ,RR,seval];refine bB.pure ?_;rfl
 |true=>
 have k1:=k1 rfl;have k3:=k3 rfl
 cases gb with
 |false=>
  refine bM 75 [.tmp 4] Tryz.func8 rfl rfl rfl rfl ?_;refine aB fun _ y=>aA rfl ?_;simp only[RR,seval];refine aT fun b2 hn2=>?_;simp only[RR,seval];refine aT fun b3 hn3=>?_;have nb3_b2:b3≠b2:=fun e=>by rw[e]at hn3;simp only[RR,seval,reduceCtorEq]at hn3
  have nb2_b3:b2≠b3:=fun e=>nb3_b2 e.symm;simp only[RR,seval];apply y;clear y;refine aJ ?_;refine aB fun _ y=>aA rfl ?_;simp only[nb2_b3,RR,seval]
  all_goals try (refine aP (hF) ?_;simp only[RR,seval])
  all_goals try ((first|refine aO (fun h=>?_) (fun h=>?_)|refine aR (fun h=>?_) (fun h=>?_))<;>simp only[h,nb3_b2,nb2_b3,RR,seval])
  all_goals try (refine aP (hG) ?_;simp only[RR,seval])
  all_goals try ((first|refine aO (fun h=>?_) (fun h=>?_)|refine aR (fun h=>?_) (fun h=>?_))<;>simp only[h,nb3_b2,nb2_b3,RR,seval])
  all_goals try ((first|refine aO (fun h=>?_) (fun h=>?_)|refine aR (fun h=>?_) (fun h=>?_))<;>simp only[h,nb3_b2,nb2_b3,RR,seval])
  all_goals
   apply y;clear y;refine aH true rfl (fun _=>?_) (fun hc=>by cases hc);refine aB fun _ y=>aA rfl ?_;simp only[RR,seval];refine aP (hA) ?_;simp only[RR,seval];apply y;clear y;refine aM ?_;simp only[aZ,aL,bJ,RR,seval];refine bB.pure ?_;rfl
 |true=>
 have k2:=k2 rfl;have k4:=k4 rfl
 cases sb with
 |false=>
  refine bM 75 [.tmp 4] Tryz.func8 rfl rfl rfl rfl ?_;refine aB fun _ y=>aA rfl ?_;simp only[RR,seval];refine aT fun b2 hn2=>?_;simp only[RR,seval];refine aT fun b3 hn3=>?_;have nb3_b2:b3≠b2:=fun e=>by rw[e]at hn3;simp only[RR,seval,reduceCtorEq]at hn3
  have nb2_b3:b2≠b3:=fun e=>nb3_b2 e.symm;simp only[RR,seval];apply y;clear y;refine aJ ?_;refine aB fun _ y=>aA rfl ?_;simp only[nb2_b3,RR,seval]
  all_goals try (refine aP (hF) ?_;simp only[RR,seval])
  all_goals try ((first|refine aO (fun h=>?_) (fun h=>?_)|refine aR (fun h=>?_) (fun h=>?_))<;>simp only[h,nb3_b2,nb2_b3,RR,seval])
  all_goals try (refine aP (hG) ?_;simp only[nb2_b3,RR,seval])
  all_goals try ((first|refine aO (fun h=>?_) (fun h=>?_)|refine aR (fun h=>?_) (fun h=>?_))<;>simp only[h,nb3_b2,nb2_b3,RR,seval])
  all_goals try (refine aP (k3) ?_;simp only[RR,seval])
  all_goals try ((first|refine aO (fun h=>?_) (fun h=>?_)|refine aR (fun h=>?_) (fun h=>?_))<;>simp only[h,nb3_b2,nb2_b3,RR,seval])
  all_goals
   apply y;clear y;refine aH true rfl (fun _=>?_) (fun hc=>by cases hc);refine aB fun _ y=>aA rfl ?_;simp only[RR,seval];refine aP (hA) ?_;simp only[RR,seval];apply y;clear y;refine aM ?_;simp only[aZ,aL,bJ,RR,seval];refine bB.pure ?_;rfl
 |true=>
 cases sc with
 |false=>
  refine bM 75 [.tmp 4] Tryz.func8 rfl rfl rfl rfl ?_;refine aB fun _ y=>aA rfl ?_;simp only[RR,seval];refine aT fun b2 hn2=>?_;simp only[RR,seval];refine aT fun b3 hn3=>?_;have nb3_b2:b3≠b2:=fun e=>by rw[e]at hn3;simp only[RR,seval,reduceCtorEq]at hn3
  have nb2_b3:b2≠b3:=fun e=>nb3_b2 e.symm;simp only[RR,seval];apply y;clear y;refine aJ ?_;refine aB fun _ y=>aA rfl ?_;simp only[nb2_b3,RR,seval]
  all_goals try (refine aP (hF) ?_;simp only[RR,seval])
  all_goals try ((first|refine aO (fun h=>?_) (fun h=>?_)|refine aR (fun h=>?_) (fun h=>?_))<;>simp only[h,nb3_b2,nb2_b3,RR,seval])
  all_goals try (refine aP (hG) ?_;simp only[nb2_b3,RR,seval])
  all_goals try ((first|refine aO (fun h=>?_) (fun h=>?_)|refine aR (fun h=>?_) (fun h=>?_))<;>simp only[h,nb3_b2,nb2_b3,RR,seval])
  all_goals try (refine aP (k3) ?_;simp only[RR,seval])
  all_goals try ((first|refine aO (fun h=>?_) (fun h=>?_)|refine aR (fun h=>?_) (fun h=>?_))<;>simp only[h,nb3_b2,nb2_b3,RR,seval])
  all_goals try (refine aP (k4) ?_;simp only[RR,seval])
  all_goals
   apply y;clear y;refine aH true rfl (fun _=>?_) (fun hc=>by cases hc);refine aB fun _ y=>aA rfl ?_;simp only[RR,seval];refine aP (hA) ?_;simp only[RR,seval];apply y;clear y;refine aM ?_;simp only[aZ,aL,bJ,RR,seval];refine bB.pure ?_;rfl
 |true=>
  obtain⟨f,g,rfl,rfl,rfl,rfl,res,k5,hres⟩:=key rfl rfl;have hr1:f.row=[.str f.name, .isl 1 (f.params.map bG), .isl 1 (f.locs.map bG), .bool f.word, .isl 5 (f.body.map Sm.row)]:=rfl;have hr2:g.row=[.str g.name, .isl 1 (g.params.map bG), .isl 1 (g.locs.map bG), .bool g.word, .isl 5 (g.body.map Sm.row)]:=rfl;simp only[List.map_cons,List.map_nil,Fu.row]at k5;simp only[List.map_cons,List.map_nil,hr1,hr2]at *;refine bM 75 [.tmp 4] Tryz.func8 rfl rfl rfl rfl ?_;refine aB fun _ y=>aA rfl ?_;simp only[RR,seval];refine aT fun b2 hn2=>?_;simp only[RR,seval];refine aT fun b3 hn3=>?_;have nb3_b2:b3≠b2:=fun e=>by rw[e]at hn3;simp only[RR,seval,reduceCtorEq]at hn3
  have nb2_b3:b2≠b3:=fun e=>nb3_b2 e.symm;simp only[RR,seval];apply y;clear y;refine aJ ?_;refine aB fun _ y=>aA rfl ?_;simp only[nb2_b3,RR,seval]
  all_goals try (refine aP (hF) ?_;simp only[RR,seval])
  all_goals try ((first|refine aO (fun h=>?_) (fun h=>?_)|refine aR (fun h=>?_) (fun h=>?_))<;>simp only[h,nb3_b2,nb2_b3,aC,RR,seval])
  all_goals try (refine aP (hG) ?_;simp only[nb2_b3,RR,seval])
  all_goals try ((first|refine aO (fun h=>?_) (fun h=>?_)|refine aR (fun h=>?_) (fun h=>?_))<;>simp only[h,nb3_b2,nb2_b3,aC,RR,seval])
  all_goals try (refine aP (k3) ?_;simp only[RR,seval])
  all_goals try ((first|refine aO (fun h=>?_) (fun h=>?_)|refine aR (fun h=>?_) (fun h=>?_))<;>simp only[h,nb3_b2,nb2_b3,aC,RR,seval])
  all_goals try (refine aP (k4) ?_;simp only[RR,seval])
  all_goals
   apply y;clear y;refine aH false rfl (fun hc=>by cases hc) (fun _=>?_);refine aK ?_;try simp only[RR]
   refine aB fun _ y=>aA rfl ?_;simp only[nb2_b3,RR,seval];refine aP (k1) ?_;simp only[RR,seval];apply y;clear y;refine aB fun _ y=>aA rfl ?_;simp only[RR,seval];refine aP (k2) ?_;simp only[RR,seval];apply y;clear y;refine aB fun _ y=>aA rfl ?_;simp only[nb2_b3,RR,seval];refine aT fun b9 hn9=>?_;have nb9_b2:b9≠b2:=fun e=>by rw[e]at hn9;simp only[nb2_b3,RR,seval,reduceCtorEq]at hn9
   have nb2_b9:b2≠b9:=fun e=>nb9_b2 e.symm;have nb9_b3:b9≠b3:=fun e=>by rw[e]at hn9;simp only[RR,seval,reduceCtorEq]at hn9
   have nb3_b9:b3≠b9:=fun e=>nb9_b3 e.symm;simp only[RR,seval];apply y;clear y;refine aB fun _ y=>aA rfl ?_;simp only[nb3_b9,RR,seval];apply y;clear y;refine aB fun _ y=>aA rfl ?_;simp only[nb2_b3,nb2_b9,RR,seval];refine cK ?_;simp only[RR,seval];refine aT fun b10 hn10=>?_;have nb10_b2:b10≠b2:=fun e=>by rw[e]at hn10;simp only[nb2_b3,nb2_b9,RR,seval,reduceCtorEq]at hn10
   have nb2_b10:b2≠b10:=fun e=>nb10_b2 e.symm;have nb10_b3:b10≠b3:=fun e=>by rw[e]at hn10;simp only[nb3_b9,RR,seval,reduceCtorEq]at hn10
   have nb3_b10:b3≠b10:=fun e=>nb10_b3 e.symm;have nb10_b9:b10≠b9:=fun e=>by rw[e]at hn10;simp only[RR,seval,reduceCtorEq]at hn10
   have nb9_b10:b9≠b10:=fun e=>nb10_b9 e.symm;simp only[RR,seval];apply y;clear y;refine aB fun _ y=>aA rfl ?_;simp only[RR,seval]
   all_goals try (refine aP (hA) ?_;simp only[nb2_b3,nb2_b9,nb2_b10,RR,seval])
   all_goals try ((first|refine aO (fun h=>?_) (fun h=>?_)|refine aR (fun h=>?_) (fun h=>?_))<;>simp only[h,nb3_b2,nb2_b3,nb9_b2,nb2_b9,nb9_b3,nb3_b9,nb10_b2,nb2_b10,nb10_b3,nb3_b10,nb10_b9,nb9_b10,aC,RR,seval])
   all_goals try ((first|refine aO (fun h=>?_) (fun h=>?_)|refine aR (fun h=>?_) (fun h=>?_))<;>simp only[h,nb3_b2,nb2_b3,nb9_b2,nb2_b9,nb9_b3,nb3_b9,nb10_b2,nb2_b10,nb10_b3,nb3_b10,nb10_b9,nb9_b10,aC,RR,seval])
   all_goals try ((first|refine aO (fun h=>?_) (fun h=>?_)|refine aR (fun h=>?_) (fun h=>?_))<;>simp only[h,nb3_b2,nb2_b3,nb9_b2,nb2_b9,nb9_b3,nb3_b9,nb10_b2,nb2_b10,nb10_b3,nb3_b10,nb10_b9,nb9_b10,aC,RR,seval])
   all_goals try (refine aP (k5) ?_;simp only[RR,seval])
   all_goals
    apply y;clear y;refine aM ?_;simp only[aZ,aL,bJ,RR,seval];refine bB.pure ?_;rw[←hres];simp
end Go.Proofs.YtaecpjgmcffliaaGreatDoor
