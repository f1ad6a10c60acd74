/- Chapter 19, the program's: may a core's parts be? -/
import Derived.Test.YtnfbbjhdflhmjaaGreatDoorGLs
set_option linter.unusedSimpArgs false
set_option linter.unusedVariables false
set_option maxRecDepth 10000
namespace Go.Al
theorem Tn (w a z:Int) (hw:0≤w∧w≤32768) (ha:dC a):(decide (1≤z)&&decide (z≤4096)&&cN w a z)=(decide (1≤z)&&decide (z≤4096)&&decide (0≤a)&&decide (a≤IntKind.wrap .i64 (w-z))):=by
 by_cases h1:1≤z
 rotate_left
 ·rw[aU h1];rfl
 by_cases h2:z≤4096
 rotate_left
 ·rw[bG h1,aU h2];rfl
 rw[aQ _ (by omega),bG h1,bG h2,Bool.eq_iff_iff];simp only[cN,Bool.true_and,aS,aW];omega
theorem Pd (w a z:Int):(cN w a 1&&decide (z=0))=(decide (0≤a)&&decide (a<w)&&decide (z=0)):=by
 rw[Bool.eq_iff_iff];simp only[cN,aS,aW];omega
end Go.Al
namespace Go.Proofs.YtnfbbjhdflhmjaaGreatDoor
open Go.Al
theorem yO (w:Int) (CR:List (List AV)) (wd:Bool) (a z:Int):cJ cK 91 [.agg [.int .i64 w, .isl 5 CR, .bool wd], .int .i64 a, .int .i64 z] (.bool (cN w a 1&&decide (z=0))):=by
 rw[Pd];generalize h1:decide (0≤a)=b1;generalize h2:decide (a<w)=b2;generalize h3:decide (z=0)=b3;refine bI 19 [.tmp 6] Tryz.func91 rfl rfl rfl rfl ?_;refine aB fun _ y=>aA rfl ?_;simp only[RR,seval];refine aP fun b3 hn3=>?_;simp only[RR,seval];apply y;clear y;refine aB fun _ y=>aA rfl ?_;simp only[h1,RR,seval]
 repeat' ((first|refine aR (fun h=>?_) (fun h=>?_)|refine aV (fun h=>?_) (fun h=>?_))<;>simp only[h,h2,h3,RR,seval])
 all_goals
  apply y;clear y;refine aO ?_;simp only[bB,aL,bH,RR,seval];refine aZ.pure ?_
  first|rfl|simp only[*,Bool.and_false,Bool.false_and,Bool.true_and,Bool.and_true]
theorem vN (w:Int) (hw:0≤w∧w≤32768) (CR:List (List AV)) (wd:Bool) (a z:Int) (ha:dC a):cJ cK 92 [.agg [.int .i64 w, .isl 5 CR, .bool wd], .int .i64 a, .int .i64 z] (.bool (decide (1≤z)&&decide (z≤4096)&&cN w a z)):=by
 rw[Tn w a z hw ha];generalize h1:decide (1≤z)=b1;generalize h2:decide (z≤4096)=b2;generalize h3:decide (0≤a)=b3;generalize h4:decide (a≤IntKind.wrap .i64 (w-z))=b4;refine bI 25 [.tmp 6] Tryz.func92 rfl rfl rfl rfl ?_;refine aB fun _ y=>aA rfl ?_;simp only[RR,seval];refine aP fun b3 hn3=>?_;simp only[RR,seval];apply y;clear y;refine aB fun _ y=>aA rfl ?_;simp only[h1,RR,seval]
 repeat' ((first|refine aR (fun h=>?_) (fun h=>?_)|refine aV (fun h=>?_) (fun h=>?_))<;>simp only[h,h2,h3,h4,RR,seval])
 all_goals
  apply y;clear y;refine aO ?_;simp only[bB,aL,bH,RR,seval];refine aZ.pure ?_
  first|rfl|simp only[*,Bool.and_false,Bool.false_and,Bool.true_and,Bool.and_true]
theorem yP (w:Int) (B:List CF) (wd:Bool) (a z:Int) (n:Nat) (b:Bool):cJ cK 93 [.agg [.int .i64 w, .isl 5 (B.map CF.row), .bool wd], .int .i64 a, .int .i64 z, .int .i64 (n:Nat), .bool b] (.bool (decide (z=0)&&gD B a n b)):=by
 unfold gD;by_cases h1:0≤a
 rotate_left
 ·have z1:a<0:=by omega
  rw[aU h1,Bool.false_and,Bool.and_false];refine bI 40 [.tmp 10] Tryz.func93 rfl rfl rfl rfl ?_;refine aB fun _ y=>aA rfl ?_;simp only[RR,seval];refine aP fun b5 hn5=>?_;simp only[RR,seval];apply y;clear y;refine aI ?_;refine aB fun _ y=>aA rfl ?_;simp only[z1,RR,seval];apply y;clear y;refine aH true rfl (fun _=>?_) (fun hc=>by cases hc);refine aB fun _ y=>aA rfl ?_;simp only[RR,seval];apply y;clear y;refine aO ?_;simp only[bB,aL,bH,RR,seval];refine aZ.pure ?_;rfl
 have z1: ¬a<0:=by omega
 rw[bG h1,Bool.true_and];by_cases h2:a.toNat<B.length
 rotate_left
 ·have z2:(B.length:Int)≤a:=by omega
  rw[List.getElem?_eq_none (by omega),Bool.and_false];refine bI 40 [.tmp 10] Tryz.func93 rfl rfl rfl rfl ?_;refine aB fun _ y=>aA rfl ?_;simp only[RR,seval];refine aP fun b5 hn5=>?_;simp only[RR,seval];apply y;clear y;refine aI ?_;refine aB fun _ y=>aA rfl ?_;simp only[z1,z2,aD,RR,seval];apply y;clear y;refine aH true rfl (fun _=>?_) (fun hc=>by cases hc);refine aB fun _ y=>aA rfl ?_;simp only[RR,seval];apply y;clear y;refine aO ?_;simp only[bB,aL,bH,RR,seval];refine aZ.pure ?_;rfl
 have z2: ¬(B.length:Int)≤a:=by omega
 have z3:a<(B.length:Int):=by omega
 by_cases h3:z=0
 rotate_left
 ·rw[aU h3,Bool.false_and]
  refine bI 40 [.tmp 10] Tryz.func93 rfl rfl rfl rfl ?_;refine aB fun _ y=>aA rfl ?_;simp only[RR,seval];refine aP fun b5 hn5=>?_;simp only[RR,seval];apply y;clear y;refine aI ?_;refine aB fun _ y=>aA rfl ?_;simp only[z1,z2,h3,aD,RR,seval];apply y;clear y;refine aH true rfl (fun _=>?_) (fun hc=>by cases hc);refine aB fun _ y=>aA rfl ?_;simp only[RR,seval];apply y;clear y;refine aO ?_;simp only[bB,aL,bH,RR,seval];refine aZ.pure ?_;rfl
 have hg0:=aG h2;have hg:=rQ hg0;rw[hg0];generalize B[a.toNat]=F at hg;simp only;rw[bG h3,Bool.true_and];generalize hp:decide (F.params=(n:Int))=p1;generalize hq:decide (F.word=b)=p2;refine bI 40 [.tmp 10] Tryz.func93 rfl rfl rfl rfl ?_;refine aB fun _ y=>aA rfl ?_;simp only[h3,RR,seval];refine aP fun b5 hn5=>?_;simp only[RR,seval];apply y;clear y;refine aI ?_;refine aB fun _ y=>aA rfl ?_;simp only[z1,z2,aD,RR,seval];apply y;clear y;refine aH false rfl (fun hc=>by cases hc) (fun _=>?_);refine aK ?_;try simp only[RR]
 refine aB fun _ y=>aA rfl ?_;simp only[h1,hg,RR,seval];refine aP fun b11 hn11=>?_;have nb11_b5:b11≠b5:=fun e=>by rw[e]at hn11;simp only[RR,seval,reduceCtorEq]at hn11
 have nb5_b11:b5≠b11:=fun e=>nb11_b5 e.symm;simp only[RR,seval];apply y;clear y;refine aB fun _ y=>aA rfl ?_;simp only[hp,RR,seval]
 repeat' ((first|refine aR (fun h=>?_) (fun h=>?_)|refine aV (fun h=>?_) (fun h=>?_))<;>simp only[h,hq,RR,seval])
 all_goals
  apply y;clear y;refine aO ?_;simp only[bB,aL,bH,RR,seval];refine aZ.pure ?_
  first|rfl|simp only[*,Bool.and_false,Bool.false_and,Bool.true_and,Bool.and_true]
set_option maxHeartbeats 8000000 in
theorem Li (w:Int) (hw:0≤w∧w≤32768) (B:List CF) (wd:Bool) (e:CE) (he:e.ok):cJ cK 94 [.agg [.int .i64 w, .isl 5 (B.map CF.row), .bool wd], .agg [.int .i64 e.kind, .int .i64 e.op, .int .u32 e.num, .int .i64 e.slot, .int .i64 e.size, .isl 6 (e.kids.map CE.row)]] (.bool (pQ w B e)):=by
 have c1:=yO w (B.map CF.row) wd e.slot e.size;have c2:=vN w hw (B.map CF.row) wd e.slot e.size he.slot;have c3:=yP w B wd e.slot e.size e.kids.length true
 have hF:pQ w B e=((decide (e.kind=1)||decide (e.num=0))&&(decide (e.kind=6)||decide (e.op=0))&&(decide (e.kind=3)||decide (e.size=0))&&(decide (e.kind=2)||decide (e.kind=3)||decide (e.kind=4)||decide (e.slot=0))&&
  (if e.kind=1∨e.kind=5 then decide (e.kids.length=0)else if e.kind=2 then cN w e.slot 1&&decide (e.kids.length=0)else if e.kind=3 then decide (1≤e.size)&&decide (e.size≤4096)&&cN w e.slot e.size&&decide (e.kids.length=1)
   else if e.kind=4 then gD B e.slot e.kids.length true else if e.kind=6 then decide (4≤e.op)&&decide (e.op≤15)&&decide (e.kids.length=2)else if e.kind=7 then decide (e.kids.length=1)else if e.kind=8∨e.kind=9 then decide (e.kids.length=2)else false)):=rfl
 have hneg: ∀{p q:Prop} [Decidable p] [Decidable q],(q↔ ¬p)→decide q= !decide p:=fun h=>by
  rename_i p q _ _;by_cases hp:p
  ·rw[bG hp,aU (fun hq=>(h.1 hq) hp)];rfl
  rw[aU hp,bG (h.2 hp)];rfl
 have n3:decide (4≤e.op)= !decide (e.op<4):=hneg (by omega);have n4:decide (e.op≤15)= !decide (15<e.op):=hneg (by omega);have n5: ∀n:Nat,decide (e.kids.length=n)=decide ((e.kids.length:Int)=(n:Int)):=fun n=>by rw[decide_eq_decide];omega
 rw[n3,n4,n5 0,n5 1,n5 2]at hF;clear hneg n3 n4 n5;simp only[Int.cast_ofNat_Int]at hF;generalize cN w e.slot 1=i1 at *;generalize(decide (1≤e.size)&&decide (e.size≤4096)&&cN w e.slot e.size)=i2 at *;generalize gD B e.slot e.kids.length true=i3 at *;obtain⟨q1,q2,q3,q4,q5,q6,q7,q8,q9,⟨d1,d2,d3,d4,d5,d6,d7,d8,d9⟩,hq⟩:=Tm e.kind;generalize ha1:decide (e.num=0)=a1 at *;generalize ha2:decide (e.op=0)=a2 at *;generalize ha3:decide (e.size=0)=a3 at *;generalize ha4:decide (e.slot=0)=a4 at *;generalize hb3c:decide (e.op<4)=b3 at *;generalize hb4c:decide (15<e.op)=b4' at *;generalize hz0:decide ((e.kids.length:Int)=0)=z0 at *;generalize hz1:decide ((e.kids.length:Int)=1)=z1 at *;generalize hz2:decide ((e.kids.length:Int)=2)=z2 at *;rw[d1,d2,d3,d4,d6]at hF;generalize pQ w B e=fc at *;rcases hq with⟨⟨rfl,hk1⟩,rfl,rfl,rfl,rfl,rfl,rfl,rfl,rfl⟩|⟨rfl,⟨rfl,hk1⟩,rfl,rfl,rfl,rfl,rfl,rfl,rfl⟩|⟨rfl,rfl,⟨rfl,hk1⟩,rfl,rfl,rfl,rfl,rfl,rfl⟩|⟨rfl,rfl,rfl,⟨rfl,hk1⟩,rfl,rfl,rfl,rfl,rfl⟩|⟨rfl,rfl,rfl,rfl,⟨rfl,hk1⟩,rfl,rfl,rfl,rfl⟩|⟨rfl,rfl,rfl,rfl,rfl,⟨rfl,hk1⟩,rfl,rfl,rfl⟩|⟨rfl,rfl,rfl,rfl,rfl,rfl,⟨rfl,hk1⟩,rfl,rfl⟩|⟨rfl,rfl,rfl,rfl,rfl,rfl,rfl,⟨rfl,hk1⟩,rfl⟩|⟨rfl,rfl,rfl,rfl,rfl,rfl,rfl,rfl,⟨rfl,hk1⟩⟩|⟨rfl,rfl,rfl,rfl,rfl,rfl,rfl,rfl,rfl,hk1⟩
 all_goals simp only[hk1,Int.reduceEq,or_self,or_true,true_or,if_true,if_false,Bool.true_or,Bool.or_true,Bool.false_or,Bool.or_false,Bool.true_and,Bool.and_true,Bool.and_false]at hF
 all_goals subst hF
 all_goals clear hk1
 all_goals
  refine bI 98 [.tmp 4] Tryz.func94 rfl rfl rfl rfl ?_;refine aB fun _ y=>aA rfl ?_;simp only[RR,seval];refine aP fun b2 hn2=>?_;simp only[RR,seval];refine aP fun b3 hn3=>?_;have nb3_b2:b3≠b2:=fun e=>by rw[e]at hn3;simp only[RR,seval,reduceCtorEq]at hn3
  have nb2_b3:b2≠b3:=fun e=>nb3_b2 e.symm;simp only[RR,seval];apply y;clear y;refine aI ?_;refine aB fun _ y=>aA rfl ?_;simp only[d1,d6,ha1,ha2,RR,seval]
  repeat' ((first|refine aR (fun h=>?_) (fun h=>?_)|refine aV (fun h=>?_) (fun h=>?_))<;>simp only[h,d6,ha2,RR,seval])
  all_goals
   apply y;clear y;refine aH _ rfl (fun hc1=>?_) (fun hc1=>?_)
   ·try (cases hc1;done)
    all_goals
     refine aB fun _ y=>aA rfl ?_;simp only[RR,seval];apply y;clear y;refine aO ?_;simp only[bB,aL,bH,RR,seval];refine aZ.pure ?_
     first|rfl|(simp_all;done)|(simp_all [Bool.and_comm,Bool.and_assoc,Bool.and_left_comm];done)
   try (cases hc1;done)
   all_goals
    refine aK ?_;try simp only[RR]
    refine aB fun _ y=>aA rfl ?_;simp only[RR,seval];apply y;clear y;refine aI ?_;refine aB fun _ y=>aA rfl ?_;simp only[RR,seval];apply y;clear y;refine aM ?_;refine aB fun _ y=>aA rfl ?_;simp only[d2,RR,seval];apply y;clear y;refine aH _ rfl (fun hc6=>?_) (fun hc6=>?_)
    ·try (cases hc6;done)
     all_goals
      refine aB fun _ y=>aA rfl ?_;simp only[aD,hz0,RR,seval]
      all_goals try ((first|refine aR (fun h=>?_) (fun h=>?_)|refine aV (fun h=>?_) (fun h=>?_))<;>simp only[h,nb2_b3,RR,seval])
      all_goals try (refine aN (c1) ?_;simp only[RR,seval])
      all_goals
       apply y;clear y;refine aO ?_;simp only[bB,aL,bH,RR,seval];refine aZ.pure ?_
       first|rfl|(simp_all;done)|(simp_all [Bool.and_comm,Bool.and_assoc,Bool.and_left_comm];done)
    try (cases hc6;done)
    all_goals
     refine aB fun _ y=>aA rfl ?_;simp only[d3,RR,seval];apply y;clear y;refine aH _ rfl (fun hc8=>?_) (fun hc8=>?_)
     ·try (cases hc8;done)
      all_goals
       refine aB fun _ y=>aA rfl ?_;simp only[aD,hz1,RR,seval]
       all_goals try ((first|refine aR (fun h=>?_) (fun h=>?_)|refine aV (fun h=>?_) (fun h=>?_))<;>simp only[h,nb2_b3,RR,seval])
       all_goals try (refine aN (c2) ?_;simp only[RR,seval])
       all_goals
        apply y;clear y;refine aO ?_;simp only[bB,aL,bH,RR,seval];refine aZ.pure ?_
        first|rfl|(simp_all;done)|(simp_all [Bool.and_comm,Bool.and_assoc,Bool.and_left_comm];done)
     try (cases hc8;done)
     all_goals
      refine aB fun _ y=>aA rfl ?_;simp only[d4,RR,seval];apply y;clear y;refine aH _ rfl (fun hc10=>?_) (fun hc10=>?_)
      ·try (cases hc10;done)
       all_goals
        refine aB fun _ y=>aA rfl ?_;simp only[nb2_b3,aD,RR,seval];refine aN (c3) ?_;simp only[RR,seval];apply y;clear y;refine aO ?_;simp only[bB,aL,bH,RR,seval];refine aZ.pure ?_
        first|rfl|(simp_all;done)|(simp_all [Bool.and_comm,Bool.and_assoc,Bool.and_left_comm];done)
      try (cases hc10;done)
      all_goals
       refine aI ?_;refine aB fun _ y=>aA rfl ?_;simp only[d1,RR,seval];apply y;clear y;refine aH _ rfl (fun hc12=>?_) (fun hc12=>?_)
       ·try (cases hc12;done)
        all_goals
         refine aK ?_;try simp only[RR]
         refine aH _ rfl (fun hc12=>?_) (fun hc12=>?_)
         ·try (cases hc12;done)
          all_goals
           refine aK ?_;try simp only[RR]
           refine aB fun _ y=>aA rfl ?_;simp only[aD,hz0,RR,seval]
           repeat' ((first|refine aR (fun h=>?_) (fun h=>?_)|refine aV (fun h=>?_) (fun h=>?_))<;>simp only[h,ha3,ha4,RR,seval])
           all_goals
            apply y;clear y;refine aO ?_;simp only[bB,aL,bH,RR,seval];refine aZ.pure ?_
            first|rfl|(simp_all;done)|(simp_all [Bool.and_comm,Bool.and_assoc,Bool.and_left_comm];done)
         try (cases hc12;done)
         all_goals
          refine aB fun _ y=>aA rfl ?_;simp only[aD,d1,d2,d3,d4,d5,d6,d7,d8,d9,ha1,ha2,ha3,ha4,hb3c,hb4c,hz0,hz1,hz2,RR,seval];apply y;clear y;refine aH _ rfl (fun hc14=>?_) (fun hc14=>?_)
          ·try (cases hc14;done)
           all_goals
            refine aA rfl ?_;simp only[aD,d1,d2,d3,d4,d5,d6,d7,d8,d9,ha1,ha2,ha3,ha4,hb3c,hb4c,hz0,hz1,hz2,RR,seval];refine aB fun _ y=>aA rfl ?_;simp only[nb3_b2,nb2_b3,aD,d1,d2,d3,d4,d5,d6,d7,d8,d9,ha1,ha2,ha3,ha4,hb3c,hb4c,hz0,hz1,hz2,RR,seval]
            repeat' ((first|refine aR (fun h=>?_) (fun h=>?_)|refine aV (fun h=>?_) (fun h=>?_))<;>simp only[h,nb3_b2,nb2_b3,aD,d1,d2,d3,d4,d5,d6,d7,d8,d9,ha1,ha2,ha3,ha4,hb3c,hb4c,hz0,hz1,hz2,RR,seval])
            all_goals
             apply y;clear y;refine aO ?_;simp only[bB,aL,bH,aD,d1,d2,d3,d4,d5,d6,d7,d8,d9,ha1,ha2,ha3,ha4,hb3c,hb4c,hz0,hz1,hz2,RR,seval];refine aZ.pure ?_
             first|rfl|(simp_all;done)|(simp_all [Bool.and_comm,Bool.and_assoc,Bool.and_left_comm];done)
          try (cases hc14;done)
          all_goals
           refine aB fun _ y=>aA rfl ?_;simp only[aD,d1,d2,d3,d4,d5,d6,d7,d8,d9,ha1,ha2,ha3,ha4,hb3c,hb4c,hz0,hz1,hz2,RR,seval];apply y;clear y;refine aH _ rfl (fun hc16=>?_) (fun hc16=>?_)
           ·try (cases hc16;done)
            all_goals
             refine aI ?_;refine aB fun _ y=>aA rfl ?_;simp only[nb3_b2,nb2_b3,aD,d1,d2,d3,d4,d5,d6,d7,d8,d9,ha1,ha2,ha3,ha4,hb3c,hb4c,hz0,hz1,hz2,RR,seval]
             repeat' ((first|refine aR (fun h=>?_) (fun h=>?_)|refine aV (fun h=>?_) (fun h=>?_))<;>simp only[h,nb3_b2,nb2_b3,aD,d1,d2,d3,d4,d5,d6,d7,d8,d9,ha1,ha2,ha3,ha4,hb3c,hb4c,hz0,hz1,hz2,RR,seval])
             all_goals
              apply y;clear y;refine aH _ rfl (fun hc17=>?_) (fun hc17=>?_)
              ·try (cases hc17;done)
               all_goals
                refine aB fun _ y=>aA rfl ?_;simp only[aD,d1,d2,d3,d4,d5,d6,d7,d8,d9,ha1,ha2,ha3,ha4,hb3c,hb4c,hz0,hz1,hz2,RR,seval];apply y;clear y;refine aO ?_;simp only[bB,aL,bH,aD,d1,d2,d3,d4,d5,d6,d7,d8,d9,ha1,ha2,ha3,ha4,hb3c,hb4c,hz0,hz1,hz2,RR,seval];refine aZ.pure ?_
                first|rfl|(simp_all;done)|(simp_all [Bool.and_comm,Bool.and_assoc,Bool.and_left_comm];done)
              try (cases hc17;done)
              all_goals
               refine aK ?_;try simp only[RR]
               refine aA rfl ?_;simp only[aD,d1,d2,d3,d4,d5,d6,d7,d8,d9,ha1,ha2,ha3,ha4,hb3c,hb4c,hz0,hz1,hz2,RR,seval];refine aB fun _ y=>aA rfl ?_;simp only[nb3_b2,nb2_b3,aD,d1,d2,d3,d4,d5,d6,d7,d8,d9,ha1,ha2,ha3,ha4,hb3c,hb4c,hz0,hz1,hz2,RR,seval]
               repeat' ((first|refine aR (fun h=>?_) (fun h=>?_)|refine aV (fun h=>?_) (fun h=>?_))<;>simp only[h,nb3_b2,nb2_b3,aD,d1,d2,d3,d4,d5,d6,d7,d8,d9,ha1,ha2,ha3,ha4,hb3c,hb4c,hz0,hz1,hz2,RR,seval])
               all_goals
                apply y;clear y;refine aO ?_;simp only[bB,aL,bH,aD,d1,d2,d3,d4,d5,d6,d7,d8,d9,ha1,ha2,ha3,ha4,hb3c,hb4c,hz0,hz1,hz2,RR,seval];refine aZ.pure ?_
                first|rfl|(simp_all;done)|(simp_all [Bool.and_comm,Bool.and_assoc,Bool.and_left_comm];done)
           try (cases hc16;done)
           all_goals
            refine aI ?_;refine aB fun _ y=>aA rfl ?_;simp only[aD,d1,d2,d3,d4,d5,d6,d7,d8,d9,ha1,ha2,ha3,ha4,hb3c,hb4c,hz0,hz1,hz2,RR,seval];apply y;clear y;refine aH _ rfl (fun hc20=>?_) (fun hc20=>?_)
            ·try (cases hc20;done)
             all_goals
              refine aK ?_;try simp only[RR]
              refine aH _ rfl (fun hc20=>?_) (fun hc20=>?_)
              ·try (cases hc20;done)
               all_goals
                refine aA rfl ?_;simp only[aD,d1,d2,d3,d4,d5,d6,d7,d8,d9,ha1,ha2,ha3,ha4,hb3c,hb4c,hz0,hz1,hz2,RR,seval];refine aB fun _ y=>aA rfl ?_;simp only[nb3_b2,nb2_b3,aD,d1,d2,d3,d4,d5,d6,d7,d8,d9,ha1,ha2,ha3,ha4,hb3c,hb4c,hz0,hz1,hz2,RR,seval]
                repeat' ((first|refine aR (fun h=>?_) (fun h=>?_)|refine aV (fun h=>?_) (fun h=>?_))<;>simp only[h,nb3_b2,nb2_b3,aD,d1,d2,d3,d4,d5,d6,d7,d8,d9,ha1,ha2,ha3,ha4,hb3c,hb4c,hz0,hz1,hz2,RR,seval])
                all_goals
                 apply y;clear y;refine aO ?_;simp only[bB,aL,bH,aD,d1,d2,d3,d4,d5,d6,d7,d8,d9,ha1,ha2,ha3,ha4,hb3c,hb4c,hz0,hz1,hz2,RR,seval];refine aZ.pure ?_
                 first|rfl|(simp_all;done)|(simp_all [Bool.and_comm,Bool.and_assoc,Bool.and_left_comm];done)
              try (cases hc20;done)
              all_goals
               refine aB fun _ y=>aA rfl ?_;simp only[aD,d1,d2,d3,d4,d5,d6,d7,d8,d9,ha1,ha2,ha3,ha4,hb3c,hb4c,hz0,hz1,hz2,RR,seval];apply y;clear y;refine aO ?_;simp only[bB,aL,bH,aD,d1,d2,d3,d4,d5,d6,d7,d8,d9,ha1,ha2,ha3,ha4,hb3c,hb4c,hz0,hz1,hz2,RR,seval];refine aZ.pure ?_
               first|rfl|(simp_all;done)|(simp_all [Bool.and_comm,Bool.and_assoc,Bool.and_left_comm];done)
            try (cases hc20;done)
            all_goals
             refine aA rfl ?_;simp only[aD,d1,d2,d3,d4,d5,d6,d7,d8,d9,ha1,ha2,ha3,ha4,hb3c,hb4c,hz0,hz1,hz2,RR,seval];refine aH _ rfl (fun hc21=>?_) (fun hc21=>?_)
             ·try (cases hc21;done)
              all_goals
               refine aA rfl ?_;simp only[aD,d1,d2,d3,d4,d5,d6,d7,d8,d9,ha1,ha2,ha3,ha4,hb3c,hb4c,hz0,hz1,hz2,RR,seval];refine aB fun _ y=>aA rfl ?_;simp only[nb3_b2,nb2_b3,aD,d1,d2,d3,d4,d5,d6,d7,d8,d9,ha1,ha2,ha3,ha4,hb3c,hb4c,hz0,hz1,hz2,RR,seval]
               repeat' ((first|refine aR (fun h=>?_) (fun h=>?_)|refine aV (fun h=>?_) (fun h=>?_))<;>simp only[h,nb3_b2,nb2_b3,aD,d1,d2,d3,d4,d5,d6,d7,d8,d9,ha1,ha2,ha3,ha4,hb3c,hb4c,hz0,hz1,hz2,RR,seval])
               all_goals
                apply y;clear y;refine aO ?_;simp only[bB,aL,bH,aD,d1,d2,d3,d4,d5,d6,d7,d8,d9,ha1,ha2,ha3,ha4,hb3c,hb4c,hz0,hz1,hz2,RR,seval];refine aZ.pure ?_
                first|rfl|(simp_all;done)|(simp_all [Bool.and_comm,Bool.and_assoc,Bool.and_left_comm];done)
             try (cases hc21;done)
             all_goals
              refine aB fun _ y=>aA rfl ?_;simp only[aD,d1,d2,d3,d4,d5,d6,d7,d8,d9,ha1,ha2,ha3,ha4,hb3c,hb4c,hz0,hz1,hz2,RR,seval];apply y;clear y;refine aO ?_;simp only[bB,aL,bH,aD,d1,d2,d3,d4,d5,d6,d7,d8,d9,ha1,ha2,ha3,ha4,hb3c,hb4c,hz0,hz1,hz2,RR,seval];refine aZ.pure ?_
              first|rfl|(simp_all;done)|(simp_all [Bool.and_comm,Bool.and_assoc,Bool.and_left_comm];done)
       try (cases hc12;done)
       all_goals
        refine aA rfl ?_;simp only[d5,RR,seval];refine aH _ rfl (fun hc13=>?_) (fun hc13=>?_)
        ·try (cases hc13;done)
         all_goals
          refine aK ?_;try simp only[RR]
          refine aB fun _ y=>aA rfl ?_;simp only[aD,hz0,RR,seval]
          repeat' ((first|refine aR (fun h=>?_) (fun h=>?_)|refine aV (fun h=>?_) (fun h=>?_))<;>simp only[h,ha3,ha4,RR,seval])
          all_goals
           apply y;clear y;refine aO ?_;simp only[bB,aL,bH,RR,seval];refine aZ.pure ?_
           first|rfl|(simp_all;done)|(simp_all [Bool.and_comm,Bool.and_assoc,Bool.and_left_comm];done)
        try (cases hc13;done)
        all_goals
         refine aB fun _ y=>aA rfl ?_;simp only[d7,RR,seval];apply y;clear y;refine aH _ rfl (fun hc14=>?_) (fun hc14=>?_)
         ·try (cases hc14;done)
          all_goals
           refine aA rfl ?_;simp only[RR,seval];refine aB fun _ y=>aA rfl ?_;simp only[aD,hz1,RR,seval]
           repeat' ((first|refine aR (fun h=>?_) (fun h=>?_)|refine aV (fun h=>?_) (fun h=>?_))<;>simp only[h,ha3,ha4,RR,seval])
           all_goals
            apply y;clear y;refine aO ?_;simp only[bB,aL,bH,RR,seval];refine aZ.pure ?_
            first|rfl|(simp_all;done)|(simp_all [Bool.and_comm,Bool.and_assoc,Bool.and_left_comm];done)
         try (cases hc14;done)
         all_goals
          refine aB fun _ y=>aA rfl ?_;simp only[d6,RR,seval];apply y;clear y;refine aH _ rfl (fun hc16=>?_) (fun hc16=>?_)
          ·try (cases hc16;done)
           all_goals
            refine aI ?_;refine aB fun _ y=>aA rfl ?_;simp only[hb3c,RR,seval]
            repeat' ((first|refine aR (fun h=>?_) (fun h=>?_)|refine aV (fun h=>?_) (fun h=>?_))<;>simp only[h,hb4c,RR,seval])
            all_goals
             apply y;clear y;refine aH _ rfl (fun hc17=>?_) (fun hc17=>?_)
             ·try (cases hc17;done)
              all_goals
               refine aB fun _ y=>aA rfl ?_;simp only[RR,seval];apply y;clear y;refine aO ?_;simp only[bB,aL,bH,RR,seval];refine aZ.pure ?_
               first|rfl|(simp_all;done)|(simp_all [Bool.and_comm,Bool.and_assoc,Bool.and_left_comm];done)
             try (cases hc17;done)
             all_goals
              refine aK ?_;try simp only[RR]
              refine aA rfl ?_;simp only[RR,seval];refine aB fun _ y=>aA rfl ?_;simp only[aD,hz2,RR,seval]
              repeat' ((first|refine aR (fun h=>?_) (fun h=>?_)|refine aV (fun h=>?_) (fun h=>?_))<;>simp only[h,ha3,ha4,RR,seval])
              all_goals
               apply y;clear y;refine aO ?_;simp only[bB,aL,bH,RR,seval];refine aZ.pure ?_
               first|rfl|(simp_all;done)|(simp_all [Bool.and_comm,Bool.and_assoc,Bool.and_left_comm];done)
          try (cases hc16;done)
          all_goals
           refine aI ?_;refine aB fun _ y=>aA rfl ?_;simp only[d8,RR,seval];apply y;clear y;refine aH _ rfl (fun hc20=>?_) (fun hc20=>?_)
           ·try (cases hc20;done)
            all_goals
             refine aK ?_;try simp only[RR]
             refine aH _ rfl (fun hc20=>?_) (fun hc20=>?_)
             ·try (cases hc20;done)
              all_goals
               refine aA rfl ?_;simp only[RR,seval];refine aB fun _ y=>aA rfl ?_;simp only[aD,hz2,RR,seval]
               repeat' ((first|refine aR (fun h=>?_) (fun h=>?_)|refine aV (fun h=>?_) (fun h=>?_))<;>simp only[h,ha3,ha4,RR,seval])
               all_goals
                apply y;clear y;refine aO ?_;simp only[bB,aL,bH,RR,seval];refine aZ.pure ?_
                first|rfl|(simp_all;done)|(simp_all [Bool.and_comm,Bool.and_assoc,Bool.and_left_comm];done)
             try (cases hc20;done)
             all_goals
              refine aB fun _ y=>aA rfl ?_;simp only[aD,d1,d2,d3,d4,d5,d6,d7,d8,d9,ha1,ha2,ha3,ha4,hb3c,hb4c,hz0,hz1,hz2,RR,seval];apply y;clear y;refine aO ?_;simp only[bB,aL,bH,aD,d1,d2,d3,d4,d5,d6,d7,d8,d9,ha1,ha2,ha3,ha4,hb3c,hb4c,hz0,hz1,hz2,RR,seval];refine aZ.pure ?_
              first|rfl|(simp_all;done)|(simp_all [Bool.and_comm,Bool.and_assoc,Bool.and_left_comm];done)
           try (cases hc20;done)
           all_goals
            refine aA rfl ?_;simp only[d9,RR,seval];refine aH _ rfl (fun hc21=>?_) (fun hc21=>?_)
            ·try (cases hc21;done)
             all_goals
              refine aA rfl ?_;simp only[RR,seval];refine aB fun _ y=>aA rfl ?_;simp only[aD,hz2,RR,seval]
              repeat' ((first|refine aR (fun h=>?_) (fun h=>?_)|refine aV (fun h=>?_) (fun h=>?_))<;>simp only[h,ha3,ha4,RR,seval])
              all_goals
               apply y;clear y;refine aO ?_;simp only[bB,aL,bH,RR,seval];refine aZ.pure ?_
               first|rfl|(simp_all;done)|(simp_all [Bool.and_comm,Bool.and_assoc,Bool.and_left_comm];done)
            try (cases hc21;done)
            all_goals
             refine aB fun _ y=>aA rfl ?_;simp only[RR,seval];apply y;clear y;refine aO ?_;simp only[bB,aL,bH,RR,seval];refine aZ.pure ?_
             first|rfl|(simp_all;done)|(simp_all [Bool.and_comm,Bool.and_assoc,Bool.and_left_comm];done)
end Go.Proofs.YtnfbbjhdflhmjaaGreatDoor
