/- Chapter 19, the program's: may a core be? -/
import Derived.Test.YtnfbbjhdflhmjaaGreatDoorGRa
import Derived.Test.YtnfbbjhdflhmjaaGreatDoorGLu
set_option linter.unusedSimpArgs false
set_option linter.unusedVariables false
set_option maxRecDepth 10000
namespace Go.Proofs.YtnfbbjhdflhmjaaGreatDoor
open Go.Al
set_option maxHeartbeats 8000000 in
theorem Lh (w:Int) (hw:0≤w∧w≤32768) (B:List CF) (wd:Bool) (e:CS) (he:e.ok):cJ cK 59 [.agg [.int .i64 w, .isl 5 (B.map CF.row), .bool wd], .agg [.int .i64 e.kind, .int .i64 e.slot, .int .i64 e.size, .isl 6 (e.es.map CE.row), .isl 6 (e.thn.map CS.row), .isl 6 (e.els.map CS.row)]] (.bool (pP w B wd e)):=by
 have c1:=yO w (B.map CF.row) wd e.slot e.size;have c2:=vN w hw (B.map CF.row) wd e.slot e.size he.slot;have c3:=yP w B wd e.slot e.size e.es.length false
 have hF:pP w B wd e=((decide (e.kind=2)||decide (e.size=0))&&(decide (e.kind=1)||decide (e.kind=2)||decide (e.kind=6)||decide (e.slot=0))&&(decide (e.kind=4)||decide (e.els.length=0))&&(decide (e.kind=4)||decide (e.kind=5)||decide (e.thn.length=0))&&
  (if e.kind=1 then cN w e.slot 1&&decide (e.es.length=1)else if e.kind=2 then decide (1≤e.size)&&decide (e.size≤4096)&&cN w e.slot e.size&&decide (e.es.length=2)else if e.kind=3∨e.kind=4∨e.kind=5 then decide (e.es.length=1)
   else if e.kind=6 then gD B e.slot e.es.length false else if e.kind=7 then decide (e.es.length=0)||wd&&decide (e.es.length=1)else false)):=rfl
 have hneg: ∀{p q:Prop} [Decidable p] [Decidable q],(q↔ ¬p)→decide q= !decide p:=fun h=>by
  rename_i p q _ _;by_cases hp:p
  ·rw[bG hp,aU (fun hq=>(h.1 hq) hp)];rfl
  rw[aU hp,bG (h.2 hp)];rfl
 have n1:decide (e.els.length=0)= !decide ((0:Int)<(e.els.length:Int)):=hneg (by omega);have n2:decide (e.thn.length=0)= !decide ((0:Int)<(e.thn.length:Int)):=hneg (by omega)
 have n3:(decide (e.es.length=0)||wd&&decide (e.es.length=1))= !(decide ((1:Int)<(e.es.length:Int))||decide ((e.es.length:Int)=1)&& !wd):=by
  rcases Nat.lt_trichotomy e.es.length 1 with h|h|h
  ·have h0:e.es.length=0:=by omega
   rw[bG h0,aU (p:=(1:Int)<(e.es.length:Int)) (by omega),aU (p:=(e.es.length:Int)=1) (by omega)];rfl
  ·rw[aU (p:=e.es.length=0) (by omega),bG h,aU (p:=(1:Int)<(e.es.length:Int)) (by omega),bG (p:=(e.es.length:Int)=1) (by omega)];cases wd<;>rfl
  rw[aU (p:=e.es.length=0) (by omega),aU (p:=e.es.length=1) (by omega),bG (p:=(1:Int)<(e.es.length:Int)) (by omega)];cases wd<;>rfl
 have n5: ∀n:Nat,decide (e.es.length=n)=decide ((e.es.length:Int)=(n:Int)):=fun n=>by rw[decide_eq_decide];omega
 rw[n1,n2,n3,n5 1,n5 2]at hF;clear hneg n1 n2 n3 n5;simp only[Int.cast_ofNat_Int]at hF;generalize cN w e.slot 1=i1 at *;generalize(decide (1≤e.size)&&decide (e.size≤4096)&&cN w e.slot e.size)=i2 at *;generalize gD B e.slot e.es.length false=i3 at *;obtain⟨q1,q2,q3,q4,q5,q6,q7,q8,q9,⟨d1,d2,d3,d4,d5,d6,d7,d8,d9⟩,hq⟩:=Tm e.kind;generalize ha1:decide (e.size=0)=a1 at *;generalize ha2:decide (e.slot=0)=a2 at *;generalize ha3:decide ((0:Int)<(e.els.length:Int))=a3 at *;generalize ha4:decide ((0:Int)<(e.thn.length:Int))=a4 at *;generalize hz0:decide ((1:Int)<(e.es.length:Int))=z0 at *;generalize hz1:decide ((e.es.length:Int)=1)=z1 at *;generalize hz2:decide ((e.es.length:Int)=2)=z2 at *;rw[d1,d2,d4,d5,d6]at hF;generalize pP w B wd e=fc at *;rcases hq with⟨⟨rfl,hk1⟩,rfl,rfl,rfl,rfl,rfl,rfl,rfl,rfl⟩|⟨rfl,⟨rfl,hk1⟩,rfl,rfl,rfl,rfl,rfl,rfl,rfl⟩|⟨rfl,rfl,⟨rfl,hk1⟩,rfl,rfl,rfl,rfl,rfl,rfl⟩|⟨rfl,rfl,rfl,⟨rfl,hk1⟩,rfl,rfl,rfl,rfl,rfl⟩|⟨rfl,rfl,rfl,rfl,⟨rfl,hk1⟩,rfl,rfl,rfl,rfl⟩|⟨rfl,rfl,rfl,rfl,rfl,⟨rfl,hk1⟩,rfl,rfl,rfl⟩|⟨rfl,rfl,rfl,rfl,rfl,rfl,⟨rfl,hk1⟩,rfl,rfl⟩|⟨rfl,rfl,rfl,rfl,rfl,rfl,rfl,⟨rfl,hk1⟩,rfl⟩|⟨rfl,rfl,rfl,rfl,rfl,rfl,rfl,rfl,⟨rfl,hk1⟩⟩|⟨rfl,rfl,rfl,rfl,rfl,rfl,rfl,rfl,rfl,hk1⟩
 all_goals simp only[hk1,Int.reduceEq,or_self,or_true,true_or,if_true,if_false,Bool.true_or,Bool.or_true,Bool.false_or,Bool.or_false,Bool.true_and,Bool.and_true,Bool.and_false]at hF
 all_goals subst hF
 all_goals clear hk1
 all_goals
  refine bI 112 [.tmp 4] Tryz.func59 rfl rfl rfl rfl ?_;refine aB fun _ y=>aA rfl ?_;simp only[RR,seval];refine aP fun b2 hn2=>?_;simp only[RR,seval];refine aP fun b3 hn3=>?_;have nb3_b2:b3≠b2:=fun e=>by rw[e]at hn3;simp only[RR,seval,reduceCtorEq]at hn3
  have nb2_b3:b2≠b3:=fun e=>nb3_b2 e.symm;simp only[RR,seval];apply y;clear y;refine aI ?_;refine aB fun _ y=>aA rfl ?_;simp only[aD,d4,d5,ha4,RR,seval]
  repeat' ((first|refine aR (fun h=>?_) (fun h=>?_)|refine aV (fun h=>?_) (fun h=>?_))<;>simp only[h,nb3_b2,nb2_b3,aD,d1,d2,d3,d4,d5,d6,d7,d8,d9,ha1,ha2,ha3,ha4,hz0,hz1,hz2,RR,seval])
  all_goals
   apply y;clear y;refine aH _ rfl (fun hc1=>?_) (fun hc1=>?_)
   ·try (cases hc1;done)
    all_goals
     refine aB fun _ y=>aA rfl ?_;simp only[RR,seval];apply y;clear y;refine aO ?_;simp only[bB,aL,bH,RR,seval];refine aZ.pure ?_
     first|rfl|(simp_all;done)|(simp_all [Bool.and_comm,Bool.and_assoc,Bool.and_left_comm];done)
   try (cases hc1;done)
   all_goals
    refine aK ?_;try simp only[RR]
    refine aI ?_;refine aB fun _ y=>aA rfl ?_;simp only[aD,d4,ha3,RR,seval]
    repeat' ((first|refine aR (fun h=>?_) (fun h=>?_)|refine aV (fun h=>?_) (fun h=>?_))<;>simp only[h,nb3_b2,nb2_b3,aD,d1,d2,d3,d4,d5,d6,d7,d8,d9,ha1,ha2,ha3,ha4,hz0,hz1,hz2,RR,seval])
    all_goals
     apply y;clear y;refine aH _ rfl (fun hc3=>?_) (fun hc3=>?_)
     ·try (cases hc3;done)
      all_goals
       refine aB fun _ y=>aA rfl ?_;simp only[RR,seval];apply y;clear y;refine aO ?_;simp only[bB,aL,bH,RR,seval];refine aZ.pure ?_
       first|rfl|(simp_all;done)|(simp_all [Bool.and_comm,Bool.and_assoc,Bool.and_left_comm];done)
     try (cases hc3;done)
     all_goals
      refine aK ?_;try simp only[RR]
      refine aI ?_;refine aB fun _ y=>aA rfl ?_;simp only[RR,seval];apply y;clear y;refine aM ?_;refine aB fun _ y=>aA rfl ?_;simp only[d1,RR,seval];apply y;clear y;refine aH _ rfl (fun hc6=>?_) (fun hc6=>?_)
      ·try (cases hc6;done)
       all_goals
        refine aB fun _ y=>aA rfl ?_;simp only[aD,hz1,RR,seval]
        all_goals try ((first|refine aR (fun h=>?_) (fun h=>?_)|refine aV (fun h=>?_) (fun h=>?_))<;>simp only[h,nb2_b3,RR,seval])
        all_goals try (refine aN (c1) ?_;simp only[RR,seval])
        all_goals
         apply y;clear y;refine aO ?_;simp only[bB,aL,bH,RR,seval];refine aZ.pure ?_
         first|rfl|(simp_all;done)|(simp_all [Bool.and_comm,Bool.and_assoc,Bool.and_left_comm];done)
      try (cases hc6;done)
      all_goals
       refine aB fun _ y=>aA rfl ?_;simp only[d2,RR,seval];apply y;clear y;refine aH _ rfl (fun hc8=>?_) (fun hc8=>?_)
       ·try (cases hc8;done)
        all_goals
         refine aB fun _ y=>aA rfl ?_;simp only[aD,hz2,RR,seval]
         all_goals try ((first|refine aR (fun h=>?_) (fun h=>?_)|refine aV (fun h=>?_) (fun h=>?_))<;>simp only[h,nb2_b3,RR,seval])
         all_goals try (refine aN (c2) ?_;simp only[RR,seval])
         all_goals
          apply y;clear y;refine aO ?_;simp only[bB,aL,bH,RR,seval];refine aZ.pure ?_
          first|rfl|(simp_all;done)|(simp_all [Bool.and_comm,Bool.and_assoc,Bool.and_left_comm];done)
       try (cases hc8;done)
       all_goals
        refine aB fun _ y=>aA rfl ?_;simp only[d6,RR,seval];apply y;clear y;refine aH _ rfl (fun hc10=>?_) (fun hc10=>?_)
        ·try (cases hc10;done)
         all_goals
          refine aB fun _ y=>aA rfl ?_;simp only[nb2_b3,aD,RR,seval];refine aN (c3) ?_;simp only[RR,seval];apply y;clear y;refine aO ?_;simp only[bB,aL,bH,RR,seval];refine aZ.pure ?_
          first|rfl|(simp_all;done)|(simp_all [Bool.and_comm,Bool.and_assoc,Bool.and_left_comm];done)
        try (cases hc10;done)
        all_goals
         refine aI ?_;refine aB fun _ y=>aA rfl ?_;simp only[d3,RR,seval];apply y;clear y;refine aH _ rfl (fun hc12=>?_) (fun hc12=>?_)
         ·try (cases hc12;done)
          all_goals
           refine aK ?_;try simp only[RR]
           refine aH _ rfl (fun hc12=>?_) (fun hc12=>?_)
           ·try (cases hc12;done)
            all_goals
             refine aB fun _ y=>aA rfl ?_;simp only[aD,hz1,RR,seval]
             repeat' ((first|refine aR (fun h=>?_) (fun h=>?_)|refine aV (fun h=>?_) (fun h=>?_))<;>simp only[h,ha1,ha2,RR,seval])
             all_goals
              apply y;clear y;refine aO ?_;simp only[bB,aL,bH,RR,seval];refine aZ.pure ?_
              first|rfl|(simp_all;done)|(simp_all [Bool.and_comm,Bool.and_assoc,Bool.and_left_comm];done)
           try (cases hc12;done)
           all_goals
            refine aB fun _ y=>aA rfl ?_;simp only[aD,d1,d2,d3,d4,d5,d6,d7,d8,d9,ha1,ha2,ha3,ha4,hz0,hz1,hz2,RR,seval];apply y;clear y;refine aH _ rfl (fun hc16=>?_) (fun hc16=>?_)
            ·try (cases hc16;done)
             all_goals
              refine aI ?_;refine aB fun _ y=>aA rfl ?_;simp only[nb3_b2,nb2_b3,aD,d1,d2,d3,d4,d5,d6,d7,d8,d9,ha1,ha2,ha3,ha4,hz0,hz1,hz2,RR,seval]
              repeat' ((first|refine aR (fun h=>?_) (fun h=>?_)|refine aV (fun h=>?_) (fun h=>?_))<;>simp only[h,nb3_b2,nb2_b3,aD,d1,d2,d3,d4,d5,d6,d7,d8,d9,ha1,ha2,ha3,ha4,hz0,hz1,hz2,RR,seval])
              all_goals
               apply y;clear y;refine aH _ rfl (fun hc17=>?_) (fun hc17=>?_)
               ·try (cases hc17;done)
                all_goals
                 refine aB fun _ y=>aA rfl ?_;simp only[aD,d1,d2,d3,d4,d5,d6,d7,d8,d9,ha1,ha2,ha3,ha4,hz0,hz1,hz2,RR,seval];apply y;clear y;refine aO ?_;simp only[bB,aL,bH,aD,d1,d2,d3,d4,d5,d6,d7,d8,d9,ha1,ha2,ha3,ha4,hz0,hz1,hz2,RR,seval];refine aZ.pure ?_
                 first|rfl|(simp_all;done)|(simp_all [Bool.and_comm,Bool.and_assoc,Bool.and_left_comm];done)
               try (cases hc17;done)
               all_goals
                refine aK ?_;try simp only[RR]
                refine aB fun _ y=>aA rfl ?_;simp only[nb3_b2,nb2_b3,aD,d1,d2,d3,d4,d5,d6,d7,d8,d9,ha1,ha2,ha3,ha4,hz0,hz1,hz2,RR,seval]
                repeat' ((first|refine aR (fun h=>?_) (fun h=>?_)|refine aV (fun h=>?_) (fun h=>?_))<;>simp only[h,nb3_b2,nb2_b3,aD,d1,d2,d3,d4,d5,d6,d7,d8,d9,ha1,ha2,ha3,ha4,hz0,hz1,hz2,RR,seval])
                all_goals
                 apply y;clear y;refine aO ?_;simp only[bB,aL,bH,aD,d1,d2,d3,d4,d5,d6,d7,d8,d9,ha1,ha2,ha3,ha4,hz0,hz1,hz2,RR,seval];refine aZ.pure ?_
                 first|rfl|(simp_all;done)|(simp_all [Bool.and_comm,Bool.and_assoc,Bool.and_left_comm];done)
            try (cases hc16;done)
            all_goals
             refine aK ?_;try simp only[RR]
             refine aB fun _ y=>aA rfl ?_;simp only[aD,d1,d2,d3,d4,d5,d6,d7,d8,d9,ha1,ha2,ha3,ha4,hz0,hz1,hz2,RR,seval];apply y;clear y;refine aO ?_;simp only[bB,aL,bH,aD,d1,d2,d3,d4,d5,d6,d7,d8,d9,ha1,ha2,ha3,ha4,hz0,hz1,hz2,RR,seval];refine aZ.pure ?_
             first|rfl|(simp_all;done)|(simp_all [Bool.and_comm,Bool.and_assoc,Bool.and_left_comm];done)
         try (cases hc12;done)
         all_goals
          refine aB fun _ y=>aA rfl ?_;simp only[d4,RR,seval];apply y;clear y;refine aH _ rfl (fun hc13=>?_) (fun hc13=>?_)
          ·try (cases hc13;done)
           all_goals
            refine aK ?_;try simp only[RR]
            refine aH _ rfl (fun hc13=>?_) (fun hc13=>?_)
            ·try (cases hc13;done)
             all_goals
              refine aB fun _ y=>aA rfl ?_;simp only[aD,hz1,RR,seval]
              repeat' ((first|refine aR (fun h=>?_) (fun h=>?_)|refine aV (fun h=>?_) (fun h=>?_))<;>simp only[h,ha1,ha2,RR,seval])
              all_goals
               apply y;clear y;refine aO ?_;simp only[bB,aL,bH,RR,seval];refine aZ.pure ?_
               first|rfl|(simp_all;done)|(simp_all [Bool.and_comm,Bool.and_assoc,Bool.and_left_comm];done)
            try (cases hc13;done)
            all_goals
             refine aB fun _ y=>aA rfl ?_;simp only[aD,d1,d2,d3,d4,d5,d6,d7,d8,d9,ha1,ha2,ha3,ha4,hz0,hz1,hz2,RR,seval];apply y;clear y;refine aH _ rfl (fun hc16=>?_) (fun hc16=>?_)
             ·try (cases hc16;done)
              all_goals
               refine aI ?_;refine aB fun _ y=>aA rfl ?_;simp only[nb3_b2,nb2_b3,aD,d1,d2,d3,d4,d5,d6,d7,d8,d9,ha1,ha2,ha3,ha4,hz0,hz1,hz2,RR,seval]
               repeat' ((first|refine aR (fun h=>?_) (fun h=>?_)|refine aV (fun h=>?_) (fun h=>?_))<;>simp only[h,nb3_b2,nb2_b3,aD,d1,d2,d3,d4,d5,d6,d7,d8,d9,ha1,ha2,ha3,ha4,hz0,hz1,hz2,RR,seval])
               all_goals
                apply y;clear y;refine aH _ rfl (fun hc17=>?_) (fun hc17=>?_)
                ·try (cases hc17;done)
                 all_goals
                  refine aB fun _ y=>aA rfl ?_;simp only[aD,d1,d2,d3,d4,d5,d6,d7,d8,d9,ha1,ha2,ha3,ha4,hz0,hz1,hz2,RR,seval];apply y;clear y;refine aO ?_;simp only[bB,aL,bH,aD,d1,d2,d3,d4,d5,d6,d7,d8,d9,ha1,ha2,ha3,ha4,hz0,hz1,hz2,RR,seval];refine aZ.pure ?_
                  first|rfl|(simp_all;done)|(simp_all [Bool.and_comm,Bool.and_assoc,Bool.and_left_comm];done)
                try (cases hc17;done)
                all_goals
                 refine aK ?_;try simp only[RR]
                 refine aB fun _ y=>aA rfl ?_;simp only[nb3_b2,nb2_b3,aD,d1,d2,d3,d4,d5,d6,d7,d8,d9,ha1,ha2,ha3,ha4,hz0,hz1,hz2,RR,seval]
                 repeat' ((first|refine aR (fun h=>?_) (fun h=>?_)|refine aV (fun h=>?_) (fun h=>?_))<;>simp only[h,nb3_b2,nb2_b3,aD,d1,d2,d3,d4,d5,d6,d7,d8,d9,ha1,ha2,ha3,ha4,hz0,hz1,hz2,RR,seval])
                 all_goals
                  apply y;clear y;refine aO ?_;simp only[bB,aL,bH,aD,d1,d2,d3,d4,d5,d6,d7,d8,d9,ha1,ha2,ha3,ha4,hz0,hz1,hz2,RR,seval];refine aZ.pure ?_
                  first|rfl|(simp_all;done)|(simp_all [Bool.and_comm,Bool.and_assoc,Bool.and_left_comm];done)
             try (cases hc16;done)
             all_goals
              refine aK ?_;try simp only[RR]
              refine aB fun _ y=>aA rfl ?_;simp only[aD,d1,d2,d3,d4,d5,d6,d7,d8,d9,ha1,ha2,ha3,ha4,hz0,hz1,hz2,RR,seval];apply y;clear y;refine aO ?_;simp only[bB,aL,bH,aD,d1,d2,d3,d4,d5,d6,d7,d8,d9,ha1,ha2,ha3,ha4,hz0,hz1,hz2,RR,seval];refine aZ.pure ?_
              first|rfl|(simp_all;done)|(simp_all [Bool.and_comm,Bool.and_assoc,Bool.and_left_comm];done)
          try (cases hc13;done)
          all_goals
           refine aA rfl ?_;simp only[d5,RR,seval];refine aH _ rfl (fun hc14=>?_) (fun hc14=>?_)
           ·try (cases hc14;done)
            all_goals
             refine aB fun _ y=>aA rfl ?_;simp only[aD,hz1,RR,seval]
             repeat' ((first|refine aR (fun h=>?_) (fun h=>?_)|refine aV (fun h=>?_) (fun h=>?_))<;>simp only[h,ha1,ha2,RR,seval])
             all_goals
              apply y;clear y;refine aO ?_;simp only[bB,aL,bH,RR,seval];refine aZ.pure ?_
              first|rfl|(simp_all;done)|(simp_all [Bool.and_comm,Bool.and_assoc,Bool.and_left_comm];done)
           try (cases hc14;done)
           all_goals
            refine aB fun _ y=>aA rfl ?_;simp only[d7,RR,seval];apply y;clear y;refine aH _ rfl (fun hc16=>?_) (fun hc16=>?_)
            ·try (cases hc16;done)
             all_goals
              refine aI ?_;refine aB fun _ y=>aA rfl ?_;simp only[aD,hz0,RR,seval]
              repeat' ((first|refine aR (fun h=>?_) (fun h=>?_)|refine aV (fun h=>?_) (fun h=>?_))<;>simp only[h,nb2_b3,aD,hz1,RR,seval])
              all_goals
               apply y;clear y;refine aH _ rfl (fun hc17=>?_) (fun hc17=>?_)
               ·try (cases hc17;done)
                all_goals
                 refine aB fun _ y=>aA rfl ?_;simp only[RR,seval];apply y;clear y;refine aO ?_;simp only[bB,aL,bH,RR,seval];refine aZ.pure ?_
                 first|rfl|(simp_all;done)|(simp_all [Bool.and_comm,Bool.and_assoc,Bool.and_left_comm];done)
               try (cases hc17;done)
               all_goals
                refine aK ?_;try simp only[RR]
                refine aB fun _ y=>aA rfl ?_;simp only[ha2,RR,seval]
                repeat' ((first|refine aR (fun h=>?_) (fun h=>?_)|refine aV (fun h=>?_) (fun h=>?_))<;>simp only[h,ha1,RR,seval])
                all_goals
                 apply y;clear y;refine aO ?_;simp only[bB,aL,bH,RR,seval];refine aZ.pure ?_
                 first|rfl|(simp_all;done)|(simp_all [Bool.and_comm,Bool.and_assoc,Bool.and_left_comm];done)
            try (cases hc16;done)
            all_goals
             refine aK ?_;try simp only[RR]
             refine aB fun _ y=>aA rfl ?_;simp only[RR,seval];apply y;clear y;refine aO ?_;simp only[bB,aL,bH,RR,seval];refine aZ.pure ?_
             first|rfl|(simp_all;done)|(simp_all [Bool.and_comm,Bool.and_assoc,Bool.and_left_comm];done)
set_option maxHeartbeats 4000000 in
theorem Hq (w:Int) (hw:0≤w∧w≤32768) (B:List CF) (wd:Bool) (n:Nat): ∀(l:List CE) (lv:Int),dR l≤n→pH l→0≤lv→lv≤1000→
  cJ cK 60 [.agg [.int .i64 w, .isl 5 (B.map CF.row), .bool wd], .isl 6 (l.map CE.row), .int .i64 lv] (.bool (eK w B l lv)):=by
 induction n using Nat.strongRecOn with
 |_ n ih=>
  intro l lv hn ho hl1 hl2;have hfit:l.length≤9223372036854775807:=ho.fit;have hex:=fun e he=>Li w hw B wd e he;generalize B.map CF.row=CR at *;have zl:IntKind.wrap .i64 (lv+1)=lv+1:=by rw[aQ _ (by omega)]
  rw[sV];have hbad: ∀{k:Nat} {e:CE},l[k]?=some e→jQ w B e lv=false→AV.bool false=AV.bool (l.all fun e=>jQ w B e lv):=fun h0 h1=>by rw[Ef h0 h1]
  refine bI 36 [.tmp 6] Tryz.func60 rfl rfl rfl rfl ?_;refine aB fun _ y=>aA rfl ?_;simp only[RR,seval];refine aP fun b3 hn3=>?_;simp only[RR,seval];apply y;clear y;refine aI ?_;refine bM fun F1 M1 hfr hH=>?_;have g1:=hfr 1;have g2:=hfr 2;have g3:=hfr 3;have g6:=hfr 6;have gb3:=hH b3
  try simp only[RR,seval]at g1 g2 g3 g6 gb3
  have f1:=g1;clear g1;have f2:=g2;clear g2;have f3:=g3;clear g3;have f6:=g6;clear g6;have hb3:=gb3;clear gb3;clear hfr hH;refine dS (fun fr M=>bC [1,2,3] F1 fr∧M b3=M1 b3∧(l.length=0∨lv≤24)) (fun KS1 hKS1=>?_) ?_
  ·have agS1:=bC.refl [1,2,3] F1
   have eS1_b3:M1 b3=M1 b3:=rfl;refine aB fun _ y=>aA rfl ?_;simp only[f1,aD,RR,seval]
   repeat' ((first|refine aR (fun h=>?_) (fun h=>?_)|refine aV (fun h=>?_) (fun h=>?_))<;>simp only[h,f2,RR,seval])
   all_goals
    apply y;clear y;refine aH _ rfl (fun hc1=>?_) (fun hc1=>?_)
    ·try (cases hc1;done)
     all_goals
      refine aB fun _ y=>aA rfl ?_;simp only[RR,seval];apply y;clear y;refine aO ?_;simp only[bB,aL,bH,RR,seval];refine aZ.pure ?_
      first|exact hbd (by rw[(by simpa using ‹(!fc)=true› :fc=false)];simp only[Bool.and_false,Bool.false_and])|exact hbd (by rw[(by simpa using hc6:a6=false)];simp only[Bool.and_false])|(rw[hkn0,List.take_length]at hk;rw[hk])|(have hp:0<l.length:=(by have:=aC ‹decide ((0:Int)<(l.length:Int))=true›;omega);exact hbad (aG hp) (by rw[nZ,aU (p:=lv≤24) (by have:=aC hc1;omega)];simp only[Bool.false_and]))
    try (cases hc1;done)
    all_goals
     refine aK ?_;try simp only[RR]
     refine hKS1 _ _ ⟨(by repeat (first|exact agS1|refine bC.upd rfl ?_)),(by first|exact eS1_b3|(simp only[aJ,seval];first|done|exact eS1_b3)), ?_⟩
     first|exact .inl (by have:=aF ‹decide ((0:Int)<(l.length:Int))=false›;omega)|exact .inr (by have:=aF hc1;omega)
  rintro F2 M2 ⟨agx,gb3,hq⟩;have f1:=(agx 1 rfl).trans f1;have f2:=(agx 2 rfl).trans f2;have f3:=(agx 3 rfl).trans f3;have hb3:=gb3.trans hb3;clear agx;clear gb3;simp only[RR,seval];refine aI ?_;refine aB fun _ y=>aA rfl ?_;simp only[f1,aD,RR,seval];apply y;clear y;refine bM fun F3 M3 hfr hH=>?_;have g2:=hfr 2;have g3:=hfr 3;have g6:=hfr 6;have g16:=hfr 16;have g17:=hfr 17;have g18:=hfr 18;have gb3:=hH b3
  try simp only[f2,f3,hb3,RR,seval]at g2 g3 g6 g16 g17 g18 gb3
  have f2:=g2;clear g2;have f3:=g3;clear g3;have f6:=g6;clear g6;have f16:=g16;clear g16;have f17:=g17;clear g17;have f18:=g18;clear g18;have hb3:=gb3;clear gb3;clear hfr hH;refine aM ?_;refine bZ [2,3,16,17] (l.length) (fun k fr M=>fr 18= .int .i64 (k:Nat)∧M b3=M3 b3∧(l.take k).all (fun e=>jQ w B e lv)=true) ⟨f18,rfl,rfl⟩ ?_;rintro k F4 M4 hk0 ⟨fx,gb3,hk⟩ agx K0 hK0;have f2:=(agx 2 rfl).trans f2;have f3:=(agx 3 rfl).trans f3;have f16:=(agx 16 rfl).trans f16;have f17:=(agx 17 rfl).trans f17;have f18:=fx;clear fx;have hb3:=gb3.trans hb3;have ag0:=bC.refl [2,3,16,17] F4;have e0_b3:=gb3;clear gb3;clear agx;refine aB fun _ y=>aA rfl ?_;simp only[f17,f18,RR,seval];apply y;clear y;refine aI ?_;refine aH _ rfl (fun hc=>?_) (fun hc=>?_)
  ·have hlt0:k<l.length:=by have:=aC hc;omega
   clear hc;have hg0:=aG hlt0;have hm:=mU (bA hlt0);have hoe:=ho.all _ (bA hlt0);have hs:=(l[k]).sz_eq;have hg:=yG hg0;generalize l[k]=e at hg0 hm hoe hs hg;have hlv:lv≤24:=by rcases hq with h|h;omega;exact h
   have hce:=hex e hoe;have hkd:=ih (dR e.kids) (by omega) e.kids (lv+1) (aY _) hoe.kids (by omega) (by omega);have hbd:=hbad hg0;have htk:=Ip hg0 hk;rw[nZ,bG hlv]at hbd htk;generalize pQ w B e=fc at *;generalize eK w B e.kids (lv+1)=a6 at *;refine aK ?_;try simp only[RR]
   refine aI ?_;refine aM ?_;refine aB fun _ y=>aA rfl ?_;simp only[f16,f18,hg,RR,seval];refine aP fun b8 hn8=>?_;have nb8_b3:b8≠b3:=fun e=>by rw[e]at hn8;simp only[hb3,seval,reduceCtorEq]at hn8
   have nb3_b8:b3≠b8:=fun e=>nb8_b3 e.symm;simp only[RR,seval];apply y;clear y;refine aB fun _ y=>aA rfl ?_;simp only[f3,hb3,nb3_b8,RR,seval]
   all_goals try (refine aN (hce) ?_;simp only[RR,seval])
   all_goals try ((first|refine aR (fun h=>?_) (fun h=>?_)|refine aV (fun h=>?_) (fun h=>?_))<;>simp only[h,f2,f3,hb3,nb3_b8,zl,RR,seval])
   all_goals try (refine aN (hkd) ?_;simp only[RR,seval])
   all_goals
    apply y;clear y;refine aH _ rfl (fun hc6=>?_) (fun hc6=>?_)
    ·try (cases hc6;done)
     all_goals
      refine aB fun _ y=>aA rfl ?_;simp only[RR,seval];apply y;clear y;refine aO ?_;simp only[bB,aL,bH,RR,seval];refine aZ.pure ?_
      first|exact hbd (by rw[(by simpa using ‹(!fc)=true› :fc=false)];simp only[Bool.and_false,Bool.false_and])|exact hbd (by rw[(by simpa using hc6:a6=false)];simp only[Bool.and_false])|(rw[hkn0,List.take_length]at hk;rw[hk])|(have hp:0<l.length:=(by have:=aC ‹decide ((0:Int)<(l.length:Int))=true›;omega);exact hbad (aG hp) (by rw[nZ,aU (p:=lv≤24) (by have:=aC hc1;omega)];simp only[Bool.false_and]))
    try (cases hc6;done)
    all_goals
     refine aK ?_;try simp only[RR]
     refine aA rfl ?_;simp only[f18,RR,seval]
     try rw[aQ _ (by omega)]
     refine hK0 _ _ hlt0 ⟨by first|rfl|(simp only[aJ,seval];rfl),(by first|exact e0_b3|(simp only[nb3_b8,aJ,seval];first|done|exact e0_b3)),htk (by rw[(by simpa using ‹(!fc)=false› :fc=true),(by simpa using hc6:a6=true)];rfl)⟩ (by repeat (first|exact ag0|refine bC.upd rfl ?_))
  have hkn0:k=l.length:=by have:=aF hc;omega
  clear hc;refine bF ?_;simp only[RR,seval];refine aB fun _ y=>aA rfl ?_;simp only[RR,seval];apply y;clear y;refine aO ?_;simp only[bB,aL,bH,RR,seval];refine aZ.pure ?_
  first|exact hbd (by rw[(by simpa using ‹(!fc)=true› :fc=false)];simp only[Bool.and_false,Bool.false_and])|exact hbd (by rw[(by simpa using hc6:a6=false)];simp only[Bool.and_false])|(rw[hkn0,List.take_length]at hk;rw[hk])|(have hp:0<l.length:=(by have:=aC ‹decide ((0:Int)<(l.length:Int))=true›;omega);exact hbad (aG hp) (by rw[nZ,aU (p:=lv≤24) (by have:=aC hc1;omega)];simp only[Bool.false_and]))
set_option maxHeartbeats 4000000 in
theorem Ho (w:Int) (hw:0≤w∧w≤32768) (B:List CF) (wd:Bool) (n:Nat): ∀(l:List CS) (lv:Int),dB l≤n→uE l→0≤lv→lv≤1000→
  cJ cK 32 [.agg [.int .i64 w, .isl 5 (B.map CF.row), .bool wd], .isl 6 (l.map CS.row), .int .i64 lv] (.bool (dO w B wd l lv)):=by
 induction n using Nat.strongRecOn with
 |_ n ih=>
  intro l lv hn ho hl1 hl2;have hfit:l.length≤9223372036854775807:=ho.fit;have hst:=fun e he=>Lh w hw B wd e he;have hexs:=fun(l:List CE) lv h1 h2 h3=>Hq w hw B wd (dR l) l lv (aY _) h1 h2 h3;generalize B.map CF.row=CR at *;have zl:IntKind.wrap .i64 (lv+1)=lv+1:=by rw[aQ _ (by omega)]
  rw[sU];have hbad: ∀{k:Nat} {e:CS},l[k]?=some e→jP w B wd e lv=false→AV.bool false=AV.bool (l.all fun e=>jP w B wd e lv):=fun h0 h1=>by rw[Ef h0 h1]
  refine bI 52 [.tmp 6] Tryz.func32 rfl rfl rfl rfl ?_;refine aB fun _ y=>aA rfl ?_;simp only[RR,seval];refine aP fun b3 hn3=>?_;simp only[RR,seval];apply y;clear y;refine aI ?_;refine bM fun F1 M1 hfr hH=>?_;have g1:=hfr 1;have g2:=hfr 2;have g3:=hfr 3;have g6:=hfr 6;have gb3:=hH b3
  try simp only[RR,seval]at g1 g2 g3 g6 gb3
  have f1:=g1;clear g1;have f2:=g2;clear g2;have f3:=g3;clear g3;have f6:=g6;clear g6;have hb3:=gb3;clear gb3;clear hfr hH;refine dS (fun fr M=>bC [1,2,3] F1 fr∧M b3=M1 b3∧(l.length=0∨lv≤24)) (fun KS1 hKS1=>?_) ?_
  ·have agS1:=bC.refl [1,2,3] F1
   have eS1_b3:M1 b3=M1 b3:=rfl;refine aB fun _ y=>aA rfl ?_;simp only[f1,aD,RR,seval]
   repeat' ((first|refine aR (fun h=>?_) (fun h=>?_)|refine aV (fun h=>?_) (fun h=>?_))<;>simp only[h,f2,RR,seval])
   all_goals
    apply y;clear y;refine aH _ rfl (fun hc1=>?_) (fun hc1=>?_)
    ·try (cases hc1;done)
     all_goals
      refine aB fun _ y=>aA rfl ?_;simp only[RR,seval];apply y;clear y;refine aO ?_;simp only[bB,aL,bH,RR,seval];refine aZ.pure ?_
      first|exact hbd (by rw[(by simpa using ‹(!fc)=true› :fc=false)];simp only[Bool.and_false,Bool.false_and])|exact hbd (by rw[(by simpa using hc6:a5=false)];simp only[Bool.and_false,Bool.false_and])|exact hbd (by rw[(by simpa using ‹(!a6)=true› :a6=false)];simp only[Bool.and_false,Bool.false_and])|exact hbd (by rw[(by simpa using hc8:a7=false)];simp only[Bool.and_false])|(rw[hkn0,List.take_length]at hk;rw[hk])|(have hp:0<l.length:=(by have:=aC ‹decide ((0:Int)<(l.length:Int))=true›;omega);exact hbad (aG hp) (by rw[lC,aU (p:=lv≤24) (by have:=aC hc1;omega)];simp only[Bool.false_and]))
    try (cases hc1;done)
    all_goals
     refine aK ?_;try simp only[RR]
     refine hKS1 _ _ ⟨(by repeat (first|exact agS1|refine bC.upd rfl ?_)),(by first|exact eS1_b3|(simp only[aJ,seval];first|done|exact eS1_b3)), ?_⟩
     first|exact .inl (by have:=aF ‹decide ((0:Int)<(l.length:Int))=false›;omega)|exact .inr (by have:=aF hc1;omega)
  rintro F2 M2 ⟨agx,gb3,hq⟩;have f1:=(agx 1 rfl).trans f1;have f2:=(agx 2 rfl).trans f2;have f3:=(agx 3 rfl).trans f3;have hb3:=gb3.trans hb3;clear agx;clear gb3;simp only[RR,seval];refine aI ?_;refine aB fun _ y=>aA rfl ?_;simp only[f1,aD,RR,seval];apply y;clear y;refine bM fun F3 M3 hfr hH=>?_;have g2:=hfr 2;have g3:=hfr 3;have g6:=hfr 6;have g16:=hfr 16;have g17:=hfr 17;have g18:=hfr 18;have gb3:=hH b3
  try simp only[f2,f3,hb3,RR,seval]at g2 g3 g6 g16 g17 g18 gb3
  have f2:=g2;clear g2;have f3:=g3;clear g3;have f6:=g6;clear g6;have f16:=g16;clear g16;have f17:=g17;clear g17;have f18:=g18;clear g18;have hb3:=gb3;clear gb3;clear hfr hH;refine aM ?_;refine bZ [2,3,16,17] (l.length) (fun k fr M=>fr 18= .int .i64 (k:Nat)∧M b3=M3 b3∧(l.take k).all (fun e=>jP w B wd e lv)=true) ⟨f18,rfl,rfl⟩ ?_;rintro k F4 M4 hk0 ⟨fx,gb3,hk⟩ agx K0 hK0;have f2:=(agx 2 rfl).trans f2;have f3:=(agx 3 rfl).trans f3;have f16:=(agx 16 rfl).trans f16;have f17:=(agx 17 rfl).trans f17;have f18:=fx;clear fx;have hb3:=gb3.trans hb3;have ag0:=bC.refl [2,3,16,17] F4;have e0_b3:=gb3;clear gb3;clear agx;refine aB fun _ y=>aA rfl ?_;simp only[f17,f18,RR,seval];apply y;clear y;refine aI ?_;refine aH _ rfl (fun hc=>?_) (fun hc=>?_)
  ·have hlt0:k<l.length:=by have:=aC hc;omega
   clear hc;have hg0:=aG hlt0;have hm:=mT (bA hlt0);have hoe:=ho.all _ (bA hlt0);have hs:=(l[k]).sz_eq;have hg:=yF hg0;generalize l[k]=e at hg0 hm hoe hs hg;have hlv:lv≤24:=by rcases hq with h|h;omega;exact h
   have hce:=hst e hoe;have hke:=hexs e.es (lv+1) hoe.es (by omega) (by omega);have hkt:=ih (dB e.thn) (by omega) e.thn (lv+1) (aY _) hoe.thn (by omega) (by omega);have hku:=ih (dB e.els) (by omega) e.els (lv+1) (aY _) hoe.els (by omega) (by omega);have hbd:=hbad hg0;have htk:=Ip hg0 hk;rw[lC,bG hlv]at hbd htk;generalize pP w B wd e=fc at *;generalize eK w B e.es (lv+1)=a5 at *;generalize dO w B wd e.thn (lv+1)=a6 at *;generalize dO w B wd e.els (lv+1)=a7 at *;refine aK ?_;try simp only[RR]
   refine aI ?_;refine aM ?_;refine aB fun _ y=>aA rfl ?_;simp only[f16,f18,hg,RR,seval];refine aP fun b8 hn8=>?_;have nb8_b3:b8≠b3:=fun e=>by rw[e]at hn8;simp only[hb3,seval,reduceCtorEq]at hn8
   have nb3_b8:b3≠b8:=fun e=>nb8_b3 e.symm;simp only[RR,seval];apply y;clear y;refine aI ?_;refine bM fun F5 M5 hfr hH=>?_;have g2:=hfr 2;have g3:=hfr 3;have g6:=hfr 6;have g8:=hfr 8;have g16:=hfr 16;have g17:=hfr 17;have g18:=hfr 18;have gb3:=hH b3;have gb8:=hH b8
   try simp only[f2,f3,f16,f17,f18,hb3,nb3_b8,RR,seval]at g2 g3 g6 g8 g16 g17 g18 gb3 gb8
   have ag0:bC [2,3,16,17] F4 F5:=bC.same hfr (by repeat (first|exact ag0|refine bC.upd rfl ?_));have e0_b3:=(hH b3).trans (by first|exact e0_b3|(simp only[nb3_b8,aJ,seval];first|done|exact e0_b3));have f2:=g2;clear g2;have f3:=g3;clear g3;have f6:=g6;clear g6;have f8:=g8;clear g8;have f16:=g16;clear g16;have f17:=g17;clear g17;have f18:=g18;clear g18;have hb3:=gb3;clear gb3;have hb8:=gb8;clear gb8;clear hfr hH;refine dS (fun fr M=>bC [2,3,8,16,17,18] F5 fr∧M b3=M5 b3∧M b8=M5 b8∧fc=true∧a5=true) (fun KS6 hKS6=>?_) ?_
   ·have agS6:=bC.refl [2,3,8,16,17,18] F5
    have eS6_b3:M5 b3=M5 b3:=rfl;have eS6_b8:M5 b8=M5 b8:=rfl;refine aB fun _ y=>aA rfl ?_;simp only[f3,f8,hb3,hb8,RR,seval]
    all_goals try (refine aN (hce) ?_;simp only[RR,seval])
    all_goals try ((first|refine aR (fun h=>?_) (fun h=>?_)|refine aV (fun h=>?_) (fun h=>?_))<;>simp only[h,f2,f3,f8,hb3,hb8,zl,RR,seval])
    all_goals try (refine aN (hke) ?_;simp only[RR,seval])
    all_goals
     apply y;clear y;refine aH _ rfl (fun hc6=>?_) (fun hc6=>?_)
     ·try (cases hc6;done)
      all_goals
       refine aB fun _ y=>aA rfl ?_;simp only[RR,seval];apply y;clear y;refine aO ?_;simp only[bB,aL,bH,RR,seval];refine aZ.pure ?_
       first|exact hbd (by rw[(by simpa using ‹(!fc)=true› :fc=false)];simp only[Bool.and_false,Bool.false_and])|exact hbd (by rw[(by simpa using hc6:a5=false)];simp only[Bool.and_false,Bool.false_and])|exact hbd (by rw[(by simpa using ‹(!a6)=true› :a6=false)];simp only[Bool.and_false,Bool.false_and])|exact hbd (by rw[(by simpa using hc8:a7=false)];simp only[Bool.and_false])|(rw[hkn0,List.take_length]at hk;rw[hk])|(have hp:0<l.length:=(by have:=aC ‹decide ((0:Int)<(l.length:Int))=true›;omega);exact hbad (aG hp) (by rw[lC,aU (p:=lv≤24) (by have:=aC hc1;omega)];simp only[Bool.false_and]))
     try (cases hc6;done)
     all_goals
      refine aK ?_;try simp only[RR]
      refine hKS6 _ _ ⟨(by repeat (first|exact agS6|refine bC.upd rfl ?_)),(by first|exact eS6_b3|(simp only[nb8_b3,nb3_b8,aJ,seval];first|done|exact eS6_b3)),(by first|exact eS6_b8|(simp only[nb8_b3,nb3_b8,aJ,seval];first|done|exact eS6_b8)),(by simpa using ‹(!fc)=false›),(by simpa using hc6)⟩
   rintro F6 M6 ⟨agx,gb3,gb8,hfc,ha5⟩;have f2:=(agx 2 rfl).trans f2;have f3:=(agx 3 rfl).trans f3;have f8:=(agx 8 rfl).trans f8;have f16:=(agx 16 rfl).trans f16;have f17:=(agx 17 rfl).trans f17;have f18:=(agx 18 rfl).trans f18;have hb3:=gb3.trans hb3;have hb8:=gb8.trans hb8;have ag0:bC [2,3,16,17] F4 F6:=bC.sub agx rfl ag0;have e0_b3:=gb3.trans e0_b3;clear agx;clear gb3;clear gb8;simp only[RR,seval];refine aB fun _ y=>aA rfl ?_;simp only[f2,f3,f8,hb3,hb8,zl,RR,seval]
   all_goals try (refine aN (hkt) ?_;simp only[RR,seval])
   all_goals try ((first|refine aR (fun h=>?_) (fun h=>?_)|refine aV (fun h=>?_) (fun h=>?_))<;>simp only[h,f2,f3,f8,hb3,hb8,zl,RR,seval])
   all_goals try (refine aN (hku) ?_;simp only[RR,seval])
   all_goals
    apply y;clear y;refine aH _ rfl (fun hc8=>?_) (fun hc8=>?_)
    ·try (cases hc8;done)
     all_goals
      refine aB fun _ y=>aA rfl ?_;simp only[RR,seval];apply y;clear y;refine aO ?_;simp only[bB,aL,bH,RR,seval];refine aZ.pure ?_
      first|exact hbd (by rw[(by simpa using ‹(!fc)=true› :fc=false)];simp only[Bool.and_false,Bool.false_and])|exact hbd (by rw[(by simpa using hc6:a5=false)];simp only[Bool.and_false,Bool.false_and])|exact hbd (by rw[(by simpa using ‹(!a6)=true› :a6=false)];simp only[Bool.and_false,Bool.false_and])|exact hbd (by rw[(by simpa using hc8:a7=false)];simp only[Bool.and_false])|(rw[hkn0,List.take_length]at hk;rw[hk])|(have hp:0<l.length:=(by have:=aC ‹decide ((0:Int)<(l.length:Int))=true›;omega);exact hbad (aG hp) (by rw[lC,aU (p:=lv≤24) (by have:=aC hc1;omega)];simp only[Bool.false_and]))
    try (cases hc8;done)
    all_goals
     refine aK ?_;try simp only[RR]
     refine aA rfl ?_;simp only[f18,RR,seval]
     try rw[aQ _ (by omega)]
     refine hK0 _ _ hlt0 ⟨by first|rfl|(simp only[aJ,seval];rfl),(by first|exact e0_b3|(simp only[nb8_b3,nb3_b8,aJ,seval];first|done|exact e0_b3)),htk (by rw[hfc,ha5,(by simpa using ‹(!a6)=false› :a6=true),(by simpa using hc8:a7=true)];rfl)⟩ (by repeat (first|exact ag0|refine bC.upd rfl ?_))
  have hkn0:k=l.length:=by have:=aF hc;omega
  clear hc;refine bF ?_;simp only[RR,seval];refine aB fun _ y=>aA rfl ?_;simp only[RR,seval];apply y;clear y;refine aO ?_;simp only[bB,aL,bH,RR,seval];refine aZ.pure ?_
  first|exact hbd (by rw[(by simpa using ‹(!fc)=true› :fc=false)];simp only[Bool.and_false,Bool.false_and])|exact hbd (by rw[(by simpa using hc6:a5=false)];simp only[Bool.and_false,Bool.false_and])|exact hbd (by rw[(by simpa using ‹(!a6)=true› :a6=false)];simp only[Bool.and_false,Bool.false_and])|exact hbd (by rw[(by simpa using hc8:a7=false)];simp only[Bool.and_false])|(rw[hkn0,List.take_length]at hk;rw[hk])|(have hp:0<l.length:=(by have:=aC ‹decide ((0:Int)<(l.length:Int))=true›;omega);exact hbad (aG hp) (by rw[lC,aU (p:=lv≤24) (by have:=aC hc1;omega)];simp only[Bool.false_and]))
end Go.Proofs.YtnfbbjhdflhmjaaGreatDoor
