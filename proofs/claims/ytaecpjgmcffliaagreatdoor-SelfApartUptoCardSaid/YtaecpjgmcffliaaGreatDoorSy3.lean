/- Chapter 13: the program's own small functions of names. Chapter 14, the program's: may a program be? First part: names; an expression's form. Chapter 14, the program's: the forms of expressions and statements. Chapter 14, the program's: the forms of statements; what is nested. Chapter 14, the program's: statements that are nested; Right. Chapter 14, the program's: Right. -/
import Derived.Test.YtaecpjgmcffliaaGreatDoorSy2
import Derived.Test.YtaecpjgmcffliaaGreatDoorAl4
set_option linter.unusedSimpArgs false
set_option linter.unusedVariables false
set_option maxRecDepth 10000
namespace Go.Proofs.YtaecpjgmcffliaaGreatDoor
open Go.Al
theorem Uk (c:Int):cM cG 224 [.int .u8 c] (.bool (xQ c)):=by
 refine bM 9 [.tmp 2] Tryz.func224 rfl rfl rfl rfl ?_;refine aB fun K z=>?_;refine aA rfl ?_;simp only[RR,seval];apply z;clear z;refine aB fun K z=>?_;refine aA rfl ?_;simp only[RR,seval]
 repeat' ((first|refine aO (fun h=>?_) (fun h=>?_)|refine aR (fun h=>?_) (fun h=>?_))<;>simp only[h,RR,seval])
 all_goals
  apply z;clear z;refine aM ?_;simp only[aZ,aL,bJ,RR,seval];refine bB.pure ?_;simp [xQ, *]
theorem Cj (c:Int):cM cG 183 [.int .u8 c] (.bool (oD c)):=by
 refine bM 17 [.tmp 2] Tryz.func183 rfl rfl rfl rfl ?_;refine aB fun K z=>?_;refine aA rfl ?_;simp only[RR,seval];apply z;clear z;refine aB fun K z=>?_;refine aA rfl ?_;simp only[RR,seval]
 repeat' ((first|refine aO (fun h=>?_) (fun h=>?_)|refine aR (fun h=>?_) (fun h=>?_))<;>simp only[h,RR,seval])
 all_goals
  apply z;clear z;refine aM ?_;simp only[aZ,aL,bJ,RR,seval];refine bB.pure ?_;simp [oD, *]
theorem Np (c:Int):cM cG 185 [.int .u8 c] (.bool (C9 c)):=by
 refine bM 13 [.tmp 2] Tryz.func185 rfl rfl rfl rfl ?_;refine aB fun K z=>?_;refine aA rfl ?_;simp only[RR,seval];apply z;clear z;refine aB fun K z=>?_;refine aA rfl ?_;simp only[RR,seval];refine aP (Cj c) ?_;simp only[RR,seval];refine aO (fun h=>?_) (fun h=>?_)<;>simp only[h,RR,seval]
 ·refine aP (Uk c) ?_
  simp only[RR,seval]
  repeat' ((first|refine aO (fun h=>?_) (fun h=>?_)|refine aR (fun h=>?_) (fun h=>?_))<;>simp only[h,RR,seval])
  all_goals
   apply z;clear z;refine aM ?_;simp only[aZ,aL,bJ,RR,seval];refine bB.pure ?_;simp [C9, *]
 apply z;clear z;refine aM ?_;simp only[aZ,aL,bJ,RR,seval];refine bB.pure ?_;simp [C9, *]
theorem Nn (s:List UInt8):cM cG 186 [.str s] (.bool (dA.contains s)):=by
 refine bM 13 [.tmp 2] Tryz.func186 rfl rfl rfl rfl ?_;refine aB fun K z=>?_;refine aA rfl ?_;simp only[RR,seval];apply z;clear z;refine sP (fun fr H=>dA.contains s=false) ?_ ?_
 ·refine aB fun K z=>?_;refine aA rfl ?_;simp only[RR,seval]
  apply z;clear z;refine aN ?_;refine sO (fun n fr H=> ∃i,n=10 -i∧i≤10∧(dA.take i).contains s=false∧fr 0= .str s∧fr 4= .int .i64 (i:Nat)) 10 ⟨0,rfl,by omega,rfl,rfl,rfl⟩ ?_;rintro n fr H ⟨i,rfl,hi,hw,h0,h4⟩;refine aB fun K z=>?_;refine aA rfl ?_;simp only[RR,seval];simp only[h4,RR,seval];apply z;clear z;refine aJ ?_;refine aH _ rfl (fun hc=>?_) (fun hc=>?_)
  ·refine aK ?_;simp only[aU]
   have hi2:(i:Int)<10:=aD hc;have hi':i<10:=by omega
   have hl:i<dA.length:=hi';have hg:(dA.map AV.str)[i]?=some (.str dA[i]):=by rw[cE,aG hl];rfl
   refine aJ ?_;refine aN ?_;refine aB fun K z=>?_;refine aA rfl ?_;simp only[RR,seval];apply z;clear z;refine aB fun K z=>?_;refine aA rfl ?_;simp only[RR,seval];simp only[h0,h4,hi2,hg,RR,seval];apply z;clear z;refine aH _ rfl (fun hc=>?_) (fun hc=>?_)
   ·refine aB fun K z=>?_;refine aA rfl ?_;simp only[RR,seval]
    apply z;clear z;refine aM ?_;simp only[aU,aW,aZ,aL,bJ,RR,seval];refine bB.pure ?_;have :dA[i]=s:=aD hc;rw[←this];simp
   refine aK ?_;simp only[aU,aW];refine aA rfl ?_;simp only[RR,seval];simp only[h0,h4,RR,seval];refine⟨10 -(i+1),by omega,i+1,rfl,by omega, ?_, ?_⟩
   ·have hne: ¬dA[i]=s:=aE hc
    rw[bL hl];simp only[List.contains_append,hw,Bool.false_or];simp [Ne.symm hne]
   rw[aV _ (by omega)];rfl
  refine bI ?_;simp only[aU,aW,reduceIte];have hi2: ¬(i:Int)<10:=aE hc;have :i=10:=by omega
  subst this;exact hw
 intro fr H h;refine aB fun K z=>?_;refine aA rfl ?_;simp only[RR,seval];apply z;clear z;refine aM ?_;simp only[aZ,aL,bJ,RR,seval];refine bB.pure ?_;rw[h]
theorem Gl {α:Type} (p:α→Bool): ∀(s:List α) (i:Nat),(s.take i).all p=true→(∀x,s[i]?=some x→p x=false)→i≤s.length→s.takeWhile p=s.take i
 |[],i,_,_,_=>by simp
 |x::s,0,_,h,_=>by simp [List.takeWhile,h x rfl]
 |x::s,i+1,h,h',hi=>by
  simp only[List.take_succ_cons,List.all_cons,bA]at h;simp only[List.takeWhile,h.1,List.take_succ_cons];rw[Gl p s i h.2 (fun y hy=>h' y (by simpa using hy)) (by simpa using hi)]
theorem Uc (g:FuncId) (k:UInt8→Bool) (hk: ∀c:UInt8,cM cG g [.int .u8 c.toNat] (.bool (k c))) (s:List UInt8) (hs:s.length≤1000000):
  cM cG 184 [.str s, .fn (.func g) [] []] (.str (s.takeWhile k)):=by
 refine bM 22 [.tmp 4] Tryz.func184 rfl rfl rfl rfl ?_;refine aB fun K z=>?_;refine aA rfl ?_;simp only[RR,seval];apply z;clear z;refine aB fun K z=>?_;refine aA rfl ?_;simp only[RR,seval];apply z;clear z;refine sP (fun fr H=> ∃i:Nat,i≤s.length∧s.takeWhile k=s.take i∧fr 0= .str s∧fr 5= .int .i64 i) ?_ ?_
 ·refine aN ?_
  refine sO (fun n fr H=> ∃i:Nat,n=s.length-i∧i≤s.length∧(s.take i).all k=true∧fr 0= .str s∧fr 1= .fn (.func g) [] []∧fr 5= .int .i64 i) s.length ⟨0,rfl,by omega,rfl,rfl,rfl,rfl⟩ ?_;rintro n fr H ⟨i,rfl,hi,hw,h0,h1,h5⟩;refine aJ ?_;refine sP (fun fr' H'=> ∃b,fr' 16= .bool b∧fr' 0= .str s∧fr' 1= .fn (.func g) [] []∧fr' 5= .int .i64 i∧(b=true→ ∃c,s[i]?=some c∧k c=true)∧(b=false→ ∀c,s[i]?=some c→k c=false)) ?_ ?_
  ·refine aA rfl ?_;simp only[RR,seval]
   simp only[h0,h5,RR,seval];refine aR (fun h=>?_) (fun h=>?_)
   ·have h2:(i:Int)<s.length:=aD h
    have hl:i<s.length:=by omega
    have hg:s[i]?=some s[i]:=aG hl;simp only[h,h0,h1,h5,hg,RR,seval];refine aP (hk _) ?_;simp only[h0,h1,h5,RR,seval];refine⟨_,rfl, ?_, ?_⟩
    ·intro e;exact⟨_,rfl,e⟩
    intro e c hc;cases hc;exact e
   simp only[h,h0,h1,h5,RR,seval];refine⟨_,rfl, ?_, ?_⟩
   ·intro e;cases e
   intro _ c hc;have h2: ¬(i:Int)<s.length:=aE h;rw[List.getElem?_eq_none (by omega)]at hc;cases hc
  rintro fr H ⟨b,h16,h0,h1,h5,ht,hf⟩;refine aH _ h16 (fun hc=>?_) (fun hc=>?_)
  ·refine aK ?_;simp only[aU]
   refine aN ?_;refine aA rfl ?_;simp only[RR,seval];simp only[h0,h1,h5,RR,seval];obtain⟨c,hc1,hc2⟩:=ht hc;obtain⟨hl,hc3⟩:=bV.1 hc1;refine⟨s.length-(i+1),by omega,i+1,rfl,by omega, ?_, ?_⟩
   ·rw[bL hl,List.all_append,hw,hc3]
    simp [hc2]
   rw[aV _ (by omega)];simp []
  refine bI ?_;simp only[aU,aW,reduceIte];exact⟨i,hi,Gl k s i hw (hf hc) hi,h0,h5⟩
 rintro fr H ⟨i,hi,hw,h0,h5⟩;refine aB fun K z=>?_;refine aA rfl ?_;simp only[RR,seval];have h2:(i:Int)≤s.length:=by omega
 simp only[h0,h5,h2,RR,seval];apply z;clear z;refine aM ?_;simp only[aZ,aL,bJ,RR,seval];refine bB.pure ?_;rw[hw];simp
theorem J2 (s:List UInt8):cM cG 124 [.str s] (.bool (cV s)):=by
 refine bM 26 [.tmp 2] Tryz.func124 rfl rfl rfl rfl ?_
 cases hsc:s with
 |nil=>
  refine aB fun K z=>?_;refine aA rfl ?_;simp only[RR,seval];apply z;clear z;refine aB fun K z=>?_;refine aA rfl ?_;simp only[RR,seval];apply z;clear z;refine aM ?_;simp only[aZ,aL,bJ,RR,seval];refine bB.pure ?_;rfl
 |cons c r=>
  have h0:(c::r)[0]?=some c:=rfl;have hne:decide (c::r=[])=false:=rfl;rw[←hsc]at h0 hne⊢;have hB:cV s=(decide (s.length≤20)&&(oD c.toNat&&(decide (s.takeWhile oL=s)&& !dA.contains s))):=by rw[hsc];rfl
  clear hsc;rw[hB];refine aB fun K z=>?_;refine aA rfl ?_;simp only[RR,seval];apply z;clear z;refine aB fun K z=>?_;refine aA rfl ?_;simp only[RR,seval];simp only[hne,RR,seval];refine aR (fun h=>?_) (fun h=>?_)<;>simp only[h,h0,RR,seval]
  ·have hl:decide (s.length≤20)=true:=bQ (by have:=aD h;omega)
   refine aP (Cj _) ?_;simp only[RR,seval];refine aR (fun ha=>?_) (fun ha=>?_)<;>simp only[ha,RR,seval]
   ·refine aP (Uc _ oL (fun c=>Np _) s (by have:=aD hl;omega)) ?_
    simp only[RR,seval];refine aR (fun hf=>?_) (fun hf=>?_)<;>simp only[hf,RR,seval]
    ·refine aP (Nn s) ?_
     simp only[RR,seval];apply z;clear z;refine aM ?_;simp only[aZ,aL,bJ,RR,seval];refine bB.pure ?_;rw[hl,ha,hf];rfl
    apply z;clear z;refine aM ?_;simp only[aZ,aL,bJ,RR,seval];refine bB.pure ?_;rw[hl,ha,hf];rfl
   apply z;clear z;refine aM ?_;simp only[aZ,aL,bJ,RR,seval];refine bB.pure ?_;rw[hl,ha];rfl
  have hl:decide (s.length≤20)=false:=aX (by have:=aE h;omega);apply z;clear z;refine aM ?_;simp only[aZ,aL,bJ,RR,seval];refine bB.pure ?_;rw[hl];rfl
end Go.Proofs.YtaecpjgmcffliaaGreatDoor
namespace Go.Proofs.YtaecpjgmcffliaaGreatDoor
open Go.Al
theorem kH (s:cN):cM cG 83 [.str s] (.bool (cV s)):=by
 have hN:=J2 s;refine bM 17 [.tmp 2] Tryz.func83 rfl rfl rfl rfl ?_;refine aB fun _ z=>aA rfl ?_;simp only[RR,seval];apply z;clear z;refine aJ ?_;refine aB fun _ z=>aA rfl ?_;simp only[RR,seval];apply z;clear z;refine aN ?_;refine aJ ?_;refine aB fun _ z=>aA rfl ?_;simp only[RR,seval];apply z;clear z;refine bN fun F1 M1 hfr hH=>?_;have g0:=hfr 0;have g2:=hfr 2;have g3:=hfr 3;have g4:=hfr 4
 try simp only[RR,seval]at g0 g2 g3 g4
 have f0:=g0;clear g0;have f2:=g2;clear g2;have f3:=g3;clear g3;have f4:=g4;clear g4;clear hfr hH;refine dU (fun fr M=>aY [0,2] F1 fr∧fr 4= .bool (dA.contains s)) (fun KC2 hKC2=>?_) ?_
 ·have agC2:=aY.refl [0,2] F1
  refine aH _ (by first|rfl|exact f4) (fun hc2=>?_) (fun hc2=>?_)
  ·refine aK ?_;try simp only[RR]
   refine hKC2 _ _ ⟨(by repeat (first|exact agC2|refine aY.upd rfl ?_)), ?_⟩
   first|(rw[f4];obtain rfl:=aD hc2;rfl)|(obtain rfl:=aD hc2;rfl)|(obtain rfl:=aD hc3;rfl)|(obtain rfl:=aD hc4;rfl)|(obtain rfl:=aD hc5;rfl)|(obtain rfl:=aD hc6;rfl)|(obtain rfl:=aD hc7;rfl)|(obtain rfl:=aD hc8;rfl)|(obtain rfl:=aD hc9;rfl)|(obtain rfl:=aD hc10;rfl)|(simp only[aF,seval];simp [dA,aE hc2,aE hc3,aE hc4,aE hc5,aE hc6,aE hc7,aE hc8,aE hc9,aE hc10])
  refine aB fun _ z=>aA rfl ?_;simp only[f3,RR,seval];apply z;clear z;refine aH _ (by first|rfl|exact f4) (fun hc3=>?_) (fun hc3=>?_)
  ·refine aK ?_;try simp only[RR]
   refine hKC2 _ _ ⟨(by repeat (first|exact agC2|refine aY.upd rfl ?_)), ?_⟩
   first|(rw[f4];obtain rfl:=aD hc2;rfl)|(obtain rfl:=aD hc2;rfl)|(obtain rfl:=aD hc3;rfl)|(obtain rfl:=aD hc4;rfl)|(obtain rfl:=aD hc5;rfl)|(obtain rfl:=aD hc6;rfl)|(obtain rfl:=aD hc7;rfl)|(obtain rfl:=aD hc8;rfl)|(obtain rfl:=aD hc9;rfl)|(obtain rfl:=aD hc10;rfl)|(simp only[aF,seval];simp [dA,aE hc2,aE hc3,aE hc4,aE hc5,aE hc6,aE hc7,aE hc8,aE hc9,aE hc10])
  refine aB fun _ z=>aA rfl ?_;simp only[f3,RR,seval];apply z;clear z;refine aH _ (by first|rfl|exact f4) (fun hc4=>?_) (fun hc4=>?_)
  ·refine aK ?_;try simp only[RR]
   refine hKC2 _ _ ⟨(by repeat (first|exact agC2|refine aY.upd rfl ?_)), ?_⟩
   first|(rw[f4];obtain rfl:=aD hc2;rfl)|(obtain rfl:=aD hc2;rfl)|(obtain rfl:=aD hc3;rfl)|(obtain rfl:=aD hc4;rfl)|(obtain rfl:=aD hc5;rfl)|(obtain rfl:=aD hc6;rfl)|(obtain rfl:=aD hc7;rfl)|(obtain rfl:=aD hc8;rfl)|(obtain rfl:=aD hc9;rfl)|(obtain rfl:=aD hc10;rfl)|(simp only[aF,seval];simp [dA,aE hc2,aE hc3,aE hc4,aE hc5,aE hc6,aE hc7,aE hc8,aE hc9,aE hc10])
  refine aB fun _ z=>aA rfl ?_;simp only[f3,RR,seval];apply z;clear z;refine aH _ (by first|rfl|exact f4) (fun hc5=>?_) (fun hc5=>?_)
  ·refine aK ?_;try simp only[RR]
   refine hKC2 _ _ ⟨(by repeat (first|exact agC2|refine aY.upd rfl ?_)), ?_⟩
   first|(rw[f4];obtain rfl:=aD hc2;rfl)|(obtain rfl:=aD hc2;rfl)|(obtain rfl:=aD hc3;rfl)|(obtain rfl:=aD hc4;rfl)|(obtain rfl:=aD hc5;rfl)|(obtain rfl:=aD hc6;rfl)|(obtain rfl:=aD hc7;rfl)|(obtain rfl:=aD hc8;rfl)|(obtain rfl:=aD hc9;rfl)|(obtain rfl:=aD hc10;rfl)|(simp only[aF,seval];simp [dA,aE hc2,aE hc3,aE hc4,aE hc5,aE hc6,aE hc7,aE hc8,aE hc9,aE hc10])
  refine aB fun _ z=>aA rfl ?_;simp only[f3,RR,seval];apply z;clear z;refine aH _ (by first|rfl|exact f4) (fun hc6=>?_) (fun hc6=>?_)
  ·refine aK ?_;try simp only[RR]
   refine hKC2 _ _ ⟨(by repeat (first|exact agC2|refine aY.upd rfl ?_)), ?_⟩
   first|(rw[f4];obtain rfl:=aD hc2;rfl)|(obtain rfl:=aD hc2;rfl)|(obtain rfl:=aD hc3;rfl)|(obtain rfl:=aD hc4;rfl)|(obtain rfl:=aD hc5;rfl)|(obtain rfl:=aD hc6;rfl)|(obtain rfl:=aD hc7;rfl)|(obtain rfl:=aD hc8;rfl)|(obtain rfl:=aD hc9;rfl)|(obtain rfl:=aD hc10;rfl)|(simp only[aF,seval];simp [dA,aE hc2,aE hc3,aE hc4,aE hc5,aE hc6,aE hc7,aE hc8,aE hc9,aE hc10])
  refine aB fun _ z=>aA rfl ?_;simp only[f3,RR,seval];apply z;clear z;refine aH _ (by first|rfl|exact f4) (fun hc7=>?_) (fun hc7=>?_)
  ·refine aK ?_;try simp only[RR]
   refine hKC2 _ _ ⟨(by repeat (first|exact agC2|refine aY.upd rfl ?_)), ?_⟩
   first|(rw[f4];obtain rfl:=aD hc2;rfl)|(obtain rfl:=aD hc2;rfl)|(obtain rfl:=aD hc3;rfl)|(obtain rfl:=aD hc4;rfl)|(obtain rfl:=aD hc5;rfl)|(obtain rfl:=aD hc6;rfl)|(obtain rfl:=aD hc7;rfl)|(obtain rfl:=aD hc8;rfl)|(obtain rfl:=aD hc9;rfl)|(obtain rfl:=aD hc10;rfl)|(simp only[aF,seval];simp [dA,aE hc2,aE hc3,aE hc4,aE hc5,aE hc6,aE hc7,aE hc8,aE hc9,aE hc10])
  refine aB fun _ z=>aA rfl ?_;simp only[f3,RR,seval];apply z;clear z;refine aH _ (by first|rfl|exact f4) (fun hc8=>?_) (fun hc8=>?_)
  ·refine aK ?_;try simp only[RR]
   refine hKC2 _ _ ⟨(by repeat (first|exact agC2|refine aY.upd rfl ?_)), ?_⟩
   first|(rw[f4];obtain rfl:=aD hc2;rfl)|(obtain rfl:=aD hc2;rfl)|(obtain rfl:=aD hc3;rfl)|(obtain rfl:=aD hc4;rfl)|(obtain rfl:=aD hc5;rfl)|(obtain rfl:=aD hc6;rfl)|(obtain rfl:=aD hc7;rfl)|(obtain rfl:=aD hc8;rfl)|(obtain rfl:=aD hc9;rfl)|(obtain rfl:=aD hc10;rfl)|(simp only[aF,seval];simp [dA,aE hc2,aE hc3,aE hc4,aE hc5,aE hc6,aE hc7,aE hc8,aE hc9,aE hc10])
  refine aB fun _ z=>aA rfl ?_;simp only[f3,RR,seval];apply z;clear z;refine aH _ (by first|rfl|exact f4) (fun hc9=>?_) (fun hc9=>?_)
  ·refine aK ?_;try simp only[RR]
   refine hKC2 _ _ ⟨(by repeat (first|exact agC2|refine aY.upd rfl ?_)), ?_⟩
   first|(rw[f4];obtain rfl:=aD hc2;rfl)|(obtain rfl:=aD hc2;rfl)|(obtain rfl:=aD hc3;rfl)|(obtain rfl:=aD hc4;rfl)|(obtain rfl:=aD hc5;rfl)|(obtain rfl:=aD hc6;rfl)|(obtain rfl:=aD hc7;rfl)|(obtain rfl:=aD hc8;rfl)|(obtain rfl:=aD hc9;rfl)|(obtain rfl:=aD hc10;rfl)|(simp only[aF,seval];simp [dA,aE hc2,aE hc3,aE hc4,aE hc5,aE hc6,aE hc7,aE hc8,aE hc9,aE hc10])
  refine aB fun _ z=>aA rfl ?_;simp only[f3,RR,seval];apply z;clear z;refine aH _ (by first|rfl|exact f4) (fun hc10=>?_) (fun hc10=>?_)
  ·refine aK ?_;try simp only[RR]
   refine hKC2 _ _ ⟨(by repeat (first|exact agC2|refine aY.upd rfl ?_)), ?_⟩
   first|(rw[f4];obtain rfl:=aD hc2;rfl)|(obtain rfl:=aD hc2;rfl)|(obtain rfl:=aD hc3;rfl)|(obtain rfl:=aD hc4;rfl)|(obtain rfl:=aD hc5;rfl)|(obtain rfl:=aD hc6;rfl)|(obtain rfl:=aD hc7;rfl)|(obtain rfl:=aD hc8;rfl)|(obtain rfl:=aD hc9;rfl)|(obtain rfl:=aD hc10;rfl)|(simp only[aF,seval];simp [dA,aE hc2,aE hc3,aE hc4,aE hc5,aE hc6,aE hc7,aE hc8,aE hc9,aE hc10])
  refine aA rfl ?_;simp only[f3,RR,seval];refine hKC2 _ _ ⟨(by repeat (first|exact agC2|refine aY.upd rfl ?_)), ?_⟩
  first|(rw[f4];obtain rfl:=aD hc2;rfl)|(obtain rfl:=aD hc2;rfl)|(obtain rfl:=aD hc3;rfl)|(obtain rfl:=aD hc4;rfl)|(obtain rfl:=aD hc5;rfl)|(obtain rfl:=aD hc6;rfl)|(obtain rfl:=aD hc7;rfl)|(obtain rfl:=aD hc8;rfl)|(obtain rfl:=aD hc9;rfl)|(obtain rfl:=aD hc10;rfl)|(simp only[aF,seval];simp [dA,aE hc2,aE hc3,aE hc4,aE hc5,aE hc6,aE hc7,aE hc8,aE hc9,aE hc10])
 rintro F2 M2 ⟨agx,f4⟩;have f0:=(agx 0 rfl).trans f0;have f2:=(agx 2 rfl).trans f2;clear agx;simp only[RR,seval];refine aH _ (by first|rfl|exact f4) (fun hc11=>?_) (fun hc11=>?_)
 ·refine aB fun _ z=>aA rfl ?_
  simp only[RR,seval];apply z;clear z;refine aM ?_;simp only[aZ,aL,bJ,RR,seval];refine bB.pure ?_;rw[uI hc11]
 refine aK ?_;try simp only[RR]
 refine aB fun _ z=>aA rfl ?_;simp only[f0,RR,seval];refine aP (hN) ?_;simp only[RR,seval];apply z;clear z;refine aM ?_;simp only[aZ,aL,bJ,RR,seval];refine bB.pure ?_;rfl
theorem nT (l:List cN) (hl:cQ l):cM cG 82 [.isl 1 (l.map bG)] (.bool (l.all cV)):=by
 simp only[cQ]at hl;refine bM 15 [.tmp 2] Tryz.func82 rfl rfl rfl rfl ?_;refine aB fun _ z=>aA rfl ?_;simp only[RR,seval];apply z;clear z;refine aJ ?_;refine aB fun _ z=>aA rfl ?_;simp only[aC,RR,seval];apply z;clear z;refine bN fun F1 M1 hfr hH=>?_;have g2:=hfr 2;have g5:=hfr 5;have g6:=hfr 6;have g7:=hfr 7
 try simp only[RR,seval]at g2 g5 g6 g7
 have f2:=g2;clear g2;have f5:=g5;clear g5;have f6:=g6;clear g6;have f7:=g7;clear g7;clear hfr hH;refine aN ?_;refine cF [5,6] (l.length) (fun k fr M=>fr 7= .int .i64 (k:Nat)∧l.all cV=(l.drop k).all cV) ⟨f7,by rw[List.drop_zero]⟩ ?_;rintro k F2 M2 hk0 ⟨fx,hall⟩ agx K0 hK0;have f5:=(agx 5 rfl).trans f5;have f6:=(agx 6 rfl).trans f6;have f7:=fx;clear fx;have ag0:=aY.refl [5,6] F2;clear agx;refine aB fun _ z=>aA rfl ?_;simp only[f6,f7,RR,seval];apply z;clear z;refine aJ ?_;refine aH _ rfl (fun hc=>?_) (fun hc=>?_)
 ·have hlt0:k<l.length:=by have:=aD hc;omega
  clear hc;have hg:=vH (aG hlt0);rw[bD hlt0,List.all_cons]at hall;generalize l[k]=s at hg hall;have hm:=kH s;refine aK ?_;try simp only[RR]
  refine aJ ?_;refine aN ?_;refine aB fun _ z=>aA rfl ?_;simp only[f5,f7,hg,RR,seval];apply z;clear z;refine aB fun _ z=>aA rfl ?_;simp only[RR,seval];refine aP (hm) ?_;simp only[RR,seval];apply z;clear z;refine aH _ rfl (fun hc4=>?_) (fun hc4=>?_)
  ·refine aB fun _ z=>aA rfl ?_
   simp only[RR,seval];apply z;clear z;refine aM ?_;simp only[aZ,aL,bJ,RR,seval];refine bB.pure ?_;rw[hall,show cV s=false by simpa using hc4];rfl
  refine aK ?_;try simp only[RR]
  refine aA rfl ?_;simp only[f7,RR,seval]
  try rw[aV _ (by omega)]
  refine hK0 _ _ hlt0 ⟨by first|rfl|(simp only[aF,seval];rfl),by rw[hall,show cV s=true by simpa using hc4,Bool.true_and]⟩ (by repeat (first|exact ag0|refine aY.upd rfl ?_))
 have hkn0:k=l.length:=by have:=aE hc;omega
 clear hc;refine bI ?_;simp only[RR,seval];refine aB fun _ z=>aA rfl ?_;simp only[RR,seval];apply z;clear z;refine aM ?_;simp only[aZ,aL,bJ,RR,seval];refine bB.pure ?_;rw[hall,hkn0,List.drop_length];rfl
def wV (s:cN) (b:Bool):Bool:=if b then cV s else decide (s=[])
theorem rU (s:cN) (b:Bool):cM cG 187 [.str s, .bool b] (.bool (wV s b)):=by
 have hm:=kH s
 cases b with
 |true=>
  refine bM 10 [.tmp 4] Tryz.func187 rfl rfl rfl rfl ?_;refine aB fun _ z=>aA rfl ?_;simp only[RR,seval];apply z;clear z;refine aJ ?_;refine aB fun _ z=>aA rfl ?_;simp only[RR,seval];apply z;clear z;refine aH true rfl (fun _=>?_) (fun hc=>by cases hc);refine aB fun _ z=>aA rfl ?_;simp only[RR,seval];refine aP (hm) ?_;simp only[RR,seval];apply z;clear z;refine aM ?_;simp only[aZ,aL,bJ,RR,seval];refine bB.pure ?_;rfl
 |false=>
  refine bM 10 [.tmp 4] Tryz.func187 rfl rfl rfl rfl ?_;refine aB fun _ z=>aA rfl ?_;simp only[RR,seval];apply z;clear z;refine aJ ?_;refine aB fun _ z=>aA rfl ?_;simp only[RR,seval];apply z;clear z;refine aH false rfl (fun hc=>by cases hc) (fun _=>?_);refine aK ?_;try simp only[RR]
  refine aB fun _ z=>aA rfl ?_;simp only[RR,seval];apply z;clear z;refine aM ?_;simp only[aZ,aL,bJ,RR,seval];refine bB.pure ?_;rfl
end Go.Proofs.YtaecpjgmcffliaaGreatDoor
namespace Go.Proofs.YtaecpjgmcffliaaGreatDoor
open Go.Al
def BM (k:Int):Int:=if k=3∨k=7 then 1 else if k=6∨k=8∨k=9 then 2 else 0
def BO (k:Int):Int:=if k=3∨k=7 then 1 else if k=4 then 6 else if k=6∨k=8∨k=9 then 2 else 0
def AS (k:Int):Bool:=decide (k=2∨k=3∨k=4)
def sF (e:Ex):Bool:=rZ e 0&&fV e.kind e.op e.kids.length
theorem E4 (k o n:Int) (s:cN) (l:List Ex) (h1:1≤k) (h9:k≤9):sF (.mk k o n s l)=
  ((if decide (k=6)then !decide (o<4)&& !decide (15<o)else decide (o=0))&&(decide (k=1)||decide (n=0))&&wV s (AS k)&&(decide (BM k≤(l.length:Int))&&decide ((l.length:Int)≤BO k))):=by
 have hk:k=1∨k=2∨k=3∨k=4∨k=5∨k=6∨k=7∨k=8∨k=9:=by omega
 have d1:decide (o<4)= !decide (4≤o):=by rw[Bool.eq_iff_iff];simp
 have d2:decide (15<o)= !decide (o≤15):=by rw[Bool.eq_iff_iff];simp
 have e0:(decide ((0:Int)≤(l.length:Int))&&decide ((l.length:Int)≤0))=decide (l.length=0):=by rw[Bool.eq_iff_iff];simp only[bA,bC];omega
 have e1:(decide ((1:Int)≤(l.length:Int))&&decide ((l.length:Int)≤1))=decide (l.length=1):=by rw[Bool.eq_iff_iff];simp only[bA,bC];omega
 have e2:(decide ((2:Int)≤(l.length:Int))&&decide ((l.length:Int)≤2))=decide (l.length=2):=by rw[Bool.eq_iff_iff];simp only[bA,bC];omega
 have e6:(decide ((0:Int)≤(l.length:Int))&&decide ((l.length:Int)≤6))=decide (l.length≤6):=by rw[Bool.eq_iff_iff];simp only[bA,bC];omega
 have key: ∀a b c d:Bool,(a&&b&&c&&d)=(a&&(b&&(c&&d))):=fun a b c d=>by cases a<;>cases b<;>cases c<;>cases d<;>rfl
 rcases hk with rfl|rfl|rfl|rfl|rfl|rfl|rfl|rfl|rfl<;>
  simp only[sF,rZ,fV,wV,AS,BM,BO,Ex.kind,Ex.op,Ex.num,Ex.name,Ex.kids,d1,d2,Bool.not_not,Int.reduceEq,Int.reduceLE,decide_true,decide_false,Bool.true_and,Bool.false_or,Bool.true_or,or_true,or_false,if_true,if_false,Bool.false_eq_true,or_self]<;>(try simp only[e0,e1,e2,e6])<;>(try simp only[Bool.and_assoc,Bool.and_comm,Bool.and_left_comm,Bool.true_and])<;>(first|rfl|congr)
theorem E3 (k o n:Int) (s:cN) (l:List Ex) (h: ¬(1≤k∧k≤9)):sF (.mk k o n s l)=false:=by
 have :fV k o l.length=false:=by
  unfold fV;rw[if_neg (by omega),if_neg (by omega),if_neg (by omega),if_neg (by omega),if_neg (by omega)]
 simp only[sF,Ex.kind,Ex.op,Ex.kids,this,Bool.and_false]
theorem Eg (e:Ex):cM cG 188 [.agg e.row] (.bool (sF e)):=by
 rw[e.row_eq];obtain⟨k,o,n,s,l⟩:=e;simp only[Ex.kind,Ex.op,Ex.num,Ex.name,Ex.kids];have hno:=E3 k o n s l;have hyes:=E4 k o n s l;have hnf:=rU s (AS k);generalize sF (.mk k o n s l)=res at *;refine bM 73 [.tmp 2] Tryz.func188 rfl rfl rfl rfl ?_;refine aB fun _ z=>aA rfl ?_;simp only[RR,seval];refine aT fun b1 hn1=>?_;simp only[RR,seval];apply z;clear z;refine aB fun _ z=>aA rfl ?_;simp only[RR,seval];apply z;clear z;refine aB fun _ z=>aA rfl ?_;simp only[RR,seval];apply z;clear z;refine aJ ?_;refine aB fun _ z=>aA rfl ?_;simp only[RR,seval];apply z;clear z;refine bN fun F1 M1 hfr hH=>?_;have g1:=hfr 1;have g2:=hfr 2;have g3:=hfr 3;have g4:=hfr 4;have g5:=hfr 5;have g6:=hfr 6;have g7:=hfr 7;have g9:=hfr 9;have gb1:=hH b1
 try simp only[RR,seval]at g1 g2 g3 g4 g5 g6 g7 g9 gb1
 have f1:=g1;clear g1;have f2:=g2;clear g2;have f3:=g3;clear g3;have f4:=g4;clear g4;have f5:=g5;clear g5;have f6:=g6;clear g6;have f7:=g7;clear g7;have f9:=g9;clear g9;have hb1:=gb1;clear gb1;clear hfr hH;refine dU (fun fr M=>aY [1] F1 fr∧M b1=M1 b1∧fr 3= .int .i64 (BM k)∧fr 4= .int .i64 (BO k)∧fr 5= .bool (AS k)∧fr 6= .bool (decide (k=6))∧fr 7= .bool (decide (k=1))∧1≤k∧k≤9) (fun KB0 hKB0=>?_) ?_
 ·have agB0:=aY.refl [1] F1
  have eB0_b1:M1 b1=M1 b1:=rfl;refine aN ?_;refine aB fun _ z=>aA rfl ?_;simp only[f9,RR,seval];apply z;clear z;refine aH _ rfl (fun hc5=>?_) (fun hc5=>?_)
  ·refine aA rfl ?_
   simp only[RR,seval];refine hKB0 _ _ ⟨(by repeat (first|exact agB0|refine aY.upd rfl ?_)),(by first|exact eB0_b1|(simp only[aF,seval];first|done|exact eB0_b1)), ?_⟩
   first|(obtain rfl:=aD hc5;refine⟨?_, ?_, ?_, ?_, ?_, ?_, ?_⟩<;>first|rfl|omega|assumption)|(obtain rfl:=aD hc7;refine⟨?_, ?_, ?_, ?_, ?_, ?_, ?_⟩<;>first|rfl|omega|assumption)|(obtain rfl:=aD hc9;refine⟨?_, ?_, ?_, ?_, ?_, ?_, ?_⟩<;>first|rfl|omega|assumption)|(obtain rfl:=aD hc11;refine⟨?_, ?_, ?_, ?_, ?_, ?_, ?_⟩<;>first|rfl|omega|assumption)|(obtain rfl:=aD hc13;refine⟨?_, ?_, ?_, ?_, ?_, ?_, ?_⟩<;>first|rfl|omega|assumption)|(obtain rfl:=aD hc14;refine⟨?_, ?_, ?_, ?_, ?_, ?_, ?_⟩<;>first|rfl|omega|assumption)|(obtain rfl:=aD hc16;refine⟨?_, ?_, ?_, ?_, ?_, ?_, ?_⟩<;>first|rfl|omega|assumption)|(simp only[Bool.or_eq_true,bC]at hc19;rcases hc19 with h|h<;>subst h<;>refine⟨?_, ?_, ?_, ?_, ?_, ?_, ?_⟩<;>first|rfl|omega|assumption|(simp only[aF,seval,f5,f6,f7];rfl))
  refine aB fun _ z=>aA rfl ?_;simp only[f9,RR,seval];apply z;clear z;refine aH _ rfl (fun hc7=>?_) (fun hc7=>?_)
  ·refine aA rfl ?_
   simp only[RR,seval];refine hKB0 _ _ ⟨(by repeat (first|exact agB0|refine aY.upd rfl ?_)),(by first|exact eB0_b1|(simp only[aF,seval];first|done|exact eB0_b1)), ?_⟩
   first|(obtain rfl:=aD hc5;refine⟨?_, ?_, ?_, ?_, ?_, ?_, ?_⟩<;>first|rfl|omega|assumption)|(obtain rfl:=aD hc7;refine⟨?_, ?_, ?_, ?_, ?_, ?_, ?_⟩<;>first|rfl|omega|assumption)|(obtain rfl:=aD hc9;refine⟨?_, ?_, ?_, ?_, ?_, ?_, ?_⟩<;>first|rfl|omega|assumption)|(obtain rfl:=aD hc11;refine⟨?_, ?_, ?_, ?_, ?_, ?_, ?_⟩<;>first|rfl|omega|assumption)|(obtain rfl:=aD hc13;refine⟨?_, ?_, ?_, ?_, ?_, ?_, ?_⟩<;>first|rfl|omega|assumption)|(obtain rfl:=aD hc14;refine⟨?_, ?_, ?_, ?_, ?_, ?_, ?_⟩<;>first|rfl|omega|assumption)|(obtain rfl:=aD hc16;refine⟨?_, ?_, ?_, ?_, ?_, ?_, ?_⟩<;>first|rfl|omega|assumption)|(simp only[Bool.or_eq_true,bC]at hc19;rcases hc19 with h|h<;>subst h<;>refine⟨?_, ?_, ?_, ?_, ?_, ?_, ?_⟩<;>first|rfl|omega|assumption|(simp only[aF,seval,f5,f6,f7];rfl))
  refine aB fun _ z=>aA rfl ?_;simp only[f9,RR,seval];apply z;clear z;refine aH _ rfl (fun hc9=>?_) (fun hc9=>?_)
  ·refine aA rfl ?_
   simp only[RR,seval];refine hKB0 _ _ ⟨(by repeat (first|exact agB0|refine aY.upd rfl ?_)),(by first|exact eB0_b1|(simp only[aF,seval];first|done|exact eB0_b1)), ?_⟩
   first|(obtain rfl:=aD hc5;refine⟨?_, ?_, ?_, ?_, ?_, ?_, ?_⟩<;>first|rfl|omega|assumption)|(obtain rfl:=aD hc7;refine⟨?_, ?_, ?_, ?_, ?_, ?_, ?_⟩<;>first|rfl|omega|assumption)|(obtain rfl:=aD hc9;refine⟨?_, ?_, ?_, ?_, ?_, ?_, ?_⟩<;>first|rfl|omega|assumption)|(obtain rfl:=aD hc11;refine⟨?_, ?_, ?_, ?_, ?_, ?_, ?_⟩<;>first|rfl|omega|assumption)|(obtain rfl:=aD hc13;refine⟨?_, ?_, ?_, ?_, ?_, ?_, ?_⟩<;>first|rfl|omega|assumption)|(obtain rfl:=aD hc14;refine⟨?_, ?_, ?_, ?_, ?_, ?_, ?_⟩<;>first|rfl|omega|assumption)|(obtain rfl:=aD hc16;refine⟨?_, ?_, ?_, ?_, ?_, ?_, ?_⟩<;>first|rfl|omega|assumption)|(simp only[Bool.or_eq_true,bC]at hc19;rcases hc19 with h|h<;>subst h<;>refine⟨?_, ?_, ?_, ?_, ?_, ?_, ?_⟩<;>first|rfl|omega|assumption|(simp only[aF,seval,f5,f6,f7];rfl))
  refine aB fun _ z=>aA rfl ?_;simp only[f9,RR,seval];apply z;clear z;refine aH _ rfl (fun hc11=>?_) (fun hc11=>?_)
  ·refine aA rfl ?_
   simp only[RR,seval];refine hKB0 _ _ ⟨(by repeat (first|exact agB0|refine aY.upd rfl ?_)),(by first|exact eB0_b1|(simp only[aF,seval];first|done|exact eB0_b1)), ?_⟩
   first|(obtain rfl:=aD hc5;refine⟨?_, ?_, ?_, ?_, ?_, ?_, ?_⟩<;>first|rfl|omega|assumption)|(obtain rfl:=aD hc7;refine⟨?_, ?_, ?_, ?_, ?_, ?_, ?_⟩<;>first|rfl|omega|assumption)|(obtain rfl:=aD hc9;refine⟨?_, ?_, ?_, ?_, ?_, ?_, ?_⟩<;>first|rfl|omega|assumption)|(obtain rfl:=aD hc11;refine⟨?_, ?_, ?_, ?_, ?_, ?_, ?_⟩<;>first|rfl|omega|assumption)|(obtain rfl:=aD hc13;refine⟨?_, ?_, ?_, ?_, ?_, ?_, ?_⟩<;>first|rfl|omega|assumption)|(obtain rfl:=aD hc14;refine⟨?_, ?_, ?_, ?_, ?_, ?_, ?_⟩<;>first|rfl|omega|assumption)|(obtain rfl:=aD hc16;refine⟨?_, ?_, ?_, ?_, ?_, ?_, ?_⟩<;>first|rfl|omega|assumption)|(simp only[Bool.or_eq_true,bC]at hc19;rcases hc19 with h|h<;>subst h<;>refine⟨?_, ?_, ?_, ?_, ?_, ?_, ?_⟩<;>first|rfl|omega|assumption|(simp only[aF,seval,f5,f6,f7];rfl))
  refine aB fun _ z=>aA rfl ?_;simp only[f9,RR,seval];apply z;clear z;refine aH _ rfl (fun hc13=>?_) (fun hc13=>?_)
  ·refine aK ?_;try simp only[RR]
   refine hKB0 _ _ ⟨(by repeat (first|exact agB0|refine aY.upd rfl ?_)),(by first|exact eB0_b1|(simp only[aF,seval];first|done|exact eB0_b1)), ?_⟩
   first|(obtain rfl:=aD hc5;refine⟨?_, ?_, ?_, ?_, ?_, ?_, ?_⟩<;>first|rfl|omega|assumption)|(obtain rfl:=aD hc7;refine⟨?_, ?_, ?_, ?_, ?_, ?_, ?_⟩<;>first|rfl|omega|assumption)|(obtain rfl:=aD hc9;refine⟨?_, ?_, ?_, ?_, ?_, ?_, ?_⟩<;>first|rfl|omega|assumption)|(obtain rfl:=aD hc11;refine⟨?_, ?_, ?_, ?_, ?_, ?_, ?_⟩<;>first|rfl|omega|assumption)|(obtain rfl:=aD hc13;refine⟨?_, ?_, ?_, ?_, ?_, ?_, ?_⟩<;>first|rfl|omega|assumption)|(obtain rfl:=aD hc14;refine⟨?_, ?_, ?_, ?_, ?_, ?_, ?_⟩<;>first|rfl|omega|assumption)|(obtain rfl:=aD hc16;refine⟨?_, ?_, ?_, ?_, ?_, ?_, ?_⟩<;>first|rfl|omega|assumption)|(simp only[Bool.or_eq_true,bC]at hc19;rcases hc19 with h|h<;>subst h<;>refine⟨?_, ?_, ?_, ?_, ?_, ?_, ?_⟩<;>first|rfl|omega|assumption|(simp only[aF,seval,f5,f6,f7];rfl))
  refine aB fun _ z=>aA rfl ?_;simp only[f9,RR,seval];apply z;clear z;refine aH _ rfl (fun hc14=>?_) (fun hc14=>?_)
  ·refine aA rfl ?_
   simp only[RR,seval];refine hKB0 _ _ ⟨(by repeat (first|exact agB0|refine aY.upd rfl ?_)),(by first|exact eB0_b1|(simp only[aF,seval];first|done|exact eB0_b1)), ?_⟩
   first|(obtain rfl:=aD hc5;refine⟨?_, ?_, ?_, ?_, ?_, ?_, ?_⟩<;>first|rfl|omega|assumption)|(obtain rfl:=aD hc7;refine⟨?_, ?_, ?_, ?_, ?_, ?_, ?_⟩<;>first|rfl|omega|assumption)|(obtain rfl:=aD hc9;refine⟨?_, ?_, ?_, ?_, ?_, ?_, ?_⟩<;>first|rfl|omega|assumption)|(obtain rfl:=aD hc11;refine⟨?_, ?_, ?_, ?_, ?_, ?_, ?_⟩<;>first|rfl|omega|assumption)|(obtain rfl:=aD hc13;refine⟨?_, ?_, ?_, ?_, ?_, ?_, ?_⟩<;>first|rfl|omega|assumption)|(obtain rfl:=aD hc14;refine⟨?_, ?_, ?_, ?_, ?_, ?_, ?_⟩<;>first|rfl|omega|assumption)|(obtain rfl:=aD hc16;refine⟨?_, ?_, ?_, ?_, ?_, ?_, ?_⟩<;>first|rfl|omega|assumption)|(simp only[Bool.or_eq_true,bC]at hc19;rcases hc19 with h|h<;>subst h<;>refine⟨?_, ?_, ?_, ?_, ?_, ?_, ?_⟩<;>first|rfl|omega|assumption|(simp only[aF,seval,f5,f6,f7];rfl))
  refine aB fun _ z=>aA rfl ?_;simp only[f9,RR,seval];apply z;clear z;refine aH _ rfl (fun hc16=>?_) (fun hc16=>?_)
  ·refine aA rfl ?_
   simp only[RR,seval];refine hKB0 _ _ ⟨(by repeat (first|exact agB0|refine aY.upd rfl ?_)),(by first|exact eB0_b1|(simp only[aF,seval];first|done|exact eB0_b1)), ?_⟩
   first|(obtain rfl:=aD hc5;refine⟨?_, ?_, ?_, ?_, ?_, ?_, ?_⟩<;>first|rfl|omega|assumption)|(obtain rfl:=aD hc7;refine⟨?_, ?_, ?_, ?_, ?_, ?_, ?_⟩<;>first|rfl|omega|assumption)|(obtain rfl:=aD hc9;refine⟨?_, ?_, ?_, ?_, ?_, ?_, ?_⟩<;>first|rfl|omega|assumption)|(obtain rfl:=aD hc11;refine⟨?_, ?_, ?_, ?_, ?_, ?_, ?_⟩<;>first|rfl|omega|assumption)|(obtain rfl:=aD hc13;refine⟨?_, ?_, ?_, ?_, ?_, ?_, ?_⟩<;>first|rfl|omega|assumption)|(obtain rfl:=aD hc14;refine⟨?_, ?_, ?_, ?_, ?_, ?_, ?_⟩<;>first|rfl|omega|assumption)|(obtain rfl:=aD hc16;refine⟨?_, ?_, ?_, ?_, ?_, ?_, ?_⟩<;>first|rfl|omega|assumption)|(simp only[Bool.or_eq_true,bC]at hc19;rcases hc19 with h|h<;>subst h<;>refine⟨?_, ?_, ?_, ?_, ?_, ?_, ?_⟩<;>first|rfl|omega|assumption|(simp only[aF,seval,f5,f6,f7];rfl))
  refine aJ ?_;refine aB fun _ z=>aA rfl ?_;simp only[f9,RR,seval];apply z;clear z;refine bN fun F2 M2 hfr hH=>?_;have g1:=hfr 1;have g2:=hfr 2;have g3:=hfr 3;have g4:=hfr 4;have g5:=hfr 5;have g6:=hfr 6;have g7:=hfr 7;have g9:=hfr 9;have g24:=hfr 24;have gb1:=hH b1
  try simp only[f1,f2,f3,f4,f5,f6,f7,f9,hb1,RR,seval]at g1 g2 g3 g4 g5 g6 g7 g9 g24 gb1
  have agB0:aY [1] F1 F2:=aY.same hfr (by repeat (first|exact agB0|refine aY.upd rfl ?_));have eB0_b1:=(hH b1).trans (by first|exact eB0_b1|(simp only[aF,seval];first|done|exact eB0_b1));have f1:=g1;clear g1;have f2:=g2;clear g2;have f3:=g3;clear g3;have f4:=g4;clear g4;have f5:=g5;clear g5;have f6:=g6;clear g6;have f7:=g7;clear g7;have f9:=g9;clear g9;have f24:=g24;clear g24;have hb1:=gb1;clear gb1;clear hfr hH;refine dU (fun fr M=>aY [1,2,3,4,5,6,7] F2 fr∧M b1=M2 b1∧fr 24= .bool (decide (k=8)||decide (k=9))) (fun KC18 hKC18=>?_) ?_
  ·have agC18:=aY.refl [1,2,3,4,5,6,7] F2
   have eC18_b1:M2 b1=M2 b1:=rfl;refine aH _ (by first|rfl|exact f24) (fun hc18=>?_) (fun hc18=>?_)
   ·refine aK ?_;try simp only[RR]
    refine hKC18 _ _ ⟨(by repeat (first|exact agC18|refine aY.upd rfl ?_)),(by first|exact eC18_b1|(simp only[aF,seval];first|done|exact eC18_b1)), ?_⟩
    first|(rw[f24,hc18];rfl)|(simp only[aF,seval,hc18,Bool.false_or])
   refine aA rfl ?_;simp only[f9,RR,seval];refine hKC18 _ _ ⟨(by repeat (first|exact agC18|refine aY.upd rfl ?_)),(by first|exact eC18_b1|(simp only[aF,seval];first|done|exact eC18_b1)), ?_⟩
   first|(rw[f24,hc18];rfl)|(simp only[aF,seval,hc18,Bool.false_or])
  rintro F3 M3 ⟨agx,gb1,f24⟩;have f1:=(agx 1 rfl).trans f1;have f2:=(agx 2 rfl).trans f2;have f3:=(agx 3 rfl).trans f3;have f4:=(agx 4 rfl).trans f4;have f5:=(agx 5 rfl).trans f5;have f6:=(agx 6 rfl).trans f6;have f7:=(agx 7 rfl).trans f7;have hb1:=gb1.trans hb1;have agB0:aY [1] F1 F3:=aY.sub agx rfl agB0;have eB0_b1:=gb1.trans eB0_b1;clear agx;clear gb1;simp only[RR,seval];refine aH _ (by first|rfl|exact f24) (fun hc19=>?_) (fun hc19=>?_)
  ·refine aA rfl ?_
   simp only[RR,seval];refine hKB0 _ _ ⟨(by repeat (first|exact agB0|refine aY.upd rfl ?_)),(by first|exact eB0_b1|(simp only[aF,seval];first|done|exact eB0_b1)), ?_⟩
   first|(obtain rfl:=aD hc5;refine⟨?_, ?_, ?_, ?_, ?_, ?_, ?_⟩<;>first|rfl|omega|assumption)|(obtain rfl:=aD hc7;refine⟨?_, ?_, ?_, ?_, ?_, ?_, ?_⟩<;>first|rfl|omega|assumption)|(obtain rfl:=aD hc9;refine⟨?_, ?_, ?_, ?_, ?_, ?_, ?_⟩<;>first|rfl|omega|assumption)|(obtain rfl:=aD hc11;refine⟨?_, ?_, ?_, ?_, ?_, ?_, ?_⟩<;>first|rfl|omega|assumption)|(obtain rfl:=aD hc13;refine⟨?_, ?_, ?_, ?_, ?_, ?_, ?_⟩<;>first|rfl|omega|assumption)|(obtain rfl:=aD hc14;refine⟨?_, ?_, ?_, ?_, ?_, ?_, ?_⟩<;>first|rfl|omega|assumption)|(obtain rfl:=aD hc16;refine⟨?_, ?_, ?_, ?_, ?_, ?_, ?_⟩<;>first|rfl|omega|assumption)|(simp only[Bool.or_eq_true,bC]at hc19;rcases hc19 with h|h<;>subst h<;>refine⟨?_, ?_, ?_, ?_, ?_, ?_, ?_⟩<;>first|rfl|omega|assumption|(simp only[aF,seval,f5,f6,f7];rfl))
  refine aB fun _ z=>aA rfl ?_;simp only[RR,seval];apply z;clear z;refine aM ?_;simp only[aZ,aL,bJ,RR,seval];refine bB.pure ?_;rw[hno (by simp only[Bool.or_eq_false_iff,decide_eq_false_iff_not]at hc5 hc7 hc9 hc11 hc13 hc14 hc16 hc19;omega)]
 rintro F4 M4 ⟨agx,gb1,f3,f4,f5,f6,f7,h1,h9⟩;have f1:=(agx 1 rfl).trans f1;have hb1:=gb1.trans hb1;clear agx;clear gb1;simp only[RR,seval];have hform:=hyes h1 h9;clear hyes hno;generalize decide (k=6)=B6 at *;generalize decide (k=1)=B1 at *;generalize wV s (AS k)=NF at *;obtain⟨C1,z1⟩: ∃C,decide (BM k≤(l.length:Int))=C:=⟨_,rfl⟩;obtain⟨C2,z2⟩: ∃C,decide ((l.length:Int)≤BO k)=C:=⟨_,rfl⟩;rw[z1,z2]at hform;refine aJ ?_;refine aB fun _ z=>aA rfl ?_;simp only[f6,RR,seval]
 repeat' ((first|refine aO (fun h=>?_) (fun h=>?_)|refine aR (fun h=>?_) (fun h=>?_))<;>simp only[h,f1,f6,hb1,RR,seval])
 all_goals
  apply z;clear z;refine aH _ rfl (fun hc21=>?_) (fun hc21=>?_)
  ·try (cases hc21;done)
   all_goals
    refine aB fun _ z=>aA rfl ?_;simp only[RR,seval];apply z;clear z;refine aM ?_;simp only[aZ,aL,bJ,RR,seval];refine bB.pure ?_;rw[hform];clear z1 z2 hform hnf;simp_all
  try (cases hc21;done)
  all_goals
   refine aK ?_;try simp only[RR]
   refine aJ ?_;refine aB fun _ z=>aA rfl ?_;simp only[f7,RR,seval]
   all_goals try ((first|refine aO (fun h=>?_) (fun h=>?_)|refine aR (fun h=>?_) (fun h=>?_))<;>simp only[h,f1,f5,hb1,RR,seval])
   all_goals try ((first|refine aO (fun h=>?_) (fun h=>?_)|refine aR (fun h=>?_) (fun h=>?_))<;>simp only[h,f1,f5,hb1,RR,seval])
   all_goals try (refine aP (hnf) ?_;simp only[RR,seval])
   all_goals
    apply z;clear z;refine aH _ rfl (fun hc23=>?_) (fun hc23=>?_)
    ·try (cases hc23;done)
     all_goals
      refine aB fun _ z=>aA rfl ?_;simp only[RR,seval];apply z;clear z;refine aM ?_;simp only[aZ,aL,bJ,RR,seval];refine bB.pure ?_;rw[hform];clear z1 z2 hform hnf;simp_all
    try (cases hc23;done)
    all_goals
     refine aK ?_;try simp only[RR]
     refine aB fun _ z=>aA rfl ?_;simp only[f1,f3,hb1,aC,z1,RR,seval]
     repeat' ((first|refine aO (fun h=>?_) (fun h=>?_)|refine aR (fun h=>?_) (fun h=>?_))<;>simp only[h,f1,f4,hb1,aC,z2,RR,seval])
     all_goals
      apply z;clear z;refine aM ?_;simp only[aZ,aL,bJ,RR,seval];refine bB.pure ?_;rw[hform];clear z1 z2 hform hnf;simp_all
end Go.Proofs.YtaecpjgmcffliaaGreatDoor
namespace Go.Proofs.YtaecpjgmcffliaaGreatDoor
open Go.Al
def AZ (k:Int):Int:=if k=2 then 2 else if k=6∨k=7 then 0 else 1
def BC (k:Int):Int:=if k=2 then 2 else if k=6 then 6 else 1
def Z6 (k:Int):Bool:=decide (k=1∨k=2∨k=6)
def BX (k:Int):Bool:=decide (k=4∨k=5)
def sG (s:Sm):Bool:=sA s 0&&sH s.kind s.es.length
theorem E6 (k:Int) (s:cN) (l:List Ex) (t u:List Sm) (h1:1≤k) (h9:k≤7):sG (.mk k s l t u)=
  (wV s (Z6 k)&& !decide ((l.length:Int)<AZ k)&& !decide (BC k<(l.length:Int))&&(BX k||decide (t.length=0))&&(decide (k=4)||decide (u.length=0))):=by
 have hk:k=1∨k=2∨k=3∨k=4∨k=5∨k=6∨k=7:=by omega
 have hf:sG (.mk k s l t u)=((decide ((0:Int)≤24)&&(decide (k=4)||decide (u.length=0))&&(decide (k=4)||decide (k=5)||decide (t.length=0))&&(if k=1∨k=2∨k=6 then cV s else decide (s=[])))&&sH k l.length):=rfl;have hg:wV s (Z6 k)=if Z6 k then cV s else decide (s=[]):=rfl
 rw[hf,hg];have e1:decide (l.length=1)=(!decide ((l.length:Int)<1)&& !decide (1<(l.length:Int))):=by rw[Bool.eq_iff_iff];simp only[bA,bC,Bool.not_eq_true',decide_eq_false_iff_not];omega
 have e2:decide (l.length=2)=(!decide ((l.length:Int)<2)&& !decide (2<(l.length:Int))):=by rw[Bool.eq_iff_iff];simp only[bA,bC,Bool.not_eq_true',decide_eq_false_iff_not];omega
 have e6:decide (l.length≤6)=(!decide ((l.length:Int)<0)&& !decide (6<(l.length:Int))):=by rw[Bool.eq_iff_iff];simp only[bA,bC,Bool.not_eq_true',decide_eq_false_iff_not];omega
 have e7:decide (l.length≤1)=(!decide ((l.length:Int)<0)&& !decide (1<(l.length:Int))):=by rw[Bool.eq_iff_iff];simp only[bA,bC,Bool.not_eq_true',decide_eq_false_iff_not];omega
 have hfit:sH k l.length=(!decide ((l.length:Int)<AZ k)&& !decide (BC k<(l.length:Int))):=by
  rcases hk with rfl|rfl|rfl|rfl|rfl|rfl|rfl<;>first|exact e1|exact e2|exact e6|exact e7
 rw[hfit];generalize decide ((l.length:Int)<AZ k)=C1;generalize decide (BC k<(l.length:Int))=C2;generalize decide (s=[])=B1;generalize decide (t.length=0)=B2;generalize decide (u.length=0)=B3;generalize cV s=NB
 rcases hk with rfl|rfl|rfl|rfl|rfl|rfl|rfl<;>
  cases B1<;>cases B2<;>cases B3<;>cases NB<;>cases C1<;>cases C2<;>rfl
theorem E5 (k:Int) (s:cN) (l:List Ex) (t u:List Sm) (h: ¬(1≤k∧k≤7)):sG (.mk k s l t u)=false:=by
 have :sH k l.length=false:=by
  unfold sH;rw[if_neg (by omega),if_neg (by omega),if_neg (by omega),if_neg (by omega)]
 simp only[sG,Sm.kind,Sm.es,this,Bool.and_false]
theorem CB (n:Nat):decide ((n:Int)=0)=decide (n=0):=by rw[Bool.eq_iff_iff];simp only[bC];omega
theorem Dq (e:Sm):cM cG 125 [.agg e.row] (.bool (sG e)):=by
 rw[e.row_eq];obtain⟨k,s,l,t,u⟩:=e;simp only[Sm.kind,Sm.name,Sm.es,Sm.thn,Sm.els];have hno:=E5 k s l t u;have hyes:=E6 k s l t u;have hnf:=rU s (Z6 k);generalize sG (.mk k s l t u)=res at *;refine bM 59 [.tmp 2] Tryz.func125 rfl rfl rfl rfl ?_;refine aB fun _ z=>aA rfl ?_;simp only[RR,seval];refine aT fun b1 hn1=>?_;simp only[RR,seval];apply z;clear z;refine aB fun _ z=>aA rfl ?_;simp only[RR,seval];apply z;clear z;refine aB fun _ z=>aA rfl ?_;simp only[RR,seval];apply z;clear z;refine aJ ?_;refine aB fun _ z=>aA rfl ?_;simp only[RR,seval];apply z;clear z;refine bN fun F1 M1 hfr hH=>?_;have g1:=hfr 1;have g2:=hfr 2;have g3:=hfr 3;have g4:=hfr 4;have g5:=hfr 5;have g6:=hfr 6;have g7:=hfr 7;have g9:=hfr 9;have gb1:=hH b1
 try simp only[RR,seval]at g1 g2 g3 g4 g5 g6 g7 g9 gb1
 have f1:=g1;clear g1;have f2:=g2;clear g2;have f3:=g3;clear g3;have f4:=g4;clear g4;have f5:=g5;clear g5;have f6:=g6;clear g6;have f7:=g7;clear g7;have f9:=g9;clear g9;have hb1:=gb1;clear gb1;clear hfr hH;refine dU (fun fr M=>aY [1] F1 fr∧M b1=M1 b1∧fr 3= .int .i64 (AZ k)∧fr 4= .int .i64 (BC k)∧fr 5= .bool (Z6 k)∧fr 6= .bool (BX k)∧fr 7= .bool (decide (k=4))∧1≤k∧k≤7) (fun KB0 hKB0=>?_) ?_
 ·have agB0:=aY.refl [1] F1
  have eB0_b1:M1 b1=M1 b1:=rfl;refine aN ?_;refine aB fun _ z=>aA rfl ?_;simp only[f9,RR,seval];apply z;clear z;refine aH _ rfl (fun hc5=>?_) (fun hc5=>?_)
  ·refine aA rfl ?_
   simp only[RR,seval];refine hKB0 _ _ ⟨(by repeat (first|exact agB0|refine aY.upd rfl ?_)),(by first|exact eB0_b1|(simp only[aF,seval];first|done|exact eB0_b1)), ?_⟩
   first|(obtain rfl:=aD hc5;refine⟨?_, ?_, ?_, ?_, ?_, ?_, ?_⟩<;>first|rfl|omega|assumption)|(obtain rfl:=aD hc7;refine⟨?_, ?_, ?_, ?_, ?_, ?_, ?_⟩<;>first|rfl|omega|assumption)|(obtain rfl:=aD hc9;refine⟨?_, ?_, ?_, ?_, ?_, ?_, ?_⟩<;>first|rfl|omega|assumption)|(obtain rfl:=aD hc10;refine⟨?_, ?_, ?_, ?_, ?_, ?_, ?_⟩<;>first|rfl|omega|assumption)|(obtain rfl:=aD hc12;refine⟨?_, ?_, ?_, ?_, ?_, ?_, ?_⟩<;>first|rfl|omega|assumption)|(obtain rfl:=aD hc14;refine⟨?_, ?_, ?_, ?_, ?_, ?_, ?_⟩<;>first|rfl|omega|assumption)|(obtain rfl:=aD hc16;refine⟨?_, ?_, ?_, ?_, ?_, ?_, ?_⟩<;>first|rfl|omega|assumption)
  refine aB fun _ z=>aA rfl ?_;simp only[f9,RR,seval];apply z;clear z;refine aH _ rfl (fun hc7=>?_) (fun hc7=>?_)
  ·refine aA rfl ?_
   simp only[RR,seval];refine hKB0 _ _ ⟨(by repeat (first|exact agB0|refine aY.upd rfl ?_)),(by first|exact eB0_b1|(simp only[aF,seval];first|done|exact eB0_b1)), ?_⟩
   first|(obtain rfl:=aD hc5;refine⟨?_, ?_, ?_, ?_, ?_, ?_, ?_⟩<;>first|rfl|omega|assumption)|(obtain rfl:=aD hc7;refine⟨?_, ?_, ?_, ?_, ?_, ?_, ?_⟩<;>first|rfl|omega|assumption)|(obtain rfl:=aD hc9;refine⟨?_, ?_, ?_, ?_, ?_, ?_, ?_⟩<;>first|rfl|omega|assumption)|(obtain rfl:=aD hc10;refine⟨?_, ?_, ?_, ?_, ?_, ?_, ?_⟩<;>first|rfl|omega|assumption)|(obtain rfl:=aD hc12;refine⟨?_, ?_, ?_, ?_, ?_, ?_, ?_⟩<;>first|rfl|omega|assumption)|(obtain rfl:=aD hc14;refine⟨?_, ?_, ?_, ?_, ?_, ?_, ?_⟩<;>first|rfl|omega|assumption)|(obtain rfl:=aD hc16;refine⟨?_, ?_, ?_, ?_, ?_, ?_, ?_⟩<;>first|rfl|omega|assumption)
  refine aB fun _ z=>aA rfl ?_;simp only[f9,RR,seval];apply z;clear z;refine aH _ rfl (fun hc9=>?_) (fun hc9=>?_)
  ·refine aK ?_;try simp only[RR]
   refine hKB0 _ _ ⟨(by repeat (first|exact agB0|refine aY.upd rfl ?_)),(by first|exact eB0_b1|(simp only[aF,seval];first|done|exact eB0_b1)), ?_⟩
   first|(obtain rfl:=aD hc5;refine⟨?_, ?_, ?_, ?_, ?_, ?_, ?_⟩<;>first|rfl|omega|assumption)|(obtain rfl:=aD hc7;refine⟨?_, ?_, ?_, ?_, ?_, ?_, ?_⟩<;>first|rfl|omega|assumption)|(obtain rfl:=aD hc9;refine⟨?_, ?_, ?_, ?_, ?_, ?_, ?_⟩<;>first|rfl|omega|assumption)|(obtain rfl:=aD hc10;refine⟨?_, ?_, ?_, ?_, ?_, ?_, ?_⟩<;>first|rfl|omega|assumption)|(obtain rfl:=aD hc12;refine⟨?_, ?_, ?_, ?_, ?_, ?_, ?_⟩<;>first|rfl|omega|assumption)|(obtain rfl:=aD hc14;refine⟨?_, ?_, ?_, ?_, ?_, ?_, ?_⟩<;>first|rfl|omega|assumption)|(obtain rfl:=aD hc16;refine⟨?_, ?_, ?_, ?_, ?_, ?_, ?_⟩<;>first|rfl|omega|assumption)
  refine aB fun _ z=>aA rfl ?_;simp only[f9,RR,seval];apply z;clear z;refine aH _ rfl (fun hc10=>?_) (fun hc10=>?_)
  ·refine aA rfl ?_
   simp only[RR,seval];refine hKB0 _ _ ⟨(by repeat (first|exact agB0|refine aY.upd rfl ?_)),(by first|exact eB0_b1|(simp only[aF,seval];first|done|exact eB0_b1)), ?_⟩
   first|(obtain rfl:=aD hc5;refine⟨?_, ?_, ?_, ?_, ?_, ?_, ?_⟩<;>first|rfl|omega|assumption)|(obtain rfl:=aD hc7;refine⟨?_, ?_, ?_, ?_, ?_, ?_, ?_⟩<;>first|rfl|omega|assumption)|(obtain rfl:=aD hc9;refine⟨?_, ?_, ?_, ?_, ?_, ?_, ?_⟩<;>first|rfl|omega|assumption)|(obtain rfl:=aD hc10;refine⟨?_, ?_, ?_, ?_, ?_, ?_, ?_⟩<;>first|rfl|omega|assumption)|(obtain rfl:=aD hc12;refine⟨?_, ?_, ?_, ?_, ?_, ?_, ?_⟩<;>first|rfl|omega|assumption)|(obtain rfl:=aD hc14;refine⟨?_, ?_, ?_, ?_, ?_, ?_, ?_⟩<;>first|rfl|omega|assumption)|(obtain rfl:=aD hc16;refine⟨?_, ?_, ?_, ?_, ?_, ?_, ?_⟩<;>first|rfl|omega|assumption)
  refine aB fun _ z=>aA rfl ?_;simp only[f9,RR,seval];apply z;clear z;refine aH _ rfl (fun hc12=>?_) (fun hc12=>?_)
  ·refine aA rfl ?_
   simp only[RR,seval];refine hKB0 _ _ ⟨(by repeat (first|exact agB0|refine aY.upd rfl ?_)),(by first|exact eB0_b1|(simp only[aF,seval];first|done|exact eB0_b1)), ?_⟩
   first|(obtain rfl:=aD hc5;refine⟨?_, ?_, ?_, ?_, ?_, ?_, ?_⟩<;>first|rfl|omega|assumption)|(obtain rfl:=aD hc7;refine⟨?_, ?_, ?_, ?_, ?_, ?_, ?_⟩<;>first|rfl|omega|assumption)|(obtain rfl:=aD hc9;refine⟨?_, ?_, ?_, ?_, ?_, ?_, ?_⟩<;>first|rfl|omega|assumption)|(obtain rfl:=aD hc10;refine⟨?_, ?_, ?_, ?_, ?_, ?_, ?_⟩<;>first|rfl|omega|assumption)|(obtain rfl:=aD hc12;refine⟨?_, ?_, ?_, ?_, ?_, ?_, ?_⟩<;>first|rfl|omega|assumption)|(obtain rfl:=aD hc14;refine⟨?_, ?_, ?_, ?_, ?_, ?_, ?_⟩<;>first|rfl|omega|assumption)|(obtain rfl:=aD hc16;refine⟨?_, ?_, ?_, ?_, ?_, ?_, ?_⟩<;>first|rfl|omega|assumption)
  refine aB fun _ z=>aA rfl ?_;simp only[f9,RR,seval];apply z;clear z;refine aH _ rfl (fun hc14=>?_) (fun hc14=>?_)
  ·refine aA rfl ?_
   simp only[RR,seval];refine hKB0 _ _ ⟨(by repeat (first|exact agB0|refine aY.upd rfl ?_)),(by first|exact eB0_b1|(simp only[aF,seval];first|done|exact eB0_b1)), ?_⟩
   first|(obtain rfl:=aD hc5;refine⟨?_, ?_, ?_, ?_, ?_, ?_, ?_⟩<;>first|rfl|omega|assumption)|(obtain rfl:=aD hc7;refine⟨?_, ?_, ?_, ?_, ?_, ?_, ?_⟩<;>first|rfl|omega|assumption)|(obtain rfl:=aD hc9;refine⟨?_, ?_, ?_, ?_, ?_, ?_, ?_⟩<;>first|rfl|omega|assumption)|(obtain rfl:=aD hc10;refine⟨?_, ?_, ?_, ?_, ?_, ?_, ?_⟩<;>first|rfl|omega|assumption)|(obtain rfl:=aD hc12;refine⟨?_, ?_, ?_, ?_, ?_, ?_, ?_⟩<;>first|rfl|omega|assumption)|(obtain rfl:=aD hc14;refine⟨?_, ?_, ?_, ?_, ?_, ?_, ?_⟩<;>first|rfl|omega|assumption)|(obtain rfl:=aD hc16;refine⟨?_, ?_, ?_, ?_, ?_, ?_, ?_⟩<;>first|rfl|omega|assumption)
  refine aB fun _ z=>aA rfl ?_;simp only[f9,RR,seval];apply z;clear z;refine aH _ rfl (fun hc16=>?_) (fun hc16=>?_)
  ·refine aA rfl ?_
   simp only[RR,seval];refine hKB0 _ _ ⟨(by repeat (first|exact agB0|refine aY.upd rfl ?_)),(by first|exact eB0_b1|(simp only[aF,seval];first|done|exact eB0_b1)), ?_⟩
   first|(obtain rfl:=aD hc5;refine⟨?_, ?_, ?_, ?_, ?_, ?_, ?_⟩<;>first|rfl|omega|assumption)|(obtain rfl:=aD hc7;refine⟨?_, ?_, ?_, ?_, ?_, ?_, ?_⟩<;>first|rfl|omega|assumption)|(obtain rfl:=aD hc9;refine⟨?_, ?_, ?_, ?_, ?_, ?_, ?_⟩<;>first|rfl|omega|assumption)|(obtain rfl:=aD hc10;refine⟨?_, ?_, ?_, ?_, ?_, ?_, ?_⟩<;>first|rfl|omega|assumption)|(obtain rfl:=aD hc12;refine⟨?_, ?_, ?_, ?_, ?_, ?_, ?_⟩<;>first|rfl|omega|assumption)|(obtain rfl:=aD hc14;refine⟨?_, ?_, ?_, ?_, ?_, ?_, ?_⟩<;>first|rfl|omega|assumption)|(obtain rfl:=aD hc16;refine⟨?_, ?_, ?_, ?_, ?_, ?_, ?_⟩<;>first|rfl|omega|assumption)
  refine aB fun _ z=>aA rfl ?_;simp only[RR,seval];apply z;clear z;refine aM ?_;simp only[aZ,aL,bJ,RR,seval];refine bB.pure ?_;rw[hno (by simp only[decide_eq_false_iff_not]at hc5 hc7 hc9 hc10 hc12 hc14 hc16;omega)]
 rintro F2 M2 ⟨agx,gb1,f3,f4,f5,f6,f7,h1,h9⟩;have f1:=(agx 1 rfl).trans f1;have hb1:=gb1.trans hb1;clear agx;clear gb1;simp only[RR,seval];have hform:=hyes h1 h9;clear hyes hno;generalize decide (k=4)=B4 at *;generalize BX k=BT at *;generalize wV s (Z6 k)=NF at *;obtain⟨C1,z1⟩: ∃C,decide ((l.length:Int)<AZ k)=C:=⟨_,rfl⟩;obtain⟨C2,z2⟩: ∃C,decide (BC k<(l.length:Int))=C:=⟨_,rfl⟩;obtain⟨C3,z3⟩: ∃C,decide (t.length=0)=C:=⟨_,rfl⟩;obtain⟨C4,z4⟩: ∃C,decide (u.length=0)=C:=⟨_,rfl⟩;rw[z1,z2,z3,z4]at hform;refine aJ ?_;refine aB fun _ z=>aA rfl ?_;simp only[f1,f5,hb1,RR,seval]
 all_goals try (refine aP (hnf) ?_;simp only[RR,seval])
 all_goals try ((first|refine aO (fun h=>?_) (fun h=>?_)|refine aR (fun h=>?_) (fun h=>?_))<;>simp only[h,f1,f3,hb1,aC,z1,RR,seval])
 all_goals try ((first|refine aO (fun h=>?_) (fun h=>?_)|refine aR (fun h=>?_) (fun h=>?_))<;>simp only[h,f1,f4,hb1,aC,z2,RR,seval])
 all_goals
  apply z;clear z;refine aH _ rfl (fun hc18=>?_) (fun hc18=>?_)
  ·try (cases hc18;done)
   all_goals
    refine aB fun _ z=>aA rfl ?_;simp only[RR,seval];apply z;clear z;refine aM ?_;simp only[aZ,aL,bJ,RR,seval];refine bB.pure ?_;rw[hform];clear z1 z2 z3 z4 hform hnf;simp_all
  try (cases hc18;done)
  all_goals
   refine aK ?_;try simp only[RR]
   refine aB fun _ z=>aA rfl ?_;simp only[f6,RR,seval]
   repeat' ((first|refine aO (fun h=>?_) (fun h=>?_)|refine aR (fun h=>?_) (fun h=>?_))<;>simp only[h,f1,f7,hb1,aC,CB,z3,z4,RR,seval])
   all_goals
    apply z;clear z;refine aM ?_;simp only[aZ,aL,bJ,RR,seval];refine bB.pure ?_;rw[hform];clear z1 z2 z3 z4 hform hnf;simp_all
theorem Ik (e:Ex) (level:Int) (h:level≤24):rZ e level=rZ e 0:=by
 simp only[rZ,bQ h];rfl
theorem Hk (e:Ex) (level:Int) (h:level≤24):fO e level=(sF e&&eG e.kids (level+1)):=by
 simp only[fO,sF,Ik e level h]
theorem Hn (l:List Ex) (level:Int) (h:24<level) (hl:0<l.length):eG l level=false:=by
 cases l with
 |nil=>simp at hl
 |cons e l=>
  rw[iT];have :rZ e level=false:=by simp only[rZ,aX (show ¬level≤24 by omega),Bool.false_and]
  simp only[fO,this,Bool.false_and]
theorem wP (n:Nat): ∀(l:List Ex) (level:Int),jA l≤n→cQ l→rT l→ -1000000≤level→level≤1000000→cM cG 126 [.isl 5 (l.map Ex.row), .int .i64 level] (.bool (eG l level)):=by
 induction n using Nat.strongRecOn with
 |_ n ih=>
  intro l level hn hfit hok h1 h2;simp only[cQ]at hfit;have hhigh:=Hn l level;refine bM 32 [.tmp 4] Tryz.func126 rfl rfl rfl rfl ?_;refine aB fun _ z=>aA rfl ?_;simp only[RR,seval];apply z;clear z;refine aJ ?_;refine aB fun _ z=>aA rfl ?_;simp only[aC,RR,seval]
  repeat' ((first|refine aO (fun h=>?_) (fun h=>?_)|refine aR (fun h=>?_) (fun h=>?_))<;>simp only[h,RR,seval])
  all_goals
   apply z;clear z;refine aH _ rfl (fun hc1=>?_) (fun hc1=>?_)
   ·try (cases hc1;done)
    all_goals
     refine aB fun _ z=>aA rfl ?_;simp only[RR,seval];apply z;clear z;refine aM ?_;simp only[aZ,aL,bJ,RR,seval];refine bB.pure ?_;rw[hhigh (aD hc1) (by have:=aD h;omega)]
   try (cases hc1;done)
   all_goals
    have hlv:0<l.length→level≤24:=by
     intro hp
     first|(have:=aE h;omega)|(have:=aE hc1;omega)
    refine aK ?_;try simp only[RR]
    refine aJ ?_;refine aB fun _ z=>aA rfl ?_;simp only[aC,RR,seval];apply z;clear z;refine bN fun F1 M1 hfr hH=>?_;have g1:=hfr 1;have g4:=hfr 4;have g14:=hfr 14;have g15:=hfr 15;have g16:=hfr 16
    try simp only[RR,seval]at g1 g4 g14 g15 g16
    have f1:=g1;clear g1;have f4:=g4;clear g4;have f14:=g14;clear g14;have f15:=g15;clear g15;have f16:=g16;clear g16;clear hfr hH;refine aN ?_;refine cF [1,14,15] (l.length) (fun k fr M=>fr 16= .int .i64 (k:Nat)∧eG l level=eG (l.drop k) level) ⟨f16,by rw[List.drop_zero]⟩ ?_;rintro k F2 M2 hk0 ⟨fx,hall⟩ agx K0 hK0;have f1:=(agx 1 rfl).trans f1;have f14:=(agx 14 rfl).trans f14;have f15:=(agx 15 rfl).trans f15;have f16:=fx;clear fx;have ag0:=aY.refl [1,14,15] F2;clear agx;refine aB fun _ z=>aA rfl ?_;simp only[f15,f16,RR,seval];apply z;clear z;refine aJ ?_;refine aH _ rfl (fun hc=>?_) (fun hc=>?_)
    ·have hlt0:k<l.length:=by have:=aD hc;omega
     clear hc;have hg:=nM (aG hlt0);have hm:=bE hlt0;have hke:=(hok.all _ hm).kids;have hsz:=fH hm;rw[bD hlt0,iT,Hk _ _ (hlv (by omega))]at hall;generalize l[k]=e at hg hall hke hsz;have hz:=e.sz_eq;have hfm:=Eg e;rw[e.row_eq]at hfm;have hih:=ih (jA e.kids) (by omega) e.kids (level+1) (bF _) hke.fit hke (by have:=hlv (by omega);omega) (by have:=hlv (by omega);omega);have w1:IntKind.wrap .i64 (level+1)=level+1:=by have:=hlv (by omega);rw[aV _ (by omega)]
     generalize sF e=FX at *;generalize eG e.kids (level+1)=RK at *;refine aK ?_;try simp only[RR]
     refine aJ ?_;refine aN ?_;refine aB fun _ z=>aA rfl ?_;simp only[f14,f16,hg,RR,seval];refine aT fun b6 hn6=>?_;simp only[RR,seval];apply z;clear z;refine aB fun _ z=>aA rfl ?_;simp only[RR,seval]
     all_goals try (refine aP (hfm) ?_;simp only[RR,seval])
     all_goals try ((first|refine aO (fun h=>?_) (fun h=>?_)|refine aR (fun h=>?_) (fun h=>?_))<;>simp only[h,f1,w1,RR,seval])
     all_goals try (refine aP (hih) ?_;simp only[RR,seval])
     all_goals
      apply z;clear z;refine aH _ rfl (fun hc6=>?_) (fun hc6=>?_)
      ·try (cases hc6;done)
       all_goals
        refine aB fun _ z=>aA rfl ?_;simp only[RR,seval];apply z;clear z;refine aM ?_;simp only[aZ,aL,bJ,RR,seval];refine bB.pure ?_;rw[hall];simp_all
      try (cases hc6;done)
      all_goals
       refine aK ?_;try simp only[RR]
       refine aA rfl ?_;simp only[f16,RR,seval]
       try rw[aV _ (by omega)]
       refine hK0 _ _ hlt0 ⟨by first|rfl|(simp only[aF,seval];rfl),by rw[hall];simp_all⟩ (by repeat (first|exact ag0|refine aY.upd rfl ?_))
    have hkn0:k=l.length:=by have:=aE hc;omega
    clear hc;refine bI ?_;simp only[RR,seval];refine aB fun _ z=>aA rfl ?_;simp only[RR,seval];apply z;clear z;refine aM ?_;simp only[aZ,aL,bJ,RR,seval];refine bB.pure ?_;rw[hall,hkn0,List.drop_length,iO]
end Go.Proofs.YtaecpjgmcffliaaGreatDoor
namespace Go.Proofs.YtaecpjgmcffliaaGreatDoor
open Go.Al
theorem Il (e:Sm) (level:Int) (h:level≤24):sA e level=sA e 0:=by
 simp only[sA,bQ h];rfl
theorem Hm (e:Sm) (level:Int) (h:level≤24):fP e level=(sG e&&eG e.es (level+1)&&dW e.thn (level+1)&&dW e.els (level+1)):=by
 simp only[fP,sG,Il e level h]
theorem Hl (l:List Sm) (level:Int) (h:24<level) (hl:0<l.length):dW l level=false:=by
 cases l with
 |nil=>simp at hl
 |cons e l=>
  rw[iS];have :sA e level=false:=by simp only[sA,aX (show ¬level≤24 by omega),Bool.false_and]
  simp only[fP,this,Bool.false_and]
theorem wO (n:Nat): ∀(l:List Sm) (level:Int),gH l≤n→rI l→ -1000000≤level→level≤1000000→cM cG 84 [.isl 5 (l.map Sm.row), .int .i64 level] (.bool (dW l level)):=by
 induction n using Nat.strongRecOn with
 |_ n ih=>
  intro l level hn hok h1 h2;have hfit:=hok.fit;simp only[cQ]at hfit;have hhigh:=Hl l level;refine bM 46 [.tmp 4] Tryz.func84 rfl rfl rfl rfl ?_;refine aB fun _ z=>aA rfl ?_;simp only[RR,seval];apply z;clear z;refine aJ ?_;refine aB fun _ z=>aA rfl ?_;simp only[aC,RR,seval]
  repeat' ((first|refine aO (fun h=>?_) (fun h=>?_)|refine aR (fun h=>?_) (fun h=>?_))<;>simp only[h,RR,seval])
  all_goals
   apply z;clear z;refine aH _ rfl (fun hc1=>?_) (fun hc1=>?_)
   ·try (cases hc1;done)
    all_goals
     refine aB fun _ z=>aA rfl ?_;simp only[RR,seval];apply z;clear z;refine aM ?_;simp only[aZ,aL,bJ,RR,seval];refine bB.pure ?_;rw[hhigh (aD hc1) (by have:=aD h;omega)]
   try (cases hc1;done)
   all_goals
    have hlv:0<l.length→level≤24:=by
     intro hp
     first|(have:=aE h;omega)|(have:=aE hc1;omega)
    refine aK ?_;try simp only[RR]
    refine aJ ?_;refine aB fun _ z=>aA rfl ?_;simp only[aC,RR,seval];apply z;clear z;refine bN fun F1 M1 hfr hH=>?_;have g1:=hfr 1;have g4:=hfr 4;have g14:=hfr 14;have g15:=hfr 15;have g16:=hfr 16
    try simp only[RR,seval]at g1 g4 g14 g15 g16
    have f1:=g1;clear g1;have f4:=g4;clear g4;have f14:=g14;clear g14;have f15:=g15;clear g15;have f16:=g16;clear g16;clear hfr hH;refine aN ?_;refine cF [1,14,15] (l.length) (fun k fr M=>fr 16= .int .i64 (k:Nat)∧dW l level=dW (l.drop k) level) ⟨f16,by rw[List.drop_zero]⟩ ?_;rintro k F2 M2 hk0 ⟨fx,hall⟩ agx K0 hK0;have f1:=(agx 1 rfl).trans f1;have f14:=(agx 14 rfl).trans f14;have f15:=(agx 15 rfl).trans f15;have f16:=fx;clear fx;have ag0:=aY.refl [1,14,15] F2;clear agx;refine aB fun _ z=>aA rfl ?_;simp only[f15,f16,RR,seval];apply z;clear z;refine aJ ?_;refine aH _ rfl (fun hc=>?_) (fun hc=>?_)
    ·have hlt0:k<l.length:=by have:=aD hc;omega
     clear hc;have hg:=sC (aG hlt0);have hm:=bE hlt0;have hoe:=hok.all _ hm;have hsz:=eS hm;rw[bD hlt0,iS,Hm _ _ (hlv (by omega))]at hall;generalize l[k]=e at hg hall hoe hsz;have hz:=e.sz_eq;have hfm:=Dq e;rw[e.row_eq]at hfm;have hl2:=hlv (by omega);have hE:=wP _ e.es (level+1) (bF _) hoe.es.fit hoe.es (by omega) (by omega);have hT:=ih (gH e.thn) (by omega) e.thn (level+1) (bF _) hoe.thn (by omega) (by omega);have hU:=ih (gH e.els) (by omega) e.els (level+1) (bF _) hoe.els (by omega) (by omega);have w1:IntKind.wrap .i64 (level+1)=level+1:=by rw[aV _ (by omega)]
     generalize sG e=FX at *;generalize eG e.es (level+1)=RE at *;generalize dW e.thn (level+1)=RT at *;generalize dW e.els (level+1)=RU at *;clear ih hoe hm hok;cases FX<;>cases RE<;>cases RT<;>cases RU
     all_goals
      refine aK ?_;try simp only[RR]
      refine aJ ?_;refine aN ?_;refine aB fun _ z=>aA rfl ?_;simp only[f14,f16,hg,RR,seval];refine aT fun b6 hn6=>?_;simp only[RR,seval];apply z;clear z;refine aJ ?_;refine aB fun _ z=>aA rfl ?_;simp only[RR,seval]
      all_goals try (refine aP (hfm) ?_;simp only[f1,w1,RR,seval])
      all_goals try ((first|refine aO (fun h=>?_) (fun h=>?_)|refine aR (fun h=>?_) (fun h=>?_))<;>simp only[h,f1,f14,f15,f16,aC,hg,w1,RR,seval])
      all_goals try (refine aP (hE) ?_;simp only[RR,seval])
      all_goals
       apply z;clear z;refine aH _ rfl (fun hc6=>?_) (fun hc6=>?_)
       ·try (cases hc6;done)
        all_goals
         refine aB fun _ z=>aA rfl ?_;simp only[RR,seval];apply z;clear z;refine aM ?_;simp only[aZ,aL,bJ,RR,seval];refine bB.pure ?_;rw[hall];rfl
       try (cases hc6;done)
       all_goals
        refine aK ?_;try simp only[RR]
        refine aB fun _ z=>aA rfl ?_;simp only[f1,w1,RR,seval]
        all_goals try (refine aP (hT) ?_;simp only[f1,w1,RR,seval])
        all_goals try ((first|refine aO (fun h=>?_) (fun h=>?_)|refine aR (fun h=>?_) (fun h=>?_))<;>simp only[h,f1,f14,f15,f16,aC,hg,w1,RR,seval])
        all_goals try (refine aP (hU) ?_;simp only[RR,seval])
        all_goals
         apply z;clear z;refine aH _ rfl (fun hc8=>?_) (fun hc8=>?_)
         ·try (cases hc8;done)
          all_goals
           refine aB fun _ z=>aA rfl ?_;simp only[RR,seval];apply z;clear z;refine aM ?_;simp only[aZ,aL,bJ,RR,seval];refine bB.pure ?_;rw[hall];rfl
         try (cases hc8;done)
         all_goals
          refine aK ?_;try simp only[RR]
          refine aA rfl ?_;simp only[f16,RR,seval]
          try rw[aV _ (by omega)]
          refine hK0 _ _ hlt0 ⟨by first|rfl|(simp only[aF,seval];rfl),by rw[hall];rfl⟩ (by repeat (first|exact ag0|refine aY.upd rfl ?_))
    have hkn0:k=l.length:=by have:=aE hc;omega
    clear hc;refine bI ?_;simp only[RR,seval];refine aB fun _ z=>aA rfl ?_;simp only[RR,seval];apply z;clear z;refine aM ?_;simp only[aZ,aL,bJ,RR,seval];refine bB.pure ?_;rw[hall,hkn0,List.drop_length,nC]
end Go.Proofs.YtaecpjgmcffliaaGreatDoor
namespace Go.Proofs.YtaecpjgmcffliaaGreatDoor
open Go.Al
theorem Lr (p:Pg) (hp:p.ok):cM cG 57 [p.av] (.bool (dH p)):=by
 have hff:=hp.ffit;have hof:=hp.funs;simp only[cQ]at hff;have hV:=nT p.vars hp.vars.fit;have hP:dH p=(p.vars.all cV&&decide (1≤p.funs.length)&&decide (p.funs.length≤64)&&p.arrs.all gW&&p.funs.all eT):=rfl;have hA: ∀a:Ar,gW a=(cV a.name&&decide (1≤a.size)&&decide (a.size≤4096)):=fun _=>rfl;have hF: ∀f:Fu,eT f=(cV f.name&&decide (f.params.length≤6)&&f.params.all cV&&f.locs.all cV&&dW f.body 1):=fun _=>rfl;have hal:=hp.afit;simp only[cQ]at hal;have z1:decide ((p.funs.length:Int)<1)= !decide (1≤p.funs.length):=by rw[Bool.eq_iff_iff];simp only[bC,Bool.not_eq_true',decide_eq_false_iff_not];omega
 have z2:decide (64<(p.funs.length:Int))= !decide (p.funs.length≤64):=by rw[Bool.eq_iff_iff];simp only[bC,Bool.not_eq_true',decide_eq_false_iff_not];omega
 generalize dH p=res at *;generalize decide (1≤p.funs.length)=C1 at *;generalize decide (p.funs.length≤64)=C2 at *;generalize p.vars.all cV=V at *;obtain⟨vs,aa,fs⟩:=p;simp only[Pg.av,Pg.row]at *;clear hp;refine bM 79 [.tmp 2] Tryz.func57 rfl rfl rfl rfl ?_;refine aB fun _ z=>aA rfl ?_;simp only[RR,seval];refine aT fun b1 hn1=>?_;simp only[RR,seval];apply z;clear z;refine aJ ?_;refine aB fun _ z=>aA rfl ?_;simp only[aC,z1,RR,seval]
 all_goals try ((first|refine aO (fun h=>?_) (fun h=>?_)|refine aR (fun h=>?_) (fun h=>?_))<;>simp only[h,aC,z2,RR,seval])
 all_goals try ((first|refine aO (fun h=>?_) (fun h=>?_)|refine aR (fun h=>?_) (fun h=>?_))<;>simp only[h,RR,seval])
 all_goals try (refine aP (hV) ?_;simp only[RR,seval])
 all_goals
  apply z;clear z;refine aH _ rfl (fun hc1=>?_) (fun hc1=>?_)
  ·try (cases hc1;done)
   all_goals
    refine aB fun _ z=>aA rfl ?_;simp only[RR,seval];apply z;clear z;refine aM ?_;simp only[aZ,aL,bJ,RR,seval];refine bB.pure ?_;rw[hP];clear hA hF hof;simp_all
  try (cases hc1;done)
  all_goals
   have hP2:res=(aa.all gW&&fs.all eT):=by
    rw[hP];clear hA hF hof;simp_all
   clear hP;refine aK ?_;try simp only[RR]
   refine aJ ?_;refine aB fun _ z=>aA rfl ?_;simp only[aC,RR,seval];apply z;clear z;refine bN fun F1 M1 hfr hH=>?_;have g1:=hfr 1;have g2:=hfr 2;have g24:=hfr 24;have g25:=hfr 25;have g26:=hfr 26;have gb1:=hH b1
   try simp only[RR,seval]at g1 g2 g24 g25 g26 gb1
   have f1:=g1;clear g1;have f2:=g2;clear g2;have f24:=g24;clear g24;have f25:=g25;clear g25;have f26:=g26;clear g26;have hb1:=gb1;clear gb1;clear hfr hH;refine aN ?_;refine cF [1,24,25] (aa.length) (fun k fr M=>fr 26= .int .i64 (k:Nat)∧M b1=M1 b1∧aa.all gW=(aa.drop k).all gW) ⟨f26,rfl,by rw[List.drop_zero]⟩ ?_;rintro k F2 M2 hk0 ⟨fx,gb1,hall⟩ agx K0 hK0;have f1:=(agx 1 rfl).trans f1;have f24:=(agx 24 rfl).trans f24;have f25:=(agx 25 rfl).trans f25;have f26:=fx;clear fx;have hb1:=gb1.trans hb1;have ag0:=aY.refl [1,24,25] F2;have e0_b1:=gb1;clear gb1;clear agx;refine aB fun _ z=>aA rfl ?_;simp only[f25,f26,RR,seval];apply z;clear z;refine aJ ?_;refine aH _ rfl (fun hc=>?_) (fun hc=>?_)
   ·have hlt0:k<aa.length:=by have:=aD hc;omega
    clear hc;have hg:=Ip (aG hlt0);rw[bD hlt0,List.all_cons,hA]at hall;generalize aa[k]=a at hg hall;have hm:=kH a.name;have z3:decide (a.size<1)= !decide (1≤a.size):=by rw[Bool.eq_iff_iff];simp only[bC,Bool.not_eq_true',decide_eq_false_iff_not];omega
    have z4:decide (4096<a.size)= !decide (a.size≤4096):=by rw[Bool.eq_iff_iff];simp only[bC,Bool.not_eq_true',decide_eq_false_iff_not];omega
    generalize decide (1≤a.size)=D1 at *;generalize decide (a.size≤4096)=D2 at *;generalize cV a.name=D3 at *;cases D1<;>cases D2<;>cases D3
    all_goals
     refine aK ?_;try simp only[RR]
     refine aJ ?_;refine aN ?_;refine aB fun _ z=>aA rfl ?_;simp only[f24,f26,hg,RR,seval];refine aT fun b4 hn4=>?_;have nb4_b1:b4≠b1:=fun e=>by rw[e]at hn4;simp only[hb1,seval,reduceCtorEq]at hn4
     have nb1_b4:b1≠b4:=fun e=>nb4_b1 e.symm;simp only[RR,seval];apply z;clear z;refine aB fun _ z=>aA rfl ?_;simp only[RR,seval];refine aP (hm) ?_;simp only[z3,z4,RR,seval];apply z;clear z;refine aH _ rfl (fun hc6=>?_) (fun hc6=>?_)
     ·try (cases hc6;done)
      all_goals
       refine aB fun _ z=>aA rfl ?_;simp only[RR,seval];apply z;clear z;refine aM ?_;simp only[aZ,aL,bJ,RR,seval];refine bB.pure ?_;rw[hP2,hall];rfl
     try (cases hc6;done)
     all_goals
      refine aK ?_;try simp only[RR]
      refine aA rfl ?_;simp only[f26,RR,seval]
      try rw[aV _ (by omega)]
      refine hK0 _ _ hlt0 ⟨by first|rfl|(simp only[aF,seval];rfl),(by first|exact e0_b1|(simp only[nb1_b4,aF,seval];first|done|exact e0_b1)),by rw[hall];rfl⟩ (by repeat (first|exact ag0|refine aY.upd rfl ?_))
   have hkn0:k=aa.length:=by have:=aE hc;omega
   clear hc;rw[hkn0,List.drop_length,List.all_nil]at hall;rw[hall,Bool.true_and]at hP2;refine bI ?_;simp only[RR,seval];refine aJ ?_;refine aB fun _ z=>aA rfl ?_;simp only[f1,hb1,aC,RR,seval];apply z;clear z;refine bN fun F3 M3 hfr hH=>?_;have g2:=hfr 2;have g46:=hfr 46;have g47:=hfr 47;have g48:=hfr 48;have gb1:=hH b1
   try simp only[hb1,RR,seval]at g2 g46 g47 g48 gb1
   have f2:=g2;clear g2;have f46:=g46;clear g46;have f47:=g47;clear g47;have f48:=g48;clear g48;have hb1:=gb1;clear gb1;clear hfr hH;refine aN ?_;refine cF [46,47] (fs.length) (fun j fr M=>fr 48= .int .i64 (j:Nat)∧M b1=M3 b1∧fs.all eT=(fs.drop j).all eT) ⟨f48,rfl,by rw[List.drop_zero]⟩ ?_;rintro j F4 M4 hk2 ⟨fx,gb1,hall⟩ agx K2 hK2;have f46:=(agx 46 rfl).trans f46;have f47:=(agx 47 rfl).trans f47;have f48:=fx;clear fx;have hb1:=gb1.trans hb1;have ag2:=aY.refl [46,47] F4;have e2_b1:=gb1;clear gb1;clear agx;refine aB fun _ z=>aA rfl ?_;simp only[f47,f48,RR,seval];apply z;clear z;refine aJ ?_;refine aH _ rfl (fun hc=>?_) (fun hc=>?_)
   ·have hlt2:j<fs.length:=by have:=aD hc;omega
    clear hc;have hg:=jK (aG hlt2);have hok:=hof _ (bE hlt2);rw[bD hlt2,List.all_cons,hF]at hall;generalize fs[j]=f at hg hall hok;have hm:=kH f.name;have hq1:=nT f.params hok.params.fit;have hq2:=nT f.locs hok.locs.fit;have hq3:=wO _ f.body 1 (bF _) hok.body (by omega) (by omega);have z5:decide (6<(f.params.length:Int))= !decide (f.params.length≤6):=by rw[Bool.eq_iff_iff];simp only[bC,Bool.not_eq_true',decide_eq_false_iff_not];omega
    generalize decide (f.params.length≤6)=D1 at *;generalize cV f.name=D2 at *;generalize f.params.all cV=D3 at *;generalize f.locs.all cV=D4 at *;generalize dW f.body 1=D5 at *;clear hA hF hof hok;refine aK ?_;try simp only[RR]
    refine aJ ?_;refine aN ?_;refine aB fun _ z=>aA rfl ?_;simp only[f46,f48,hg,RR,seval];refine aT fun b6 hn6=>?_;have nb6_b1:b6≠b1:=fun e=>by rw[e]at hn6;simp only[hb1,seval,reduceCtorEq]at hn6
    have nb1_b6:b1≠b6:=fun e=>nb6_b1 e.symm;simp only[RR,seval];apply z;clear z;refine aJ ?_;refine aB fun _ z=>aA rfl ?_;simp only[RR,seval]
    all_goals try (refine aP (hm) ?_;simp only[RR,seval])
    all_goals try ((first|refine aO (fun h=>?_) (fun h=>?_)|refine aR (fun h=>?_) (fun h=>?_))<;>simp only[h,aC,z5,RR,seval])
    all_goals
     apply z;clear z;refine aH _ rfl (fun hc12=>?_) (fun hc12=>?_)
     ·try (cases hc12;done)
      all_goals
       refine aB fun _ z=>aA rfl ?_;simp only[RR,seval];apply z;clear z;refine aM ?_;simp only[aZ,aL,bJ,RR,seval];refine bB.pure ?_;rw[hP2,hall];simp_all
     try (cases hc12;done)
     all_goals
      refine aK ?_;try simp only[RR]
      refine aB fun _ z=>aA rfl ?_;simp only[RR,seval]
      all_goals try (refine aP (hq1) ?_;simp only[RR,seval])
      all_goals try ((first|refine aO (fun h=>?_) (fun h=>?_)|refine aR (fun h=>?_) (fun h=>?_))<;>simp only[h,RR,seval])
      all_goals try (refine aP (hq2) ?_;simp only[RR,seval])
      all_goals try ((first|refine aO (fun h=>?_) (fun h=>?_)|refine aR (fun h=>?_) (fun h=>?_))<;>simp only[h,RR,seval])
      all_goals try (refine aP (hq3) ?_;simp only[RR,seval])
      all_goals
       apply z;clear z;refine aH _ rfl (fun hc14=>?_) (fun hc14=>?_)
       ·try (cases hc14;done)
        all_goals
         refine aB fun _ z=>aA rfl ?_;simp only[RR,seval];apply z;clear z;refine aM ?_;simp only[aZ,aL,bJ,RR,seval];refine bB.pure ?_;rw[hP2,hall];simp_all
       try (cases hc14;done)
       all_goals
        refine aK ?_;try simp only[RR]
        refine aA rfl ?_;simp only[f48,RR,seval]
        try rw[aV _ (by omega)]
        refine hK2 _ _ hlt2 ⟨by first|rfl|(simp only[aF,seval];rfl),(by first|exact e2_b1|(simp only[nb1_b6,aF,seval];first|done|exact e2_b1)),by rw[hall];simp_all⟩ (by repeat (first|exact ag2|refine aY.upd rfl ?_))
   have hkn2:j=fs.length:=by have:=aE hc;omega
   clear hc;refine bI ?_;simp only[RR,seval];refine aB fun _ z=>aA rfl ?_;simp only[RR,seval];apply z;clear z;refine aM ?_;simp only[aZ,aL,bJ,RR,seval];refine bB.pure ?_;rw[hP2,hall,hkn2,List.drop_length];rfl
end Go.Proofs.YtaecpjgmcffliaaGreatDoor
