/- Chapter 19: CoreStays and CoreReads, where the judge's Right is known. -/
import Derived.Test.YtnfbbjhdflhmjaaGreatDoorGLf
set_option linter.unusedSimpArgs false
set_option linter.unusedVariables false
set_option maxRecDepth 10000
namespace Go.Proofs.YtnfbbjhdflhmjaaGreatDoor
open Go.Al
def Yi (c:Co) (m:Nat):Bool:=I1 c m&&(decide (c.words≤9000)&&lZ c)
theorem O3 {c:Co} (hc:c.ok) {m:Nat} (h:Yi c m=true):Uw c∧sR c≤m:=by
 simp only[Yi,aS,aW]at h;refine⟨Yj hc h.2.2, ?_⟩;have h1:=h.1;simp only[I1,aS,aW]at h1;have:=Na c.funs (m:Int) (by omega) h1.2;unfold sR;omega
theorem Q0 {c:Co} (h:Uw c) (inp:dD) (hin:inp.length≤2000000) (fu:Int) (hfu:dC fu): ∃n r,pF (Hk c inp fu) n c.words.toNat=some r∧cJ cK 17 [c.av, .str inp, .int .i64 fu] (Gc r.1 r.2.1 r.2.2):=by
 have hne:(Hk c inp fu).funs≠[]:=fun e=>by have:=h.len.1;have e:c.funs=[]:=e;rw[e]at this;simp at this
 have hfs:vD ((c.words.toNat:Nat):Int) (Hk c inp fu).funs:=by rw[Int.toNat_of_nonneg h.words.1];exact h.funs
 obtain⟨n,⟨e,o,t⟩,hr⟩:=Kc hne hfs;exact⟨n,(e,o,t),hr,Ob c h.words.1 (Yc h) h.len.1 (by have:=h.len.2;omega) inp hin fu hfu hr⟩
end Go.Proofs.YtnfbbjhdflhmjaaGreatDoor
