/- Chapter 19, the judge's: may a core be? -/
import Derived.Test.YtnfbbjhdflhmjaaGreatDoorGLt
import Derived.Test.YtnfbbjhdflhmjaaGreatDoorGLg
set_option linter.unusedSimpArgs false
set_option linter.unusedVariables false
set_option maxRecDepth 10000
namespace Go.Al
theorem uQ {words:Int} {fs:List CF} (h: ∀(j:Nat) (hj:j<fs.length),dO words (fs.take j) fs[j].word fs[j].body 1=true): ∀(l:List CF) (k:Nat),fs.drop k=l→iY words (fs.take k) l=true
 |[],_,_=>by simp only[iY]
 |g::l,k,hd=>by
  have hk:k<fs.length:=by
   rcases Nat.lt_or_ge k fs.length with h|h
   ·exact h
   rw[List.drop_eq_nil_of_le h]at hd;cases hd
  rw[bD hk]at hd;injection hd with h1 h2
  rw[iY,aS,←h1];exact⟨h k hk,by rw[←bR hk];exact uQ h l (k+1) h2⟩
end Go.Al
namespace Go.Proofs.YtnfbbjhdflhmjaaGreatDoor
open Go.Al
end Go.Proofs.YtnfbbjhdflhmjaaGreatDoor
