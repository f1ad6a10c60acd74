/- Chapter 19, the judge's: may statements be? -/
import Derived.Test.YtnfbbjhdflhmjaaGreatDoorGLs
set_option linter.unusedSimpArgs false
set_option linter.unusedVariables false
set_option maxRecDepth 10000
namespace Go.Al
theorem P7: ∀(a0 a1 a2 c3 c4 q1 q2 q4 q5 q6:Bool),(a0=true∨(q2=false∧a1=false)∨(q1=false∧q2=false∧q6=false∧a2=false)∨(q4=false∧c3=true)∨(q4=false∧q5=false∧c4=true))∨(a0=false∧(q2||a1)=true∧(q1||q2||q6||a2)=true∧(q4|| !c3)=true∧(q4||q5|| !c4)=true):=by
 intro a0 a1 a2 c3 c4 q1 q2 q4 q5 q6;by_cases h0:a0=true
 ·exact .inl (.inl h0)
 by_cases h1:(q2||a1)=true
 rotate_left
 ·exact .inl (.inr (.inl (by simpa using h1)))
 by_cases h2:(q1||q2||q6||a2)=true
 rotate_left
 ·exact .inl (.inr (.inr (.inl (by simpa [and_assoc]using h2))))
 by_cases h3:(q4|| !c3)=true
 rotate_left
 ·exact .inl (.inr (.inr (.inr (.inl (by simpa using h3)))))
 by_cases h4:(q4||q5|| !c4)=true
 rotate_left
 ·exact .inl (.inr (.inr (.inr (.inr (by simpa [and_assoc]using h4)))))
 exact .inr ⟨by simpa using h0,h1,h2,h3,h4⟩
theorem sU (w:Int) (B:List CF) (wd:Bool) (lv:Int): ∀l:List CS,dO w B wd l lv=l.all fun e=>jP w B wd e lv
 |[]=>by simp only[dO,List.all_nil]
 |e::l=>by simp only[dO,sU w B wd lv l,List.all_cons]
theorem lC (w:Int) (B:List CF) (wd:Bool) (e:CS) (lv:Int):jP w B wd e lv=(decide (lv≤24)&&pP w B wd e&&eK w B e.es (lv+1)&&dO w B wd e.thn (lv+1)&&dO w B wd e.els (lv+1)):=by
 cases e;rw[jP];rfl
end Go.Al
namespace Go.Proofs.YtnfbbjhdflhmjaaGreatDoor
open Go.Al
end Go.Proofs.YtnfbbjhdflhmjaaGreatDoor
