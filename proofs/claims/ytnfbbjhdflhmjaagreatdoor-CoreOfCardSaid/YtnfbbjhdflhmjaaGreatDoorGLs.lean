/- Chapter 19, the judge's: may expressions be? -/
import Derived.Test.YtnfbbjhdflhmjaaGreatDoorGLr
set_option linter.unusedSimpArgs false
set_option linter.unusedVariables false
set_option maxRecDepth 10000
namespace Go.Al
theorem Tm (k:Int): ∃q1 q2 q3 q4 q5 q6 q7 q8 q9:Bool,(decide (k=1)=q1∧decide (k=2)=q2∧decide (k=3)=q3∧decide (k=4)=q4∧decide (k=5)=q5∧decide (k=6)=q6∧decide (k=7)=q7∧decide (k=8)=q8∧decide (k=9)=q9)∧
  (((q1=true∧k=1)∧q2=false∧q3=false∧q4=false∧q5=false∧q6=false∧q7=false∧q8=false∧q9=false)∨(q1=false∧(q2=true∧k=2)∧q3=false∧q4=false∧q5=false∧q6=false∧q7=false∧q8=false∧q9=false)∨
  (q1=false∧q2=false∧(q3=true∧k=3)∧q4=false∧q5=false∧q6=false∧q7=false∧q8=false∧q9=false)∨(q1=false∧q2=false∧q3=false∧(q4=true∧k=4)∧q5=false∧q6=false∧q7=false∧q8=false∧q9=false)∨
  (q1=false∧q2=false∧q3=false∧q4=false∧(q5=true∧k=5)∧q6=false∧q7=false∧q8=false∧q9=false)∨(q1=false∧q2=false∧q3=false∧q4=false∧q5=false∧(q6=true∧k=6)∧q7=false∧q8=false∧q9=false)∨
  (q1=false∧q2=false∧q3=false∧q4=false∧q5=false∧q6=false∧(q7=true∧k=7)∧q8=false∧q9=false)∨(q1=false∧q2=false∧q3=false∧q4=false∧q5=false∧q6=false∧q7=false∧(q8=true∧k=8)∧q9=false)∨
  (q1=false∧q2=false∧q3=false∧q4=false∧q5=false∧q6=false∧q7=false∧q8=false∧(q9=true∧k=9))∨(q1=false∧q2=false∧q3=false∧q4=false∧q5=false∧q6=false∧q7=false∧q8=false∧q9=false∧k≠1∧k≠2∧k≠3∧k≠4∧k≠5∧k≠6∧k≠7∧k≠8∧k≠9)):=by
 by_cases h1:k=1
 ·subst h1;exact⟨true,false,false,false,false,false,false,false,false,⟨rfl,rfl,rfl,rfl,rfl,rfl,rfl,rfl,rfl⟩, .inl ⟨⟨rfl,rfl⟩,rfl,rfl,rfl,rfl,rfl,rfl,rfl,rfl⟩⟩
 by_cases h2:k=2
 ·subst h2;exact⟨false,true,false,false,false,false,false,false,false,⟨rfl,rfl,rfl,rfl,rfl,rfl,rfl,rfl,rfl⟩, .inr (.inl ⟨rfl,⟨rfl,rfl⟩,rfl,rfl,rfl,rfl,rfl,rfl,rfl⟩)⟩
 by_cases h3:k=3
 ·subst h3;exact⟨false,false,true,false,false,false,false,false,false,⟨rfl,rfl,rfl,rfl,rfl,rfl,rfl,rfl,rfl⟩, .inr (.inr (.inl ⟨rfl,rfl,⟨rfl,rfl⟩,rfl,rfl,rfl,rfl,rfl,rfl⟩))⟩
 by_cases h4:k=4
 ·subst h4;exact⟨false,false,false,true,false,false,false,false,false,⟨rfl,rfl,rfl,rfl,rfl,rfl,rfl,rfl,rfl⟩, .inr (.inr (.inr (.inl ⟨rfl,rfl,rfl,⟨rfl,rfl⟩,rfl,rfl,rfl,rfl,rfl⟩)))⟩
 by_cases h5:k=5
 ·subst h5;exact⟨false,false,false,false,true,false,false,false,false,⟨rfl,rfl,rfl,rfl,rfl,rfl,rfl,rfl,rfl⟩, .inr (.inr (.inr (.inr (.inl ⟨rfl,rfl,rfl,rfl,⟨rfl,rfl⟩,rfl,rfl,rfl,rfl⟩))))⟩
 by_cases h6:k=6
 ·subst h6;exact⟨false,false,false,false,false,true,false,false,false,⟨rfl,rfl,rfl,rfl,rfl,rfl,rfl,rfl,rfl⟩, .inr (.inr (.inr (.inr (.inr (.inl ⟨rfl,rfl,rfl,rfl,rfl,⟨rfl,rfl⟩,rfl,rfl,rfl⟩)))))⟩
 by_cases h7:k=7
 ·subst h7;exact⟨false,false,false,false,false,false,true,false,false,⟨rfl,rfl,rfl,rfl,rfl,rfl,rfl,rfl,rfl⟩, .inr (.inr (.inr (.inr (.inr (.inr (.inl ⟨rfl,rfl,rfl,rfl,rfl,rfl,⟨rfl,rfl⟩,rfl,rfl⟩))))))⟩
 by_cases h8:k=8
 ·subst h8;exact⟨false,false,false,false,false,false,false,true,false,⟨rfl,rfl,rfl,rfl,rfl,rfl,rfl,rfl,rfl⟩, .inr (.inr (.inr (.inr (.inr (.inr (.inr (.inl ⟨rfl,rfl,rfl,rfl,rfl,rfl,rfl,⟨rfl,rfl⟩,rfl⟩)))))))⟩
 by_cases h9:k=9
 ·subst h9;exact⟨false,false,false,false,false,false,false,false,true,⟨rfl,rfl,rfl,rfl,rfl,rfl,rfl,rfl,rfl⟩, .inr (.inr (.inr (.inr (.inr (.inr (.inr (.inr (.inl ⟨rfl,rfl,rfl,rfl,rfl,rfl,rfl,rfl,⟨rfl,rfl⟩⟩))))))))⟩
 exact⟨false,false,false,false,false,false,false,false,false,⟨aU h1,aU h2,aU h3,aU h4,aU h5,aU h6,aU h7,aU h8,aU h9⟩, .inr (.inr (.inr (.inr (.inr (.inr (.inr (.inr (.inr (⟨rfl,rfl,rfl,rfl,rfl,rfl,rfl,rfl,rfl,h1,h2,h3,h4,h5,h6,h7,h8,h9⟩)))))))))⟩
theorem R0: ∀(a0 a1 a2 a3 a4 q1 q2 q3 q4 q6:Bool),(a0=true∨(q1=false∧a1=false)∨(q6=false∧a2=false)∨(q3=false∧a3=false)∨(q2=false∧q3=false∧q4=false∧a4=false))∨(a0=false∧(q1||a1)=true∧(q6||a2)=true∧(q3||a3)=true∧(q2||q3||q4||a4)=true):=by
 intro a0 a1 a2 a3 a4 q1 q2 q3 q4 q6;by_cases h0:a0=true
 ·exact .inl (.inl h0)
 by_cases h1:(q1||a1)=true
 rotate_left
 ·exact .inl (.inr (.inl (by simpa using h1)))
 by_cases h2:(q6||a2)=true
 rotate_left
 ·exact .inl (.inr (.inr (.inl (by simpa using h2))))
 by_cases h3:(q3||a3)=true
 rotate_left
 ·exact .inl (.inr (.inr (.inr (.inl (by simpa using h3)))))
 by_cases h4:(q2||q3||q4||a4)=true
 rotate_left
 ·exact .inl (.inr (.inr (.inr (.inr (by simpa [and_assoc]using h4)))))
 exact .inr ⟨by simpa using h0,h1,h2,h3,h4⟩
theorem sV (w:Int) (B:List CF) (lv:Int): ∀l:List CE,eK w B l lv=l.all fun e=>jQ w B e lv
 |[]=>by simp only[eK,List.all_nil]
 |e::l=>by simp only[eK,sV w B lv l,List.all_cons]
theorem nZ (w:Int) (B:List CF) (e:CE) (lv:Int):jQ w B e lv=(decide (lv≤24)&&pQ w B e&&eK w B e.kids (lv+1)):=by
 cases e;rw[jQ];rfl
theorem Ef {α:Type} {p:α→Bool} {l:List α} {k:Nat} {e:α} (h:l[k]?=some e) (hp:p e=false):l.all p=false:=by
 rw[List.all_eq_false];exact⟨e,bN h,by rw[hp];decide⟩
theorem Ip {α:Type} {p:α→Bool} {l:List α} {k:Nat} {e:α} (h:l[k]?=some e) (hk:(l.take k).all p=true) (hp:p e=true):(l.take (k+1)).all p=true:=by
 obtain⟨h1,rfl⟩:=bW.1 h;rw[bR h1,List.all_append,hk,List.all_cons,hp];rfl
end Go.Al
namespace Go.Proofs.YtnfbbjhdflhmjaaGreatDoor
open Go.Al
end Go.Proofs.YtnfbbjhdflhmjaaGreatDoor
