/- Chapter 19, the judge's: has a core few parts? The program's: how great it is. -/
import Derived.Test.YtnfbbjhdflhmjaaGreatDoorCx
import Derived.Test.YtnfbbjhdflhmjaaGreatDoorAl4
import Derived.Test.YtnfbbjhdflhmjaaGreatDoorSy2
set_option linter.unusedSimpArgs false
set_option linter.unusedVariables false
set_option maxRecDepth 10000
namespace Go.Al
theorem G6 {n:Nat} (h:n<9223372036854775807):IntKind.wrap .i64 ((n:Int)+1)=((n+1:Nat):Int):=by rw[aQ _ (by omega)];omega
def Kl {α:Type} (g:α→Int→Int):List α→Int→Int
 |[],x=>x
 |a::l,x=>if x<0 then x else Kl g l (g a x)
theorem Zj {α:Type} (g:α→Int→Int) (l:List α) {x:Int} (h:x<0):Kl g l x=x:=by
 cases l with
 |nil=>rfl
 |cons a l=>rw[Kl,if_pos h]
theorem G8 {α:Type} {g:α→Int→Int} {l:List α} {k:Nat} (hk:k<l.length) {x:Int} (h:0≤x):Kl g (l.drop k) x=Kl g (l.drop (k+1)) (g l[k] x):=by
 rw[bD hk,Kl,if_neg (by omega)]
theorem Kk {α:Type} {g:α→Int→Int}: ∀(l:List α) (x:Int),(∀a∈l, ∀y,0≤y→ -1≤g a y∧g a y≤y)→ -1≤x→ -1≤Kl g l x∧Kl g l x≤x
 |[],x,_,h=>⟨h,Int.le_refl _⟩
 |a::l,x,h,hx=>by
  rw[Kl];split
  ·exact⟨hx,Int.le_refl _⟩
  have h1:=h a (List.mem_cons_self) x (by omega);have h2:=Kk l (g a x) (fun b hb=>h b (List.mem_cons_of_mem _ hb)) h1.1;omega
theorem Kj {α:Type} {g:α→Int→Int} {z:α→Nat}: ∀(l:List α) (x:Int),(∀a∈l, ∀y,0≤y→0≤g a y→g a y+z a≤y)→0≤Kl g l x→Kl g l x+(l.map z).sum≤x
 |[],x,_,hp=>by simp [Kl]
 |a::l,x,h,hp=>by
  rw[Kl]at hp⊢;split at hp
  ·omega
  rename_i hx;rw[if_neg hx];have h2:=Kj l (g a x) (fun b hb=>h b (List.mem_cons_of_mem _ hb)) hp
  have h1:=h a (List.mem_cons_self) x (by omega) (by
   rcases Int.lt_or_le (g a x) 0 with h3|h3
   ·rw[Zj g l h3]at hp;omega
   exact h3)
  simp only[List.map_cons,List.sum_cons];omega
def Jb:Nat→List CE→Int→Int
 |0,_,_=> -1
 |d+1,l,x=>Kl (fun e y=>Jb d e.kids (y- 1)) l x
theorem Ka: ∀(d:Nat) (l:List CE) (x:Int), -1≤x→ -1≤Jb d l x∧Jb d l x≤x
 |0,l,x,h=>by rw[Jb];omega
 |d+1,l,x,h=>by
  rw[Jb];exact Kk l x (fun a _ y hy=>by have:=Ka d a.kids (y- 1) (by omega);omega) h
theorem Xy: ∀l:List CE,(l.map fun e=>1+dR e.kids).sum=dR l
 |[]=>rfl
 |e::l=>by have:=Xy l;have:=e.sz_eq;simp only[List.map_cons,List.sum_cons,dR];omega
theorem Tg: ∀(d:Nat) (l:List CE) (x:Int),0≤Jb d l x→Jb d l x+dR l≤x
 |0,l,x,h=>by rw[Jb]at h;omega
 |d+1,l,x,h=>by
  rw[Jb]at h⊢;have:=Kj (g:=fun e y=>Jb d e.kids (y- 1)) (z:=fun e=>1+dR e.kids) l x (fun a _ y _ hp=>by have:=Tg d a.kids (y- 1) hp;omega) h;have:=Xy l;omega
def Bs:Nat→List CS→Int→Int
 |0,_,_=> -1
 |d+1,l,x=>Kl (fun s y=>Bs d s.els (Bs d s.thn (Jb d s.es (y- 1)))) l x
theorem uK: ∀(d:Nat) (l:List CS) (x:Int), -1≤x→ -1≤Bs d l x∧Bs d l x≤x
 |0,l,x,h=>by rw[Bs];omega
 |d+1,l,x,h=>by
  rw[Bs]
  exact Kk l x (fun a _ y hy=>by
   have h1:=Ka d a.es (y- 1) (by omega);have h2:=uK d a.thn _ h1.1;have h3:=uK d a.els _ h2.1
   omega) h
theorem Xx: ∀l:List CS,(l.map fun s=>1+dR s.es+dB s.thn+dB s.els).sum=dB l
 |[]=>rfl
 |e::l=>by have:=Xx l;have:=e.sz_eq;simp only[List.map_cons,List.sum_cons,dB];omega
theorem Mp (d:Nat) (l:List CS) {x:Int} (h:x<0) (hx: -1≤x):Bs d l x<0:=by have:=uK d l x hx;omega
theorem Jz: ∀(d:Nat) (l:List CS) (x:Int),0≤Bs d l x→Bs d l x+dB l≤x
 |0,l,x,h=>by rw[Bs]at h;omega
 |d+1,l,x,h=>by
  rw[Bs]at h⊢
  have:=Kj (g:=fun s y=>Bs d s.els (Bs d s.thn (Jb d s.es (y- 1)))) (z:=fun s=>1+dR s.es+dB s.thn+dB s.els) l x (fun a _ y hy hp=>by
   have b1:=Ka d a.es (y- 1) (by omega);have b2:=uK d a.thn _ b1.1;have g3:=Jz d a.els _ hp
   have p2:0≤Bs d a.thn (Jb d a.es (y- 1)):=by
    rcases Int.lt_or_le (Bs d a.thn (Jb d a.es (y- 1))) 0 with h3|h3
    ·have:=Mp d a.els h3 b2.1;omega
    exact h3
   have g2:=Jz d a.thn _ p2
   have p1:0≤Jb d a.es (y- 1):=by
    rcases Int.lt_or_le (Jb d a.es (y- 1)) 0 with h3|h3
    ·have:=Mp d a.thn h3 b1.1;omega
    exact h3
   have g1:=Tg d a.es _ p1
   omega) h
  have:=Xx l;omega
def I1 (c:Co) (most:Int):Bool:=decide (c.funs.length≤100)&&decide (0≤c.funs.foldl (fun x f=>Bs 41 f.body x) most)
theorem Nb: ∀(l:List CF) (x:Int), -1≤x→ -1≤l.foldl (fun x f=>Bs 41 f.body x) x∧l.foldl (fun x f=>Bs 41 f.body x) x≤x
 |[],x,h=>⟨h,Int.le_refl _⟩
 |f::l,x,h=>by
  have h1:=uK 41 f.body x h;have h2:=Nb l _ h1.1;simp only[List.foldl_cons];omega
theorem Na: ∀(l:List CF) (x:Int), -1≤x→0≤l.foldl (fun x f=>Bs 41 f.body x) x→l.foldl (fun x f=>Bs 41 f.body x) x+((l.map fun f=>dB f.body).sum:Nat)≤x
 |[],x,_,h=>by simp
 |f::l,x,hx,h=>by
  have h1:=uK 41 f.body x hx;simp only[List.foldl_cons]at h⊢;have h2:=Na l _ h1.1 h;have h3:=Nb l _ h1.1;have h4:=Jz 41 f.body x (by omega);simp only[List.map_cons,List.sum_cons];omega
end Go.Al
namespace Go.Proofs.YtnfbbjhdflhmjaaGreatDoor
open Go.Al
end Go.Proofs.YtnfbbjhdflhmjaaGreatDoor
