/- The program's types that are met, and its environment: one table is looked at. The names of the language: the judge's small functions of chapter 13. Chapter 14, the judge's: has a program few parts? Chapter 14, the judge's: has a program few parts? Second part. Chapter 14, the judge's: may an expression be? Chapter 14, the judge's: may a program be? Chapter 14, the judge's: may a program be? Second part. -/
import Derived.Test.YtnfbbjhdflhmjaaDoorSy1
import Derived.Test.YtnfbbjhdflhmjaaDoorAl4
import Derived.Test.YtnfbbjhdflhmjaaDoorRows
set_option linter.unusedSimpArgs false
set_option linter.unusedVariables false
set_option maxRecDepth 10000
namespace Go.Proofs.YtnfbbjhdflhmjaaDoor
open Go.Al
def wordsL : List (List UInt8) := [[118, 97, 114], [97, 114, 114, 97, 121], [102, 117, 110, 99], [119, 111, 114, 100], [105, 102], [101, 108, 115, 101], [119, 104, 105, 108, 101], [114, 101, 116, 117, 114, 110], [112, 117, 116], [103, 101, 116]]
def gtab : Nat → Option (List AV)
 | 0 => some (wordsL.map .str)
 | _ => none
noncomputable def env : Env := ⟨Tryd.prog, gtab⟩
theorem envG : env.G = gtab := rfl
theorem draws : env.P.follows .mixedOrders = true := by kernel_rfl
theorem ty_3 : tinfo env.P 3 = some ⟨.int .i64, 1, 8, .int .i64 0⟩ := by kernel_rfl
theorem ty_4 : tinfo env.P 4 = some ⟨.bool, 1, 1, .bool false⟩ := by kernel_rfl
theorem ty_5 : tinfo env.P 5 = some ⟨.int .u8, 1, 1, .int .u8 0⟩ := by kernel_rfl
theorem ty_9 : tinfo env.P 9 = some ⟨.str, 1, 16, .str []⟩ := by kernel_rfl
theorem ty_20 : tinfo env.P 20 = some ⟨.iface, 1, 16, .nif⟩ := by kernel_rfl
theorem ty_22 : tinfo env.P 22 = some ⟨.slice 49, 1, 24, .nsl⟩ := by kernel_rfl
theorem ty_24 : tinfo env.P 24 = some ⟨.strct [(3, 0), (22, 1)], 2, 32, .agg [.int .i64 0, .nsl]⟩ := by kernel_rfl
theorem ty_29 : tinfo env.P 29 = some ⟨.strct [(3, 0), (9, 1), (3, 2)], 3, 32, .agg [.int .i64 0, .str [], .int .i64 0]⟩ := by kernel_rfl
theorem ty_32 : tinfo env.P 32 = some ⟨.array 2 3, 2, 16, .agg [.int .i64 0, .int .i64 0]⟩ := by kernel_rfl
theorem ty_38 : tinfo env.P 38 = some ⟨.int .i64, 1, 8, .int .i64 0⟩ := by kernel_rfl
theorem ty_41 : tinfo env.P 41 = some ⟨.slice 9, 1, 24, .nsl⟩ := by kernel_rfl
theorem ty_42 : tinfo env.P 42 = some ⟨.slice 104, 1, 24, .nsl⟩ := by kernel_rfl
theorem ty_43 : tinfo env.P 43 = some ⟨.slice 78, 1, 24, .nsl⟩ := by kernel_rfl
theorem ty_45 : tinfo env.P 45 = some ⟨.strct [(41, 0), (42, 1), (43, 2)], 3, 72, .agg [.nsl, .nsl, .nsl]⟩ := by kernel_rfl
theorem ty_47 : tinfo env.P 47 = some ⟨.slice 93, 1, 24, .nsl⟩ := by kernel_rfl
theorem ty_49 : tinfo env.P 49 = some ⟨.strct [(3, 0), (3, 1), (3, 2), (4, 3), (47, 4)], 5, 56, .agg [.int .i64 0, .int .i64 0, .int .i64 0, .bool false, .nsl]⟩ := by kernel_rfl
theorem ty_50 : tinfo env.P 50 = some ⟨.ptr 54, 1, 8, .npt⟩ := by kernel_rfl
theorem ty_51 : tinfo env.P 51 = some ⟨.slice 57, 1, 24, .nsl⟩ := by kernel_rfl
theorem ty_52 : tinfo env.P 52 = some ⟨.slice 5, 1, 24, .nsl⟩ := by kernel_rfl
theorem ty_54 : tinfo env.P 54 = some ⟨.strct [(22, 0), (51, 1), (9, 2), (3, 3), (52, 4), (3, 5), (3, 6)], 7, 112, .agg [.nsl, .nsl, .str [], .int .i64 0, .nsl, .int .i64 0, .int .i64 0]⟩ := by kernel_rfl
theorem ty_56 : tinfo env.P 56 = some ⟨.strct [(3, 0)], 1, 8, .agg [.int .i64 0]⟩ := by kernel_rfl
theorem ty_57 : tinfo env.P 57 = some ⟨.int .u32, 1, 4, .int .u32 0⟩ := by kernel_rfl
theorem ty_60 : tinfo env.P 60 = some ⟨.ptr 62, 1, 8, .npt⟩ := by kernel_rfl
theorem ty_62 : tinfo env.P 62 = some ⟨.strct [(24, 0), (51, 2), (9, 3), (3, 4), (52, 5), (3, 6), (3, 7), (3, 8), (4, 9), (57, 10)], 11, 136, .agg [.int .i64 0, .nsl, .nsl, .str [], .int .i64 0, .nsl, .int .i64 0, .int .i64 0, .int .i64 0, .bool false, .int .u32 0]⟩ := by kernel_rfl
theorem ty_69 : tinfo env.P 69 = some ⟨.strct [(3, 0), (22, 1), (4, 2)], 3, 40, .agg [.int .i64 0, .nsl, .bool false]⟩ := by kernel_rfl
theorem ty_73 : tinfo env.P 73 = some ⟨.map 9 82, 1, 8, .nmp⟩ := by kernel_rfl
theorem ty_76 : tinfo env.P 76 = some ⟨.slice 88, 1, 24, .nsl⟩ := by kernel_rfl
theorem ty_78 : tinfo env.P 78 = some ⟨.strct [(9, 0), (41, 1), (41, 2), (4, 3), (76, 4)], 5, 96, .agg [.str [], .nsl, .nsl, .bool false, .nsl]⟩ := by kernel_rfl
theorem ty_80 : tinfo env.P 80 = some ⟨.strct [(73, 0), (73, 1)], 2, 16, .agg [.nmp, .nmp]⟩ := by kernel_rfl
theorem ty_82 : tinfo env.P 82 = some ⟨.strct [(3, 0), (3, 1)], 2, 16, .agg [.int .i64 0, .int .i64 0]⟩ := by kernel_rfl
theorem ty_84 : tinfo env.P 84 = some ⟨.slice 86, 1, 24, .nsl⟩ := by kernel_rfl
theorem ty_86 : tinfo env.P 86 = some ⟨.strct [(3, 0), (3, 1), (57, 2), (9, 3), (84, 4)], 5, 64, .agg [.int .i64 0, .int .i64 0, .int .u32 0, .str [], .nsl]⟩ := by kernel_rfl
theorem ty_88 : tinfo env.P 88 = some ⟨.strct [(3, 0), (9, 1), (84, 2), (76, 3), (76, 4)], 5, 96, .agg [.int .i64 0, .str [], .nsl, .nsl, .nsl]⟩ := by kernel_rfl
theorem ty_90 : tinfo env.P 90 = some ⟨.ptr 93, 1, 8, .npt⟩ := by kernel_rfl
theorem ty_91 : tinfo env.P 91 = some ⟨.slice 110, 1, 24, .nsl⟩ := by kernel_rfl
theorem ty_93 : tinfo env.P 93 = some ⟨.strct [(3, 0), (3, 1), (3, 2), (91, 3), (47, 4), (47, 5)], 6, 96, .agg [.int .i64 0, .int .i64 0, .int .i64 0, .nsl, .nsl, .nsl]⟩ := by kernel_rfl
theorem ty_104 : tinfo env.P 104 = some ⟨.strct [(9, 0), (3, 1)], 2, 24, .agg [.str [], .int .i64 0]⟩ := by kernel_rfl
theorem ty_108 : tinfo env.P 108 = some ⟨.ptr 110, 1, 8, .npt⟩ := by kernel_rfl
theorem ty_110 : tinfo env.P 110 = some ⟨.strct [(3, 0), (3, 1), (57, 2), (3, 3), (3, 4), (91, 5)], 6, 64, .agg [.int .i64 0, .int .i64 0, .int .u32 0, .int .i64 0, .int .i64 0, .nsl]⟩ := by kernel_rfl
theorem ty_115 : tinfo env.P 115 = some ⟨.int .u64, 1, 8, .int .u64 0⟩ := by kernel_rfl
theorem ty_122 : tinfo env.P 122 = some ⟨.map 9 132, 1, 8, .nmp⟩ := by kernel_rfl
theorem ty_127 : tinfo env.P 127 = some ⟨.strct [(122, 0), (122, 1)], 2, 16, .agg [.nmp, .nmp]⟩ := by kernel_rfl
theorem ty_130 : tinfo env.P 130 = some ⟨.strct [(3, 0), (9, 1), (3, 2)], 3, 32, .agg [.int .i64 0, .str [], .int .i64 0]⟩ := by kernel_rfl
theorem ty_132 : tinfo env.P 132 = some ⟨.strct [(3, 0), (3, 1)], 2, 16, .agg [.int .i64 0, .int .i64 0]⟩ := by kernel_rfl
theorem ty_134 : tinfo env.P 134 = some ⟨.func, 1, 8, .nfn⟩ := by kernel_rfl
theorem ty_135 : tinfo env.P 135 = some ⟨.ptr 157, 1, 8, .npt⟩ := by kernel_rfl
theorem ty_144 : tinfo env.P 144 = some ⟨.array 6 57, 6, 24, .agg [.int .u32 0, .int .u32 0, .int .u32 0, .int .u32 0, .int .u32 0, .int .u32 0]⟩ := by kernel_rfl
theorem ty_151 : tinfo env.P 151 = some ⟨.func, 1, 8, .nfn⟩ := by kernel_rfl
theorem ty_152 : tinfo env.P 152 = some ⟨.func, 1, 8, .nfn⟩ := by kernel_rfl
theorem ty_153 : tinfo env.P 153 = some ⟨.map 9 78, 1, 8, .nmp⟩ := by kernel_rfl
theorem ty_154 : tinfo env.P 154 = some ⟨.func, 1, 8, .nfn⟩ := by kernel_rfl
theorem ty_155 : tinfo env.P 155 = some ⟨.array 10 154, 10, 80, .agg [.nfn, .nfn, .nfn, .nfn, .nfn, .nfn, .nfn, .nfn, .nfn, .nfn]⟩ := by kernel_rfl
theorem ty_157 : tinfo env.P 157 = some ⟨.strct [(153, 0), (155, 1)], 11, 88, .agg [.nmp, .nfn, .nfn, .nfn, .nfn, .nfn, .nfn, .nfn, .nfn, .nfn, .nfn]⟩ := by kernel_rfl
theorem ty_161 : tinfo env.P 161 = some ⟨.func, 1, 8, .nfn⟩ := by kernel_rfl
theorem ty_164 : tinfo env.P 164 = some ⟨.slice 3, 1, 24, .nsl⟩ := by kernel_rfl
theorem ty_167 : tinfo env.P 167 = some ⟨.array 10 9, 10, 160, .agg [.str [], .str [], .str [], .str [], .str [], .str [], .str [], .str [], .str [], .str []]⟩ := by kernel_rfl
theorem TY : type_of% (And.intro ty_3 <| And.intro ty_4 <| And.intro ty_5 <| And.intro ty_9 <| And.intro ty_20 <| And.intro ty_22 <| And.intro ty_24 <| And.intro ty_29 <| And.intro ty_32 <| And.intro ty_38 <| And.intro ty_41 <| And.intro ty_42 <| And.intro ty_43 <| And.intro ty_45 <| And.intro ty_47 <| And.intro ty_49 <| And.intro ty_50 <| And.intro ty_51 <| And.intro ty_52 <| And.intro ty_54 <| And.intro ty_56 <| And.intro ty_57 <| And.intro ty_60 <| And.intro ty_62 <| And.intro ty_69 <| And.intro ty_73 <| And.intro ty_76 <| And.intro ty_78 <| And.intro ty_80 <| And.intro ty_82 <| And.intro ty_84 <| And.intro ty_86 <| And.intro ty_88 <| And.intro ty_90 <| And.intro ty_91 <| And.intro ty_93 <| And.intro ty_104 <| And.intro ty_108 <| And.intro ty_110 <| And.intro ty_115 <| And.intro ty_122 <| And.intro ty_127 <| And.intro ty_130 <| And.intro ty_132 <| And.intro ty_134 <| And.intro ty_135 <| And.intro ty_144 <| And.intro ty_151 <| And.intro ty_152 <| And.intro ty_153 <| And.intro ty_154 <| And.intro ty_155 <| And.intro ty_157 <| And.intro ty_161 <| And.intro ty_164 <| And.intro ty_167 <| envG) := And.intro ty_3 <| And.intro ty_4 <| And.intro ty_5 <| And.intro ty_9 <| And.intro ty_20 <| And.intro ty_22 <| And.intro ty_24 <| And.intro ty_29 <| And.intro ty_32 <| And.intro ty_38 <| And.intro ty_41 <| And.intro ty_42 <| And.intro ty_43 <| And.intro ty_45 <| And.intro ty_47 <| And.intro ty_49 <| And.intro ty_50 <| And.intro ty_51 <| And.intro ty_52 <| And.intro ty_54 <| And.intro ty_56 <| And.intro ty_57 <| And.intro ty_60 <| And.intro ty_62 <| And.intro ty_69 <| And.intro ty_73 <| And.intro ty_76 <| And.intro ty_78 <| And.intro ty_80 <| And.intro ty_82 <| And.intro ty_84 <| And.intro ty_86 <| And.intro ty_88 <| And.intro ty_90 <| And.intro ty_91 <| And.intro ty_93 <| And.intro ty_104 <| And.intro ty_108 <| And.intro ty_110 <| And.intro ty_115 <| And.intro ty_122 <| And.intro ty_127 <| And.intro ty_130 <| And.intro ty_132 <| And.intro ty_134 <| And.intro ty_135 <| And.intro ty_144 <| And.intro ty_151 <| And.intro ty_152 <| And.intro ty_153 <| And.intro ty_154 <| And.intro ty_155 <| And.intro ty_157 <| And.intro ty_161 <| And.intro ty_164 <| And.intro ty_167 <| envG
theorem g_words : gtab 0 = some (wordsL.map .str) := rfl
theorem RR : type_of% (And.intro AX <| And.intro g_words TY) := And.intro AX <| And.intro g_words TY
noncomputable def tys : Tys env.P where
 int := 3
 u32 := 57
 str := 9
 bool := 4
 strs := 41
 ex := 86
 exs := 84
 sm := 88
 sms := 76
 ar := 104
 ars := 42
 fu := 78
 fus := 43
 pg := 45
 uInt := by kernel_rfl
 uU32 := by kernel_rfl
 uStr := by kernel_rfl
 uBool := by kernel_rfl
 uStrs := by kernel_rfl
 uEx := by kernel_rfl
 uExs := by kernel_rfl
 uSm := by kernel_rfl
 uSms := by kernel_rfl
 uAr := by kernel_rfl
 uArs := by kernel_rfl
 uFu := by kernel_rfl
 uFus := by kernel_rfl
 uPg := by kernel_rfl
 c1 := by kernel_rfl
 cEx := by kernel_rfl
 cSm := by kernel_rfl
 cAr := by kernel_rfl
 cFu := by kernel_rfl
 cPg := by kernel_rfl
end Go.Proofs.YtnfbbjhdflhmjaaDoor
namespace Go.Proofs.YtnfbbjhdflhmjaaDoor
open Go.Al
def digI (c : Int) : Bool := decide (48 ≤ c) && decide (c ≤ 57)
def alphI (c : Int) : Bool := decide (97 ≤ c) && decide (c ≤ 122) || decide (65 ≤ c) && decide (c ≤ 90)
def inI (c : Int) : Bool := alphI c || digI c || decide (c = 95)
def isN (c : UInt8) : Bool := inI c.toNat
def nameB (s : List UInt8) : Bool := match s with
 | [] => false
 | c :: r => decide ((c :: r).length ≤ 20) && (alphI c.toNat && (decide ((c :: r).takeWhile isN = c :: r) && !wordsL.contains (c :: r)))
theorem takeWhile_all (p : UInt8 → Bool) : ∀ s : List UInt8, decide (s.takeWhile p = s) = s.all p
 | [] => rfl
 | c :: s => by
   cases h : p c with
   | true =>
     simp only [List.takeWhile, h, List.all_cons, Bool.true_and, List.cons.injEq, true_and]
     exact takeWhile_all p s
   | false => simp [List.takeWhile, h]
end Go.Proofs.YtnfbbjhdflhmjaaDoor
namespace Go.Al
def shortB (l : List Str) : Bool := l.all (fun s => decide (s.length ≤ 60)) && decide (l.length ≤ 200)
def leftE : List Ex → Int → Int → Int
 | [], left, _ => left
 | .mk _ _ _ s kids :: l, left, deep => if left < 0 then left else if deep ≤ 0 ∨ 60 < s.length then -1 else leftE l (leftE kids (left - 1) (deep - 1)) deep
def leftS : List Sm → Int → Int → Int
 | [], left, _ => left
 | .mk _ s es t u :: l, left, deep => if left < 0 then left else if deep ≤ 0 ∨ 60 < s.length then -1 else leftS l (leftS u (leftS t (leftE es (left - 1) (deep - 1)) (deep - 1)) (deep - 1)) deep
theorem leftE_cons (e : Ex) (l : List Ex) (left deep : Int) : leftE (e :: l) left deep = if left < 0 then left else if deep ≤ 0 ∨ 60 < e.name.length then -1 else leftE l (leftE e.kids (left - 1) (deep - 1)) deep := by
 cases e; rw [leftE]; rfl
theorem leftS_cons (e : Sm) (l : List Sm) (left deep : Int) : leftS (e :: l) left deep = if left < 0 then left else if deep ≤ 0 ∨ 60 < e.name.length then -1 else leftS l (leftS e.els (leftS e.thn (leftE e.es (left - 1) (deep - 1)) (deep - 1)) (deep - 1)) deep := by
 cases e; rw [leftS]; rfl
theorem leftE_neg (l : List Ex) (left deep : Int) (h : left < 0) : leftE l left deep = left := by
 cases l with
 | nil => rw [leftE]
 | cons e l => rw [leftE_cons, if_pos h]
theorem leftS_neg (l : List Sm) (left deep : Int) (h : left < 0) : leftS l left deep = left := by
 cases l with
 | nil => rw [leftS]
 | cons e l => rw [leftS_cons, if_pos h]
theorem leftE_bd (n : Nat) : ∀ (l : List Ex) (left deep : Int), szE l ≤ n → 0 ≤ left → -1 ≤ leftE l left deep ∧ leftE l left deep ≤ left := by
 induction n with
 | zero =>
   intro l left deep hn h
   cases l with
   | nil => rw [leftE]; omega
   | cons e l => have := e.sz_eq; simp only [szE] at hn; omega
 | succ n ih =>
   intro l
   induction l with
   | nil => intro left deep _ h; rw [leftE]; omega
   | cons e l ihl =>
     intro left deep hn h
     have hs := e.sz_eq
     simp only [szE] at hn
     rw [leftE_cons, if_neg (by omega)]
     split
     ·omega
     ·by_cases h0 : left = 0
      ·rw [h0, leftE_neg e.kids _ _ (by omega), leftE_neg l _ _ (by omega)]; omega
      ·have h1 := ih e.kids (left - 1) (deep - 1) (by omega) (by omega)
       by_cases h2 : leftE e.kids (left - 1) (deep - 1) < 0
       ·rw [leftE_neg l _ _ h2]; omega
       ·have := ihl (leftE e.kids (left - 1) (deep - 1)) deep (by omega) (by omega); omega
theorem leftE_bd' (l : List Ex) (left deep : Int) (h : -1 ≤ left) : -1 ≤ leftE l left deep ∧ leftE l left deep ≤ left := by
 by_cases h0 : left < 0
 ·rw [leftE_neg _ _ _ h0]; omega
 ·exact leftE_bd (szE l) l left deep (Nat.le_refl _) (by omega)
theorem leftS_bd (n : Nat) : ∀ (l : List Sm) (left deep : Int), szS l ≤ n → 0 ≤ left → -1 ≤ leftS l left deep ∧ leftS l left deep ≤ left := by
 induction n with
 | zero =>
   intro l left deep hn h
   cases l with
   | nil => rw [leftS]; omega
   | cons e l => have := e.sz_eq; simp only [szS] at hn; omega
 | succ n ih =>
   have ih' : ∀ (l : List Sm) (left deep : Int), szS l ≤ n → -1 ≤ left → -1 ≤ leftS l left deep ∧ leftS l left deep ≤ left := fun l left deep hl h => by
    by_cases h0 : left < 0
    ·rw [leftS_neg _ _ _ h0]; omega
    ·exact ih l left deep hl (by omega)
   intro l
   induction l with
   | nil => intro left deep _ h; rw [leftS]; omega
   | cons e l ihl =>
     intro left deep hn h
     have hs := e.sz_eq
     simp only [szS] at hn
     rw [leftS_cons, if_neg (by omega)]
     split
     ·omega
     ·have h1 := leftE_bd' e.es (left - 1) (deep - 1) (by omega)
      have h2 := ih' e.thn _ (deep - 1) (by omega) h1.1
      have h3 := ih' e.els _ (deep - 1) (by omega) h2.1
      generalize leftS e.els (leftS e.thn (leftE e.es (left - 1) (deep - 1)) (deep - 1)) (deep - 1) = z at *
      by_cases hz : z < 0
      ·rw [leftS_neg l _ _ hz]; omega
      ·have := ihl z deep (by omega) (by omega); omega
theorem leftS_bd' (l : List Sm) (left deep : Int) (h : -1 ≤ left) : -1 ≤ leftS l left deep ∧ leftS l left deep ≤ left := by
 by_cases h0 : left < 0
 ·rw [leftS_neg _ _ _ h0]; omega
 ·exact leftS_bd (szS l) l left deep (Nat.le_refl _) (by omega)
end Go.Al
namespace Go.Proofs.YtnfbbjhdflhmjaaDoor
open Go.Al
end Go.Proofs.YtnfbbjhdflhmjaaDoor
namespace Go.Al
def leftF : List Fu → Int → Int
 | [], left => left
 | f :: l, left => leftF l (leftS f.body (left - f.params.length - f.locs.length) 60)
def fewF (f : Fu) : Bool := shortB f.params && shortB f.locs && decide (f.name.length ≤ 60)
def fewB (p : Pg) (most : Int) : Bool :=
 shortB p.vars && decide (p.arrs.length ≤ 200) && decide (p.funs.length ≤ 70) && p.arrs.all (fun a => decide (a.name.length ≤ 60)) && p.funs.all fewF &&
  decide (0 ≤ leftF p.funs (most - p.vars.length - p.arrs.length - p.funs.length))
theorem shortB_len {l : List Str} (h : shortB l = true) : l.length ≤ 200 ∧ ∀ s ∈ l, s.length ≤ 60 := by
 simp only [shortB, Bool.and_eq_true, List.all_eq_true, decide_eq_true_eq] at h
 exact ⟨h.2, h.1⟩
end Go.Al
namespace Go.Proofs.YtnfbbjhdflhmjaaDoor
open Go.Al
theorem leftS_hi (l : List Sm) (left deep : Int) : leftS l left deep ≤ (if left < 0 then left else left) ∧ (0 ≤ left → -1 ≤ leftS l left deep) ∧ (left < 0 → leftS l left deep = left) := by
 by_cases h : left < 0
 ·rw [leftS_neg _ _ _ h]; simp; omega
 ·have := leftS_bd' l left deep (by omega)
  simp; omega
end Go.Proofs.YtnfbbjhdflhmjaaDoor
namespace Go.Proofs.YtnfbbjhdflhmjaaDoor
open Go.Al
theorem nameB_words {s : Str} (h : wordsL.contains s = true) : nameB s = false := by
 cases s with
 | nil => rfl
 | cons c r => simp only [nameB, h, Bool.not_true, Bool.and_false]
def headX (e : Ex) (level : Int) : Bool :=
 decide (level ≤ 24) && (decide (e.kind = 6) || decide (e.op = 0)) && (decide (e.kind = 1) || decide (e.num = 0)) &&
  (if e.kind = 2 ∨ e.kind = 3 ∨ e.kind = 4 then nameB e.name else decide (e.name = []))
def kidsX (k o : Int) (n : Nat) : Bool :=
 if k = 1 ∨ k = 2 ∨ k = 5 then decide (n = 0) else if k = 3 ∨ k = 7 then decide (n = 1) else if k = 4 then decide (n ≤ 6)
 else if k = 6 then decide (4 ≤ o) && decide (o ≤ 15) && decide (n = 2) else if k = 8 ∨ k = 9 then decide (n = 2) else false
def rightE : List Ex → Int → Bool
 | [], _ => true
 | .mk k o n s kids :: l, level => headX (.mk k o n s kids) level && kidsX k o kids.length && rightE kids (level + 1) && rightE l level
def rightX (e : Ex) (level : Int) : Bool := headX e level && kidsX e.kind e.op e.kids.length && rightE e.kids (level + 1)
theorem rightE_cons (e : Ex) (l : List Ex) (level : Int) : rightE (e :: l) level = (rightX e level && rightE l level) := by
 cases e; rw [rightE]; rfl
theorem rightE_nil (level : Int) : rightE [] level = true := by rw [rightE]
end Go.Proofs.YtnfbbjhdflhmjaaDoor
namespace Go.Proofs.YtnfbbjhdflhmjaaDoor
open Go.Al
def headS (s : Sm) (level : Int) : Bool :=
 decide (level ≤ 24) && (decide (s.kind = 4) || decide (s.els.length = 0)) && (decide (s.kind = 4) || decide (s.kind = 5) || decide (s.thn.length = 0)) &&
  (if s.kind = 1 ∨ s.kind = 2 ∨ s.kind = 6 then nameB s.name else decide (s.name = []))
def fitS (k : Int) (n : Nat) : Bool :=
 if k = 1 ∨ k = 3 ∨ k = 4 ∨ k = 5 then decide (n = 1) else if k = 2 then decide (n = 2) else if k = 6 then decide (n ≤ 6) else if k = 7 then decide (n ≤ 1) else false
def rightS : List Sm → Int → Bool
 | [], _ => true
 | .mk k s es t u :: l, level => headS (.mk k s es t u) level && fitS k es.length && rightE es (level + 1) && rightS t (level + 1) && rightS u (level + 1) && rightS l level
def rightM (s : Sm) (level : Int) : Bool := headS s level && fitS s.kind s.es.length && rightE s.es (level + 1) && rightS s.thn (level + 1) && rightS s.els (level + 1)
theorem rightS_cons (e : Sm) (l : List Sm) (level : Int) : rightS (e :: l) level = (rightM e level && rightS l level) := by
 cases e; rw [rightS]; rfl
theorem rightS_nil (level : Int) : rightS [] level = true := by rw [rightS]
def rightA (a : Ar) : Bool := nameB a.name && decide (1 ≤ a.size) && decide (a.size ≤ 4096)
def rightF (f : Fu) : Bool := nameB f.name && decide (f.params.length ≤ 6) && f.params.all nameB && f.locs.all nameB && rightS f.body 1
def rightP (p : Pg) : Bool := p.vars.all nameB && decide (1 ≤ p.funs.length) && decide (p.funs.length ≤ 64) && p.arrs.all rightA && p.funs.all rightF
theorem bneg {a b : Bool} (h : a = !b) (ha : a = true) : b = false := by subst ha; cases b <;> simp_all
theorem bpos {a b : Bool} (h : a = !b) (ha : a = false) : b = true := by subst ha; cases b <;> simp_all
end Go.Proofs.YtnfbbjhdflhmjaaDoor
namespace Go.Proofs.YtnfbbjhdflhmjaaDoor
open Go.Al
end Go.Proofs.YtnfbbjhdflhmjaaDoor
