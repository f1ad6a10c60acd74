/- The program's types that are met, and its environment: one table is looked at. The names of the language: the judge's small functions of chapter 13. Chapter 14, the judge's: has a program few parts? Chapter 14, the judge's: has a program few parts? Second part. Chapter 14, the judge's: may an expression be? Chapter 14, the judge's: may a program be? Chapter 14, the judge's: may a program be? Second part. -/
import Derived.Test.YtnfbbjhdflhmjaaDoorSy1
import Derived.Test.YtnfbbjhdflhmjaaDoorAl4
import Derived.Test.YtnfbbjhdflhmjaaDoorRows
set_option linter.unusedSimpArgs false
set_option linter.unusedVariables false
set_option maxRecDepth 10000
namespace Go.Proofs.YtnfbbjhdflhmjaaDoor
open Go.Al
def eD : List (List UInt8) := [[118, 97, 114], [97, 114, 114, 97, 121], [102, 117, 110, 99], [119, 111, 114, 100], [105, 102], [101, 108, 115, 101], [119, 104, 105, 108, 101], [114, 101, 116, 117, 114, 110], [112, 117, 116], [103, 101, 116]]
def Ue : Nat → Option (List AV)
 | 0 => some (eD.map .str)
 | _ => none
noncomputable def cO : fC := ⟨Tryd.prog, Ue⟩
theorem Xs : cO.G = Ue := rfl
theorem dB : cO.P.follows .mixedOrders = true := by kernel_rfl
theorem Zj : bS cO.P 3 = some ⟨.int .i64, 1, 8, .int .i64 0⟩ := by kernel_rfl
theorem Zi : bS cO.P 4 = some ⟨.bool, 1, 1, .bool false⟩ := by kernel_rfl
theorem Zh : bS cO.P 5 = some ⟨.int .u8, 1, 1, .int .u8 0⟩ := by kernel_rfl
theorem Zg : bS cO.P 9 = some ⟨.str, 1, 16, .str []⟩ := by kernel_rfl
theorem Wi : bS cO.P 20 = some ⟨.iface, 1, 16, .nif⟩ := by kernel_rfl
theorem Wh : bS cO.P 22 = some ⟨.slice 49, 1, 24, .nsl⟩ := by kernel_rfl
theorem Wg : bS cO.P 24 = some ⟨.strct [(3, 0), (22, 1)], 2, 32, .agg [.int .i64 0, .nsl]⟩ := by kernel_rfl
theorem Wf : bS cO.P 29 = some ⟨.strct [(3, 0), (9, 1), (3, 2)], 3, 32, .agg [.int .i64 0, .str [], .int .i64 0]⟩ := by kernel_rfl
theorem We : bS cO.P 32 = some ⟨.array 2 3, 2, 16, .agg [.int .i64 0, .int .i64 0]⟩ := by kernel_rfl
theorem Wd : bS cO.P 38 = some ⟨.int .i64, 1, 8, .int .i64 0⟩ := by kernel_rfl
theorem Wc : bS cO.P 41 = some ⟨.slice 9, 1, 24, .nsl⟩ := by kernel_rfl
theorem Wb : bS cO.P 42 = some ⟨.slice 104, 1, 24, .nsl⟩ := by kernel_rfl
theorem Wa : bS cO.P 43 = some ⟨.slice 78, 1, 24, .nsl⟩ := by kernel_rfl
theorem Vz : bS cO.P 45 = some ⟨.strct [(41, 0), (42, 1), (43, 2)], 3, 72, .agg [.nsl, .nsl, .nsl]⟩ := by kernel_rfl
theorem Vy : bS cO.P 47 = some ⟨.slice 93, 1, 24, .nsl⟩ := by kernel_rfl
theorem Vx : bS cO.P 49 = some ⟨.strct [(3, 0), (3, 1), (3, 2), (4, 3), (47, 4)], 5, 56, .agg [.int .i64 0, .int .i64 0, .int .i64 0, .bool false, .nsl]⟩ := by kernel_rfl
theorem Vw : bS cO.P 50 = some ⟨.ptr 54, 1, 8, .npt⟩ := by kernel_rfl
theorem Vv : bS cO.P 51 = some ⟨.slice 57, 1, 24, .nsl⟩ := by kernel_rfl
theorem Vu : bS cO.P 52 = some ⟨.slice 5, 1, 24, .nsl⟩ := by kernel_rfl
theorem Vt : bS cO.P 54 = some ⟨.strct [(22, 0), (51, 1), (9, 2), (3, 3), (52, 4), (3, 5), (3, 6)], 7, 112, .agg [.nsl, .nsl, .str [], .int .i64 0, .nsl, .int .i64 0, .int .i64 0]⟩ := by kernel_rfl
theorem Vs : bS cO.P 56 = some ⟨.strct [(3, 0)], 1, 8, .agg [.int .i64 0]⟩ := by kernel_rfl
theorem Vr : bS cO.P 57 = some ⟨.int .u32, 1, 4, .int .u32 0⟩ := by kernel_rfl
theorem Vq : bS cO.P 60 = some ⟨.ptr 62, 1, 8, .npt⟩ := by kernel_rfl
theorem Vp : bS cO.P 62 = some ⟨.strct [(24, 0), (51, 2), (9, 3), (3, 4), (52, 5), (3, 6), (3, 7), (3, 8), (4, 9), (57, 10)], 11, 136, .agg [.int .i64 0, .nsl, .nsl, .str [], .int .i64 0, .nsl, .int .i64 0, .int .i64 0, .int .i64 0, .bool false, .int .u32 0]⟩ := by kernel_rfl
theorem Vo : bS cO.P 69 = some ⟨.strct [(3, 0), (22, 1), (4, 2)], 3, 40, .agg [.int .i64 0, .nsl, .bool false]⟩ := by kernel_rfl
theorem Vn : bS cO.P 73 = some ⟨.map 9 82, 1, 8, .nmp⟩ := by kernel_rfl
theorem Vm : bS cO.P 76 = some ⟨.slice 88, 1, 24, .nsl⟩ := by kernel_rfl
theorem Vl : bS cO.P 78 = some ⟨.strct [(9, 0), (41, 1), (41, 2), (4, 3), (76, 4)], 5, 96, .agg [.str [], .nsl, .nsl, .bool false, .nsl]⟩ := by kernel_rfl
theorem Vk : bS cO.P 80 = some ⟨.strct [(73, 0), (73, 1)], 2, 16, .agg [.nmp, .nmp]⟩ := by kernel_rfl
theorem Vj : bS cO.P 82 = some ⟨.strct [(3, 0), (3, 1)], 2, 16, .agg [.int .i64 0, .int .i64 0]⟩ := by kernel_rfl
theorem Vi : bS cO.P 84 = some ⟨.slice 86, 1, 24, .nsl⟩ := by kernel_rfl
theorem Vh : bS cO.P 86 = some ⟨.strct [(3, 0), (3, 1), (57, 2), (9, 3), (84, 4)], 5, 64, .agg [.int .i64 0, .int .i64 0, .int .u32 0, .str [], .nsl]⟩ := by kernel_rfl
theorem Vg : bS cO.P 88 = some ⟨.strct [(3, 0), (9, 1), (84, 2), (76, 3), (76, 4)], 5, 96, .agg [.int .i64 0, .str [], .nsl, .nsl, .nsl]⟩ := by kernel_rfl
theorem Vf : bS cO.P 90 = some ⟨.ptr 93, 1, 8, .npt⟩ := by kernel_rfl
theorem Ve : bS cO.P 91 = some ⟨.slice 110, 1, 24, .nsl⟩ := by kernel_rfl
theorem Vd : bS cO.P 93 = some ⟨.strct [(3, 0), (3, 1), (3, 2), (91, 3), (47, 4), (47, 5)], 6, 96, .agg [.int .i64 0, .int .i64 0, .int .i64 0, .nsl, .nsl, .nsl]⟩ := by kernel_rfl
theorem Qj : bS cO.P 104 = some ⟨.strct [(9, 0), (3, 1)], 2, 24, .agg [.str [], .int .i64 0]⟩ := by kernel_rfl
theorem Qi : bS cO.P 108 = some ⟨.ptr 110, 1, 8, .npt⟩ := by kernel_rfl
theorem Qh : bS cO.P 110 = some ⟨.strct [(3, 0), (3, 1), (57, 2), (3, 3), (3, 4), (91, 5)], 6, 64, .agg [.int .i64 0, .int .i64 0, .int .u32 0, .int .i64 0, .int .i64 0, .nsl]⟩ := by kernel_rfl
theorem Qg : bS cO.P 115 = some ⟨.int .u64, 1, 8, .int .u64 0⟩ := by kernel_rfl
theorem Qf : bS cO.P 122 = some ⟨.map 9 132, 1, 8, .nmp⟩ := by kernel_rfl
theorem Qe : bS cO.P 127 = some ⟨.strct [(122, 0), (122, 1)], 2, 16, .agg [.nmp, .nmp]⟩ := by kernel_rfl
theorem Qd : bS cO.P 130 = some ⟨.strct [(3, 0), (9, 1), (3, 2)], 3, 32, .agg [.int .i64 0, .str [], .int .i64 0]⟩ := by kernel_rfl
theorem Qc : bS cO.P 132 = some ⟨.strct [(3, 0), (3, 1)], 2, 16, .agg [.int .i64 0, .int .i64 0]⟩ := by kernel_rfl
theorem Qb : bS cO.P 134 = some ⟨.func, 1, 8, .nfn⟩ := by kernel_rfl
theorem Qa : bS cO.P 135 = some ⟨.ptr 157, 1, 8, .npt⟩ := by kernel_rfl
theorem Pz : bS cO.P 144 = some ⟨.array 6 57, 6, 24, .agg [.int .u32 0, .int .u32 0, .int .u32 0, .int .u32 0, .int .u32 0, .int .u32 0]⟩ := by kernel_rfl
theorem Py : bS cO.P 151 = some ⟨.func, 1, 8, .nfn⟩ := by kernel_rfl
theorem Px : bS cO.P 152 = some ⟨.func, 1, 8, .nfn⟩ := by kernel_rfl
theorem Pw : bS cO.P 153 = some ⟨.map 9 78, 1, 8, .nmp⟩ := by kernel_rfl
theorem Pu : bS cO.P 154 = some ⟨.func, 1, 8, .nfn⟩ := by kernel_rfl
theorem Pt : bS cO.P 155 = some ⟨.array 10 154, 10, 80, .agg [.nfn, .nfn, .nfn, .nfn, .nfn, .nfn, .nfn, .nfn, .nfn, .nfn]⟩ := by kernel_rfl
theorem Ps : bS cO.P 157 = some ⟨.strct [(153, 0), (155, 1)], 11, 88, .agg [.nmp, .nfn, .nfn, .nfn, .nfn, .nfn, .nfn, .nfn, .nfn, .nfn, .nfn]⟩ := by kernel_rfl
theorem Pr : bS cO.P 161 = some ⟨.func, 1, 8, .nfn⟩ := by kernel_rfl
theorem Pq : bS cO.P 164 = some ⟨.slice 3, 1, 24, .nsl⟩ := by kernel_rfl
theorem Pp : bS cO.P 167 = some ⟨.array 10 9, 10, 160, .agg [.str [], .str [], .str [], .str [], .str [], .str [], .str [], .str [], .str [], .str []]⟩ := by kernel_rfl
theorem TY : type_of% (And.intro Zj <| And.intro Zi <| And.intro Zh <| And.intro Zg <| And.intro Wi <| And.intro Wh <| And.intro Wg <| And.intro Wf <| And.intro We <| And.intro Wd <| And.intro Wc <| And.intro Wb <| And.intro Wa <| And.intro Vz <| And.intro Vy <| And.intro Vx <| And.intro Vw <| And.intro Vv <| And.intro Vu <| And.intro Vt <| And.intro Vs <| And.intro Vr <| And.intro Vq <| And.intro Vp <| And.intro Vo <| And.intro Vn <| And.intro Vm <| And.intro Vl <| And.intro Vk <| And.intro Vj <| And.intro Vi <| And.intro Vh <| And.intro Vg <| And.intro Vf <| And.intro Ve <| And.intro Vd <| And.intro Qj <| And.intro Qi <| And.intro Qh <| And.intro Qg <| And.intro Qf <| And.intro Qe <| And.intro Qd <| And.intro Qc <| And.intro Qb <| And.intro Qa <| And.intro Pz <| And.intro Py <| And.intro Px <| And.intro Pw <| And.intro Pu <| And.intro Pt <| And.intro Ps <| And.intro Pr <| And.intro Pq <| And.intro Pp <| Xs) := And.intro Zj <| And.intro Zi <| And.intro Zh <| And.intro Zg <| And.intro Wi <| And.intro Wh <| And.intro Wg <| And.intro Wf <| And.intro We <| And.intro Wd <| And.intro Wc <| And.intro Wb <| And.intro Wa <| And.intro Vz <| And.intro Vy <| And.intro Vx <| And.intro Vw <| And.intro Vv <| And.intro Vu <| And.intro Vt <| And.intro Vs <| And.intro Vr <| And.intro Vq <| And.intro Vp <| And.intro Vo <| And.intro Vn <| And.intro Vm <| And.intro Vl <| And.intro Vk <| And.intro Vj <| And.intro Vi <| And.intro Vh <| And.intro Vg <| And.intro Vf <| And.intro Ve <| And.intro Vd <| And.intro Qj <| And.intro Qi <| And.intro Qh <| And.intro Qg <| And.intro Qf <| And.intro Qe <| And.intro Qd <| And.intro Qc <| And.intro Qb <| And.intro Qa <| And.intro Pz <| And.intro Py <| And.intro Px <| And.intro Pw <| And.intro Pu <| And.intro Pt <| And.intro Ps <| And.intro Pr <| And.intro Pq <| And.intro Pp <| Xs
theorem Ln : Ue 0 = some (eD.map .str) := rfl
theorem RR : type_of% (And.intro AX <| And.intro Ln TY) := And.intro AX <| And.intro Ln TY
noncomputable def P3 : L6 cO.P where
 int := 3
 u32 := 57
 str := 9
 bool := 4
 strs := 41
 ex := 86
 exs := 84
 sm := 88
 sms := 76
 ar := 104
 ars := 42
 fu := 78
 fus := 43
 pg := 45
 uInt := by kernel_rfl
 uU32 := by kernel_rfl
 uStr := by kernel_rfl
 uBool := by kernel_rfl
 uStrs := by kernel_rfl
 uEx := by kernel_rfl
 uExs := by kernel_rfl
 uSm := by kernel_rfl
 uSms := by kernel_rfl
 uAr := by kernel_rfl
 uArs := by kernel_rfl
 uFu := by kernel_rfl
 uFus := by kernel_rfl
 uPg := by kernel_rfl
 c1 := by kernel_rfl
 cEx := by kernel_rfl
 cSm := by kernel_rfl
 cAr := by kernel_rfl
 cFu := by kernel_rfl
 cPg := by kernel_rfl
end Go.Proofs.YtnfbbjhdflhmjaaDoor
namespace Go.Proofs.YtnfbbjhdflhmjaaDoor
open Go.Al
def Xt (c : Int) : Bool := decide (48 ≤ c) && decide (c ≤ 57)
def Hk (c : Int) : Bool := decide (97 ≤ c) && decide (c ≤ 122) || decide (65 ≤ c) && decide (c ≤ 90)
def H8 (c : Int) : Bool := Hk c || Xt c || decide (c = 95)
def K7 (c : UInt8) : Bool := H8 c.toNat
def eW (s : List UInt8) : Bool := match s with
 | [] => false
 | c :: r => decide ((c :: r).length ≤ 20) && (Hk c.toNat && (decide ((c :: r).takeWhile K7 = c :: r) && !eD.contains (c :: r)))
theorem yW (p : UInt8 → Bool) : ∀ s : List UInt8, decide (s.takeWhile p = s) = s.all p
 | [] => rfl
 | c :: s => by
   cases h : p c with
   | true =>
     simp only [List.takeWhile, h, List.all_cons, Bool.true_and, List.cons.injEq, true_and]
     exact yW p s
   | false => simp [List.takeWhile, h]
end Go.Proofs.YtnfbbjhdflhmjaaDoor
namespace Go.Al
def vQ (l : List dL) : Bool := l.all (fun s => decide (s.length ≤ 60)) && decide (l.length ≤ 200)
def gM : List Ex → Int → Int → Int
 | [], left, _ => left
 | .mk _ _ _ s kids :: l, left, dE => if left < 0 then left else if dE ≤ 0 ∨ 60 < s.length then -1 else gM l (gM kids (left - 1) (dE - 1)) dE
def fI : List Sm → Int → Int → Int
 | [], left, _ => left
 | .mk _ s es t u :: l, left, dE => if left < 0 then left else if dE ≤ 0 ∨ 60 < s.length then -1 else fI l (fI u (fI t (gM es (left - 1) (dE - 1)) (dE - 1)) (dE - 1)) dE
theorem rJ (e : Ex) (l : List Ex) (left dE : Int) : gM (e :: l) left dE = if left < 0 then left else if dE ≤ 0 ∨ 60 < e.name.length then -1 else gM l (gM e.kids (left - 1) (dE - 1)) dE := by
 cases e; rw [gM]; rfl
theorem rI (e : Sm) (l : List Sm) (left dE : Int) : fI (e :: l) left dE = if left < 0 then left else if dE ≤ 0 ∨ 60 < e.name.length then -1 else fI l (fI e.els (fI e.thn (gM e.es (left - 1) (dE - 1)) (dE - 1)) (dE - 1)) dE := by
 cases e; rw [fI]; rfl
theorem pY (l : List Ex) (left dE : Int) (h : left < 0) : gM l left dE = left := by
 cases l with
 | nil => rw [gM]
 | cons e l => rw [rJ, if_pos h]
theorem pX (l : List Sm) (left dE : Int) (h : left < 0) : fI l left dE = left := by
 cases l with
 | nil => rw [fI]
 | cons e l => rw [rI, if_pos h]
theorem Rh (n : Nat) : ∀ (l : List Ex) (left dE : Int), mD l ≤ n → 0 ≤ left → -1 ≤ gM l left dE ∧ gM l left dE ≤ left := by
 induction n with
 | zero =>
   intro l left dE hn h
   cases l with
   | nil => rw [gM]; omega
   | cons e l => have := e.sz_eq; simp only [mD] at hn; omega
 | succ n ih =>
   intro l
   induction l with
   | nil => intro left dE _ h; rw [gM]; omega
   | cons e l ihl =>
     intro left dE hn h
     have hs := e.sz_eq
     simp only [mD] at hn
     rw [rJ, if_neg (by omega)]
     split
     ·omega
     by_cases h0 : left = 0
     ·rw [h0, pY e.kids _ _ (by omega), pY l _ _ (by omega)]; omega
     have h1 := ih e.kids (left - 1) (dE - 1) (by omega) (by omega)
     by_cases h2 : gM e.kids (left - 1) (dE - 1) < 0
     ·rw [pY l _ _ h2]; omega
     have := ihl (gM e.kids (left - 1) (dE - 1)) dE (by omega) (by omega); omega
theorem Nj (l : List Ex) (left dE : Int) (h : -1 ≤ left) : -1 ≤ gM l left dE ∧ gM l left dE ≤ left := by
 by_cases h0 : left < 0
 ·rw [pY _ _ _ h0]; omega
 exact Rh (mD l) l left dE (aY _) (by omega)
theorem Rf (n : Nat) : ∀ (l : List Sm) (left dE : Int), jD l ≤ n → 0 ≤ left → -1 ≤ fI l left dE ∧ fI l left dE ≤ left := by
 induction n with
 | zero =>
   intro l left dE hn h
   cases l with
   | nil => rw [fI]; omega
   | cons e l => have := e.sz_eq; simp only [jD] at hn; omega
 | succ n ih =>
   have ih' : ∀ (l : List Sm) (left dE : Int), jD l ≤ n → -1 ≤ left → -1 ≤ fI l left dE ∧ fI l left dE ≤ left := fun l left dE hl h => by
    by_cases h0 : left < 0
    ·rw [pX _ _ _ h0]; omega
    exact ih l left dE hl (by omega)
   intro l
   induction l with
   | nil => intro left dE _ h; rw [fI]; omega
   | cons e l ihl =>
     intro left dE hn h
     have hs := e.sz_eq
     simp only [jD] at hn
     rw [rI, if_neg (by omega)]
     split
     ·omega
     have h1 := Nj e.es (left - 1) (dE - 1) (by omega)
     have h2 := ih' e.thn _ (dE - 1) (by omega) h1.1
     have h3 := ih' e.els _ (dE - 1) (by omega) h2.1
     generalize fI e.els (fI e.thn (gM e.es (left - 1) (dE - 1)) (dE - 1)) (dE - 1) = z at *
     by_cases hz : z < 0
     ·rw [pX l _ _ hz]; omega
     have := ihl z dE (by omega) (by omega); omega
theorem Ni (l : List Sm) (left dE : Int) (h : -1 ≤ left) : -1 ≤ fI l left dE ∧ fI l left dE ≤ left := by
 by_cases h0 : left < 0
 ·rw [pX _ _ _ h0]; omega
 exact Rf (jD l) l left dE (aY _) (by omega)
end Go.Al
namespace Go.Proofs.YtnfbbjhdflhmjaaDoor
open Go.Al
end Go.Proofs.YtnfbbjhdflhmjaaDoor
namespace Go.Al
def Ai : List Fu → Int → Int
 | [], left => left
 | f :: l, left => Ai l (fI f.body (left - f.params.length - f.locs.length) 60)
def C5 (f : Fu) : Bool := vQ f.params && vQ f.locs && decide (f.name.length ≤ 60)
def C7 (p : Pg) (most : Int) : Bool :=
 vQ p.vars && decide (p.arrs.length ≤ 200) && decide (p.funs.length ≤ 70) && p.arrs.all (fun a => decide (a.name.length ≤ 60)) && p.funs.all C5 &&
  decide (0 ≤ Ai p.funs (most - p.vars.length - p.arrs.length - p.funs.length))
theorem rB {l : List dL} (h : vQ l = true) : l.length ≤ 200 ∧ ∀ s ∈ l, s.length ≤ 60 := by
 simp only [vQ, aX, List.all_eq_true, bF] at h
 exact ⟨h.2, h.1⟩
end Go.Al
namespace Go.Proofs.YtnfbbjhdflhmjaaDoor
open Go.Al
theorem Zy (l : List Sm) (left dE : Int) : fI l left dE ≤ (if left < 0 then left else left) ∧ (0 ≤ left → -1 ≤ fI l left dE) ∧ (left < 0 → fI l left dE = left) := by
 by_cases h : left < 0
 ·rw [pX _ _ _ h]; simp; omega
 have := Ni l left dE (by omega)
 simp; omega
end Go.Proofs.YtnfbbjhdflhmjaaDoor
namespace Go.Proofs.YtnfbbjhdflhmjaaDoor
open Go.Al
theorem Et {s : dL} (h : eD.contains s = true) : eW s = false := by
 cases s with
 | nil => rfl
 | cons c r => simp only [eW, h, Bool.not_true, Bool.and_false]
def sH (e : Ex) (level : Int) : Bool :=
 decide (level ≤ 24) && (decide (e.kind = 6) || decide (e.op = 0)) && (decide (e.kind = 1) || decide (e.num = 0)) &&
  (if e.kind = 2 ∨ e.kind = 3 ∨ e.kind = 4 then eW e.name else decide (e.name = []))
def Am (k o : Int) (n : Nat) : Bool :=
 if k = 1 ∨ k = 2 ∨ k = 5 then decide (n = 0) else if k = 3 ∨ k = 7 then decide (n = 1) else if k = 4 then decide (n ≤ 6)
 else if k = 6 then decide (4 ≤ o) && decide (o ≤ 15) && decide (n = 2) else if k = 8 ∨ k = 9 then decide (n = 2) else false
def gF : List Ex → Int → Bool
 | [], _ => true
 | .mk k o n s kids :: l, level => sH (.mk k o n s kids) level && Am k o kids.length && gF kids (level + 1) && gF l level
def rD (e : Ex) (level : Int) : Bool := sH e level && Am e.kind e.op e.kids.length && gF e.kids (level + 1)
theorem jS (e : Ex) (l : List Ex) (level : Int) : gF (e :: l) level = (rD e level && gF l level) := by
 cases e; rw [gF]; rfl
theorem nH (level : Int) : gF [] level = true := by rw [gF]
end Go.Proofs.YtnfbbjhdflhmjaaDoor
namespace Go.Proofs.YtnfbbjhdflhmjaaDoor
open Go.Al
def uE (s : Sm) (level : Int) : Bool :=
 decide (level ≤ 24) && (decide (s.kind = 4) || decide (s.els.length = 0)) && (decide (s.kind = 4) || decide (s.kind = 5) || decide (s.thn.length = 0)) &&
  (if s.kind = 1 ∨ s.kind = 2 ∨ s.kind = 6 then eW s.name else decide (s.name = []))
def Jd (k : Int) (n : Nat) : Bool :=
 if k = 1 ∨ k = 3 ∨ k = 4 ∨ k = 5 then decide (n = 1) else if k = 2 then decide (n = 2) else if k = 6 then decide (n ≤ 6) else if k = 7 then decide (n ≤ 1) else false
def fH : List Sm → Int → Bool
 | [], _ => true
 | .mk k s es t u :: l, level => uE (.mk k s es t u) level && Jd k es.length && gF es (level + 1) && fH t (level + 1) && fH u (level + 1) && fH l level
def rE (s : Sm) (level : Int) : Bool := uE s level && Jd s.kind s.es.length && gF s.es (level + 1) && fH s.thn (level + 1) && fH s.els (level + 1)
theorem jR (e : Sm) (l : List Sm) (level : Int) : fH (e :: l) level = (rE e level && fH l level) := by
 cases e; rw [fH]; rfl
theorem nF (level : Int) : fH [] level = true := by rw [fH]
def rF (a : Ar) : Bool := eW a.name && decide (1 ≤ a.size) && decide (a.size ≤ 4096)
def nG (f : Fu) : Bool := eW f.name && decide (f.params.length ≤ 6) && f.params.all eW && f.locs.all eW && fH f.body 1
def iZ (p : Pg) : Bool := p.vars.all eW && decide (1 ≤ p.funs.length) && decide (p.funs.length ≤ 64) && p.arrs.all rF && p.funs.all nG
theorem O9 {a b : Bool} (h : a = !b) (ha : a = true) : b = false := by subst ha; cases b <;> simp_all
theorem O8 {a b : Bool} (h : a = !b) (ha : a = false) : b = true := by subst ha; cases b <;> simp_all
end Go.Proofs.YtnfbbjhdflhmjaaDoor
namespace Go.Proofs.YtnfbbjhdflhmjaaDoor
open Go.Al
end Go.Proofs.YtnfbbjhdflhmjaaDoor
