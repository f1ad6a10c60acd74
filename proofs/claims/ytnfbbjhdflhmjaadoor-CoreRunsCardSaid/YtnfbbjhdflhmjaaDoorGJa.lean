/- Chapter 18, the judge's: what two words make by an operation, bit by bit. Chapter 18, the judge's: shifts; what two words make by an operation. -/
import Derived.Test.YtnfbbjhdflhmjaaDoorMb
import Derived.Test.YtnfbbjhdflhmjaaDoorAl4
import Derived.Test.YtnfbbjhdflhmjaaDoorGDf
set_option linter.unusedSimpArgs false
set_option linter.unusedVariables false
set_option maxRecDepth 10000
namespace Go.Al
def dQ : Nat → Nat → List Nat
 | 0, _ => []
 | k + 1, a => a % 2 :: dQ k (a / 2)
def zD : List Nat → Nat
 | [] => 0
 | b :: l => b + 2 * zD l
def jZ (n : Nat) : List AV := [.int .i64 (n : Int)]
theorem kJ : ∀ (k a : Nat), (dQ k a).length = k
 | 0, _ => rfl
 | k + 1, a => by simp only [dQ, bX, kJ k]
theorem jL : ∀ (k a i : Nat), i < k → (dQ k a)[i]? = some (a / 2 ^ i % 2)
 | 0, _, _, h => by omega
 | k + 1, a, 0, _ => by simp [dQ]
 | k + 1, a, i + 1, h => by
   simp only [dQ, List.getElem?_cons_succ, jL k (a / 2) i (by omega)]
   rw [Nat.div_div_eq_div_mul, Nat.pow_succ, Nat.mul_comm 2]
def jC (op : Int) (x y : Nat) : Nat := if (x + y = 2 ∧ op ≠ 11) ∨ (x + y = 1 ∧ op ≠ 9) then 1 else 0
theorem Rc : ∀ l : List Nat, (∀ x ∈ l, x ≤ 1) → zD l < 2 ^ l.length
 | [], _ => by simp [zD]
 | x :: l, h => by
   have h1 := Rc l fun y hy => h y (List.mem_cons_of_mem _ hy)
   have h2 := h x List.mem_cons_self
   simp only [zD, bX, Nat.pow_succ]; omega
theorem Gs (op : Int) : ∀ (k a b : Nat), List.zipWith (jC op) (dQ k a) (dQ k b) = dQ k (zD (List.zipWith (jC op) (dQ k a) (dQ k b)))
 | 0, _, _ => rfl
 | k + 1, a, b => by
   simp only [dQ, List.zipWith_cons_cons, zD]
   have h : jC op (a % 2) (b % 2) ≤ 1 := by unfold jC; split <;> omega
   rw [show (jC op (a % 2) (b % 2) + 2 * zD (List.zipWith (jC op) (dQ k (a / 2)) (dQ k (b / 2)))) % 2 = jC op (a % 2) (b % 2) by omega, show (jC op (a % 2) (b % 2) + 2 * zD (List.zipWith (jC op) (dQ k (a / 2)) (dQ k (b / 2)))) / 2 = zD (List.zipWith (jC op) (dQ k (a / 2)) (dQ k (b / 2))) by omega, ← Gs op k]
theorem Le : ∀ (k a b : Nat), a < 2 ^ k → b < 2 ^ k → zD (List.zipWith (jC 9) (dQ k a) (dQ k b)) = a &&& b
 | 0, a, b, ha, hb => by
   have : a = 0 := by simp at ha; exact ha
   subst this; simp [dQ, zD]
 | k + 1, a, b, ha, hb => by
   simp only [dQ, List.zipWith_cons_cons, zD]
   rw [Le k (a / 2) (b / 2) (by rw [Nat.pow_succ] at ha; omega) (by rw [Nat.pow_succ] at hb; omega)]
   have h1 : (a &&& b) / 2 = a / 2 &&& b / 2 := Nat.and_div_two
   have h2 : (a &&& b) % 2 = a % 2 &&& b % 2 := Nat.and_mod_two_pow (n := 1)
   rw [← Nat.div_add_mod (a &&& b) 2, h1, h2]
   have h3 : jC 9 (a % 2) (b % 2) = a % 2 &&& b % 2 := by
    rcases Nat.mod_two_eq_zero_or_one a with x | x <;> rcases Nat.mod_two_eq_zero_or_one b with y | y <;> rw [x, y] <;> decide
   rw [h3]; omega
theorem Rb : ∀ (k a b : Nat), a < 2 ^ k → b < 2 ^ k → zD (List.zipWith (jC 10) (dQ k a) (dQ k b)) = a ||| b
 | 0, a, b, ha, hb => by
   have : a = 0 := by simp at ha; exact ha
   have : b = 0 := by simp at hb; exact hb
   subst a; subst b; simp [dQ, zD]
 | k + 1, a, b, ha, hb => by
   simp only [dQ, List.zipWith_cons_cons, zD]
   rw [Rb k (a / 2) (b / 2) (by rw [Nat.pow_succ] at ha; omega) (by rw [Nat.pow_succ] at hb; omega)]
   have h1 : (a ||| b) / 2 = a / 2 ||| b / 2 := Nat.or_div_two
   have h2 : (a ||| b) % 2 = a % 2 ||| b % 2 := Nat.or_mod_two_pow (n := 1)
   rw [← Nat.div_add_mod (a ||| b) 2, h1, h2]
   have h3 : jC 10 (a % 2) (b % 2) = a % 2 ||| b % 2 := by
    rcases Nat.mod_two_eq_zero_or_one a with x | x <;> rcases Nat.mod_two_eq_zero_or_one b with y | y <;> rw [x, y] <;> decide
   rw [h3]; omega
theorem Ld : ∀ (k a b : Nat), a < 2 ^ k → b < 2 ^ k → zD (List.zipWith (jC 11) (dQ k a) (dQ k b)) = a ^^^ b
 | 0, a, b, ha, hb => by
   have : a = 0 := by simp at ha; exact ha
   have : b = 0 := by simp at hb; exact hb
   subst a; subst b; simp [dQ, zD]
 | k + 1, a, b, ha, hb => by
   simp only [dQ, List.zipWith_cons_cons, zD]
   rw [Ld k (a / 2) (b / 2) (by rw [Nat.pow_succ] at ha; omega) (by rw [Nat.pow_succ] at hb; omega)]
   have h1 : (a ^^^ b) / 2 = a / 2 ^^^ b / 2 := Nat.xor_div_two
   have h2 : (a ^^^ b) % 2 = a % 2 ^^^ b % 2 := Nat.xor_mod_two_pow (n := 1)
   rw [← Nat.div_add_mod (a ^^^ b) 2, h1, h2]
   have h3 : jC 11 (a % 2) (b % 2) = a % 2 ^^^ b % 2 := by
    rcases Nat.mod_two_eq_zero_or_one a with x | x <;> rcases Nat.mod_two_eq_zero_or_one b with y | y <;> rw [x, y] <;> decide
   rw [h3]; omega
def qR (op : Int) (a b : Nat) : Nat := zD (List.zipWith (jC op) (dQ 32 a) (dQ 32 b))
theorem Rd : ∀ (k a : Nat), a < 2 ^ k → zD (dQ k a) = a
 | 0, a, h => by
   have : a = 0 := by simp at h; exact h
   subst this; rfl
 | k + 1, a, h => by
   simp only [dQ, zD]
   rw [Rd k (a / 2) (by rw [Nat.pow_succ] at h; omega)]; omega
theorem Uv (op : Int) (x y : Nat) : jC op x y ≤ 1 := by unfold jC; split <;> omega
theorem So (op : Int) (a b : Nat) : qR op a b < 4294967296 := by
 have := Rc (List.zipWith (jC op) (dQ 32 a) (dQ 32 b)) fun x hx => by
  obtain ⟨i, hi⟩ := List.getElem?_of_mem hx
  rw [List.getElem?_zipWith] at hi
  split at hi
  ·cases hi; exact Uv _ _ _
  cases hi
 simpa [List.length_zipWith, kJ, qR] using this
theorem pV (n : Nat) (h : n < 4294967296) : (BitVec.ofInt 32 (n : Int)).toNat = n := by
 rw [BitVec.toNat_ofInt]; omega
theorem Gp (op : Int) (hop : op = 9 ∨ op = 10 ∨ op = 11) (a b : Nat) (ha : a < 4294967296) (hb : b < 4294967296) : dA op a b = (((qR op a b : Nat) : Int), (0 : Int)) := by
 have hw : ∀ n : Nat, n < 4294967296 → IntKind.wrap .u32 (n : Int) = (n : Int) := fun n h => by simp [IntKind.wrap, IntKind.signed, IntKind.bits]; omega
 rcases hop with rfl | rfl | rfl
 ·show (IntKind.wrap .u32 (BitVec.ofInt 32 a &&& BitVec.ofInt 32 b).toNat, (0 : Int)) = _
  rw [BitVec.toNat_and, pV a ha, pV b hb, qR, Le 32 a b ha hb, hw _ (Nat.lt_of_le_of_lt Nat.and_le_left ha)]
 ·show (IntKind.wrap .u32 (BitVec.ofInt 32 a ||| BitVec.ofInt 32 b).toNat, (0 : Int)) = _
  rw [BitVec.toNat_or, pV a ha, pV b hb, qR, Rb 32 a b ha hb, hw _ (Nat.or_lt_two_pow (n := 32) ha hb)]
 show (IntKind.wrap .u32 (BitVec.ofInt 32 a ^^^ BitVec.ofInt 32 b).toNat, (0 : Int)) = _
 rw [BitVec.toNat_xor, pV a ha, pV b hb, qR, Ld 32 a b ha hb, hw _ (Nat.xor_lt_two_pow (n := 32) ha hb)]
theorem iE (a b : Nat) : ((a : Int)).tmod (b : Int) = ((a % b : Nat) : Int) := by rw [Int.ofNat_tmod]
theorem rT (a b : Nat) : ((a : Int)).tdiv (b : Int) = ((a / b : Nat) : Int) := by rw [Int.ofNat_tdiv]
theorem Oz (n : Nat) (h : n < 4294967296) : IntKind.wrap .u32 (n : Int) = (n : Int) := by simp [IntKind.wrap, IntKind.signed, IntKind.bits]; omega
theorem Ko (n : Nat) (h : n < 18446744073709551616) : IntKind.wrap .u64 (n : Int) = (n : Int) := by simp [IntKind.wrap, IntKind.signed, IntKind.bits]; omega
theorem Ed {l : List Nat} {i x : Nat} (h : l[i]? = some x) : (l.map jZ)[i]? = some [.int .i64 (x : Int)] := by rw [cD, h]; rfl
theorem Pd (op : Int) (a b k : Nat) (hk : k < 32) : (List.zipWith (jC op) (dQ 32 a) (dQ 32 b))[k]? = some (jC op (a / 2 ^ k % 2) (b / 2 ^ k % 2)) := by
 rw [List.getElem?_zipWith, jL _ _ _ hk, jL _ _ _ hk]
end Go.Al
namespace Go.Proofs.YtnfbbjhdflhmjaaDoor
open Go.Al
theorem Sb (b : Bool) : dG cO 102 [.bool b] (.int .u32 (if b = true then 1 else 0)) := by
 cases b
 ·skip
  refine bD 4 [.tmp 2] Tryd.func102 rfl rfl rfl rfl ?_
  refine aB fun K hK => ?_
  refine aA rfl ?_
  simp only [RR, seval]
  refine hK _ _ ?_; clear hK K
  refine aJ ?_
  refine aB fun K hK => ?_
  refine aA rfl ?_
  simp only [RR, seval]
  refine hK _ _ ?_; clear hK K
  refine aI false rfl (fun hc => by cases hc) (fun _ => ?_)
  refine aL ?_; try simp only [RR]
  refine aB fun K hK => ?_
  refine aA rfl ?_
  simp only [RR, seval]
  refine hK _ _ ?_; clear hK K
  refine aP ?_; simp only [aV, aM, bE, RR, seval]
  refine aU.pure ?_
  rfl
 skip
 refine bD 4 [.tmp 2] Tryd.func102 rfl rfl rfl rfl ?_
 refine aB fun K hK => ?_
 refine aA rfl ?_
 simp only [RR, seval]
 refine hK _ _ ?_; clear hK K
 refine aJ ?_
 refine aB fun K hK => ?_
 refine aA rfl ?_
 simp only [RR, seval]
 refine hK _ _ ?_; clear hK K
 refine aI true rfl (fun _ => ?_) (fun hc => by cases hc)
 refine aB fun K hK => ?_
 refine aA rfl ?_
 simp only [RR, seval]
 refine hK _ _ ?_; clear hK K
 refine aP ?_; simp only [aV, aM, bE, RR, seval]
 refine aU.pure ?_
 rfl
theorem Hr (a : Nat) (ha : a < 4294967296) : Ov cO 110 [.int .u32 (a : Int)] 1 ((dQ 32 a).map jZ) := by
 have hlen := kJ 32 a
 refine bD 18 [.tmp 2] Tryd.func110 rfl rfl rfl rfl ?_
 refine aB fun K hK => ?_
 refine aA rfl ?_
 simp only [RR, seval]
 refine hK _ _ ?_; clear hK K
 refine aB fun K hK => ?_
 refine aA rfl ?_
 simp only [RR, seval]
 refine hK _ _ ?_; clear hK K
 refine aJ ?_
 refine aB fun K hK => ?_
 refine aA rfl ?_
 simp only [RR, seval]
 refine hK _ _ ?_; clear hK K
 refine bG fun F1 M1 hfr hH => ?_
 have g0 := hfr 0
 have g2 := hfr 2
 have g3 := hfr 3
 have g4 := hfr 4
 try simp only [RR, seval] at g0 g2 g3 g4
 have f0 := g0; clear g0
 have f2 := g2; clear g2
 have f3 := g3; clear g3
 have f4 := g4; clear g4
 clear hfr hH
 refine aQ ?_
 refine bY [2] (32) (fun k fr M => fr 4 = .int .i64 (k : Nat) ∧ fr 0 = .int .u32 ((a / 2 ^ k : Nat) : Int) ∧ dW 1 (fr 3) (((dQ 32 a).take k).map jZ) M) ⟨f4, (by rw [f0, Nat.pow_zero, Nat.div_one]), .inl ⟨f3, rfl⟩⟩ ?_
 rintro k F2 M2 hk0 ⟨fx, f0, hown⟩ agx K0 hK0
 have f2 := (agx 2 rfl).trans f2
 have f4 := fx; clear fx
 have ag0 := aW.refl [2] F2
 clear agx
 obtain ⟨v3, f3⟩ : ∃ v, F2 3 = v := ⟨_, rfl⟩
 rw [f3] at hown
 refine aJ ?_
 refine aB fun K hK => ?_
 refine aA rfl ?_
 simp only [f4, RR, seval]
 refine hK _ _ ?_; clear hK K
 refine aI _ rfl (fun hc => ?_) (fun hc => ?_)
 ·have hlt0 : k < 32 := by have := aC hc; omega
  clear hc
  have htk : (dQ 32 a).take (k + 1) = (dQ 32 a).take k ++ [a / 2 ^ k % 2] := by
   have h1 := jL 32 a k hlt0
   obtain ⟨h2, h3⟩ := bM.1 h1
   rw [bT h2, h3]
  have htl : ((dQ 32 a).take k).length ≤ 32 := by rw [cC]; omega
  have hle : a / 2 ^ k ≤ a := Nat.div_le_self _ _
  have hnx : a / 2 ^ (k + 1) = a / 2 ^ k / 2 := by rw [Nat.pow_succ, Nat.div_div_eq_div_mul]
  generalize a / 2 ^ k = x at *
  have e1 : ((x : Int)).tmod 2 = ((x % 2 : Nat) : Int) := iE x 2
  have e2 : IntKind.wrap .u32 (((x : Int)).tdiv 2) = ((x / 2 : Nat) : Int) := by rw [show ((x : Int)).tdiv 2 = ((x / 2 : Nat) : Int) from rT x 2, Oz _ (by omega)]
  have e3 : IntKind.wrap .i64 ((x % 2 : Nat) : Int) = ((x % 2 : Nat) : Int) := aR _ (by omega)
  refine aL ?_; try simp only [RR]
  refine aJ ?_
  refine aQ ?_
  refine aB fun K hK => ?_
  refine aA rfl ?_
  simp only [f0, f3, e1, e3, RR, seval]
  refine eB ?_
  simp only [RR, seval]
  refine Sv hown (by simp only [aD, bX, List.length_nil]; omega) (fun _ => trivial) fun v5 M3 hown' hk' => ?_
  simp only [RR, seval]
  refine hK _ _ ?_; clear hK K
  refine aA rfl ?_
  simp only [f0, e2, RR, seval]
  refine aA rfl ?_
  simp only [f4, RR, seval]
  try rw [aR _ (by omega)]
  refine hK0 _ _ hlt0 ⟨by first | rfl | (simp only [aG, seval]; rfl), (by rw [hnx]; rfl), (by rw [htk, List.map_append, List.map_singleton]; exact hown')⟩ (by repeat (first | exact ag0 | refine aW.upd rfl ?_))
 have hkn0 : k = 32 := by have := aF hc; omega
 clear hc
 rw [hkn0, List.take_of_length_le (Nat.le_of_eq hlen)] at hown
 refine bH ?_; simp only [RR, seval]
 refine aB fun K hK => ?_
 refine aA rfl ?_
 simp only [f3, RR, seval]
 refine hK _ _ ?_; clear hK K
 refine aP ?_; simp only [aV, aM, bE, RR, seval]
 exact Ov.gives hown
 skip
theorem Ua (n : Nat) (hn : n < 4294967296) : dG cO 111 [.isl 1 ((dQ 32 n).map jZ)] (.int .u32 (n : Int)) := by
 have hlen := kJ 32 n
 refine bD 23 [.tmp 2] Tryd.func111 rfl rfl rfl rfl ?_
 refine aB fun K hK => ?_
 refine aA rfl ?_
 simp only [RR, seval]
 refine hK _ _ ?_; clear hK K
 refine aB fun K hK => ?_
 refine aA rfl ?_
 simp only [RR, seval]
 refine hK _ _ ?_; clear hK K
 refine aJ ?_
 refine aB fun K hK => ?_
 refine aA rfl ?_
 simp only [aD, hlen, RR, seval]
 refine hK _ _ ?_; clear hK K
 refine bG fun F1 M1 hfr hH => ?_
 have g0 := hfr 0
 have g2 := hfr 2
 have g3 := hfr 3
 have g4 := hfr 4
 try simp only [RR, seval] at g0 g2 g3 g4
 have f0 := g0; clear g0
 have f2 := g2; clear g2
 have f3 := g3; clear g3
 have f4 := g4; clear g4
 clear hfr hH
 refine aQ ?_
 refine iS [0, 2] (32) (fun k fr M => k ≤ 32 ∧ fr 4 = .int .i64 ((k : Int) - 1) ∧ fr 3 = .int .u64 ((n / 2 ^ k : Nat) : Int)) ⟨aY _, f4, (by rw [f3, Nat.div_eq_of_lt (by omega)]; rfl)⟩ ?_
 rintro k F2 M2 ⟨hk32, f4, f3⟩ agx K0 hK0
 have f0 := (agx 0 rfl).trans f0
 have f2 := (agx 2 rfl).trans f2
 have ag0 := aW.refl [0, 2] F2
 clear agx
 refine aJ ?_
 refine aB fun K hK => ?_
 refine aA rfl ?_
 simp only [f4, RR, seval]
 refine hK _ _ ?_; clear hK K
 refine aI _ rfl (fun hc => ?_) (fun hc => ?_)
 ·have hw0 := hc; clear hc
  obtain ⟨m, rfl⟩ : ∃ m, k = m + 1 := ⟨k - 1, by have := aC hw0; omega⟩
  have hg := Ed (jL 32 n m (by omega))
  have hle : n / 2 ^ m ≤ n := Nat.div_le_self _ _
  have hnx : n / 2 ^ (m + 1) = n / 2 ^ m / 2 := by rw [Nat.pow_succ, Nat.div_div_eq_div_mul]
  rw [hnx] at f3
  generalize hxe : n / 2 ^ m = x at *
  have e0 : ((m + 1 : Nat) : Int) - 1 = (m : Int) := by omega
  rw [e0] at f4
  have e1 : IntKind.wrap .u64 (2 * ((x / 2 : Nat) : Int)) = ((2 * (x / 2) : Nat) : Int) := by rw [show 2 * ((x / 2 : Nat) : Int) = ((2 * (x / 2) : Nat) : Int) by omega, Ko _ (by omega)]
  have e2 : IntKind.wrap .u64 ((x % 2 : Nat) : Int) = ((x % 2 : Nat) : Int) := Ko _ (by omega)
  have e3 : IntKind.wrap .u64 (((2 * (x / 2) : Nat) : Int) + ((x % 2 : Nat) : Int)) = (x : Int) := by rw [show ((2 * (x / 2) : Nat) : Int) + ((x % 2 : Nat) : Int) = (x : Int) by omega, Ko _ (by omega)]
  have e4 : IntKind.wrap .i64 ((m : Int) - 1) = (m : Int) - 1 := aR _ (by omega)
  have z1 : (m : Int) < 32 := by omega
  refine aL ?_; try simp only [RR]
  refine aJ ?_
  refine aQ ?_
  refine aA rfl ?_
  simp only [f0, f3, f4, hg, e0, e1, e2, e3, RR, seval]
  refine aA rfl ?_
  simp only [f4, e4, RR, seval]
  refine hK0 (m) _ _ (by omega) ⟨(by omega), rfl, (by rw [hxe]; rfl)⟩ (by repeat (first | exact ag0 | refine aW.upd rfl ?_))
 have hw0 := hc; clear hc
 have hk0 : k = 0 := by have := aF hw0; omega
 subst hk0
 rw [Nat.pow_zero, Nat.div_one] at f3
 have e5 : ((n : Int)).tmod 4294967296 = (n : Int) := by rw [show ((n : Int)).tmod 4294967296 = ((n % 4294967296 : Nat) : Int) from iE n 4294967296, Nat.mod_eq_of_lt hn]
 have e6 := Oz n hn
 refine bH ?_; simp only [RR, seval]
 refine aB fun K hK => ?_
 refine aA rfl ?_
 simp only [f3, e5, e6, RR, seval]
 refine hK _ _ ?_; clear hK K
 refine aP ?_; simp only [aV, aM, bE, RR, seval]
 refine aU.pure ?_
 rfl
theorem Nn (op : Int) (a b : Nat) (ha : a < 4294967296) (hb : b < 4294967296) : dG cO 100 [.int .i64 op, .int .u32 (a : Int), .int .u32 (b : Int)] (.int .u32 ((qR op a b : Nat) : Int)) := by
 have hO := Ua _ (So op a b)
 have hbz : dQ 32 (qR op a b) = List.zipWith (jC op) (dQ 32 a) (dQ 32 b) := (Gs op 32 a b).symm
 rw [hbz] at hO
 have hB := Hr b hb
 have hA := Hr a ha
 have hla := kJ 32 a
 have hlb := kJ 32 b
 have hlz : (List.zipWith (jC op) (dQ 32 a) (dQ 32 b)).length = 32 := by rw [List.length_zipWith, hla, hlb]; rfl
 generalize hZ : List.zipWith (jC op) (dQ 32 a) (dQ 32 b) = Z at *
 generalize qR op a b = w at *
 have hZg := fun k hk => Pd op a b k hk
 rw [hZ] at hZg
 clear hZ hbz
 have hB := hB.pure
 have hga := fun k (hk : k < 32) => jL 32 a k hk
 have hgb := fun k (hk : k < 32) => Ed (jL 32 b k hk)
 generalize dQ 32 a = A at *
 generalize dQ 32 b = B at *
 refine bD 50 [.tmp 6] Tryd.func100 rfl rfl rfl rfl ?_
 refine aB fun K hK => ?_
 refine aA rfl ?_
 simp only [RR, seval]
 refine hK _ _ ?_; clear hK K
 refine aB fun K hK => ?_
 refine aA rfl ?_
 simp only [RR, seval]
 refine Su (hA) fun v12 M1 hv12 hk' ho' => ?_
 simp only [RR, seval]
 refine aO (hB) ?_
 simp only [RR, seval]
 refine hK _ _ ?_; clear hK K
 refine aJ ?_
 obtain ⟨b7, hvb, hb7⟩ : ∃ b7, v12 = .osl 1 b7 32 ∧ M1 b7 = some (.rows 1 (A.map jZ)) := by
  rcases hv12 with ⟨_, h2⟩ | ⟨b7, h1, h2⟩
  ·have := congrArg List.length h2
   rw [aD, hla] at this; cases this
  rw [aD, hla] at h1; exact ⟨b7, h1, h2⟩
 subst hvb
 refine aB fun K hK => ?_
 refine aA rfl ?_
 simp only [RR, seval]
 refine hK _ _ ?_; clear hK K
 refine bG fun F2 M2 hfr hH => ?_
 have g0 := hfr 0
 have g6 := hfr 6
 have g7 := hfr 7
 have g8 := hfr 8
 have g9 := hfr 9
 have gb7 := hH b7
 try simp only [hb7, RR, seval] at g0 g6 g7 g8 g9 gb7
 have f0 := g0; clear g0
 have f6 := g6; clear g6
 have f7 := g7; clear g7
 have f8 := g8; clear g8
 have f9 := g9; clear g9
 have hb7 := gb7; clear gb7
 clear hfr hH
 refine aQ ?_
 refine bY [0, 6, 7, 8] (32) (fun k fr M => fr 9 = .int .i64 (k : Nat) ∧ M b7 = some (.rows 1 ((Z.take k ++ A.drop k).map jZ))) ⟨f9, (by rw [List.take_zero, List.drop_zero, List.nil_append]; exact hb7)⟩ ?_
 rintro k F3 M3 hk0 ⟨fx, hb7⟩ agx K0 hK0
 have f0 := (agx 0 rfl).trans f0
 have f6 := (agx 6 rfl).trans f6
 have f7 := (agx 7 rfl).trans f7
 have f8 := (agx 8 rfl).trans f8
 have f9 := fx; clear fx
 have ag0 := aW.refl [0, 6, 7, 8] F3
 clear agx
 refine aJ ?_
 refine aB fun K hK => ?_
 refine aA rfl ?_
 simp only [f9, RR, seval]
 refine hK _ _ ?_; clear hK K
 refine aI _ rfl (fun hc => ?_) (fun hc => ?_)
 ·have hlt0 : k < 32 := by have := aC hc; omega
  clear hc
  have hgx := hga k hlt0
  have hgy := hgb k hlt0
  have hz := hZg k hlt0
  have hx1 : a / 2 ^ k % 2 < 2 := Nat.mod_lt _ (by decide)
  have hy1 : b / 2 ^ k % 2 < 2 := Nat.mod_lt _ (by decide)
  generalize a / 2 ^ k % 2 = x at hgx hz hx1
  generalize b / 2 ^ k % 2 = y at hgy hz hy1
  obtain ⟨q1, q2⟩ := bM.1 hgx
  have hdk : A.drop k = x :: A.drop (k + 1) := by rw [bK q1, q2]
  have htk : Z.take (k + 1) = Z.take k ++ [jC op x y] := by
   obtain ⟨q3, q4⟩ := bM.1 hz
   rw [bT q3, q4]
  have hmid : ∀ (u v : List AV), ((Z.take k).map jZ ++ u :: (A.drop (k + 1)).map jZ).set k v = (Z.take k).map jZ ++ v :: (A.drop (k + 1)).map jZ := fun u v => by
   have := List.set_append_right (s := (Z.take k).map jZ) (t := u :: (A.drop (k + 1)).map jZ) k v (by rw [aD, cC]; omega)
   rw [this, show k - ((Z.take k).map jZ).length = 0 by rw [aD, cC]; omega]; rfl
  have hget : ∀ (u : List AV), ((Z.take k).map jZ ++ u :: (A.drop (k + 1)).map jZ)[k]? = some u := fun u => by
   rw [List.getElem?_append_right (by rw [aD, cC]; omega), show k - ((Z.take k).map jZ).length = 0 by rw [aD, cC]; omega]; rfl
  have hR : (Z.take k ++ A.drop k).map jZ = (Z.take k).map jZ ++ [.int .i64 (x : Int)] :: (A.drop (k + 1)).map jZ := by rw [hdk, List.map_append, List.map_cons]; rfl
  have hn : (Z.take (k + 1) ++ A.drop (k + 1)).map jZ = (Z.take k).map jZ ++ [.int .i64 ((jC op x y : Nat) : Int)] :: (A.drop (k + 1)).map jZ := by rw [htk, List.map_append, List.map_append, List.append_assoc]; rfl
  rw [hR] at hb7
  have hg0 := hget [.int .i64 (x : Int)]
  have hg1 := hget [.int .i64 0]
  have hs0 := hmid [.int .i64 (x : Int)] [.int .i64 0]
  have hs1 := hmid [.int .i64 0] [.int .i64 1]
  generalize (Z.take k).map jZ = ZT at *
  generalize (A.drop (k + 1)).map jZ = AT at *
  have z1 : (k : Int) < 32 := by omega
  clear hmid hget hR
  have hbf : jC op x y = if (x + y = 2 ∧ op ≠ 11) ∨ (x + y = 1 ∧ op ≠ 9) then 1 else 0 := rfl
  obtain ⟨s, hs⟩ : ∃ s, s = x + y := ⟨_, rfl⟩
  have e1 : IntKind.wrap .i64 ((x : Int) + (y : Int)) = (s : Int) := by rw [aR _ (by omega)]; omega
  rw [← hs] at hbf
  generalize jC op x y = w at *
  have hsc : s = 0 ∨ s = 1 ∨ s = 2 := by omega
  clear hs
  by_cases o9 : op = 9 <;> by_cases o11 : op = 11 <;> rcases hsc with rfl | rfl | rfl
  all_goals
   refine aL ?_; try simp only [RR]
   refine aJ ?_
   refine aQ ?_
   refine aB fun K hK => ?_
   refine bC (fun x => x ≠ b7) [(0, 3), (1, 3), (2, 3), (3, 1), (4, 3), (5, 3), (6, 3), (7, 1), (8, 3), (9, 3)] [] dB (by kernel_rfl) rfl rfl ?_
   simp only [bW, f7, f8, f9, hb7, hgy, hg0, z1, e1, RR, seval]
   refine hK _ _ ?_; clear hK K
   refine aB fun K hK => ?_
   refine aA rfl ?_
   simp only [f7, f9, hb7, hg0, hs0, z1, RR, seval]
   refine hK _ _ ?_; clear hK K
   refine aB fun K hK => ?_
   refine aA rfl ?_
   simp only [f0, o9, o11, RR, seval]
   repeat' ((first | refine aS (fun h => ?_) (fun h => ?_) | refine aT (fun h => ?_) (fun h => ?_)) <;> simp only [h, f0, f6, f7, f8, f9, hb7, aD, hlb, hgy, hg0, hg1, hs0, hs1, z1, e1, o9, o11, RR, seval])
   all_goals
    refine hK _ _ ?_; clear hK K
    refine aI _ rfl (fun hc7 => ?_) (fun hc7 => ?_)
    ·try (cases hc7; done)
     all_goals
      refine aA rfl ?_
      simp only [f7, f9, hg1, hs1, z1, RR, seval]
      refine aA rfl ?_
      simp only [f9, RR, seval]
      try rw [aR _ (by omega)]
      refine hK0 _ _ hlt0 ⟨by first | rfl | (simp only [aG, seval]; rfl), ?_⟩ (by repeat (first | exact ag0 | refine aW.upd rfl ?_))
      rw [hn, hbf]
      first | subst o9 | subst o11 | skip
      simp_all [upd]
    try (cases hc7; done)
    all_goals
     refine aL ?_; try simp only [RR]
     refine aA rfl ?_
     simp only [f9, RR, seval]
     try rw [aR _ (by omega)]
     refine hK0 _ _ hlt0 ⟨by first | rfl | (simp only [aG, seval]; rfl), ?_⟩ (by repeat (first | exact ag0 | refine aW.upd rfl ?_))
     rw [hn, hbf]
     first | subst o9 | subst o11 | skip
     simp_all [upd]
 have hkn0 : k = 32 := by have := aF hc; omega
 clear hc
 rw [hkn0, List.take_of_length_le (Nat.le_of_eq hlz), List.drop_of_length_le (Nat.le_of_eq hla), List.append_nil] at hb7
 have hlz2 : (Z.map jZ).length = 32 := by rw [aD, hlz]
 refine bH ?_; simp only [RR, seval]
 refine bG fun F4 M4 hfr hH => ?_
 have g6 := hfr 6
 have g7 := hfr 7
 have gb7 := hH b7
 try simp only [f6, f7, hb7, RR, seval] at g6 g7 gb7
 have f6 := g6; clear g6
 have f7 := g7; clear g7
 have hb7 := gb7; clear gb7
 clear hfr hH
 refine lV hb7 ?_
 refine bG fun F5 M5 hfr hH => ?_
 have g6 := hfr 6
 have g7 := hfr 7
 try simp only [Cc, Ui, and_self, hlz2, f6, f7, seval] at g6 g7
 have f6 := g6; clear g6
 have f7 := g7; clear g7
 clear hfr hH
 refine aB fun K hK => ?_
 refine aA rfl ?_
 simp only [f7, RR, seval]
 refine aO (hO) ?_
 simp only [RR, seval]
 refine hK _ _ ?_; clear hK K
 refine aP ?_; simp only [aV, aM, bE, RR, seval]
 refine aU.pure ?_
 rfl
end Go.Proofs.YtnfbbjhdflhmjaaDoor
namespace Go.Proofs.YtnfbbjhdflhmjaaDoor
open Go.Al
theorem Tj (n : Int) : IntKind.wrap .u32 n = n % 4294967296 := by simp [IntKind.wrap, IntKind.signed, IntKind.bits]
theorem Qm (x y : Nat) (hy : y < 4294967296) : ((x : Int) - y) % 4294967296 = (((x + 4294967296 - y) % 4294967296 : Nat) : Int) := by omega
theorem Rr (a b : Nat) (ha : a < 4294967296) (hb : b < 4294967296) : dG cO 101 [.int .i64 12, .int .u32 (a : Int), .int .u32 (b : Int)] (.int .u32 (if 31 < (b : Int) then 0 else IntKind.wrap .u32 ((a : Int) * 2 ^ (min ((b : Int)).toNat 32)))) := by
 by_cases h : 31 < (b : Int)
 ·rw [if_pos h]
  have z : (32 : Int) ≤ (b : Int) := by omega
  refine bD 27 [.tmp 6] Tryd.func101 rfl rfl rfl rfl ?_
  refine aB fun K hK => ?_
  refine aA rfl ?_
  simp only [RR, seval]
  refine hK _ _ ?_; clear hK K
  refine aJ ?_
  refine aB fun K hK => ?_
  refine aA rfl ?_
  simp only [z, RR, seval]
  refine hK _ _ ?_; clear hK K
  refine aI true rfl (fun _ => ?_) (fun hc => by cases hc)
  refine aB fun K hK => ?_
  refine aA rfl ?_
  simp only [RR, seval]
  refine hK _ _ ?_; clear hK K
  refine aP ?_; simp only [aV, aM, bE, RR, seval]
  refine aU.pure ?_
  rfl
 rw [if_neg h]
 have z : ¬ (32 : Int) ≤ (b : Int) := by omega
 have zr : IntKind.wrap .u32 ((a : Int) * 2 ^ (min ((b : Int)).toNat 32)) = ((a * 2 ^ b % 4294967296 : Nat) : Int) := by
  rw [Int.toNat_natCast, Nat.min_eq_left (by omega)]
  rw [Tj, Int.natCast_emod, Int.natCast_mul, Int.natCast_pow]; rfl
 rw [zr]
 have e0 := Ko a (by omega)
 refine bD 27 [.tmp 6] Tryd.func101 rfl rfl rfl rfl ?_
 refine aB fun K hK => ?_
 refine aA rfl ?_
 simp only [RR, seval]
 refine hK _ _ ?_; clear hK K
 refine aJ ?_
 refine aB fun K hK => ?_
 refine aA rfl ?_
 simp only [z, RR, seval]
 refine hK _ _ ?_; clear hK K
 refine aI false rfl (fun hc => by cases hc) (fun _ => ?_)
 refine aL ?_; try simp only [RR]
 refine aB fun K hK => ?_
 refine aA rfl ?_
 simp only [e0, RR, seval]
 refine hK _ _ ?_; clear hK K
 refine aJ ?_
 refine aB fun K hK => ?_
 refine aA rfl ?_
 simp only [RR, seval]
 refine hK _ _ ?_; clear hK K
 refine bG fun F1 M1 hfr hH => ?_
 have g0 := hfr 0
 have g2 := hfr 2
 have g6 := hfr 6
 have g7 := hfr 7
 have g8 := hfr 8
 try simp only [RR, seval] at g0 g2 g6 g7 g8
 have f0 := g0; clear g0
 have f2 := g2; clear g2
 have f6 := g6; clear g6
 have f7 := g7; clear g7
 have f8 := g8; clear g8
 clear hfr hH
 refine aQ ?_
 refine iS [0, 2, 6] (b) (fun m fr M => m ≤ b ∧ fr 8 = .int .u32 ((b - m : Nat) : Int) ∧ fr 7 = .int .u64 ((a * 2 ^ (b - m) % 4294967296 : Nat) : Int)) ⟨aY _, (by rw [f8, Nat.sub_self]; rfl), (by rw [f7, Nat.sub_self, Nat.pow_zero, Nat.mul_one, Nat.mod_eq_of_lt ha])⟩ ?_
 rintro m F2 M2 ⟨hm, f8, f7⟩ agx K0 hK0
 have f0 := (agx 0 rfl).trans f0
 have f2 := (agx 2 rfl).trans f2
 have f6 := (agx 6 rfl).trans f6
 have ag0 := aW.refl [0, 2, 6] F2
 clear agx
 refine aJ ?_
 refine aB fun K hK => ?_
 refine aA rfl ?_
 simp only [f2, f8, RR, seval]
 refine hK _ _ ?_; clear hK K
 refine aI _ rfl (fun hc => ?_) (fun hc => ?_)
 ·have hw0 := hc; clear hc
  obtain ⟨j, rfl⟩ : ∃ j, m = j + 1 := ⟨m - 1, by have := aC hw0; omega⟩
  have hnx : a * 2 ^ (b - j) % 4294967296 = 2 * (a * 2 ^ (b - (j + 1)) % 4294967296) % 4294967296 := by
   rw [show b - j = b - (j + 1) + 1 by omega, Nat.pow_succ, ← Nat.mul_assoc]; omega
  have hx : a * 2 ^ (b - (j + 1)) % 4294967296 < 4294967296 := Nat.mod_lt _ (by decide)
  generalize a * 2 ^ (b - (j + 1)) % 4294967296 = x at *
  have e1 : IntKind.wrap .u64 (2 * (x : Int)) = ((2 * x : Nat) : Int) := by rw [show 2 * (x : Int) = ((2 * x : Nat) : Int) by omega, Ko _ (by omega)]
  have e2 : ((2 * x : Nat) : Int).tmod 4294967296 = ((2 * x % 4294967296 : Nat) : Int) := iE _ _
  have e3 : IntKind.wrap .u32 (((b - (j + 1) : Nat) : Int) + 1) = ((b - j : Nat) : Int) := by rw [show ((b - (j + 1) : Nat) : Int) + 1 = ((b - j : Nat) : Int) by omega, Oz _ (by omega)]
  refine aL ?_; try simp only [RR]
  refine aJ ?_
  refine aQ ?_
  refine aB fun K hK => ?_
  refine aA rfl ?_
  simp only [f0, RR, seval]
  refine hK _ _ ?_; clear hK K
  refine aI true rfl (fun _ => ?_) (fun hc => by cases hc)
  refine aA rfl ?_
  simp only [f7, e1, e2, RR, seval]
  refine aA rfl ?_
  simp only [f8, e3, RR, seval]
  refine hK0 (j) _ _ (by omega) ⟨(by omega), rfl, (by rw [hnx]; rfl)⟩ (by repeat (first | exact ag0 | refine aW.upd rfl ?_))
 have hw0 := hc; clear hc
 have hk0 : m = 0 := by have := aF hw0; omega
 subst hk0
 rw [Nat.sub_zero] at f7
 have e6 := Oz _ (show a * 2 ^ b % 4294967296 < 4294967296 from Nat.mod_lt _ (by decide))
 refine bH ?_; simp only [RR, seval]
 refine aB fun K hK => ?_
 refine aA rfl ?_
 simp only [f7, e6, RR, seval]
 refine hK _ _ ?_; clear hK K
 refine aP ?_; simp only [aV, aM, bE, RR, seval]
 refine aU.pure ?_
 rfl
theorem Rq (a b : Nat) (ha : a < 4294967296) (hb : b < 4294967296) : dG cO 101 [.int .i64 13, .int .u32 (a : Int), .int .u32 (b : Int)] (.int .u32 (if 31 < (b : Int) then 0 else ((a : Int)).fdiv (2 ^ (min ((b : Int)).toNat 32)))) := by
 by_cases h : 31 < (b : Int)
 ·rw [if_pos h]
  have z : (32 : Int) ≤ (b : Int) := by omega
  refine bD 27 [.tmp 6] Tryd.func101 rfl rfl rfl rfl ?_
  refine aB fun K hK => ?_
  refine aA rfl ?_
  simp only [RR, seval]
  refine hK _ _ ?_; clear hK K
  refine aJ ?_
  refine aB fun K hK => ?_
  refine aA rfl ?_
  simp only [z, RR, seval]
  refine hK _ _ ?_; clear hK K
  refine aI true rfl (fun _ => ?_) (fun hc => by cases hc)
  refine aB fun K hK => ?_
  refine aA rfl ?_
  simp only [RR, seval]
  refine hK _ _ ?_; clear hK K
  refine aP ?_; simp only [aV, aM, bE, RR, seval]
  refine aU.pure ?_
  rfl
 rw [if_neg h]
 have z : ¬ (32 : Int) ≤ (b : Int) := by omega
 have zr : ((a : Int)).fdiv (2 ^ (min ((b : Int)).toNat 32)) = ((a / 2 ^ b : Nat) : Int) := by
  rw [Int.toNat_natCast, Nat.min_eq_left (by omega), Int.fdiv_eq_ediv_of_nonneg _ (Int.pow_nonneg (by decide))]; rw [Int.natCast_ediv, Int.natCast_pow]; rfl
 rw [zr]
 have e0 := Ko a (by omega)
 refine bD 27 [.tmp 6] Tryd.func101 rfl rfl rfl rfl ?_
 refine aB fun K hK => ?_
 refine aA rfl ?_
 simp only [RR, seval]
 refine hK _ _ ?_; clear hK K
 refine aJ ?_
 refine aB fun K hK => ?_
 refine aA rfl ?_
 simp only [z, RR, seval]
 refine hK _ _ ?_; clear hK K
 refine aI false rfl (fun hc => by cases hc) (fun _ => ?_)
 refine aL ?_; try simp only [RR]
 refine aB fun K hK => ?_
 refine aA rfl ?_
 simp only [e0, RR, seval]
 refine hK _ _ ?_; clear hK K
 refine aJ ?_
 refine aB fun K hK => ?_
 refine aA rfl ?_
 simp only [RR, seval]
 refine hK _ _ ?_; clear hK K
 refine bG fun F1 M1 hfr hH => ?_
 have g0 := hfr 0
 have g2 := hfr 2
 have g6 := hfr 6
 have g7 := hfr 7
 have g8 := hfr 8
 try simp only [RR, seval] at g0 g2 g6 g7 g8
 have f0 := g0; clear g0
 have f2 := g2; clear g2
 have f6 := g6; clear g6
 have f7 := g7; clear g7
 have f8 := g8; clear g8
 clear hfr hH
 refine aQ ?_
 refine iS [0, 2, 6] (b) (fun m fr M => m ≤ b ∧ fr 8 = .int .u32 ((b - m : Nat) : Int) ∧ fr 7 = .int .u64 ((a / 2 ^ (b - m) : Nat) : Int)) ⟨aY _, (by rw [f8, Nat.sub_self]; rfl), (by rw [f7, Nat.sub_self, Nat.pow_zero, Nat.div_one])⟩ ?_
 rintro m F2 M2 ⟨hm, f8, f7⟩ agx K0 hK0
 have f0 := (agx 0 rfl).trans f0
 have f2 := (agx 2 rfl).trans f2
 have f6 := (agx 6 rfl).trans f6
 have ag0 := aW.refl [0, 2, 6] F2
 clear agx
 refine aJ ?_
 refine aB fun K hK => ?_
 refine aA rfl ?_
 simp only [f2, f8, RR, seval]
 refine hK _ _ ?_; clear hK K
 refine aI _ rfl (fun hc => ?_) (fun hc => ?_)
 ·have hw0 := hc; clear hc
  obtain ⟨j, rfl⟩ : ∃ j, m = j + 1 := ⟨m - 1, by have := aC hw0; omega⟩
  have hnx : a / 2 ^ (b - j) = a / 2 ^ (b - (j + 1)) / 2 := by
   rw [show b - j = b - (j + 1) + 1 by omega, Nat.pow_succ, Nat.div_div_eq_div_mul]
  have hx : a / 2 ^ (b - (j + 1)) ≤ a := Nat.div_le_self _ _
  generalize a / 2 ^ (b - (j + 1)) = x at *
  have e1 : IntKind.wrap .u64 (((x : Int)).tdiv 2) = ((x / 2 : Nat) : Int) := by rw [show ((x : Int)).tdiv 2 = ((x / 2 : Nat) : Int) from rT x 2, Ko _ (by omega)]
  have e3 : IntKind.wrap .u32 (((b - (j + 1) : Nat) : Int) + 1) = ((b - j : Nat) : Int) := by rw [show ((b - (j + 1) : Nat) : Int) + 1 = ((b - j : Nat) : Int) by omega, Oz _ (by omega)]
  refine aL ?_; try simp only [RR]
  refine aJ ?_
  refine aQ ?_
  refine aB fun K hK => ?_
  refine aA rfl ?_
  simp only [f0, RR, seval]
  refine hK _ _ ?_; clear hK K
  refine aI false rfl (fun hc => by cases hc) (fun _ => ?_)
  refine aA rfl ?_
  simp only [f7, e1, RR, seval]
  refine aA rfl ?_
  simp only [f8, e3, RR, seval]
  refine hK0 (j) _ _ (by omega) ⟨(by omega), rfl, (by rw [hnx]; rfl)⟩ (by repeat (first | exact ag0 | refine aW.upd rfl ?_))
 have hw0 := hc; clear hc
 have hk0 : m = 0 := by have := aF hw0; omega
 subst hk0
 rw [Nat.sub_zero] at f7
 have e6 := Oz (a / 2 ^ b) (Nat.lt_of_le_of_lt (Nat.div_le_self _ _) ha)
 refine bH ?_; simp only [RR, seval]
 refine aB fun K hK => ?_
 refine aA rfl ?_
 simp only [f7, e6, RR, seval]
 refine hK _ _ ?_; clear hK K
 refine aP ?_; simp only [aV, aM, bE, RR, seval]
 refine aU.pure ?_
 rfl
set_option maxHeartbeats 4000000 in
theorem Ki (op : Int) {a b : Int} (ha : cJ a) (hb : cJ b) : dG cO 82 [.int .i64 op, .int .u32 a, .int .u32 b] (.tup [.int .u32 (dA op a b).1, .int .i64 (dA op a b).2]) := by
 obtain ⟨x, rfl⟩ := Int.eq_ofNat_of_zero_le ha.1
 obtain ⟨y, rfl⟩ := Int.eq_ofNat_of_zero_le hb.1
 have hx : x < 4294967296 := by have := ha.2; omega
 have hy : y < 4294967296 := by have := hb.2; omega
 have c1 := Ko x (by omega)
 have c2 := Ko y (by omega)
 by_cases h : op = 4 ∨ op = 5 ∨ op = 6 ∨ op = 7 ∨ op = 8 ∨ op = 9 ∨ op = 10 ∨ op = 11 ∨ op = 12 ∨ op = 13 ∨ op = 14 ∨ op = 15
 ·have hbo := Nn op x y hx hy
  have hsl := Rr x y hx hy
  have hsr := Rq x y hx hy
  have hfl := fun c => Sb c
  have s4 : IntKind.wrap .u64 ((x : Int) + (y : Int)) = ((x + y : Nat) : Int) := by rw [show (x : Int) + (y : Int) = ((x + y : Nat) : Int) by omega, Ko _ (by omega)]
  have r4 : ((x + y : Nat) : Int).tmod 4294967296 = (((x + y) % 4294967296 : Nat) : Int) := iE _ _
  have t4 := Oz ((x + y) % 4294967296) (Nat.mod_lt _ (by decide))
  have u5 : IntKind.wrap .u64 ((x : Int) + 4294967296) = ((x + 4294967296 : Nat) : Int) := by rw [show (x : Int) + 4294967296 = ((x + 4294967296 : Nat) : Int) by omega, Ko _ (by omega)]
  have s5 : IntKind.wrap .u64 (((x + 4294967296 : Nat) : Int) - (y : Int)) = ((x + 4294967296 - y : Nat) : Int) := by rw [show ((x + 4294967296 : Nat) : Int) - (y : Int) = ((x + 4294967296 - y : Nat) : Int) by omega, Ko _ (by omega)]
  have r5 : ((x + 4294967296 - y : Nat) : Int).tmod 4294967296 = (((x + 4294967296 - y) % 4294967296 : Nat) : Int) := iE _ _
  have t5 := Oz ((x + 4294967296 - y) % 4294967296) (Nat.mod_lt _ (by decide))
  have hxy : x * y < 18446744073709551616 := by
   have h1 : x * y ≤ 4294967295 * 4294967295 := Nat.mul_le_mul (by omega) (by omega)
   omega
  have s6 : IntKind.wrap .u64 ((x : Int) * (y : Int)) = ((x * y : Nat) : Int) := by rw [show (x : Int) * (y : Int) = ((x * y : Nat) : Int) by rw [Int.natCast_mul], Ko _ hxy]
  have r6 : ((x * y : Nat) : Int).tmod 4294967296 = (((x * y) % 4294967296 : Nat) : Int) := iE _ _
  have t6 := Oz ((x * y) % 4294967296) (Nat.mod_lt _ (by decide))
  have hdv : x / y ≤ x := Nat.div_le_self _ _
  have s7 : IntKind.wrap .u64 (((x : Int)).tdiv (y : Int)) = ((x / y : Nat) : Int) := by rw [rT, Ko _ (by omega)]
  have t7 := Oz (x / y) (by omega)
  have hmd : x % y ≤ x := Nat.mod_le _ _
  have s8 : ((x : Int)).tmod (y : Int) = ((x % y : Nat) : Int) := iE x y
  have t8 := Oz (x % y) (by omega)
  have z0 : y = 0 ∨ ∃ q, (y : Int) ≠ 0 ∧ q = y := by by_cases h : y = 0; exact .inl h; exact .inr ⟨y, by omega, rfl⟩
  have a4 : dA 4 x y = ((((x + y) % 4294967296 : Nat) : Int), 0) := by
   show (IntKind.wrap .u32 ((x : Int) + y), (0 : Int)) = _; rw [Tj, show ((x : Int) + y) % 4294967296 = (((x + y) % 4294967296 : Nat) : Int) from (Int.natCast_emod (x + y) 4294967296).symm]
  have a5 : dA 5 x y = ((((x + 4294967296 - y) % 4294967296 : Nat) : Int), 0) := by
   show (IntKind.wrap .u32 ((x : Int) - y), (0 : Int)) = _; rw [Tj, Qm x y hy]
  have a6 : dA 6 x y = ((((x * y) % 4294967296 : Nat) : Int), 0) := by
   show (IntKind.wrap .u32 ((x : Int) * y), (0 : Int)) = _; rw [Tj, show ((x : Int) * y) % 4294967296 = (((x * y) % 4294967296 : Nat) : Int) from by rw [← Int.natCast_mul]; omega]
  have a7 : (y : Int) ≠ 0 → dA 7 x y = (((x / y : Nat) : Int), 0) := fun h => by
   show (if (y : Int) = 0 then ((0 : Int), (14 : Int)) else (IntKind.wrap .u32 (((x : Int)).tdiv (y : Int)), 0)) = _
   rw [if_neg h, rT, t7]
  have a8 : (y : Int) ≠ 0 → dA 8 x y = (((x % y : Nat) : Int), 0) := fun h => by
   show (if (y : Int) = 0 then ((0 : Int), (14 : Int)) else (((x : Int)).tmod (y : Int), 0)) = _
   rw [if_neg h, iE]
  have a9 : op = 9 ∨ op = 10 ∨ op = 11 → dA op x y = (((qR op x y : Nat) : Int), (0 : Int)) := fun h => Gp op h x y hx hy
  have a12 : dA 12 x y = (if 31 < (y : Int) then 0 else IntKind.wrap .u32 ((x : Int) * 2 ^ (min ((y : Int)).toNat 32)), 0) := by
   show (if 31 < (y : Int) then ((0 : Int), (0 : Int)) else (IntKind.wrap .u32 ((x : Int) * 2 ^ (min ((y : Int)).toNat 32)), 0)) = _
   by_cases h : 31 < (y : Int) <;> simp only [h, if_true, if_false]
  have a13 : dA 13 x y = (if 31 < (y : Int) then 0 else ((x : Int)).fdiv (2 ^ (min ((y : Int)).toNat 32)), 0) := by
   show (if 31 < (y : Int) then ((0 : Int), (0 : Int)) else (((x : Int)).fdiv (2 ^ (min ((y : Int)).toNat 32)), 0)) = _
   by_cases h : 31 < (y : Int) <;> simp only [h, if_true, if_false]
  have a14 : dA 14 x y = (if decide ((x : Int) < (y : Int)) = true then 1 else 0, 0) := by simp [dA]
  have a15 : dA 15 x y = (if decide ((x : Int) = (y : Int)) = true then 1 else 0, 0) := by simp [dA]
  rcases h with rfl | rfl | rfl | rfl | rfl | rfl | rfl | rfl | rfl | rfl | rfl | rfl
  all_goals first | rw [a4] | rw [a5] | rw [a6] | (rw [a9 (.inl rfl)]; have hcl := hbo) | (rw [a9 (.inr (.inl rfl))]; have hcl := hbo) | (rw [a9 (.inr (.inr rfl))]; have hcl := hbo) | (rw [a12]; have hcl := hsl) | (rw [a13]; have hcl := hsr) | (rw [a14]; have hcl := hfl (decide ((x : Int) < (y : Int)))) | (rw [a15]; have hcl := hfl (decide ((x : Int) = (y : Int)))) | skip
  case inr.inr.inr.inl =>
   rcases z0 with rfl | ⟨_, h0, _⟩
   ·rw [show dA 7 x ((0 : Nat) : Int) = (0, 14) from rfl]
    refine bD 80 [.tmp 6, .tmp 7] Tryd.func82 rfl rfl rfl rfl ?_
    repeat' (first | (refine aB fun K hK => ?_; refine aA rfl ?_; simp only [c1, RR, seval]; refine hK _ _ ?_; clear hK K) | (refine aJ ?_) | (refine aQ ?_) | (refine aI true rfl (fun _ => ?_) (fun hc => by cases hc)) | (refine aI false rfl (fun hc => by cases hc) (fun _ => ?_)) | (refine aL ?_; simp only [bJ, bL]) | (refine bH ?_; simp only [bJ, bL, reduceIte, Nat.reduceEqDiff]) | (refine aA rfl ?_; simp only [c1, c2, Int.natCast_zero, bJ, bL, RR, seval]) | (refine aS (fun h => ?_) (fun h => ?_) <;> simp only [h, c1, c2, Int.natCast_zero, bJ, bL, RR, seval]) | (refine aT (fun h => ?_) (fun h => ?_) <;> simp only [h, c1, c2, Int.natCast_zero, bJ, bL, RR, seval]) | (refine aI _ rfl (fun h => ?_) (fun h => ?_)) | (refine aP ?_; simp only [bJ, bL, aV, aM, bE, RR, seval]; refine aU.pure ?_))
    all_goals rfl
   rw [a7 h0]
   have h0' : ¬ (y : Int) = 0 := h0
   refine bD 80 [.tmp 6, .tmp 7] Tryd.func82 rfl rfl rfl rfl ?_
   repeat' (first | (refine aB fun K hK => ?_; refine aA rfl ?_; simp only [c1, c2, s7, t7, h0', RR, seval]; refine hK _ _ ?_; clear hK K) | (refine aJ ?_) | (refine aQ ?_) | (refine aI true rfl (fun _ => ?_) (fun hc => by cases hc)) | (refine aI false rfl (fun hc => by cases hc) (fun _ => ?_)) | (refine aL ?_; simp only [bJ]) | (refine bH ?_; simp only [bJ, bL, reduceIte, Nat.reduceEqDiff]) | (refine aA rfl ?_; simp only [c1, c2, s7, t7, h0', bJ, bL, RR, seval]) | (refine aS (fun h => ?_) (fun h => ?_) <;> simp only [h, c1, c2, s7, t7, h0', bJ, bL, RR, seval]) | (refine aT (fun h => ?_) (fun h => ?_) <;> simp only [h, c1, c2, s7, t7, h0', bJ, bL, RR, seval]) | (refine aI _ rfl (fun h => ?_) (fun h => ?_)) | (refine aP ?_; simp only [bJ, bL, aV, aM, bE, RR, seval]; refine aU.pure ?_))
   all_goals rfl
  case inr.inr.inr.inr.inl =>
   rcases z0 with rfl | ⟨_, h0, _⟩
   ·rw [show dA 8 x ((0 : Nat) : Int) = (0, 14) from rfl]
    refine bD 80 [.tmp 6, .tmp 7] Tryd.func82 rfl rfl rfl rfl ?_
    repeat' (first | (refine aB fun K hK => ?_; refine aA rfl ?_; simp only [c1, RR, seval]; refine hK _ _ ?_; clear hK K) | (refine aJ ?_) | (refine aQ ?_) | (refine aI true rfl (fun _ => ?_) (fun hc => by cases hc)) | (refine aI false rfl (fun hc => by cases hc) (fun _ => ?_)) | (refine aL ?_; simp only [bJ, bL]) | (refine bH ?_; simp only [bJ, bL, reduceIte, Nat.reduceEqDiff]) | (refine aA rfl ?_; simp only [c1, c2, Int.natCast_zero, bJ, bL, RR, seval]) | (refine aS (fun h => ?_) (fun h => ?_) <;> simp only [h, c1, c2, Int.natCast_zero, bJ, bL, RR, seval]) | (refine aT (fun h => ?_) (fun h => ?_) <;> simp only [h, c1, c2, Int.natCast_zero, bJ, bL, RR, seval]) | (refine aI _ rfl (fun h => ?_) (fun h => ?_)) | (refine aP ?_; simp only [bJ, bL, aV, aM, bE, RR, seval]; refine aU.pure ?_))
    all_goals rfl
   rw [a8 h0]
   have h0' : ¬ (y : Int) = 0 := h0
   refine bD 80 [.tmp 6, .tmp 7] Tryd.func82 rfl rfl rfl rfl ?_
   repeat' (first | (refine aB fun K hK => ?_; refine aA rfl ?_; simp only [c1, c2, s8, t8, h0', RR, seval]; refine hK _ _ ?_; clear hK K) | (refine aJ ?_) | (refine aQ ?_) | (refine aI true rfl (fun _ => ?_) (fun hc => by cases hc)) | (refine aI false rfl (fun hc => by cases hc) (fun _ => ?_)) | (refine aL ?_; simp only [bJ]) | (refine bH ?_; simp only [bJ, bL, reduceIte, Nat.reduceEqDiff]) | (refine aA rfl ?_; simp only [c1, c2, s8, t8, h0', bJ, bL, RR, seval]) | (refine aS (fun h => ?_) (fun h => ?_) <;> simp only [h, c1, c2, s8, t8, h0', bJ, bL, RR, seval]) | (refine aT (fun h => ?_) (fun h => ?_) <;> simp only [h, c1, c2, s8, t8, h0', bJ, bL, RR, seval]) | (refine aI _ rfl (fun h => ?_) (fun h => ?_)) | (refine aP ?_; simp only [bJ, bL, aV, aM, bE, RR, seval]; refine aU.pure ?_))
   all_goals rfl
  all_goals
   refine bD 80 [.tmp 6, .tmp 7] Tryd.func82 rfl rfl rfl rfl ?_
   repeat' (first | (refine aB fun K hK => ?_; refine aA rfl ?_; simp only [c1, c2, s4, r4, t4, u5, s5, r5, t5, s6, r6, t6, RR, seval]; refine hK _ _ ?_; clear hK K) | (refine aJ ?_) | (refine aQ ?_) | (refine aI true rfl (fun _ => ?_) (fun hc => by cases hc)) | (refine aI false rfl (fun hc => by cases hc) (fun _ => ?_)) | (refine aL ?_; simp only [bJ]) | (refine bH ?_; simp only [bJ, bL, reduceIte, Nat.reduceEqDiff]) | (refine aA rfl ?_; simp only [bJ, RR, seval]) | (refine aS (fun h => ?_) (fun h => ?_) <;> simp only [h, c1, c2, s4, r4, t4, u5, s5, r5, t5, s6, r6, t6, bJ, bL, RR, seval]) | (refine aT (fun h => ?_) (fun h => ?_) <;> simp only [h, c1, c2, s4, r4, t4, u5, s5, r5, t5, s6, r6, t6, bJ, bL, RR, seval]) | (refine aI _ rfl (fun h => ?_) (fun h => ?_)) | (refine aP ?_; simp only [bJ, bL, aV, aM, bE, RR, seval]; refine aU.pure ?_) | (refine aO (hcl) ?_; simp only [bJ, RR, seval]))
   all_goals rfl
 have n4 : ¬ op = 4 := fun e => h (by simp [e])
 have n5 : ¬ op = 5 := fun e => h (by simp [e])
 have n6 : ¬ op = 6 := fun e => h (by simp [e])
 have n7 : ¬ op = 7 := fun e => h (by simp [e])
 have n8 : ¬ op = 8 := fun e => h (by simp [e])
 have n9 : ¬ op = 9 := fun e => h (by simp [e])
 have n10 : ¬ op = 10 := fun e => h (by simp [e])
 have n11 : ¬ op = 11 := fun e => h (by simp [e])
 have n12 : ¬ op = 12 := fun e => h (by simp [e])
 have n13 : ¬ op = 13 := fun e => h (by simp [e])
 have n14 : ¬ op = 14 := fun e => h (by simp [e])
 have n15 : ¬ op = 15 := fun e => h (by simp [e])
 have e : dA op x y = (0, 1) := by simp [dA, n4, n5, n6, n7, n8, n9, n10, n11, n12, n13, n14, n15]
 rw [e]
 refine bD 80 [.tmp 6, .tmp 7] Tryd.func82 rfl rfl rfl rfl ?_
 repeat' (first | (refine aB fun K hK => ?_; refine aA rfl ?_; simp only [c1, c2, n4, n5, n6, n7, n8, n9, n10, n12, n14, n15, RR, seval]; refine hK _ _ ?_; clear hK K) | (refine aJ ?_) | (refine aQ ?_) | (refine aI true rfl (fun _ => ?_) (fun hc => by cases hc)) | (refine aI false rfl (fun hc => by cases hc) (fun _ => ?_)) | (refine aL ?_; simp only [bJ, bL]) | (refine bH ?_; simp only [bJ, bL, reduceIte, Nat.reduceEqDiff]) | (refine aA rfl ?_; simp only [n11, n13, bJ, RR, seval]) | (refine aS (fun h => ?_) (fun h => ?_) <;> simp only [h, c1, c2, n4, n5, n6, n7, n8, n9, n10, n11, n12, n13, n14, n15, bJ, bL, RR, seval]) | (refine aT (fun h => ?_) (fun h => ?_) <;> simp only [h, c1, c2, n4, n5, n6, n7, n8, n9, n10, n11, n12, n13, n14, n15, bJ, bL, RR, seval]) | (refine aI _ rfl (fun h => ?_) (fun h => ?_)) | (refine aP ?_; simp only [aV, aM, bE, RR, seval]; refine aU.pure ?_))
 all_goals rfl
end Go.Proofs.YtnfbbjhdflhmjaaDoor
