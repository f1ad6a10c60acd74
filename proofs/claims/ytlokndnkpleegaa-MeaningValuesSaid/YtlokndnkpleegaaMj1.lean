/- Chapter 18, the judge's: what two words make by an operation, bit by bit. Chapter 18, the judge's: shifts; what two words make by an operation. Chapter 18: how the judge's run in the midst lies in memory. Chapter 18, the judge's: a tick; what is asked of its functions at a depth. Chapter 18, the judge's: an expression's value. -/
import Derived.Test.YtlokndnkpleegaaM18h
import Derived.Test.YtlokndnkpleegaaAlM2
import Derived.Test.YtlokndnkpleegaaAlSf
import Derived.Test.YtlokndnkpleegaaMz
import Derived.Test.YtlokndnkpleegaaM18k
set_option linter.unusedSimpArgs false
set_option linter.unusedVariables false
set_option maxRecDepth 10000
namespace Go.Al
def bitsN : Nat → Nat → List Nat
  | 0, _ => []
  | k + 1, a => a % 2 :: bitsN k (a / 2)
def ofN : List Nat → Nat
  | [] => 0
  | b :: l => b + 2 * ofN l
def rowN (n : Nat) : List AV := [.int .i64 (n : Int)]
theorem bitsN_len : ∀ (k a : Nat), (bitsN k a).length = k
  | 0, _ => rfl
  | k + 1, a => by simp only [bitsN, List.length_cons, bitsN_len k]
theorem bitsN_get : ∀ (k a i : Nat), i < k → (bitsN k a)[i]? = some (a / 2 ^ i % 2)
  | 0, _, _, h => by omega
  | k + 1, a, 0, _ => by simp [bitsN]
  | k + 1, a, i + 1, h => by
    simp only [bitsN, List.getElem?_cons_succ, bitsN_get k (a / 2) i (by omega)]
    rw [Nat.div_div_eq_div_mul, Nat.pow_succ, Nat.mul_comm 2]
/-- what two bits make: 9 and, 10 or, 11 xor -/
def bitF (op : Int) (x y : Nat) : Nat := if (x + y = 2 ∧ op ≠ 11) ∨ (x + y = 1 ∧ op ≠ 9) then 1 else 0
theorem ofN_lt : ∀ l : List Nat, (∀ x ∈ l, x ≤ 1) → ofN l < 2 ^ l.length
  | [], _ => by simp [ofN]
  | x :: l, h => by
    have h1 := ofN_lt l fun y hy => h y (List.mem_cons_of_mem _ hy)
    have h2 := h x List.mem_cons_self
    simp only [ofN, List.length_cons, Nat.pow_succ]; omega
theorem bits_zip (op : Int) : ∀ (k a b : Nat), List.zipWith (bitF op) (bitsN k a) (bitsN k b) = bitsN k (ofN (List.zipWith (bitF op) (bitsN k a) (bitsN k b)))
  | 0, _, _ => rfl
  | k + 1, a, b => by
    simp only [bitsN, List.zipWith_cons_cons, ofN]
    have h : bitF op (a % 2) (b % 2) ≤ 1 := by unfold bitF; split <;> omega
    rw [show (bitF op (a % 2) (b % 2) + 2 * ofN (List.zipWith (bitF op) (bitsN k (a / 2)) (bitsN k (b / 2)))) % 2 = bitF op (a % 2) (b % 2) by omega, show (bitF op (a % 2) (b % 2) + 2 * ofN (List.zipWith (bitF op) (bitsN k (a / 2)) (bitsN k (b / 2)))) / 2 = ofN (List.zipWith (bitF op) (bitsN k (a / 2)) (bitsN k (b / 2))) by omega, ← bits_zip op k]
theorem ofN_and : ∀ (k a b : Nat), a < 2 ^ k → b < 2 ^ k → ofN (List.zipWith (bitF 9) (bitsN k a) (bitsN k b)) = a &&& b
  | 0, a, b, ha, hb => by
    have : a = 0 := by simp at ha; exact ha
    subst this; simp [bitsN, ofN]
  | k + 1, a, b, ha, hb => by
    simp only [bitsN, List.zipWith_cons_cons, ofN]
    rw [ofN_and k (a / 2) (b / 2) (by rw [Nat.pow_succ] at ha; omega) (by rw [Nat.pow_succ] at hb; omega)]
    have h1 : (a &&& b) / 2 = a / 2 &&& b / 2 := Nat.and_div_two
    have h2 : (a &&& b) % 2 = a % 2 &&& b % 2 := Nat.and_mod_two_pow (n := 1)
    rw [← Nat.div_add_mod (a &&& b) 2, h1, h2]
    have h3 : bitF 9 (a % 2) (b % 2) = a % 2 &&& b % 2 := by
      rcases Nat.mod_two_eq_zero_or_one a with x | x <;> rcases Nat.mod_two_eq_zero_or_one b with y | y <;> rw [x, y] <;> decide
    rw [h3]; omega
theorem ofN_or : ∀ (k a b : Nat), a < 2 ^ k → b < 2 ^ k → ofN (List.zipWith (bitF 10) (bitsN k a) (bitsN k b)) = a ||| b
  | 0, a, b, ha, hb => by
    have : a = 0 := by simp at ha; exact ha
    have : b = 0 := by simp at hb; exact hb
    subst a; subst b; simp [bitsN, ofN]
  | k + 1, a, b, ha, hb => by
    simp only [bitsN, List.zipWith_cons_cons, ofN]
    rw [ofN_or k (a / 2) (b / 2) (by rw [Nat.pow_succ] at ha; omega) (by rw [Nat.pow_succ] at hb; omega)]
    have h1 : (a ||| b) / 2 = a / 2 ||| b / 2 := Nat.or_div_two
    have h2 : (a ||| b) % 2 = a % 2 ||| b % 2 := Nat.or_mod_two_pow (n := 1)
    rw [← Nat.div_add_mod (a ||| b) 2, h1, h2]
    have h3 : bitF 10 (a % 2) (b % 2) = a % 2 ||| b % 2 := by
      rcases Nat.mod_two_eq_zero_or_one a with x | x <;> rcases Nat.mod_two_eq_zero_or_one b with y | y <;> rw [x, y] <;> decide
    rw [h3]; omega
theorem ofN_xor : ∀ (k a b : Nat), a < 2 ^ k → b < 2 ^ k → ofN (List.zipWith (bitF 11) (bitsN k a) (bitsN k b)) = a ^^^ b
  | 0, a, b, ha, hb => by
    have : a = 0 := by simp at ha; exact ha
    have : b = 0 := by simp at hb; exact hb
    subst a; subst b; simp [bitsN, ofN]
  | k + 1, a, b, ha, hb => by
    simp only [bitsN, List.zipWith_cons_cons, ofN]
    rw [ofN_xor k (a / 2) (b / 2) (by rw [Nat.pow_succ] at ha; omega) (by rw [Nat.pow_succ] at hb; omega)]
    have h1 : (a ^^^ b) / 2 = a / 2 ^^^ b / 2 := Nat.xor_div_two
    have h2 : (a ^^^ b) % 2 = a % 2 ^^^ b % 2 := Nat.xor_mod_two_pow (n := 1)
    rw [← Nat.div_add_mod (a ^^^ b) 2, h1, h2]
    have h3 : bitF 11 (a % 2) (b % 2) = a % 2 ^^^ b % 2 := by
      rcases Nat.mod_two_eq_zero_or_one a with x | x <;> rcases Nat.mod_two_eq_zero_or_one b with y | y <;> rw [x, y] <;> decide
    rw [h3]; omega
def bothN (op : Int) (a b : Nat) : Nat := ofN (List.zipWith (bitF op) (bitsN 32 a) (bitsN 32 b))
theorem ofN_bits : ∀ (k a : Nat), a < 2 ^ k → ofN (bitsN k a) = a
  | 0, a, h => by
    have : a = 0 := by simp at h; exact h
    subst this; rfl
  | k + 1, a, h => by
    simp only [bitsN, ofN]
    rw [ofN_bits k (a / 2) (by rw [Nat.pow_succ] at h; omega)]; omega
theorem bitF_le (op : Int) (x y : Nat) : bitF op x y ≤ 1 := by unfold bitF; split <;> omega
theorem bothN_lt (op : Int) (a b : Nat) : bothN op a b < 4294967296 := by
  have := ofN_lt (List.zipWith (bitF op) (bitsN 32 a) (bitsN 32 b)) fun x hx => by
    obtain ⟨i, hi⟩ := List.getElem?_of_mem hx
    rw [List.getElem?_zipWith] at hi
    split at hi
    · cases hi; exact bitF_le _ _ _
    · cases hi
  simpa [List.length_zipWith, bitsN_len, bothN] using this
theorem ofInt32 (n : Nat) (h : n < 4294967296) : (BitVec.ofInt 32 (n : Int)).toNat = n := by
  rw [BitVec.toNat_ofInt]; omega
theorem bothN_apply (op : Int) (hop : op = 9 ∨ op = 10 ∨ op = 11) (a b : Nat) (ha : a < 4294967296) (hb : b < 4294967296) : applyI op a b = (((bothN op a b : Nat) : Int), (0 : Int)) := by
  have hw : ∀ n : Nat, n < 4294967296 → IntKind.wrap .u32 (n : Int) = (n : Int) := fun n h => by simp [IntKind.wrap, IntKind.signed, IntKind.bits]; omega
  rcases hop with rfl | rfl | rfl
  · show (IntKind.wrap .u32 (BitVec.ofInt 32 a &&& BitVec.ofInt 32 b).toNat, (0 : Int)) = _
    rw [BitVec.toNat_and, ofInt32 a ha, ofInt32 b hb, bothN, ofN_and 32 a b ha hb, hw _ (Nat.lt_of_le_of_lt Nat.and_le_left ha)]
  · show (IntKind.wrap .u32 (BitVec.ofInt 32 a ||| BitVec.ofInt 32 b).toNat, (0 : Int)) = _
    rw [BitVec.toNat_or, ofInt32 a ha, ofInt32 b hb, bothN, ofN_or 32 a b ha hb, hw _ (Nat.or_lt_two_pow (n := 32) ha hb)]
  · show (IntKind.wrap .u32 (BitVec.ofInt 32 a ^^^ BitVec.ofInt 32 b).toNat, (0 : Int)) = _
    rw [BitVec.toNat_xor, ofInt32 a ha, ofInt32 b hb, bothN, ofN_xor 32 a b ha hb, hw _ (Nat.xor_lt_two_pow (n := 32) ha hb)]
theorem tmod_nat (a b : Nat) : ((a : Int)).tmod (b : Int) = ((a % b : Nat) : Int) := by rw [Int.ofNat_tmod]
theorem tdiv_nat (a b : Nat) : ((a : Int)).tdiv (b : Int) = ((a / b : Nat) : Int) := by rw [Int.ofNat_tdiv]
theorem w32 (n : Nat) (h : n < 4294967296) : IntKind.wrap .u32 (n : Int) = (n : Int) := by simp [IntKind.wrap, IntKind.signed, IntKind.bits]; omega
theorem w64 (n : Nat) (h : n < 18446744073709551616) : IntKind.wrap .u64 (n : Int) = (n : Int) := by simp [IntKind.wrap, IntKind.signed, IntKind.bits]; omega
theorem rowN_get {l : List Nat} {i x : Nat} (h : l[i]? = some x) : (l.map rowN)[i]? = some [.int .i64 (x : Int)] := by rw [List.getElem?_map, h]; rfl
theorem zip_take (op : Int) (a b k : Nat) (hk : k < 32) : (List.zipWith (bitF op) (bitsN 32 a) (bitsN 32 b))[k]? = some (bitF op (a / 2 ^ k % 2) (b / 2 ^ k % 2)) := by
  rw [List.getElem?_zipWith, bitsN_get _ _ _ hk, bitsN_get _ _ _ hk]
end Go.Al
namespace Go.Proofs.Ytlokndnkpleegaa
open Go.Al
theorem flag_con (b : Bool) : PCon env 85 [.bool b] (.int .u32 (if b = true then 1 else 0)) := by
  cases b
  · skip
    refine con_of 4 [.tmp 2] Try.func85 rfl rfl rfl rfl ?_
    refine awp_seq_k fun K hK => ?_
    refine awp_region rfl ?_
    simp only [RR, seval]
    refine hK _ _ ?_; clear hK K
    refine awp_seq ?_
    refine awp_seq_k fun K hK => ?_
    refine awp_region rfl ?_
    simp only [RR, seval]
    refine hK _ _ ?_; clear hK K
    refine awp_if false rfl (fun hc => by cases hc) (fun _ => ?_)
    refine awp_skip ?_; try simp only [RR]
    refine awp_seq_k fun K hK => ?_
    refine awp_region rfl ?_
    simp only [RR, seval]
    refine hK _ _ ?_; clear hK K
    refine awp_ret ?_; simp only [bodyQ, aresult, ares, RR, seval]
    refine Gives.pure ?_
    rfl
  · skip
    refine con_of 4 [.tmp 2] Try.func85 rfl rfl rfl rfl ?_
    refine awp_seq_k fun K hK => ?_
    refine awp_region rfl ?_
    simp only [RR, seval]
    refine hK _ _ ?_; clear hK K
    refine awp_seq ?_
    refine awp_seq_k fun K hK => ?_
    refine awp_region rfl ?_
    simp only [RR, seval]
    refine hK _ _ ?_; clear hK K
    refine awp_if true rfl (fun _ => ?_) (fun hc => by cases hc)
    refine awp_seq_k fun K hK => ?_
    refine awp_region rfl ?_
    simp only [RR, seval]
    refine hK _ _ ?_; clear hK K
    refine awp_ret ?_; simp only [bodyQ, aresult, ares, RR, seval]
    refine Gives.pure ?_
    rfl
theorem Bits_con (a : Nat) (ha : a < 4294967296) : MCon env 95 [.int .u32 (a : Int)] 1 ((bitsN 32 a).map rowN) := by
  have hlen := bitsN_len 32 a
  refine con_of 18 [.tmp 2] Try.func95 rfl rfl rfl rfl ?_
  refine awp_seq_k fun K hK => ?_
  refine awp_region rfl ?_
  simp only [RR, seval]
  refine hK _ _ ?_; clear hK K
  refine awp_seq_k fun K hK => ?_
  refine awp_region rfl ?_
  simp only [RR, seval]
  refine hK _ _ ?_; clear hK K
  refine awp_seq ?_
  refine awp_seq_k fun K hK => ?_
  refine awp_region rfl ?_
  simp only [RR, seval]
  refine hK _ _ ?_; clear hK K
  refine awp_name fun F1 M1 hfr hH => ?_
  have g0 := hfr 0
  have g2 := hfr 2
  have g3 := hfr 3
  have g4 := hfr 4
  try simp only [RR, seval] at g0 g2 g3 g4
  have f0 := g0; clear g0
  have f2 := g2; clear g2
  have f3 := g3; clear g3
  have f4 := g4; clear g4
  clear hfr hH
  refine awp_block ?_
  refine awp_each [2] (32) (fun k fr M => fr 4 = .int .i64 (k : Nat) ∧ fr 0 = .int .u32 ((a / 2 ^ k : Nat) : Int) ∧ OwnL 1 (fr 3) (((bitsN 32 a).take k).map rowN) M) ⟨f4, (by rw [f0, Nat.pow_zero, Nat.div_one]), .inl ⟨f3, rfl⟩⟩ ?_
  rintro k F2 M2 hk0 ⟨fx, f0, hown⟩ agx K0 hK0
  have f2 := (agx 2 rfl).trans f2
  have f4 := fx; clear fx
  have ag0 := agree.refl [2] F2
  clear agx
  obtain ⟨v3, f3⟩ : ∃ v, F2 3 = v := ⟨_, rfl⟩
  rw [f3] at hown
  refine awp_seq ?_
  refine awp_seq_k fun K hK => ?_
  refine awp_region rfl ?_
  simp only [f4, RR, seval]
  refine hK _ _ ?_; clear hK K
  refine awp_if _ rfl (fun hc => ?_) (fun hc => ?_)
  · have hlt0 : k < 32 := by have := of_decide_eq_true hc; omega
    clear hc
    have htk : (bitsN 32 a).take (k + 1) = (bitsN 32 a).take k ++ [a / 2 ^ k % 2] := by
      have h1 := bitsN_get 32 a k hlt0
      obtain ⟨h2, h3⟩ := List.getElem?_eq_some_iff.1 h1
      rw [List.take_succ_eq_append_getElem h2, h3]
    have htl : ((bitsN 32 a).take k).length ≤ 32 := by rw [List.length_take]; omega
    have hle : a / 2 ^ k ≤ a := Nat.div_le_self _ _
    have hnx : a / 2 ^ (k + 1) = a / 2 ^ k / 2 := by rw [Nat.pow_succ, Nat.div_div_eq_div_mul]
    generalize a / 2 ^ k = x at *
    have e1 : ((x : Int)).tmod 2 = ((x % 2 : Nat) : Int) := tmod_nat x 2
    have e2 : IntKind.wrap .u32 (((x : Int)).tdiv 2) = ((x / 2 : Nat) : Int) := by rw [show ((x : Int)).tdiv 2 = ((x / 2 : Nat) : Int) from tdiv_nat x 2, w32 _ (by omega)]
    have e3 : IntKind.wrap .i64 ((x % 2 : Nat) : Int) = ((x % 2 : Nat) : Int) := IntWalk.i64_in _ (by omega)
    refine awp_skip ?_; try simp only [RR]
    refine awp_seq ?_
    refine awp_block ?_
    refine awp_seq_k fun K hK => ?_
    refine awp_region rfl ?_
    simp only [f0, f3, e1, e2, e3, RR, seval]
    refine awpB_sealed ?_
    simp only [f0, f3, e1, e2, e3, RR, seval]
    refine awpA_own hown (by simp only [List.length_map, List.length_cons, List.length_nil]; omega) (fun _ => trivial) fun v5 M3 hown' hk' => ?_
    simp only [f0, f3, e1, e2, e3, RR, seval]
    refine hK _ _ ?_; clear hK K
    refine awp_region rfl ?_
    simp only [f0, e1, e2, e3, RR, seval]
    refine awp_region rfl ?_
    simp only [f4, e1, e2, e3, RR, seval]
    try rw [IntWalk.i64_in _ (by omega)]
    refine hK0 _ _ hlt0 ⟨by first | rfl | (simp only [upd_app, seval]; rfl), (by rw [hnx]; rfl), (by rw [htk, List.map_append, List.map_singleton]; exact hown')⟩ (by repeat (first | exact ag0 | refine agree.upd rfl ?_))
  · have hkn0 : k = 32 := by have := of_decide_eq_false hc; omega
    clear hc
    rw [hkn0, List.take_of_length_le (Nat.le_of_eq hlen)] at hown
    refine awp_exit ?_; simp only [RR, seval]
    refine awp_seq_k fun K hK => ?_
    refine awp_region rfl ?_
    simp only [f3, RR, seval]
    refine hK _ _ ?_; clear hK K
    refine awp_ret ?_; simp only [bodyQ, aresult, ares, f2, RR, seval]
    exact MCon.gives hown
    skip
theorem Of_con (n : Nat) (hn : n < 4294967296) : PCon env 96 [.isl 1 ((bitsN 32 n).map rowN)] (.int .u32 (n : Int)) := by
  have hlen := bitsN_len 32 n
  refine con_of 23 [.tmp 2] Try.func96 rfl rfl rfl rfl ?_
  refine awp_seq_k fun K hK => ?_
  refine awp_region rfl ?_
  simp only [List.length_map, hlen, RR, seval]
  refine hK _ _ ?_; clear hK K
  refine awp_seq_k fun K hK => ?_
  refine awp_region rfl ?_
  simp only [List.length_map, hlen, RR, seval]
  refine hK _ _ ?_; clear hK K
  refine awp_seq ?_
  refine awp_seq_k fun K hK => ?_
  refine awp_region rfl ?_
  simp only [List.length_map, hlen, RR, seval]
  refine hK _ _ ?_; clear hK K
  refine awp_name fun F1 M1 hfr hH => ?_
  have g0 := hfr 0
  have g2 := hfr 2
  have g3 := hfr 3
  have g4 := hfr 4
  try simp only [List.length_map, hlen, RR, seval] at g0 g2 g3 g4
  have f0 := g0; clear g0
  have f2 := g2; clear g2
  have f3 := g3; clear g3
  have f4 := g4; clear g4
  clear hfr hH
  refine awp_block ?_
  refine awp_while [0, 2] (32) (fun k fr M => k ≤ 32 ∧ fr 4 = .int .i64 ((k : Int) - 1) ∧ fr 3 = .int .u64 ((n / 2 ^ k : Nat) : Int)) ⟨Nat.le_refl _, f4, (by rw [f3, Nat.div_eq_of_lt (by omega)]; rfl)⟩ ?_
  rintro k F2 M2 ⟨hk32, f4, f3⟩ agx K0 hK0
  have f0 := (agx 0 rfl).trans f0
  have f2 := (agx 2 rfl).trans f2
  have ag0 := agree.refl [0, 2] F2
  clear agx
  refine awp_seq ?_
  refine awp_seq_k fun K hK => ?_
  refine awp_region rfl ?_
  simp only [f4, List.length_map, hlen, RR, seval]
  refine hK _ _ ?_; clear hK K
  refine awp_if _ rfl (fun hc => ?_) (fun hc => ?_)
  · have hw0 := hc; clear hc
    obtain ⟨m, rfl⟩ : ∃ m, k = m + 1 := ⟨k - 1, by have := of_decide_eq_true hw0; omega⟩
    have hg := rowN_get (bitsN_get 32 n m (by omega))
    have hle : n / 2 ^ m ≤ n := Nat.div_le_self _ _
    have hnx : n / 2 ^ (m + 1) = n / 2 ^ m / 2 := by rw [Nat.pow_succ, Nat.div_div_eq_div_mul]
    rw [hnx] at f3
    generalize hxe : n / 2 ^ m = x at *
    have e0 : ((m + 1 : Nat) : Int) - 1 = (m : Int) := by omega
    rw [e0] at f4
    have e1 : IntKind.wrap .u64 (2 * ((x / 2 : Nat) : Int)) = ((2 * (x / 2) : Nat) : Int) := by rw [show 2 * ((x / 2 : Nat) : Int) = ((2 * (x / 2) : Nat) : Int) by omega, w64 _ (by omega)]
    have e2 : IntKind.wrap .u64 ((x % 2 : Nat) : Int) = ((x % 2 : Nat) : Int) := w64 _ (by omega)
    have e3 : IntKind.wrap .u64 (((2 * (x / 2) : Nat) : Int) + ((x % 2 : Nat) : Int)) = (x : Int) := by rw [show ((2 * (x / 2) : Nat) : Int) + ((x % 2 : Nat) : Int) = (x : Int) by omega, w64 _ (by omega)]
    have e4 : IntKind.wrap .i64 ((m : Int) - 1) = (m : Int) - 1 := IntWalk.i64_in _ (by omega)
    have z1 : (m : Int) < 32 := by omega
    refine awp_skip ?_; try simp only [RR]
    refine awp_seq ?_
    refine awp_block ?_
    refine awp_region rfl ?_
    simp only [f0, f3, f4, List.length_map, hlen, hg, e0, e1, e2, e3, e4, z1, RR, seval]
    refine awp_region rfl ?_
    simp only [f4, List.length_map, hlen, hg, e0, e1, e2, e3, e4, z1, RR, seval]
    refine hK0 (m) _ _ (by omega) ⟨(by omega), rfl, (by rw [hxe]; rfl)⟩ (by repeat (first | exact ag0 | refine agree.upd rfl ?_))
  · have hw0 := hc; clear hc
    have hk0 : k = 0 := by have := of_decide_eq_false hw0; omega
    subst hk0
    rw [Nat.pow_zero, Nat.div_one] at f3
    have e5 : ((n : Int)).tmod 4294967296 = (n : Int) := by rw [show ((n : Int)).tmod 4294967296 = ((n % 4294967296 : Nat) : Int) from tmod_nat n 4294967296, Nat.mod_eq_of_lt hn]
    have e6 := w32 n hn
    refine awp_exit ?_; simp only [RR, seval]
    refine awp_seq_k fun K hK => ?_
    refine awp_region rfl ?_
    simp only [f3, List.length_map, hlen, e5, e6, RR, seval]
    refine hK _ _ ?_; clear hK K
    refine awp_ret ?_; simp only [bodyQ, aresult, ares, f2, List.length_map, hlen, e5, e6, RR, seval]
    refine Gives.pure ?_
    rfl
theorem both_con (op : Int) (a b : Nat) (ha : a < 4294967296) (hb : b < 4294967296) : PCon env 83 [.int .i64 op, .int .u32 (a : Int), .int .u32 (b : Int)] (.int .u32 ((bothN op a b : Nat) : Int)) := by
  have hO := Of_con _ (bothN_lt op a b)
  have hbz : bitsN 32 (bothN op a b) = List.zipWith (bitF op) (bitsN 32 a) (bitsN 32 b) := (bits_zip op 32 a b).symm
  rw [hbz] at hO
  have hB := Bits_con b hb
  have hA := Bits_con a ha
  have hla := bitsN_len 32 a
  have hlb := bitsN_len 32 b
  have hlz : (List.zipWith (bitF op) (bitsN 32 a) (bitsN 32 b)).length = 32 := by rw [List.length_zipWith, hla, hlb]; rfl
  generalize hZ : List.zipWith (bitF op) (bitsN 32 a) (bitsN 32 b) = Z at *
  generalize bothN op a b = w at *
  have hZg := fun k hk => zip_take op a b k hk
  rw [hZ] at hZg
  clear hZ hbz
  have hB := hB.pure
  have hga := fun k (hk : k < 32) => bitsN_get 32 a k hk
  have hgb := fun k (hk : k < 32) => rowN_get (bitsN_get 32 b k hk)
  generalize bitsN 32 a = A at *
  generalize bitsN 32 b = B at *
  refine con_of 50 [.tmp 6] Try.func83 rfl rfl rfl rfl ?_
  refine awp_seq_k fun K hK => ?_
  refine awp_region rfl ?_
  simp only [List.length_map, hlb, RR, seval]
  refine hK _ _ ?_; clear hK K
  refine awp_seq_k fun K hK => ?_
  refine awp_region rfl ?_
  simp only [List.length_map, hlb, RR, seval]
  refine awpC_own (hA) fun v12 M1 hv12 hk' ho' => ?_
  simp only [List.length_map, hlb, RR, seval]
  refine awpC_pure' (hB) ?_
  simp only [List.length_map, hlb, RR, seval]
  refine hK _ _ ?_; clear hK K
  refine awp_seq ?_
  obtain ⟨b7, hvb, hb7⟩ : ∃ b7, v12 = .osl 1 b7 32 ∧ M1 b7 = some (.rows 1 (A.map rowN)) := by
    rcases hv12 with ⟨_, h2⟩ | ⟨b7, h1, h2⟩
    · have := congrArg List.length h2
      rw [List.length_map, hla] at this; cases this
    · rw [List.length_map, hla] at h1; exact ⟨b7, h1, h2⟩
  subst hvb
  refine awp_seq_k fun K hK => ?_
  refine awp_region rfl ?_
  simp only [List.length_map, hlb, RR, seval]
  refine hK _ _ ?_; clear hK K
  refine awp_name fun F2 M2 hfr hH => ?_
  have g0 := hfr 0
  have g6 := hfr 6
  have g7 := hfr 7
  have g8 := hfr 8
  have g9 := hfr 9
  have gb7 := hH b7
  try simp only [hb7, List.length_map, hlb, RR, seval] at g0 g6 g7 g8 g9 gb7
  have f0 := g0; clear g0
  have f6 := g6; clear g6
  have f7 := g7; clear g7
  have f8 := g8; clear g8
  have f9 := g9; clear g9
  have hb7 := gb7; clear gb7
  clear hfr hH
  refine awp_block ?_
  refine awp_each [0, 6, 7, 8] (32) (fun k fr M => fr 9 = .int .i64 (k : Nat) ∧ M b7 = some (.rows 1 ((Z.take k ++ A.drop k).map rowN))) ⟨f9, (by rw [List.take_zero, List.drop_zero, List.nil_append]; exact hb7)⟩ ?_
  rintro k F3 M3 hk0 ⟨fx, hb7⟩ agx K0 hK0
  have f0 := (agx 0 rfl).trans f0
  have f6 := (agx 6 rfl).trans f6
  have f7 := (agx 7 rfl).trans f7
  have f8 := (agx 8 rfl).trans f8
  have f9 := fx; clear fx
  have ag0 := agree.refl [0, 6, 7, 8] F3
  clear agx
  refine awp_seq ?_
  refine awp_seq_k fun K hK => ?_
  refine awp_region rfl ?_
  simp only [f9, List.length_map, hlb, RR, seval]
  refine hK _ _ ?_; clear hK K
  refine awp_if _ rfl (fun hc => ?_) (fun hc => ?_)
  · have hlt0 : k < 32 := by have := of_decide_eq_true hc; omega
    clear hc
    have hgx := hga k hlt0
    have hgy := hgb k hlt0
    have hz := hZg k hlt0
    have hx1 : a / 2 ^ k % 2 < 2 := Nat.mod_lt _ (by decide)
    have hy1 : b / 2 ^ k % 2 < 2 := Nat.mod_lt _ (by decide)
    generalize a / 2 ^ k % 2 = x at hgx hz hx1
    generalize b / 2 ^ k % 2 = y at hgy hz hy1
    obtain ⟨q1, q2⟩ := List.getElem?_eq_some_iff.1 hgx
    have hdk : A.drop k = x :: A.drop (k + 1) := by rw [List.drop_eq_getElem_cons q1, q2]
    have htk : Z.take (k + 1) = Z.take k ++ [bitF op x y] := by
      obtain ⟨q3, q4⟩ := List.getElem?_eq_some_iff.1 hz
      rw [List.take_succ_eq_append_getElem q3, q4]
    have hmid : ∀ (u v : List AV), ((Z.take k).map rowN ++ u :: (A.drop (k + 1)).map rowN).set k v = (Z.take k).map rowN ++ v :: (A.drop (k + 1)).map rowN := fun u v => by
      have := List.set_append_right (s := (Z.take k).map rowN) (t := u :: (A.drop (k + 1)).map rowN) k v (by rw [List.length_map, List.length_take]; omega)
      rw [this, show k - ((Z.take k).map rowN).length = 0 by rw [List.length_map, List.length_take]; omega]; rfl
    have hget : ∀ (u : List AV), ((Z.take k).map rowN ++ u :: (A.drop (k + 1)).map rowN)[k]? = some u := fun u => by
      rw [List.getElem?_append_right (by rw [List.length_map, List.length_take]; omega), show k - ((Z.take k).map rowN).length = 0 by rw [List.length_map, List.length_take]; omega]; rfl
    have hR : (Z.take k ++ A.drop k).map rowN = (Z.take k).map rowN ++ [.int .i64 (x : Int)] :: (A.drop (k + 1)).map rowN := by rw [hdk, List.map_append, List.map_cons]; rfl
    have hn : (Z.take (k + 1) ++ A.drop (k + 1)).map rowN = (Z.take k).map rowN ++ [.int .i64 ((bitF op x y : Nat) : Int)] :: (A.drop (k + 1)).map rowN := by rw [htk, List.map_append, List.map_append, List.append_assoc]; rfl
    rw [hR] at hb7
    have hg0 := hget [.int .i64 (x : Int)]
    have hg1 := hget [.int .i64 0]
    have hs0 := hmid [.int .i64 (x : Int)] [.int .i64 0]
    have hs1 := hmid [.int .i64 0] [.int .i64 1]
    generalize (Z.take k).map rowN = ZT at *
    generalize (A.drop (k + 1)).map rowN = AT at *
    have z1 : (k : Int) < 32 := by omega
    clear hmid hget hR
    have hbf : bitF op x y = if (x + y = 2 ∧ op ≠ 11) ∨ (x + y = 1 ∧ op ≠ 9) then 1 else 0 := rfl
    obtain ⟨s, hs⟩ : ∃ s, s = x + y := ⟨_, rfl⟩
    have e1 : IntKind.wrap .i64 ((x : Int) + (y : Int)) = (s : Int) := by rw [IntWalk.i64_in _ (by omega)]; omega
    rw [← hs] at hbf
    generalize bitF op x y = w at *
    have hsc : s = 0 ∨ s = 1 ∨ s = 2 := by omega
    clear hs
    by_cases o9 : op = 9 <;> by_cases o11 : op = 11 <;> rcases hsc with rfl | rfl | rfl
    all_goals
      refine awp_skip ?_; try simp only [RR]
      refine awp_seq ?_
      refine awp_block ?_
      refine awp_seq_k fun K hK => ?_
      refine awp_region_draw2 (fun x => x ≠ b7) [(0, 3), (1, 3), (2, 3), (3, 1), (4, 3), (5, 3), (6, 3), (7, 1), (8, 3), (9, 3)] [] draws (by kernel_rfl) rfl rfl ?_
      simp only [emitF, markOf, EM, f7, f8, f9, hb7, List.length_map, hlb, hgy, hg0, hg1, hs0, hs1, z1, e1, o9, o11, RR, seval]
      refine hK _ _ ?_; clear hK K
      refine awp_seq_k fun K hK => ?_
      refine awp_region rfl ?_
      simp only [f7, f9, hb7, List.length_map, hlb, hgy, hg0, hg1, hs0, hs1, z1, e1, o9, o11, RR, seval]
      refine hK _ _ ?_; clear hK K
      refine awp_seq_k fun K hK => ?_
      refine awp_region rfl ?_
      simp only [f0, hb7, List.length_map, hlb, hgy, hg0, hg1, hs0, hs1, z1, e1, o9, o11, RR, seval]
      repeat' ((first | refine awpG_splitN (fun h => ?_) (fun h => ?_) | refine awpG_split (fun h => ?_) (fun h => ?_)) <;> simp only [h, f0, f6, f7, f8, f9, hb7, List.length_map, hlb, hgy, hg0, hg1, hs0, hs1, z1, e1, o9, o11, RR, seval])
      all_goals
        refine hK _ _ ?_; clear hK K
        refine awp_if _ rfl (fun hc7 => ?_) (fun hc7 => ?_)
        · try (cases hc7; done)
          all_goals
            refine awp_region rfl ?_
            simp only [f7, f9, hb7, List.length_map, hlb, hgy, hg0, hg1, hs0, hs1, z1, e1, o9, o11, RR, seval]
            refine awp_region rfl ?_
            simp only [f9, List.length_map, hlb, hgy, hg0, hg1, hs0, hs1, z1, e1, o9, o11, RR, seval]
            try rw [IntWalk.i64_in _ (by omega)]
            refine hK0 _ _ hlt0 ⟨by first | rfl | (simp only [upd_app, seval]; rfl), ?_⟩ (by repeat (first | exact ag0 | refine agree.upd rfl ?_))
            rw [hn, hbf]
            first | subst o9 | subst o11 | skip
            simp_all [upd]
        · try (cases hc7; done)
          all_goals
            refine awp_skip ?_; try simp only [RR]
            refine awp_region rfl ?_
            simp only [f9, List.length_map, hlb, hgy, hg0, hg1, hs0, hs1, z1, e1, o9, o11, RR, seval]
            try rw [IntWalk.i64_in _ (by omega)]
            refine hK0 _ _ hlt0 ⟨by first | rfl | (simp only [upd_app, seval]; rfl), ?_⟩ (by repeat (first | exact ag0 | refine agree.upd rfl ?_))
            rw [hn, hbf]
            first | subst o9 | subst o11 | skip
            simp_all [upd]
  · have hkn0 : k = 32 := by have := of_decide_eq_false hc; omega
    clear hc
    rw [hkn0, List.take_of_length_le (Nat.le_of_eq hlz), List.drop_of_length_le (Nat.le_of_eq hla), List.append_nil] at hb7
    have hlz2 : (Z.map rowN).length = 32 := by rw [List.length_map, hlz]
    refine awp_exit ?_; simp only [RR, seval]
    refine awp_name fun F4 M4 hfr hH => ?_
    have g6 := hfr 6
    have g7 := hfr 7
    have gb7 := hH b7
    try simp only [f0, f6, f7, f8, f9, hb7, List.length_map, hlb, RR, seval] at g6 g7 gb7
    have f6 := g6; clear g6
    have f7 := g7; clear g7
    have hb7 := gb7; clear gb7
    clear hfr hH
    refine awp_freezeAll hb7 ?_
    refine awp_name fun F5 M5 hfr hH => ?_
    have g6 := hfr 6
    have g7 := hfr 7
    try simp only [frzO_rows, List.map_cons, List.map_nil, Option.map_some, frz_osl, frz_isl, frz_int, frz_str, frz_bool, frz_ptr, frz_nsl, frz_self, and_self, List.length_map, List.length_set, List.length_append, List.length_cons, List.length_nil, hlz2, hlz, f6, f7, List.length_map, hlb, RR, seval] at g6 g7
    have f6 := g6; clear g6
    have f7 := g7; clear g7
    clear hfr hH
    refine awp_seq_k fun K hK => ?_
    refine awp_region rfl ?_
    simp only [f7, List.length_map, hlb, RR, seval]
    refine awpC_pure' (hO) ?_
    simp only [f7, List.length_map, hlb, RR, seval]
    refine hK _ _ ?_; clear hK K
    refine awp_ret ?_; simp only [bodyQ, aresult, ares, f6, List.length_map, hlb, RR, seval]
    refine Gives.pure ?_
    rfl
end Go.Proofs.Ytlokndnkpleegaa

namespace Go.Proofs.Ytlokndnkpleegaa
open Go.Al
theorem wm32 (n : Int) : IntKind.wrap .u32 n = n % 4294967296 := by simp [IntKind.wrap, IntKind.signed, IntKind.bits]
theorem sub_wrap (x y : Nat) (hy : y < 4294967296) : ((x : Int) - y) % 4294967296 = (((x + 4294967296 - y) % 4294967296 : Nat) : Int) := by omega
theorem jshl_con (a b : Nat) (ha : a < 4294967296) (hb : b < 4294967296) : PCon env 84 [.int .i64 12, .int .u32 (a : Int), .int .u32 (b : Int)] (.int .u32 (if 31 < (b : Int) then 0 else IntKind.wrap .u32 ((a : Int) * 2 ^ (min ((b : Int)).toNat 32)))) := by
  by_cases h : 31 < (b : Int)
  · rw [if_pos h]
    have z : (32 : Int) ≤ (b : Int) := by omega
    refine con_of 27 [.tmp 6] Try.func84 rfl rfl rfl rfl ?_
    refine awp_seq_k fun K hK => ?_
    refine awp_region rfl ?_
    simp only [z, RR, seval]
    refine hK _ _ ?_; clear hK K
    refine awp_seq ?_
    refine awp_seq_k fun K hK => ?_
    refine awp_region rfl ?_
    simp only [z, RR, seval]
    refine hK _ _ ?_; clear hK K
    refine awp_if true rfl (fun _ => ?_) (fun hc => by cases hc)
    refine awp_seq_k fun K hK => ?_
    refine awp_region rfl ?_
    simp only [z, RR, seval]
    refine hK _ _ ?_; clear hK K
    refine awp_ret ?_; simp only [bodyQ, aresult, ares, z, RR, seval]
    refine Gives.pure ?_
    rfl
  · rw [if_neg h]
    have z : ¬ (32 : Int) ≤ (b : Int) := by omega
    have zr : IntKind.wrap .u32 ((a : Int) * 2 ^ (min ((b : Int)).toNat 32)) = ((a * 2 ^ b % 4294967296 : Nat) : Int) := by
      rw [Int.toNat_natCast, Nat.min_eq_left (by omega)]
      rw [wm32, Int.natCast_emod, Int.natCast_mul, Int.natCast_pow]; rfl
    rw [zr]
    have e0 := w64 a (by omega)
    refine con_of 27 [.tmp 6] Try.func84 rfl rfl rfl rfl ?_
    refine awp_seq_k fun K hK => ?_
    refine awp_region rfl ?_
    simp only [z, e0, RR, seval]
    refine hK _ _ ?_; clear hK K
    refine awp_seq ?_
    refine awp_seq_k fun K hK => ?_
    refine awp_region rfl ?_
    simp only [z, e0, RR, seval]
    refine hK _ _ ?_; clear hK K
    refine awp_if false rfl (fun hc => by cases hc) (fun _ => ?_)
    refine awp_skip ?_; try simp only [RR]
    refine awp_seq_k fun K hK => ?_
    refine awp_region rfl ?_
    simp only [z, e0, RR, seval]
    refine hK _ _ ?_; clear hK K
    refine awp_seq ?_
    refine awp_seq_k fun K hK => ?_
    refine awp_region rfl ?_
    simp only [z, e0, RR, seval]
    refine hK _ _ ?_; clear hK K
    refine awp_name fun F1 M1 hfr hH => ?_
    have g0 := hfr 0
    have g2 := hfr 2
    have g6 := hfr 6
    have g7 := hfr 7
    have g8 := hfr 8
    try simp only [z, e0, RR, seval] at g0 g2 g6 g7 g8
    have f0 := g0; clear g0
    have f2 := g2; clear g2
    have f6 := g6; clear g6
    have f7 := g7; clear g7
    have f8 := g8; clear g8
    clear hfr hH
    refine awp_block ?_
    refine awp_while [0, 2, 6] (b) (fun m fr M => m ≤ b ∧ fr 8 = .int .u32 ((b - m : Nat) : Int) ∧ fr 7 = .int .u64 ((a * 2 ^ (b - m) % 4294967296 : Nat) : Int)) ⟨Nat.le_refl _, (by rw [f8, Nat.sub_self]; rfl), (by rw [f7, Nat.sub_self, Nat.pow_zero, Nat.mul_one, Nat.mod_eq_of_lt ha])⟩ ?_
    rintro m F2 M2 ⟨hm, f8, f7⟩ agx K0 hK0
    have f0 := (agx 0 rfl).trans f0
    have f2 := (agx 2 rfl).trans f2
    have f6 := (agx 6 rfl).trans f6
    have ag0 := agree.refl [0, 2, 6] F2
    clear agx
    refine awp_seq ?_
    refine awp_seq_k fun K hK => ?_
    refine awp_region rfl ?_
    simp only [f2, f8, z, e0, RR, seval]
    refine hK _ _ ?_; clear hK K
    refine awp_if _ rfl (fun hc => ?_) (fun hc => ?_)
    · have hw0 := hc; clear hc
      obtain ⟨j, rfl⟩ : ∃ j, m = j + 1 := ⟨m - 1, by have := of_decide_eq_true hw0; omega⟩
      have hnx : a * 2 ^ (b - j) % 4294967296 = 2 * (a * 2 ^ (b - (j + 1)) % 4294967296) % 4294967296 := by
        rw [show b - j = b - (j + 1) + 1 by omega, Nat.pow_succ, ← Nat.mul_assoc]; omega
      have hx : a * 2 ^ (b - (j + 1)) % 4294967296 < 4294967296 := Nat.mod_lt _ (by decide)
      generalize a * 2 ^ (b - (j + 1)) % 4294967296 = x at *
      have e1 : IntKind.wrap .u64 (2 * (x : Int)) = ((2 * x : Nat) : Int) := by rw [show 2 * (x : Int) = ((2 * x : Nat) : Int) by omega, w64 _ (by omega)]
      have e2 : ((2 * x : Nat) : Int).tmod 4294967296 = ((2 * x % 4294967296 : Nat) : Int) := tmod_nat _ _
      have e3 : IntKind.wrap .u32 (((b - (j + 1) : Nat) : Int) + 1) = ((b - j : Nat) : Int) := by rw [show ((b - (j + 1) : Nat) : Int) + 1 = ((b - j : Nat) : Int) by omega, w32 _ (by omega)]
      refine awp_skip ?_; try simp only [RR]
      refine awp_seq ?_
      refine awp_block ?_
      refine awp_seq_k fun K hK => ?_
      refine awp_region rfl ?_
      simp only [f0, z, e0, e1, e2, e3, RR, seval]
      refine hK _ _ ?_; clear hK K
      refine awp_if true rfl (fun _ => ?_) (fun hc => by cases hc)
      refine awp_region rfl ?_
      simp only [f7, z, e0, e1, e2, e3, RR, seval]
      refine awp_region rfl ?_
      simp only [f8, z, e0, e1, e2, e3, RR, seval]
      refine hK0 (j) _ _ (by omega) ⟨(by omega), rfl, (by rw [hnx]; rfl)⟩ (by repeat (first | exact ag0 | refine agree.upd rfl ?_))
    · have hw0 := hc; clear hc
      have hk0 : m = 0 := by have := of_decide_eq_false hw0; omega
      subst hk0
      rw [Nat.sub_zero] at f7
      have e6 := w32 _ (show a * 2 ^ b % 4294967296 < 4294967296 from Nat.mod_lt _ (by decide))
      refine awp_exit ?_; simp only [RR, seval]
      refine awp_seq_k fun K hK => ?_
      refine awp_region rfl ?_
      simp only [f7, z, e0, e6, RR, seval]
      refine hK _ _ ?_; clear hK K
      refine awp_ret ?_; simp only [bodyQ, aresult, ares, f6, z, e0, e6, RR, seval]
      refine Gives.pure ?_
      rfl
theorem jshr_con (a b : Nat) (ha : a < 4294967296) (hb : b < 4294967296) : PCon env 84 [.int .i64 13, .int .u32 (a : Int), .int .u32 (b : Int)] (.int .u32 (if 31 < (b : Int) then 0 else ((a : Int)).fdiv (2 ^ (min ((b : Int)).toNat 32)))) := by
  by_cases h : 31 < (b : Int)
  · rw [if_pos h]
    have z : (32 : Int) ≤ (b : Int) := by omega
    refine con_of 27 [.tmp 6] Try.func84 rfl rfl rfl rfl ?_
    refine awp_seq_k fun K hK => ?_
    refine awp_region rfl ?_
    simp only [z, RR, seval]
    refine hK _ _ ?_; clear hK K
    refine awp_seq ?_
    refine awp_seq_k fun K hK => ?_
    refine awp_region rfl ?_
    simp only [z, RR, seval]
    refine hK _ _ ?_; clear hK K
    refine awp_if true rfl (fun _ => ?_) (fun hc => by cases hc)
    refine awp_seq_k fun K hK => ?_
    refine awp_region rfl ?_
    simp only [z, RR, seval]
    refine hK _ _ ?_; clear hK K
    refine awp_ret ?_; simp only [bodyQ, aresult, ares, z, RR, seval]
    refine Gives.pure ?_
    rfl
  · rw [if_neg h]
    have z : ¬ (32 : Int) ≤ (b : Int) := by omega
    have zr : ((a : Int)).fdiv (2 ^ (min ((b : Int)).toNat 32)) = ((a / 2 ^ b : Nat) : Int) := by
      rw [Int.toNat_natCast, Nat.min_eq_left (by omega), Int.fdiv_eq_ediv_of_nonneg _ (Int.pow_nonneg (by decide))]; rw [Int.natCast_ediv, Int.natCast_pow]; rfl
    rw [zr]
    have e0 := w64 a (by omega)
    refine con_of 27 [.tmp 6] Try.func84 rfl rfl rfl rfl ?_
    refine awp_seq_k fun K hK => ?_
    refine awp_region rfl ?_
    simp only [z, e0, RR, seval]
    refine hK _ _ ?_; clear hK K
    refine awp_seq ?_
    refine awp_seq_k fun K hK => ?_
    refine awp_region rfl ?_
    simp only [z, e0, RR, seval]
    refine hK _ _ ?_; clear hK K
    refine awp_if false rfl (fun hc => by cases hc) (fun _ => ?_)
    refine awp_skip ?_; try simp only [RR]
    refine awp_seq_k fun K hK => ?_
    refine awp_region rfl ?_
    simp only [z, e0, RR, seval]
    refine hK _ _ ?_; clear hK K
    refine awp_seq ?_
    refine awp_seq_k fun K hK => ?_
    refine awp_region rfl ?_
    simp only [z, e0, RR, seval]
    refine hK _ _ ?_; clear hK K
    refine awp_name fun F1 M1 hfr hH => ?_
    have g0 := hfr 0
    have g2 := hfr 2
    have g6 := hfr 6
    have g7 := hfr 7
    have g8 := hfr 8
    try simp only [z, e0, RR, seval] at g0 g2 g6 g7 g8
    have f0 := g0; clear g0
    have f2 := g2; clear g2
    have f6 := g6; clear g6
    have f7 := g7; clear g7
    have f8 := g8; clear g8
    clear hfr hH
    refine awp_block ?_
    refine awp_while [0, 2, 6] (b) (fun m fr M => m ≤ b ∧ fr 8 = .int .u32 ((b - m : Nat) : Int) ∧ fr 7 = .int .u64 ((a / 2 ^ (b - m) : Nat) : Int)) ⟨Nat.le_refl _, (by rw [f8, Nat.sub_self]; rfl), (by rw [f7, Nat.sub_self, Nat.pow_zero, Nat.div_one])⟩ ?_
    rintro m F2 M2 ⟨hm, f8, f7⟩ agx K0 hK0
    have f0 := (agx 0 rfl).trans f0
    have f2 := (agx 2 rfl).trans f2
    have f6 := (agx 6 rfl).trans f6
    have ag0 := agree.refl [0, 2, 6] F2
    clear agx
    refine awp_seq ?_
    refine awp_seq_k fun K hK => ?_
    refine awp_region rfl ?_
    simp only [f2, f8, z, e0, RR, seval]
    refine hK _ _ ?_; clear hK K
    refine awp_if _ rfl (fun hc => ?_) (fun hc => ?_)
    · have hw0 := hc; clear hc
      obtain ⟨j, rfl⟩ : ∃ j, m = j + 1 := ⟨m - 1, by have := of_decide_eq_true hw0; omega⟩
      have hnx : a / 2 ^ (b - j) = a / 2 ^ (b - (j + 1)) / 2 := by
        rw [show b - j = b - (j + 1) + 1 by omega, Nat.pow_succ, Nat.div_div_eq_div_mul]
      have hx : a / 2 ^ (b - (j + 1)) ≤ a := Nat.div_le_self _ _
      generalize a / 2 ^ (b - (j + 1)) = x at *
      have e1 : IntKind.wrap .u64 (((x : Int)).tdiv 2) = ((x / 2 : Nat) : Int) := by rw [show ((x : Int)).tdiv 2 = ((x / 2 : Nat) : Int) from tdiv_nat x 2, w64 _ (by omega)]
      have e3 : IntKind.wrap .u32 (((b - (j + 1) : Nat) : Int) + 1) = ((b - j : Nat) : Int) := by rw [show ((b - (j + 1) : Nat) : Int) + 1 = ((b - j : Nat) : Int) by omega, w32 _ (by omega)]
      refine awp_skip ?_; try simp only [RR]
      refine awp_seq ?_
      refine awp_block ?_
      refine awp_seq_k fun K hK => ?_
      refine awp_region rfl ?_
      simp only [f0, z, e0, e1, e3, RR, seval]
      refine hK _ _ ?_; clear hK K
      refine awp_if false rfl (fun hc => by cases hc) (fun _ => ?_)
      refine awp_region rfl ?_
      simp only [f7, z, e0, e1, e3, RR, seval]
      refine awp_region rfl ?_
      simp only [f8, z, e0, e1, e3, RR, seval]
      refine hK0 (j) _ _ (by omega) ⟨(by omega), rfl, (by rw [hnx]; rfl)⟩ (by repeat (first | exact ag0 | refine agree.upd rfl ?_))
    · have hw0 := hc; clear hc
      have hk0 : m = 0 := by have := of_decide_eq_false hw0; omega
      subst hk0
      rw [Nat.sub_zero] at f7
      have e6 := w32 (a / 2 ^ b) (Nat.lt_of_le_of_lt (Nat.div_le_self _ _) ha)
      refine awp_exit ?_; simp only [RR, seval]
      refine awp_seq_k fun K hK => ?_
      refine awp_region rfl ?_
      simp only [f7, z, e0, e6, RR, seval]
      refine hK _ _ ?_; clear hK K
      refine awp_ret ?_; simp only [bodyQ, aresult, ares, f6, z, e0, e6, RR, seval]
      refine Gives.pure ?_
      rfl
set_option maxHeartbeats 4000000 in
theorem JApply_con (op : Int) {a b : Int} (ha : u32R a) (hb : u32R b) : PCon env 56 [.int .i64 op, .int .u32 a, .int .u32 b] (.tup [.int .u32 (applyI op a b).1, .int .i64 (applyI op a b).2]) := by
  obtain ⟨x, rfl⟩ := Int.eq_ofNat_of_zero_le ha.1
  obtain ⟨y, rfl⟩ := Int.eq_ofNat_of_zero_le hb.1
  have hx : x < 4294967296 := by have := ha.2; omega
  have hy : y < 4294967296 := by have := hb.2; omega
  have c1 := w64 x (by omega)
  have c2 := w64 y (by omega)
  by_cases h : op = 4 ∨ op = 5 ∨ op = 6 ∨ op = 7 ∨ op = 8 ∨ op = 9 ∨ op = 10 ∨ op = 11 ∨ op = 12 ∨ op = 13 ∨ op = 14 ∨ op = 15
  · have hbo := both_con op x y hx hy
    have hsl := jshl_con x y hx hy
    have hsr := jshr_con x y hx hy
    have hfl := fun c => flag_con c
    have s4 : IntKind.wrap .u64 ((x : Int) + (y : Int)) = ((x + y : Nat) : Int) := by rw [show (x : Int) + (y : Int) = ((x + y : Nat) : Int) by omega, w64 _ (by omega)]
    have r4 : ((x + y : Nat) : Int).tmod 4294967296 = (((x + y) % 4294967296 : Nat) : Int) := tmod_nat _ _
    have t4 := w32 ((x + y) % 4294967296) (Nat.mod_lt _ (by decide))
    have u5 : IntKind.wrap .u64 ((x : Int) + 4294967296) = ((x + 4294967296 : Nat) : Int) := by rw [show (x : Int) + 4294967296 = ((x + 4294967296 : Nat) : Int) by omega, w64 _ (by omega)]
    have s5 : IntKind.wrap .u64 (((x + 4294967296 : Nat) : Int) - (y : Int)) = ((x + 4294967296 - y : Nat) : Int) := by rw [show ((x + 4294967296 : Nat) : Int) - (y : Int) = ((x + 4294967296 - y : Nat) : Int) by omega, w64 _ (by omega)]
    have r5 : ((x + 4294967296 - y : Nat) : Int).tmod 4294967296 = (((x + 4294967296 - y) % 4294967296 : Nat) : Int) := tmod_nat _ _
    have t5 := w32 ((x + 4294967296 - y) % 4294967296) (Nat.mod_lt _ (by decide))
    have hxy : x * y < 18446744073709551616 := by
      have h1 : x * y ≤ 4294967295 * 4294967295 := Nat.mul_le_mul (by omega) (by omega)
      omega
    have s6 : IntKind.wrap .u64 ((x : Int) * (y : Int)) = ((x * y : Nat) : Int) := by rw [show (x : Int) * (y : Int) = ((x * y : Nat) : Int) by rw [Int.natCast_mul], w64 _ hxy]
    have r6 : ((x * y : Nat) : Int).tmod 4294967296 = (((x * y) % 4294967296 : Nat) : Int) := tmod_nat _ _
    have t6 := w32 ((x * y) % 4294967296) (Nat.mod_lt _ (by decide))
    have hdv : x / y ≤ x := Nat.div_le_self _ _
    have s7 : IntKind.wrap .u64 (((x : Int)).tdiv (y : Int)) = ((x / y : Nat) : Int) := by rw [tdiv_nat, w64 _ (by omega)]
    have t7 := w32 (x / y) (by omega)
    have hmd : x % y ≤ x := Nat.mod_le _ _
    have s8 : ((x : Int)).tmod (y : Int) = ((x % y : Nat) : Int) := tmod_nat x y
    have t8 := w32 (x % y) (by omega)
    have z0 : y = 0 ∨ ∃ q, (y : Int) ≠ 0 ∧ q = y := by by_cases h : y = 0; exact .inl h; exact .inr ⟨y, by omega, rfl⟩
    have a4 : applyI 4 x y = ((((x + y) % 4294967296 : Nat) : Int), 0) := by
      show (IntKind.wrap .u32 ((x : Int) + y), (0 : Int)) = _; rw [wm32, show ((x : Int) + y) % 4294967296 = (((x + y) % 4294967296 : Nat) : Int) from (Int.natCast_emod (x + y) 4294967296).symm]
    have a5 : applyI 5 x y = ((((x + 4294967296 - y) % 4294967296 : Nat) : Int), 0) := by
      show (IntKind.wrap .u32 ((x : Int) - y), (0 : Int)) = _; rw [wm32, sub_wrap x y hy]
    have a6 : applyI 6 x y = ((((x * y) % 4294967296 : Nat) : Int), 0) := by
      show (IntKind.wrap .u32 ((x : Int) * y), (0 : Int)) = _; rw [wm32, show ((x : Int) * y) % 4294967296 = (((x * y) % 4294967296 : Nat) : Int) from by rw [← Int.natCast_mul]; omega]
    have a7 : (y : Int) ≠ 0 → applyI 7 x y = (((x / y : Nat) : Int), 0) := fun h => by
      show (if (y : Int) = 0 then ((0 : Int), (14 : Int)) else (IntKind.wrap .u32 (((x : Int)).tdiv (y : Int)), 0)) = _
      rw [if_neg h, tdiv_nat, t7]
    have a8 : (y : Int) ≠ 0 → applyI 8 x y = (((x % y : Nat) : Int), 0) := fun h => by
      show (if (y : Int) = 0 then ((0 : Int), (14 : Int)) else (((x : Int)).tmod (y : Int), 0)) = _
      rw [if_neg h, tmod_nat]
    have a9 : op = 9 ∨ op = 10 ∨ op = 11 → applyI op x y = (((bothN op x y : Nat) : Int), (0 : Int)) := fun h => bothN_apply op h x y hx hy
    have a12 : applyI 12 x y = (if 31 < (y : Int) then 0 else IntKind.wrap .u32 ((x : Int) * 2 ^ (min ((y : Int)).toNat 32)), 0) := by
      show (if 31 < (y : Int) then ((0 : Int), (0 : Int)) else (IntKind.wrap .u32 ((x : Int) * 2 ^ (min ((y : Int)).toNat 32)), 0)) = _
      by_cases h : 31 < (y : Int) <;> simp only [h, if_true, if_false]
    have a13 : applyI 13 x y = (if 31 < (y : Int) then 0 else ((x : Int)).fdiv (2 ^ (min ((y : Int)).toNat 32)), 0) := by
      show (if 31 < (y : Int) then ((0 : Int), (0 : Int)) else (((x : Int)).fdiv (2 ^ (min ((y : Int)).toNat 32)), 0)) = _
      by_cases h : 31 < (y : Int) <;> simp only [h, if_true, if_false]
    have a14 : applyI 14 x y = (if decide ((x : Int) < (y : Int)) = true then 1 else 0, 0) := by simp [applyI]
    have a15 : applyI 15 x y = (if decide ((x : Int) = (y : Int)) = true then 1 else 0, 0) := by simp [applyI]
    rcases h with rfl | rfl | rfl | rfl | rfl | rfl | rfl | rfl | rfl | rfl | rfl | rfl
    all_goals first | rw [a4] | rw [a5] | rw [a6] | (rw [a9 (.inl rfl)]; have hcl := hbo) | (rw [a9 (.inr (.inl rfl))]; have hcl := hbo) | (rw [a9 (.inr (.inr rfl))]; have hcl := hbo) | (rw [a12]; have hcl := hsl) | (rw [a13]; have hcl := hsr) | (rw [a14]; have hcl := hfl (decide ((x : Int) < (y : Int)))) | (rw [a15]; have hcl := hfl (decide ((x : Int) = (y : Int)))) | skip
    case inr.inr.inr.inl =>
      rcases z0 with rfl | ⟨_, h0, _⟩
      · rw [show applyI 7 x ((0 : Nat) : Int) = (0, 14) from rfl]
        refine con_of 80 [.tmp 6, .tmp 7] Try.func56 rfl rfl rfl rfl ?_
        repeat' (first | (refine awp_seq_k fun K hK => ?_; refine awp_region rfl ?_; simp only [c1, c2, Int.natCast_zero, RR, seval]; refine hK _ _ ?_; clear hK K) | (refine awp_seq ?_) | (refine awp_block ?_) | (refine awp_if true rfl (fun _ => ?_) (fun hc => by cases hc)) | (refine awp_if false rfl (fun hc => by cases hc) (fun _ => ?_)) | (refine awp_skip ?_; simp only [thenQ, blockQ]) | (refine awp_exit ?_; simp only [thenQ, blockQ, reduceIte, Nat.reduceEqDiff]) | (refine awp_region rfl ?_; simp only [c1, c2, Int.natCast_zero, thenQ, blockQ, RR, seval]) | (refine awpG_splitN (fun h => ?_) (fun h => ?_) <;> simp only [h, c1, c2, Int.natCast_zero, thenQ, blockQ, RR, seval]) | (refine awpG_split (fun h => ?_) (fun h => ?_) <;> simp only [h, c1, c2, Int.natCast_zero, thenQ, blockQ, RR, seval]) | (refine awp_if _ rfl (fun h => ?_) (fun h => ?_)) | (refine awp_ret ?_; simp only [thenQ, blockQ, bodyQ, aresult, ares, argF, c1, c2, Int.natCast_zero, RR, seval]; refine Gives.pure ?_))
        all_goals rfl
      · rw [a7 h0]
        have h0' : ¬ (y : Int) = 0 := h0
        refine con_of 80 [.tmp 6, .tmp 7] Try.func56 rfl rfl rfl rfl ?_
        repeat' (first | (refine awp_seq_k fun K hK => ?_; refine awp_region rfl ?_; simp only [c1, c2, s7, t7, h0', RR, seval]; refine hK _ _ ?_; clear hK K) | (refine awp_seq ?_) | (refine awp_block ?_) | (refine awp_if true rfl (fun _ => ?_) (fun hc => by cases hc)) | (refine awp_if false rfl (fun hc => by cases hc) (fun _ => ?_)) | (refine awp_skip ?_; simp only [thenQ, blockQ]) | (refine awp_exit ?_; simp only [thenQ, blockQ, reduceIte, Nat.reduceEqDiff]) | (refine awp_region rfl ?_; simp only [c1, c2, s7, t7, h0', thenQ, blockQ, RR, seval]) | (refine awpG_splitN (fun h => ?_) (fun h => ?_) <;> simp only [h, c1, c2, s7, t7, h0', thenQ, blockQ, RR, seval]) | (refine awpG_split (fun h => ?_) (fun h => ?_) <;> simp only [h, c1, c2, s7, t7, h0', thenQ, blockQ, RR, seval]) | (refine awp_if _ rfl (fun h => ?_) (fun h => ?_)) | (refine awp_ret ?_; simp only [thenQ, blockQ, bodyQ, aresult, ares, argF, c1, c2, s7, t7, h0', RR, seval]; refine Gives.pure ?_))
        all_goals rfl
    case inr.inr.inr.inr.inl =>
      rcases z0 with rfl | ⟨_, h0, _⟩
      · rw [show applyI 8 x ((0 : Nat) : Int) = (0, 14) from rfl]
        refine con_of 80 [.tmp 6, .tmp 7] Try.func56 rfl rfl rfl rfl ?_
        repeat' (first | (refine awp_seq_k fun K hK => ?_; refine awp_region rfl ?_; simp only [c1, c2, Int.natCast_zero, RR, seval]; refine hK _ _ ?_; clear hK K) | (refine awp_seq ?_) | (refine awp_block ?_) | (refine awp_if true rfl (fun _ => ?_) (fun hc => by cases hc)) | (refine awp_if false rfl (fun hc => by cases hc) (fun _ => ?_)) | (refine awp_skip ?_; simp only [thenQ, blockQ]) | (refine awp_exit ?_; simp only [thenQ, blockQ, reduceIte, Nat.reduceEqDiff]) | (refine awp_region rfl ?_; simp only [c1, c2, Int.natCast_zero, thenQ, blockQ, RR, seval]) | (refine awpG_splitN (fun h => ?_) (fun h => ?_) <;> simp only [h, c1, c2, Int.natCast_zero, thenQ, blockQ, RR, seval]) | (refine awpG_split (fun h => ?_) (fun h => ?_) <;> simp only [h, c1, c2, Int.natCast_zero, thenQ, blockQ, RR, seval]) | (refine awp_if _ rfl (fun h => ?_) (fun h => ?_)) | (refine awp_ret ?_; simp only [thenQ, blockQ, bodyQ, aresult, ares, argF, c1, c2, Int.natCast_zero, RR, seval]; refine Gives.pure ?_))
        all_goals rfl
      · rw [a8 h0]
        have h0' : ¬ (y : Int) = 0 := h0
        refine con_of 80 [.tmp 6, .tmp 7] Try.func56 rfl rfl rfl rfl ?_
        repeat' (first | (refine awp_seq_k fun K hK => ?_; refine awp_region rfl ?_; simp only [c1, c2, s8, t8, h0', RR, seval]; refine hK _ _ ?_; clear hK K) | (refine awp_seq ?_) | (refine awp_block ?_) | (refine awp_if true rfl (fun _ => ?_) (fun hc => by cases hc)) | (refine awp_if false rfl (fun hc => by cases hc) (fun _ => ?_)) | (refine awp_skip ?_; simp only [thenQ, blockQ]) | (refine awp_exit ?_; simp only [thenQ, blockQ, reduceIte, Nat.reduceEqDiff]) | (refine awp_region rfl ?_; simp only [c1, c2, s8, t8, h0', thenQ, blockQ, RR, seval]) | (refine awpG_splitN (fun h => ?_) (fun h => ?_) <;> simp only [h, c1, c2, s8, t8, h0', thenQ, blockQ, RR, seval]) | (refine awpG_split (fun h => ?_) (fun h => ?_) <;> simp only [h, c1, c2, s8, t8, h0', thenQ, blockQ, RR, seval]) | (refine awp_if _ rfl (fun h => ?_) (fun h => ?_)) | (refine awp_ret ?_; simp only [thenQ, blockQ, bodyQ, aresult, ares, argF, c1, c2, s8, t8, h0', RR, seval]; refine Gives.pure ?_))
        all_goals rfl
    all_goals
      refine con_of 80 [.tmp 6, .tmp 7] Try.func56 rfl rfl rfl rfl ?_
      repeat' (first | (refine awp_seq_k fun K hK => ?_; refine awp_region rfl ?_; simp only [c1, c2, s4, r4, t4, u5, s5, r5, t5, s6, r6, t6, RR, seval]; refine hK _ _ ?_; clear hK K) | (refine awp_seq ?_) | (refine awp_block ?_) | (refine awp_if true rfl (fun _ => ?_) (fun hc => by cases hc)) | (refine awp_if false rfl (fun hc => by cases hc) (fun _ => ?_)) | (refine awp_skip ?_; simp only [thenQ, blockQ]) | (refine awp_exit ?_; simp only [thenQ, blockQ, reduceIte, Nat.reduceEqDiff]) | (refine awp_region rfl ?_; simp only [c1, c2, s4, r4, t4, u5, s5, r5, t5, s6, r6, t6, thenQ, blockQ, RR, seval]) | (refine awpG_splitN (fun h => ?_) (fun h => ?_) <;> simp only [h, c1, c2, s4, r4, t4, u5, s5, r5, t5, s6, r6, t6, thenQ, blockQ, RR, seval]) | (refine awpG_split (fun h => ?_) (fun h => ?_) <;> simp only [h, c1, c2, s4, r4, t4, u5, s5, r5, t5, s6, r6, t6, thenQ, blockQ, RR, seval]) | (refine awp_if _ rfl (fun h => ?_) (fun h => ?_)) | (refine awp_ret ?_; simp only [thenQ, blockQ, bodyQ, aresult, ares, argF, c1, c2, s4, r4, t4, u5, s5, r5, t5, s6, r6, t6, RR, seval]; refine Gives.pure ?_) | (refine awpC_pure' (hcl) ?_; simp only [c1, c2, s4, r4, t4, u5, s5, r5, t5, s6, r6, t6, thenQ, blockQ, RR, seval]))
      all_goals rfl
  · have n4 : ¬ op = 4 := fun e => h (by simp [e])
    have n5 : ¬ op = 5 := fun e => h (by simp [e])
    have n6 : ¬ op = 6 := fun e => h (by simp [e])
    have n7 : ¬ op = 7 := fun e => h (by simp [e])
    have n8 : ¬ op = 8 := fun e => h (by simp [e])
    have n9 : ¬ op = 9 := fun e => h (by simp [e])
    have n10 : ¬ op = 10 := fun e => h (by simp [e])
    have n11 : ¬ op = 11 := fun e => h (by simp [e])
    have n12 : ¬ op = 12 := fun e => h (by simp [e])
    have n13 : ¬ op = 13 := fun e => h (by simp [e])
    have n14 : ¬ op = 14 := fun e => h (by simp [e])
    have n15 : ¬ op = 15 := fun e => h (by simp [e])
    have e : applyI op x y = (0, 1) := by simp [applyI, n4, n5, n6, n7, n8, n9, n10, n11, n12, n13, n14, n15]
    rw [e]
    refine con_of 80 [.tmp 6, .tmp 7] Try.func56 rfl rfl rfl rfl ?_
    repeat' (first | (refine awp_seq_k fun K hK => ?_; refine awp_region rfl ?_; simp only [c1, c2, n4, n5, n6, n7, n8, n9, n10, n11, n12, n13, n14, n15, RR, seval]; refine hK _ _ ?_; clear hK K) | (refine awp_seq ?_) | (refine awp_block ?_) | (refine awp_if true rfl (fun _ => ?_) (fun hc => by cases hc)) | (refine awp_if false rfl (fun hc => by cases hc) (fun _ => ?_)) | (refine awp_skip ?_; simp only [thenQ, blockQ]) | (refine awp_exit ?_; simp only [thenQ, blockQ, reduceIte, Nat.reduceEqDiff]) | (refine awp_region rfl ?_; simp only [c1, c2, n4, n5, n6, n7, n8, n9, n10, n11, n12, n13, n14, n15, thenQ, blockQ, RR, seval]) | (refine awpG_splitN (fun h => ?_) (fun h => ?_) <;> simp only [h, c1, c2, n4, n5, n6, n7, n8, n9, n10, n11, n12, n13, n14, n15, thenQ, blockQ, RR, seval]) | (refine awpG_split (fun h => ?_) (fun h => ?_) <;> simp only [h, c1, c2, n4, n5, n6, n7, n8, n9, n10, n11, n12, n13, n14, n15, thenQ, blockQ, RR, seval]) | (refine awp_if _ rfl (fun h => ?_) (fun h => ?_)) | (refine awp_ret ?_; simp only [thenQ, blockQ, bodyQ, aresult, ares, argF, c1, c2, n4, n5, n6, n7, n8, n9, n10, n11, n12, n13, n14, n15, RR, seval]; refine Gives.pure ?_))
    all_goals rfl
end Go.Proofs.Ytlokndnkpleegaa

namespace Go.Al
/-- the judge's run: its block r; the variables; the arrays' blocks; what has been put out; the end -/
structure RunJ (p : Pg) (cx : Cx) (r : Nat) (vv : AV) (abs : List Nat) (st : RS) (vo : AV) (en : Int) (H : Hp) : Prop where
  r : H r = some (.rows 11 [[.isl 1 (p.vars.map strRow), .isl 2 (p.arrs.map Ar.row), .isl 5 (p.funs.map Fu.row), .str cx.inp, .int .i64 cx.fuel, vv, .isl 1 (arrRows abs st.arrs), vo, .int .i64 st.read, .int .i64 st.ticks, .int .i64 en]])
  v : OwnL 1 vv (st.vars.map rowU) H
  al : abs.length = st.arrs.length
  a : ∀ (i : Nat) b l, abs[i]? = some b → st.arrs[i]? = some l → H b = some (.rows 1 (l.map rowU))
  nd : abs.Nodup
  va : ∀ b ∈ abs, off vv b
  o : OwnL 1 vo (st.out.map rowB) H
  ov : ∀ s b n, vv = .osl s b n → off vo b
  oa : ∀ b ∈ abs, off vo b
  uv : ∀ x ∈ st.vars, u32R x
  ua : ∀ l ∈ st.arrs, l.length ≤ 4096 ∧ ∀ x ∈ l, u32R x
  ub : st.out.length ≤ 65536
  rd : st.read ≤ cx.inp.length
  tk : st.ticks ≤ cx.fuel
def keepsJ (r : Nat) (vv : AV) (abs : List Nat) (vo vo' : AV) (H H' : Hp) : Prop := ∀ b o, H b = some o → b ≠ r → off vv b → b ∉ abs → off vo b → H' b = some o ∧ off vo' b
/-- words that are not the run's -/
structure OwnW (vv : AV) (abs : List Nat) (vo : AV) (wv : AV) (ow : List Int) (H : Hp) : Prop where
  h : OwnL 1 wv (ow.map rowU) H
  nv : ∀ s b n, wv = .osl s b n → off vv b
  na : ∀ s b n, wv = .osl s b n → b ∉ abs
  nf : ∀ s b n, wv = .osl s b n → off vo b
/-- .. that may turn frame x and the words wv -/
def keepsW (r : Nat) (vv : AV) (abs : List Nat) (vo vo' : AV) (x : Nat) (wv : AV) (H H' : Hp) : Prop := ∀ b o, H b = some o → b ≠ r → off vv b → b ∉ abs → off vo b → b ≠ x → off wv b → H' b = some o ∧ off vo' b
section
variable {p : Pg} {cx : Cx} {r : Nat} {vv vo vo' vo2 wv : AV} {abs : List Nat} {st : RS} {en : Int} {ow : List Int} {H H' H2 : Hp} {x : Nat}
theorem keepsJ.refl (r : Nat) (vv : AV) (abs : List Nat) (vo : AV) (H : Hp) : keepsJ r vv abs vo vo H H := fun _ _ h _ _ _ ho => ⟨h, ho⟩
theorem keepsJ.trans (h : keepsJ r vv abs vo vo' H H') (h' : keepsJ r vv abs vo' vo2 H' H2) : keepsJ r vv abs vo vo2 H H2 := fun b o hb h1 h2 h3 h4 => by
  obtain ⟨g1, g2⟩ := h b o hb h1 h2 h3 h4
  exact h' b o g1 h1 h2 h3 g2
theorem keepsJ.w (h : keepsJ r vv abs vo vo' H H') (x : Nat) (wv : AV) : keepsW r vv abs vo vo' x wv H H' := fun b o hb h1 h2 h3 h4 _ _ => h b o hb h1 h2 h3 h4
theorem keepsW.trans (h : keepsW r vv abs vo vo' x wv H H') (h' : keepsW r vv abs vo' vo2 x wv H' H2) : keepsW r vv abs vo vo2 x wv H H2 := fun b o hb h1 h2 h3 h4 h5 h6 => by
  obtain ⟨g1, g2⟩ := h b o hb h1 h2 h3 h4 h5 h6
  exact h' b o g1 h1 h2 h3 g2 h5 h6
theorem keepsW.new {b : Nat} {o : Option AObj} (hn : H b = none) (h : keepsW r vv abs vo vo' x wv (Al.upd H b o) H') : keepsW r vv abs vo vo' x wv H H' := fun b' o' hb h1 h2 h3 h4 h5 h6 => by
  have : b' ≠ b := fun e => by rw [e, hn] at hb; cases hb
  exact h b' o' (by rw [upd_ne _ _ this]; exact hb) h1 h2 h3 h4 h5 h6
theorem keepsJ.new {b : Nat} {o : Option AObj} (hn : H b = none) (h : keepsJ r vv abs vo vo' (Al.upd H b o) H') : keepsJ r vv abs vo vo' H H' := fun b' o' hb h1 h2 h3 h4 => by
  have : b' ≠ b := fun e => by rw [e, hn] at hb; cases hb
  exact h b' o' (by rw [upd_ne _ _ this]; exact hb) h1 h2 h3 h4
theorem keepsJ.updN (h : keepsJ r vv abs vo vo' H H') {b : Nat} (hb : H b = none) (o : Option AObj) : keepsJ r vv abs vo vo' H (Al.upd H' b o) := fun b' o' hb' h1 h2 h3 h4 => by
  obtain ⟨g1, g2⟩ := h b' o' hb' h1 h2 h3 h4
  have : b' ≠ b := fun e => by rw [e, hb] at hb'; cases hb'
  exact ⟨by rw [upd_ne _ _ this]; exact g1, g2⟩
theorem RunJ.same (h : RunJ p cx r vv abs st vo en H) (he : ∀ b, H' b = H b) : RunJ p cx r vv abs st vo en H' := by
  have : H' = H := funext he
  rw [this]; exact h
theorem OwnW.same (h : OwnW vv abs vo wv ow H) (he : ∀ b, H' b = H b) : OwnW vv abs vo wv ow H' := by
  have : H' = H := funext he
  rw [this]; exact h
theorem RunJ.abs_some (h : RunJ p cx r vv abs st vo en H) {b : Nat} (hb : b ∈ abs) : ∃ l, H b = some (.rows 1 l) := by
  obtain ⟨i, hi⟩ := List.getElem?_of_mem hb
  have hl : i < st.arrs.length := by have := (List.getElem?_eq_some_iff.1 hi).1; rw [← h.al]; exact this
  exact ⟨_, h.a i b _ hi (List.getElem?_eq_getElem hl)⟩
/-- a block of other rows than one cell each is none of the run's lists -/
theorem RunJ.apart (h : RunJ p cx r vv abs st vo en H) {b sz : Nat} {l : List (List AV)} (hb : H b = some (.rows sz l)) (h1 : sz ≠ 1) (h2 : sz ≠ 11) : b ≠ r ∧ off vv b ∧ b ∉ abs ∧ off vo b :=
  ⟨fun e => by rw [e, h.r] at hb; cases hb; exact h2 rfl, h.v.offsz hb h1, fun e => by obtain ⟨l', hl⟩ := h.abs_some e; rw [hl] at hb; cases hb; exact h1 rfl, h.o.offsz hb h1⟩
theorem RunJ.keep (h : RunJ p cx r vv abs st vo en H) {b sz : Nat} {l : List (List AV)} (hb : H b = some (.rows sz l)) (h1 : sz ≠ 1) (h2 : sz ≠ 11) (hk : keepsJ r vv abs vo vo' H H') : H' b = some (.rows sz l) := by
  obtain ⟨g1, g2, g3, g4⟩ := h.apart hb h1 h2
  exact (hk b _ hb g1 g2 g3 g4).1
theorem RunJ.keepW (h : RunJ p cx r vv abs st vo en H) (hw : OwnW vv abs vo wv ow H) {b sz : Nat} {l : List (List AV)} (hb : H b = some (.rows sz l)) (h1 : sz ≠ 1) (h2 : sz ≠ 11) (hx : b ≠ x) (hk : keepsW r vv abs vo vo' x wv H H') : H' b = some (.rows sz l) := by
  obtain ⟨g1, g2, g3, g4⟩ := h.apart hb h1 h2
  exact (hk b _ hb g1 g2 g3 g4 hx (hw.h.offsz hb h1)).1
theorem RunJ.nr (h : RunJ p cx r vv abs st vo en H) {b : Nat} {l : List (List AV)} (hb : H b = some (.rows 1 l)) : b ≠ r := fun e => by rw [e, h.r] at hb; cases hb
theorem OwnW.keep (h : OwnW vv abs vo wv ow H) (hr : RunJ p cx r vv abs st vo en H) (hk : keepsJ r vv abs vo vo' H H') : OwnW vv abs vo' wv ow H' := by
  rcases h.h with ⟨rfl, e⟩ | ⟨b, rfl, hb⟩
  · exact ⟨.inl ⟨rfl, e⟩, (fun _ _ _ e => by cases e), (fun _ _ _ e => by cases e), (fun _ _ _ e => by cases e)⟩
  · obtain ⟨g1, g2⟩ := hk b _ hb (hr.nr hb) (h.nv _ _ _ rfl) (h.na _ _ _ rfl) (h.nf _ _ _ rfl)
    exact ⟨.inr ⟨b, rfl, g1⟩, h.nv, h.na, fun s b' n e => by cases e; exact g2⟩
/-- a new block -/
theorem RunJ.new (h : RunJ p cx r vv abs st vo en H) {b : Nat} (hb : H b = none) (o : Option AObj) : RunJ p cx r vv abs st vo en (upd H b o) := by
  have n1 : r ≠ b := fun e => by have := h.r; rw [e, hb] at this; cases this
  refine { h with r := by rw [upd_ne _ _ n1]; exact h.r, v := h.v.upd hb o, a := fun i b' l h1 h2 => ?_, o := h.o.upd hb o }
  have n3 : b' ≠ b := fun e => by obtain ⟨l, hl⟩ := h.abs_some (List.mem_of_getElem? h1); rw [e, hb] at hl; cases hl
  rw [upd_ne _ _ n3]; exact h.a i b' l h1 h2
theorem OwnW.new (h : OwnW vv abs vo wv ow H) {b : Nat} (hb : H b = none) (o : Option AObj) : OwnW vv abs vo wv ow (upd H b o) := ⟨h.h.upd hb o, h.nv, h.na, h.nf⟩
theorem OwnW.off (h : OwnW vv abs vo wv ow H) {b : Nat} (hb : Al.off wv b) (o : Option AObj) : OwnW vv abs vo wv ow (upd H b o) := ⟨h.h.off hb o, h.nv, h.na, h.nf⟩
/-- a block that is not the run's -/
theorem RunJ.other (h : RunJ p cx r vv abs st vo en H) {b : Nat} (n1 : b ≠ r) (n2 : Al.off vv b) (n3 : b ∉ abs) (n4 : Al.off vo b) (o : Option AObj) : RunJ p cx r vv abs st vo en (upd H b o) := by
  refine { h with r := by rw [upd_ne _ _ (Ne.symm n1)]; exact h.r, v := h.v.off n2 o, a := fun i b' l h1 h2 => ?_, o := h.o.off n4 o }
  rw [upd_ne _ _ (fun e => n3 (by rw [← e]; exact List.mem_of_getElem? h1))]; exact h.a i b' l h1 h2
/-- the run's own row turned: ticks, the place in the input, the end -/
theorem RunJ.turn (h : RunJ p cx r vv abs st vo en H) {st' : RS} (en' : Int) (hv : st'.vars = st.vars) (ha : st'.arrs = st.arrs) (ho : st'.out = st.out) (hrd : st'.read ≤ cx.inp.length) (htk : st'.ticks ≤ cx.fuel) :
    RunJ p cx r vv abs st' vo en' (upd H r (some (.rows 11 [[.isl 1 (p.vars.map strRow), .isl 2 (p.arrs.map Ar.row), .isl 5 (p.funs.map Fu.row), .str cx.inp, .int .i64 cx.fuel, vv, .isl 1 (arrRows abs st.arrs), vo, .int .i64 st'.read, .int .i64 st'.ticks, .int .i64 en']]))) := by
  have hob : off vo r := h.o.offsz h.r (by decide)
  have hvb : off vv r := h.v.offsz h.r (by decide)
  refine ⟨by rw [upd_same, ha], by rw [hv]; exact h.v.off hvb _, by rw [ha]; exact h.al, fun i b' l h1 h2 => ?_, h.nd, h.va, by rw [ho]; exact h.o.off hob _, h.ov, h.oa, by rw [hv]; exact h.uv, by rw [ha]; exact h.ua, by rw [ho]; exact h.ub, hrd, htk⟩
  rw [ha] at h2
  have hb' := h.a i b' l h1 h2
  rw [upd_ne _ _ (h.nr hb')]; exact hb'
theorem keepsJ.run (o : Option AObj) : keepsJ r vv abs vo vo H (upd H r o) := fun b' o' hb h1 _ _ h4 => ⟨by rw [upd_ne _ _ h1]; exact hb, h4⟩
theorem keepsJ.vars {s b n : Nat} (hv : vv = .osl s b n) (o : Option AObj) : keepsJ r vv abs vo vo H (upd H b o) := fun b' o' hb _ h2 _ h4 => ⟨by rw [upd_ne _ _ (fun e => h2 _ _ (by rw [hv, e]))]; exact hb, h4⟩
theorem keepsJ.arr {b : Nat} (hb : b ∈ abs) (o : Option AObj) : keepsJ r vv abs vo vo H (upd H b o) := fun b' o' hb' _ _ h3 h4 => ⟨by rw [upd_ne _ _ (fun e => h3 (by rw [e]; exact hb))]; exact hb', h4⟩
/-- a variable is set -/
theorem RunJ.setV {b : Nat} (h : RunJ p cx r (.osl 1 b st.vars.length) abs st vo en H) (i : Nat) (v : Int) (hv : u32R v) : RunJ p cx r (.osl 1 b st.vars.length) abs { st with vars := st.vars.set i v } vo en (upd H b (some (.rows 1 ((st.vars.map rowU).set i [.int .u32 v])))) := by
  have hb : H b = some (.rows 1 (st.vars.map rowU)) := by
    rcases h.v with ⟨e, _⟩ | ⟨b', e, hb⟩
    · cases e
    · simp only [AV.osl.injEq] at e
      obtain ⟨_, rfl, _⟩ := e
      exact hb
  have n2 : r ≠ b := fun e => h.nr hb e.symm
  refine ⟨?_, ?_, h.al, fun i b' l h1 h2 => ?_, h.nd, h.va, h.o.off (h.ov _ _ _ rfl) _, h.ov, h.oa, fun x hx => ?_, h.ua, h.ub, h.rd, h.tk⟩
  · rw [upd_ne _ _ n2]; exact h.r
  · exact .inr ⟨b, by simp, by rw [upd_same, map_set_U]⟩
  · rw [upd_ne _ _ (fun e => h.va b' (List.mem_of_getElem? h1) _ _ (by rw [e]))]; exact h.a i b' l h1 h2
  · rcases List.mem_or_eq_of_mem_set hx with hx | rfl
    · exact h.uv x hx
    · exact hv
/-- an array's word is set -/
theorem RunJ.setA (h : RunJ p cx r vv abs st vo en H) {i : Nat} {b : Nat} {l : List Int} (h1 : abs[i]? = some b) (h2 : st.arrs[i]? = some l) (j : Nat) (v : Int) (hv : u32R v) : RunJ p cx r vv abs { st with arrs := st.arrs.modify i fun l => l.set j v } vo en (upd H b (some (.rows 1 ((l.map rowU).set j [.int .u32 v])))) := by
  have hm := List.mem_of_getElem? h1
  have n1 : r ≠ b := fun e => h.nr (h.a i b l h1 h2) e.symm
  refine ⟨?_, h.v.off (h.va b hm) _, by simp only [List.length_modify]; exact h.al, fun i' b' l' h1' h2' => ?_, h.nd, h.va, h.o.off (h.oa b hm) _, h.ov, h.oa, h.uv, fun l' hl' => ?_, h.ub, h.rd, h.tk⟩
  · rw [upd_ne _ _ n1]
    simp only
    rw [arrRows_set abs st.arrs i _ (fun l => by simp)]
    exact h.r
  · simp only [List.getElem?_modify] at h2'
    by_cases hi : i = i'
    · subst hi
      rw [h1] at h1'
      cases h1'
      rw [h2] at h2'
      have h2' : l.set j v = l' := by simpa using h2'
      subst h2'
      rw [upd_same, map_set_U]
    · have h2' : st.arrs[i']? = some l' := by simpa [if_neg hi] using h2'
      have : b' ≠ b := fun e => by
        subst e
        exact hi ((List.getElem?_inj (List.getElem?_eq_some_iff.1 h1).1 h.nd).1 (h1.trans h1'.symm))
      rw [upd_ne _ _ this]
      exact h.a i' b' l' h1' h2'
  · obtain ⟨i', hi'⟩ := List.getElem?_of_mem hl'
    rw [List.getElem?_modify] at hi'
    obtain ⟨l0, hl0, rfl⟩ : ∃ l0, st.arrs[i']? = some l0 ∧ (if i = i' then l0.set j v else l0) = l' := by
      cases hq : st.arrs[i']? with
      | none => rw [hq] at hi'; simp at hi'
      | some l0 => rw [hq] at hi'; exact ⟨l0, rfl, by simpa using hi'⟩
    have := h.ua l0 (List.mem_of_getElem? hl0)
    split
    · refine ⟨by simpa using this.1, fun x hx => ?_⟩
      rcases List.mem_or_eq_of_mem_set hx with hx | rfl
      · exact this.2 x hx
      · exact hv
    · exact this
/-- a byte is put out -/
theorem RunJ.put {v' : AV} (h : RunJ p cx r vv abs st vo en H) {c : UInt8} (hl : st.out.length < 65536) (ho : OwnL 1 v' (st.out.map rowB ++ [rowB c]) H')
    (hk : ∀ b o, H b = some o → vo ≠ .osl 1 b (st.out.map rowB).length → H' b = some o) (hg : ∀ b, off vo b → H b ≠ none → off v' b) :
    RunJ p cx r vv abs { st with out := st.out ++ [c] } v' en (upd H' r (some (.rows 11 [[.isl 1 (p.vars.map strRow), .isl 2 (p.arrs.map Ar.row), .isl 5 (p.funs.map Fu.row), .str cx.inp, .int .i64 cx.fuel, vv, .isl 1 (arrRows abs st.arrs), v', .int .i64 st.read, .int .i64 st.ticks, .int .i64 en]]))) ∧
    keepsJ r vv abs vo v' H (upd H' r (some (.rows 11 [[.isl 1 (p.vars.map strRow), .isl 2 (p.arrs.map Ar.row), .isl 5 (p.funs.map Fu.row), .str cx.inp, .int .i64 cx.fuel, vv, .isl 1 (arrRows abs st.arrs), v', .int .i64 st.read, .int .i64 st.ticks, .int .i64 en]]))) := by
  have hob : off vo r := h.o.offsz h.r (by decide)
  have hvb : off vv r := h.v.offsz h.r (by decide)
  have hob' : off v' r := hg r hob (by rw [h.r]; exact Option.some_ne_none _)
  have hvv : ∀ s b n, vv = .osl s b n → H b = some (.rows 1 (st.vars.map rowU)) := fun s b n e => by
    rcases h.v with ⟨e', _⟩ | ⟨b', e', hb⟩
    · rw [e'] at e; cases e
    · rw [e'] at e; cases e; exact hb
  refine ⟨⟨upd_same _ _ _, ?_, h.al, fun i b' l h1 h2 => ?_, h.nd, h.va, ?_, fun s b n e => hg b (h.ov s b n e) (by rw [hvv s b n e]; exact Option.some_ne_none _), fun b hb => hg b (h.oa b hb) (by obtain ⟨l, hl⟩ := h.abs_some hb; rw [hl]; exact Option.some_ne_none _), h.uv, h.ua, ?_, h.rd, h.tk⟩, fun b o hb h1 h2 h3 h4 => ⟨?_, hg b h4 (by rw [hb]; exact Option.some_ne_none _)⟩⟩
  · rcases h.v with g | ⟨b, e, hb⟩
    · exact .inl g
    · exact .inr ⟨b, e, by rw [upd_ne _ _ (h.nr hb)]; exact hk _ _ hb (h.ov _ _ _ e _ _)⟩
  · have hb := h.a i b' l h1 h2
    rw [upd_ne _ _ (h.nr hb)]; exact hk _ _ hb (h.oa b' (List.mem_of_getElem? h1) _ _)
  · rw [List.map_append]
    exact ho.off hob' _
  · simp only [List.length_append, List.length_singleton]; omega
  · rw [upd_ne _ _ h1]; exact hk _ _ hb (h4 _ _)
/-- the words of a frame, where there are any -/
theorem OwnW.osl (h : OwnW vv abs vo wv ow H) {i : Nat} {y : Int} (hi : ow[i]? = some y) : ∃ b, wv = .osl 1 b ow.length ∧ H b = some (.rows 1 (ow.map rowU)) := by
  rcases h.h with ⟨_, e⟩ | ⟨b, e, hb⟩
  · have := congrArg List.length e
    have := (List.getElem?_eq_some_iff.1 hi).1
    simp only [List.length_map, List.length_nil] at *; omega
  · exact ⟨b, by rw [e, List.length_map], hb⟩
theorem RunJ.osl (h : RunJ p cx r vv abs st vo en H) {i : Nat} {y : Int} (hi : st.vars[i]? = some y) : ∃ b, vv = .osl 1 b st.vars.length ∧ H b = some (.rows 1 (st.vars.map rowU)) := by
  rcases h.v with ⟨_, e⟩ | ⟨b, e, hb⟩
  · have := congrArg List.length e
    have := (List.getElem?_eq_some_iff.1 hi).1
    simp only [List.length_map, List.length_nil] at *; omega
  · exact ⟨b, by rw [e, List.length_map], hb⟩
end
def enR {α : Type} : Rz α → Int | .val _ _ => 0 | .fin e _ => e
/-- a piece of a run whose state may have come to its end -/
def contJ {α : Type} (en : Int) (st : RS) (f : Option (Rz α)) (o : Rz α) : Prop := (en = 0 ∧ f = some o) ∨ (en ≠ 0 ∧ o = .fin en st)
/-- how a piece of the judge's run ends -/
def postJ (p : Pg) (cx : Cx) (r : Nat) (vv : AV) (abs : List Nat) (vo : AV) (H : Hp) (o : Rz Int) : AEnd → Hp → Prop := fun ae H' =>
  ∃ w vo', ae = .ret (.int .u32 w) ∧ u32R w ∧ (∀ v s, o = .val v s → w = v) ∧ (∀ e s, o = .fin e s → e ≠ 0) ∧ RunJ p cx r vv abs o.st vo' (enR o) H' ∧ keepsJ r vv abs vo vo' H H'
/-- how a statement ends -/
def postT (p : Pg) (cx : Cx) (r : Nat) (vv : AV) (abs : List Nat) (vo : AV) (x i : Nat) (wv : AV) (n : Nat) (H : Hp) (o : Rz (Option Int × List Int)) : AEnd → Hp → Prop := fun ae H' =>
  ∃ ow bk vl vo', ae = .ret (.tup []) ∧ ow.length = n ∧ (∀ y ∈ ow, u32R y) ∧ u32R vl ∧ (bk = false → vl = 0) ∧ (∀ q s, o = .val q s → ow = q.2 ∧ bk = q.1.isSome ∧ vl = q.1.getD 0) ∧ (∀ e s, o = .fin e s → e ≠ 0) ∧ H' x = some (.rows 4 [[.int .i64 i, wv, .bool bk, .int .u32 vl]]) ∧ OwnW vv abs vo' wv ow H' ∧ RunJ p cx r vv abs o.st vo' (enR o) H' ∧ keepsW r vv abs vo vo' x wv H H'
end Go.Al

namespace Go.Al
theorem enR_val {α : Type} {o : Rz α} (he : ∀ e s, o = .fin e s → e ≠ 0) (h : enR o = 0) : ∃ v s, o = .val v s := by
  cases o with
  | val v s => exact ⟨v, s, rfl⟩
  | fin e s => exact absurd h (he e s rfl)
theorem enR_fin {α : Type} {o : Rz α} (h : ¬ enR o = 0) : ∃ e s, o = .fin e s := by
  cases o with
  | val v s => exact absurd rfl h
  | fin e s => exact ⟨e, s, rfl⟩
theorem cont2 {α β γ : Type} {r1 : Rz α} {f : RS → Option (Rz β)} {K : α → β → RS → Option (Rz γ)} {o : Rz γ} (he : ∀ e s, r1 = .fin e s → e ≠ 0) (h : bindR (some r1) (fun x s => bindR (f s) (K x)) = some o) :
    ∃ r2, contJ (enR r1) r1.st (f r1.st) r2 ∧ ((∃ x s1, r1 = .val x s1 ∧ f s1 = some r2 ∧ bindR (some r2) (K x) = some o) ∨ (∃ e s, r1 = .fin e s ∧ r2 = .fin e s ∧ o = .fin e s)) := by
  cases r1 with
  | fin e s => exact ⟨.fin e s, .inr ⟨he e s rfl, rfl⟩, .inr ⟨e, s, rfl, rfl, (Option.some.inj (show some (Rz.fin e s) = some o from h)).symm⟩⟩
  | val x s =>
    simp only [bindR] at h
    cases h2 : f s with
    | none => rw [h2] at h; cases h
    | some r2 => rw [h2] at h; exact ⟨r2, .inl ⟨rfl, h2⟩, .inl ⟨x, s, rfl, h2, h⟩⟩
theorem usesE_mem {a : Ex} : ∀ {l : List Ex}, a ∈ l → (∀ u ∈ useX a, u ∈ usesE l) ∧ ∀ u ∈ usesE a.kids, u ∈ usesE l
  | x :: l, h => by
    rw [usesE_cons]
    rcases List.mem_cons.1 h with rfl | h
    · exact ⟨fun u hu => by simp [hu], fun u hu => by simp [hu]⟩
    · have := usesE_mem h
      exact ⟨fun u hu => by simp [this.1 u hu], fun u hu => by simp [this.2 u hu]⟩
theorem usesS_mem {a : Sm} : ∀ {l : List Sm}, a ∈ l → (∀ u ∈ useS a, u ∈ usesS l) ∧ (∀ u ∈ usesE a.es, u ∈ usesS l) ∧ (∀ u ∈ usesS a.thn, u ∈ usesS l) ∧ ∀ u ∈ usesS a.els, u ∈ usesS l
  | x :: l, h => by
    rw [usesS_cons]
    rcases List.mem_cons.1 h with rfl | h
    · exact ⟨fun u hu => by simp [hu], fun u hu => by simp [hu], fun u hu => by simp [hu], fun u hu => by simp [hu]⟩
    · have := usesS_mem h
      exact ⟨fun u hu => by simp [this.1 u hu], fun u hu => by simp [this.2.1 u hu], fun u hu => by simp [this.2.2.1 u hu], fun u hu => by simp [this.2.2.2 u hu]⟩
end Go.Al
namespace Go.Proofs.Ytlokndnkpleegaa
open Go.Al
/-- a name that is used, found by the judge -/
structure UJ (p : Pg) (i : Nat) (rs : Str → Bool × Int) (u : Us) : Prop where
  f : PCon env 54 [p.av, .int .i64 i, .str u.name] (.tup [.int .i64 (findF p i u.name).1, .int .i64 (findF p i u.name).2])
  r : rs u.name = (decide ((findF p i u.name).1 = 1), if (findF p i u.name).1 = 0 then 0 else (findF p i u.name).2)
  o : okUse p i u = true
  n : numU p i u = true
theorem UJ.k1 {p : Pg} {i : Nat} {rs : Str → Bool × Int} {s : Str} {n : Int} (h : UJ p i rs ⟨s, 1, n⟩) : ((findF p i s).1 = 1 ∧ rs s = (true, (findF p i s).2)) ∨ ((findF p i s).1 = 2 ∧ rs s = (false, (findF p i s).2)) := by
  have hr := h.r
  have ho := h.o
  simp only [okUse, Bool.not_eq_true', Bool.or_eq_false_iff, Bool.and_eq_false_iff, decide_eq_false_iff_not, Bool.not_eq_false', decide_eq_true_eq] at ho
  rcases ho.1.1 with (h1 | h1) | h1
  · exact absurd trivial h1
  · simp only [h1] at hr; exact .inl ⟨h1, hr⟩
  · simp only [h1] at hr; exact .inr ⟨h1, hr⟩
theorem UJ.k3 {p : Pg} {i : Nat} {rs : Str → Bool × Int} {s : Str} {n : Int} (h : UJ p i rs ⟨s, 3, n⟩) : (findF p i s).1 = 3 ∧ rs s = (false, (findF p i s).2) := by
  have hr := h.r
  have ho := h.o
  simp only [okUse, Bool.not_eq_true', Bool.or_eq_false_iff, Bool.and_eq_false_iff, decide_eq_false_iff_not, Bool.not_eq_false', decide_eq_true_eq] at ho
  rcases ho.1.2 with h1 | h1
  · exact absurd trivial h1
  · simp only [h1] at hr; exact ⟨h1, hr⟩
theorem UJ.k4 {p : Pg} {i : Nat} {rs : Str → Bool × Int} {s : Str} {n : Int} (h : UJ p i rs ⟨s, 4, n⟩) : (findF p i s).1 = 4 ∧ rs s = (false, (findF p i s).2) ∧ ∃ g, p.funs[(findF p i s).2.toNat]? = some g ∧ (g.params.length : Int) = n := by
  have hr := h.r
  have ho := h.o
  have hn := h.n
  simp only [okUse, Bool.not_eq_true', Bool.or_eq_false_iff, Bool.and_eq_false_iff, decide_eq_false_iff_not, Bool.not_eq_false', decide_eq_true_eq] at ho
  rcases ho.2 with h1 | ⟨h1, _⟩
  · exact absurd trivial h1
  · simp only [h1] at hr
    refine ⟨h1, hr, ?_⟩
    simp only [numU, decide_true, Bool.not_true, Bool.false_or] at hn
    cases hg : p.funs[(findF p i s).2.toNat]? with
    | none => rw [hg] at hn; cases hn
    | some g => rw [hg] at hn; exact ⟨g, rfl, of_decide_eq_true hn⟩
theorem awpC_J {F : Nat → Prop} {ds : List (Option Nat)} {Q : APost} {d : Option Nat} {rest : List Oper} {fr : Fr} {H : Hp} {g : FuncId} {args : List AV} {p : Pg} {cx : Cx} {r : Nat} {vv : AV} {abs : List Nat} {vo : AV} {o : Rz Int}
    (hc : Con env g args H (postJ p cx r vv abs vo H o)) (hF : ∀ b, F b)
    (h : ∀ w vo' H', u32R w → (∀ v s, o = .val v s → w = v) → (∀ e s, o = .fin e s → e ≠ 0) → RunJ p cx r vv abs o.st vo' (enR o) H' → keepsJ r vv abs vo vo' H H' → awpL env F ds Q rest (putF fr d (.int .u32 w)) H') : awpC env F ds Q d rest fr H g args := by
  refine awpC_run hc hF fun ae H' ⟨w, vo', h1, h2, h3, h4, h5, h6⟩ => ?_
  subst h1
  exact h w vo' H' h2 h3 h4 h5 h6
theorem awpC_T {F : Nat → Prop} {ds : List (Option Nat)} {Q : APost} {d : Option Nat} {rest : List Oper} {fr : Fr} {H : Hp} {g : FuncId} {args : List AV} {p : Pg} {cx : Cx} {r : Nat} {vv : AV} {abs : List Nat} {vo : AV} {x i : Nat} {wv : AV} {n : Nat} {o : Rz (Option Int × List Int)}
    (hc : Con env g args H (postT p cx r vv abs vo x i wv n H o)) (hF : ∀ b, F b)
    (h : ∀ ow bk vl vo' H', ow.length = n → (∀ y ∈ ow, u32R y) → u32R vl → (bk = false → vl = 0) → (∀ q s, o = .val q s → ow = q.2 ∧ bk = q.1.isSome ∧ vl = q.1.getD 0) → (∀ e s, o = .fin e s → e ≠ 0) → H' x = some (.rows 4 [[.int .i64 i, wv, .bool bk, .int .u32 vl]]) → OwnW vv abs vo' wv ow H' → RunJ p cx r vv abs o.st vo' (enR o) H' → keepsW r vv abs vo vo' x wv H H' → awpL env F ds Q rest (putF fr d (.tup [])) H') : awpC env F ds Q d rest fr H g args := by
  refine awpC_run hc hF fun ae H' ⟨ow, bk, vl, vo', h1, h2, h3, h4, h5, h6, h7, h8, h9, h10, h11⟩ => ?_
  subst h1
  exact h ow bk vl vo' H' h2 h3 h4 h5 h6 h7 h8 h9 h10 h11
theorem awpC_tick {F : Nat → Prop} {ds : List (Option Nat)} {Q : APost} {d : Option Nat} {rest : List Oper} {fr : Fr} {H : Hp} {g : FuncId} {args : List AV} {p : Pg} {cx : Cx} {r : Nat} {vv : AV} {abs : List Nat} {vo : AV} {o : Rz Unit}
    (hc : Con env g args H (fun ae H' => ae = .ret (.tup []) ∧ (∀ e s, o = .fin e s → e ≠ 0) ∧ RunJ p cx r vv abs o.st vo (enR o) H' ∧ keepsJ r vv abs vo vo H H')) (hF : ∀ b, F b)
    (h : ∀ H', (∀ e s, o = .fin e s → e ≠ 0) → RunJ p cx r vv abs o.st vo (enR o) H' → keepsJ r vv abs vo vo H H' → awpL env F ds Q rest (putF fr d (.tup [])) H') : awpC env F ds Q d rest fr H g args := by
  refine awpC_run hc hF fun ae H' ⟨h1, h2, h3, h4⟩ => ?_
  subst h1
  exact h H' h2 h3 h4
theorem truth_con (b : Bool) : PCon env 57 [.bool b] (.int .u32 (if b = true then 1 else 0)) := by
  cases b
  · skip
    refine con_of 4 [.tmp 2] Try.func57 rfl rfl rfl rfl ?_
    refine awp_seq_k fun K hK => ?_
    refine awp_region rfl ?_
    simp only [RR, seval]
    refine hK _ _ ?_; clear hK K
    refine awp_seq ?_
    refine awp_seq_k fun K hK => ?_
    refine awp_region rfl ?_
    simp only [RR, seval]
    refine hK _ _ ?_; clear hK K
    refine awp_if false rfl (fun hc => by cases hc) (fun _ => ?_)
    refine awp_skip ?_; try simp only [RR]
    refine awp_seq_k fun K hK => ?_
    refine awp_region rfl ?_
    simp only [RR, seval]
    refine hK _ _ ?_; clear hK K
    refine awp_ret ?_; simp only [bodyQ, aresult, ares, RR, seval]
    refine Gives.pure ?_
    rfl
  · skip
    refine con_of 4 [.tmp 2] Try.func57 rfl rfl rfl rfl ?_
    refine awp_seq_k fun K hK => ?_
    refine awp_region rfl ?_
    simp only [RR, seval]
    refine hK _ _ ?_; clear hK K
    refine awp_seq ?_
    refine awp_seq_k fun K hK => ?_
    refine awp_region rfl ?_
    simp only [RR, seval]
    refine hK _ _ ?_; clear hK K
    refine awp_if true rfl (fun _ => ?_) (fun hc => by cases hc)
    refine awp_seq_k fun K hK => ?_
    refine awp_region rfl ?_
    simp only [RR, seval]
    refine hK _ _ ?_; clear hK K
    refine awp_ret ?_; simp only [bodyQ, aresult, ares, RR, seval]
    refine Gives.pure ?_
    rfl
/-- what is asked of the judge's functions at a depth -/
structure PrgJ (p : Pg) (cx : Cx) (r : Nat) (vv : AV) (abs : List Nat) (n : Nat) : Prop where
  V : ∀ (i : Nat) (rs : Str → Bool × Int) (ow : List Int) (e : Ex) (st : RS) (vo : AV) (en : Int) (H : Hp) (x : Nat) (wv : AV) (bk : Bool) (vl : Int) (o : Rz Int), e.ok → (∀ u ∈ useX e, UJ p i rs u) → (∀ u ∈ usesE e.kids, UJ p i rs u) → RunJ p cx r vv abs st vo en H → OwnW vv abs vo wv ow H → (∀ y ∈ ow, u32R y) → H x = some (.rows 4 [[.int .i64 i, wv, .bool bk, .int .u32 vl]]) → contJ en st (evE cx n rs ow e st) o →
    Con env 42 [.ptr 11 r 0 0, .ptr 4 x 0 0, .agg e.row] H (postJ p cx r vv abs vo H o)
  C : ∀ (i : Nat) (rs : Str → Bool × Int) (ow : List Int) (s : Str) (l : List Ex) (st : RS) (vo : AV) (H : Hp) (x : Nat) (wv : AV) (bk : Bool) (vl : Int) (o : Rz Int), okE l → UJ p i rs ⟨s, 4, l.length⟩ → (∀ u ∈ usesE l, UJ p i rs u) → RunJ p cx r vv abs st vo 0 H → OwnW vv abs vo wv ow H → (∀ y ∈ ow, u32R y) → H x = some (.rows 4 [[.int .i64 i, wv, .bool bk, .int .u32 vl]]) → evC cx n rs ow (rs s).2 l st = some o →
    Con env 55 [.ptr 11 r 0 0, .ptr 4 x 0 0, .str s, .isl 5 (l.map Ex.row)] H (postJ p cx r vv abs vo H o)
  S : ∀ (i : Nat) (rs : Str → Bool × Int) (ow : List Int) (e : Sm) (st : RS) (vo : AV) (H : Hp) (x : Nat) (wv : AV) (o : Rz (Option Int × List Int)), e.ok → (∀ u ∈ useS e, UJ p i rs u) → (∀ u ∈ usesE e.es, UJ p i rs u) → (∀ u ∈ usesS e.thn, UJ p i rs u) → (∀ u ∈ usesS e.els, UJ p i rs u) → RunJ p cx r vv abs st vo 0 H → OwnW vv abs vo wv ow H → (∀ y ∈ ow, u32R y) → H x = some (.rows 4 [[.int .i64 i, wv, .bool false, .int .u32 0]]) → evS cx n rs ow e st = some o →
    Con env 70 [.ptr 11 r 0 0, .ptr 4 x 0 0, .agg e.row] H (postT p cx r vv abs vo x i wv ow.length H o)
  L : ∀ (i : Nat) (rs : Str → Bool × Int) (ow : List Int) (l : List Sm) (st : RS) (vo : AV) (en : Int) (H : Hp) (x : Nat) (wv : AV) (bk : Bool) (vl : Int) (o : Rz (Option Int × List Int)), okS l → (∀ u ∈ usesS l, UJ p i rs u) → RunJ p cx r vv abs st vo en H → OwnW vv abs vo wv ow H → (∀ y ∈ ow, u32R y) → H x = some (.rows 4 [[.int .i64 i, wv, .bool bk, .int .u32 vl]]) → u32R vl → (bk = false → vl = 0) → (en = 0 → bk = false) → contJ en st (evL cx n rs ow l st) o →
    Con env 49 [.ptr 11 r 0 0, .ptr 4 x 0 0, .isl 5 (l.map Sm.row)] H (postT p cx r vv abs vo x i wv ow.length H o)
section
variable {p : Pg} {cx : Cx} {r : Nat} {vv : AV} {abs : List Nat} {st : RS} {vo : AV} {H : Hp}
theorem jtick_con (hx : CxOk cx) (hR : RunJ p cx r vv abs st vo 0 H) : Con env 82 [.ptr 11 r 0 0] H (fun ae H' => ae = .ret (.tup []) ∧ (∀ e s, tickR cx st = .fin e s → e ≠ 0) ∧ RunJ p cx r vv abs (tickR cx st).st vo (enR (tickR cx st)) H' ∧ keepsJ r vv abs vo vo H H') := by
  have hr := hR.r
  by_cases hf : cx.fuel ≤ st.ticks
  · have zf : (cx.fuel : Int) ≤ (st.ticks : Int) := by omega
    have e : tickR cx st = .fin 5 st := by unfold tickR; rw [if_pos hf]
    rw [e]
    refine con_of 21 [] Try.func82 rfl rfl rfl rfl ?_
    refine awp_seq ?_
    refine awp_seq_k fun K hK => ?_
    refine awp_region_draw2 (fun x => x ≠ r) [(0, 3), (1, 3), (2, 3), (3, 1), (4, 3), (5, 3), (6, 3), (7, 1), (8, 3)] [] draws (by kernel_rfl) rfl rfl ?_
    simp only [emitF, markOf, EM, hr, zf, RR, seval]
    refine hK _ _ ?_; clear hK K
    refine awp_if true rfl (fun _ => ?_) (fun hc => by cases hc)
    refine awp_seq_k fun K hK => ?_
    refine awp_region rfl ?_
    simp only [hr, zf, RR, seval]
    refine hK _ _ ?_; clear hK K
    refine awp_ret ?_; simp only [bodyQ, aresult, ares, zf, RR, seval]
    exact Gives.run ⟨rfl, (fun e s h => by cases h; decide), hR.turn 5 rfl rfl rfl hR.rd hR.tk, keepsJ.run _⟩
    skip
  · have zf : ¬ (cx.fuel : Int) ≤ (st.ticks : Int) := by omega
    have e : tickR cx st = .val () { st with ticks := st.ticks + 1 } := by unfold tickR; rw [if_neg hf]
    rw [e]
    have hfu := hx.fuel
    have e1 : IntKind.wrap .i64 ((st.ticks : Int) + 1) = ((st.ticks + 1 : Nat) : Int) := by rw [IntWalk.i64_in _ (by omega)]; omega
    refine con_of 21 [] Try.func82 rfl rfl rfl rfl ?_
    refine awp_seq ?_
    refine awp_seq_k fun K hK => ?_
    refine awp_region_draw2 (fun x => x ≠ r) [(0, 3), (1, 3), (2, 3), (3, 1), (4, 3), (5, 3), (6, 3), (7, 1), (8, 3)] [] draws (by kernel_rfl) rfl rfl ?_
    simp only [emitF, markOf, EM, hr, zf, e1, RR, seval]
    refine hK _ _ ?_; clear hK K
    refine awp_if false rfl (fun hc => by cases hc) (fun _ => ?_)
    refine awp_skip ?_; try simp only [RR]
    refine awp_region rfl ?_
    simp only [hr, zf, e1, RR, seval]
    try simp only [bodyQ, aresult, ares, hr, zf, e1, RR, seval]
    exact Gives.run ⟨rfl, (fun e s h => by cases h), hR.turn (st' := { st with ticks := st.ticks + 1 }) 0 rfl rfl rfl hR.rd (by show st.ticks + 1 ≤ _; omega), keepsJ.run _⟩
end
end Go.Proofs.Ytlokndnkpleegaa

namespace Go.Proofs.Ytlokndnkpleegaa
open Go.Al
section
variable {p : Pg} {cx : Cx} {r : Nat} {vv : AV} {abs : List Nat} {n : Nat}
set_option maxHeartbeats 4000000 in
theorem jexpr_step {en : Int} (ih : en = 0 → PrgJ p cx r vv abs n) (hx : CxOk cx) (i : Nat) (rs : Str → Bool × Int) (ow : List Int) (e : Ex) (st : RS) (vo : AV) (H : Hp) (x : Nat) (wv : AV) (bk : Bool) (vl : Int) (o : Rz Int) (he : e.ok) (hU : ∀ u ∈ useX e, UJ p i rs u) (hK : ∀ u ∈ usesE e.kids, UJ p i rs u) (hR : RunJ p cx r vv abs st vo en H) (hW : OwnW vv abs vo wv ow H) (hu : ∀ y ∈ ow, u32R y) (hfx : H x = some (.rows 4 [[.int .i64 i, wv, .bool bk, .int .u32 vl]])) (h : contJ en st (evE cx (n + 1) rs ow e st) o) :
    Con env 42 [.ptr 11 r 0 0, .ptr 4 x 0 0, .agg e.row] H (postJ p cx r vv abs vo H o) := by
  obtain ⟨k, op, m, s, l⟩ := e
  have hr := hR.r
  have hnum := he.num
  have hkids := he.kids
  simp only [Ex.num, Ex.kids] at hnum hkids hK
  have hrow : (Ex.mk k op m s l).row = [.int .i64 k, .int .i64 op, .int .u32 m, .str s, .isl 5 (l.map Ex.row)] := Ex.row_eq _
  rw [hrow]
  clear hrow
  have nxr : x ≠ r := fun e => by rw [e, hr] at hfx; cases hfx
  have nrx : r ≠ x := fun e => nxr e.symm
  rcases h with ⟨rfl, h⟩ | ⟨hen, rfl⟩
  rotate_left
  · have z0 : ¬ en = 0 := hen
    refine con_of 232 [.tmp 6] Try.func42 rfl rfl rfl rfl ?_
    refine awp_seq_k fun K hK => ?_
    refine awp_region rfl ?_
    simp only [hr, z0, RR, seval]
    refine awpN_intro fun b5 hn5 => ?_
    have nb5_r : b5 ≠ r := fun e => by rw [e] at hn5; simp only [hr, RR, seval, reduceCtorEq] at hn5
    have nr_b5 : r ≠ b5 := fun e => nb5_r e.symm
    simp only [hr, nb5_r, nr_b5, z0, RR, seval]
    refine hK _ _ ?_; clear hK K
    refine awp_seq ?_
    refine awp_seq_k fun K hK => ?_
    refine awp_region rfl ?_
    simp only [hr, nb5_r, nr_b5, z0, RR, seval]
    refine hK _ _ ?_; clear hK K
    refine awp_if true rfl (fun _ => ?_) (fun hc => by cases hc)
    refine awp_seq_k fun K hK => ?_
    refine awp_region rfl ?_
    simp only [z0, RR, seval]
    refine hK _ _ ?_; clear hK K
    refine awp_ret ?_; simp only [bodyQ, aresult, ares, z0, RR, seval]
    exact Gives.run ⟨0, vo, rfl, by simp [u32R], (fun _ _ e => by cases e), (fun _ _ e => by cases e; exact hen), hR.new hn5 _, (keepsJ.refl _ _ _ _ _).updN hn5 _⟩
    skip
  have ih := ih rfl
  simp only [evE] at h
  have kidok : ∀ {j : Nat} {a : Ex}, l[j]? = some a → a.ok := fun hj => hkids.all _ (List.mem_of_getElem? hj)
  have hV := fun (j : Nat) (a : Ex) (hj : l[j]? = some a) st vo en H o h3 h4 h5 h6 => ih.V i rs ow a st vo en H x wv bk vl o (kidok hj) (fun u hu => hK u ((usesE_mem (List.mem_of_getElem? hj)).1 u hu)) (fun u hu => hK u ((usesE_mem (List.mem_of_getElem? hj)).2 u hu)) h3 h4 hu h5 h6
  have hpav : p.av = .agg [.isl 1 (p.vars.map strRow), .isl 2 (p.arrs.map Ar.row), .isl 5 (p.funs.map Fu.row)] := rfl
  by_cases k1 : k = 1
  · subst k1
    simp only [if_true] at h
    cases h
    refine con_of 232 [.tmp 6] Try.func42 rfl rfl rfl rfl ?_
    refine awp_seq_k fun K hK => ?_
    refine awp_region rfl ?_
    simp only [hr, RR, seval]
    refine awpN_intro fun b5 hn5 => ?_
    have nb5_r : b5 ≠ r := fun e => by rw [e] at hn5; simp only [hr, RR, seval, reduceCtorEq] at hn5
    have nr_b5 : r ≠ b5 := fun e => nb5_r e.symm
    simp only [hr, nb5_r, nr_b5, RR, seval]
    refine hK _ _ ?_; clear hK K
    refine awp_seq ?_
    refine awp_seq_k fun K hK => ?_
    refine awp_region rfl ?_
    simp only [hr, nb5_r, nr_b5, RR, seval]
    refine hK _ _ ?_; clear hK K
    refine awp_if false rfl (fun hc => by cases hc) (fun _ => ?_)
    refine awp_skip ?_; try simp only [RR]
    refine awp_seq ?_
    refine awp_seq_k fun K hK => ?_
    refine awp_region rfl ?_
    simp only [hr, nb5_r, nr_b5, RR, seval]
    refine hK _ _ ?_; clear hK K
    refine awp_block ?_
    refine awp_seq_k fun K hK => ?_
    refine awp_region rfl ?_
    simp only [RR, seval]
    refine hK _ _ ?_; clear hK K
    refine awp_if true rfl (fun _ => ?_) (fun hc => by cases hc)
    refine awp_seq_k fun K hK => ?_
    refine awp_region rfl ?_
    simp only [hr, nb5_r, nr_b5, RR, seval]
    refine hK _ _ ?_; clear hK K
    refine awp_ret ?_; simp only [bodyQ, aresult, ares, RR, seval]
    exact Gives.run ⟨m, vo, rfl, hnum, (fun _ _ e => by cases e; rfl), (fun _ _ e => by cases e), hR.new hn5 _, (keepsJ.refl _ _ _ _ _).updN hn5 _⟩
    skip
  by_cases k2 : k = 2
  · subst k2
    simp only [show ¬ (2 : Int) = 1 by decide, if_false, if_true, lookR] at h
    have hu1 := hU ⟨s, 1, 0⟩ (by simp [useX, Ex.kind, Ex.name])
    have hF := hu1.f
    rw [hpav] at hF
    simp only at hF
    have hk := hu1.k1
    generalize findF p i s = fi at hF hk
    obtain ⟨kk, ii⟩ := fi
    simp only at hF hk
    by_cases z0 : 0 ≤ (rs s).2
    rotate_left
    · rw [if_neg z0] at h; cases h
    rw [if_pos z0] at h
    rcases hk with ⟨rfl, hrs⟩ | ⟨rfl, hrs⟩
    · rw [hrs] at h z0
      simp only [if_true, Option.map_eq_some_iff] at h z0
      obtain ⟨y, hg, rfl⟩ := h
      obtain ⟨bo, rfl, hbo⟩ := hW.osl hg
      have hl := (List.getElem?_eq_some_iff.1 hg).1
      have zl : ii < (ow.length : Int) := by omega
      have hgx := rowU_get hg
      have hux := hu y (List.mem_of_getElem? hg)
      have hx := hfx
      have nbo : bo ≠ r := hR.nr hbo
      have nbx : bo ≠ x := fun e => by rw [e, hfx] at hbo; cases hbo
      have nbo' : r ≠ bo := fun e => nbo e.symm
      have nbx' : x ≠ bo := fun e => nbx e.symm
      refine con_of 232 [.tmp 6] Try.func42 rfl rfl rfl rfl ?_
      refine awp_seq_k fun K hK => ?_
      refine awp_region rfl ?_
      simp only [hr, hx, hbo, nxr, nrx, nbo, nbx, nbo', nbx', z0, zl, hgx, RR, seval]
      refine awpN_intro fun b5 hn5 => ?_
      have nb5_r : b5 ≠ r := fun e => by rw [e] at hn5; simp only [hr, nxr, nrx, nbo, nbx, nbo', nbx', RR, seval, reduceCtorEq] at hn5
      have nr_b5 : r ≠ b5 := fun e => nb5_r e.symm
      have nb5_x : b5 ≠ x := fun e => by rw [e] at hn5; simp only [hx, nxr, nrx, nbo, nbx, nbo', nbx', RR, seval, reduceCtorEq] at hn5
      have nx_b5 : x ≠ b5 := fun e => nb5_x e.symm
      have nb5_bo : b5 ≠ bo := fun e => by rw [e] at hn5; simp only [hbo, nxr, nrx, nbo, nbx, nbo', nbx', RR, seval, reduceCtorEq] at hn5
      have nbo_b5 : bo ≠ b5 := fun e => nb5_bo e.symm
      simp only [hr, hx, hbo, nxr, nrx, nbo, nbx, nbo', nbx', nb5_r, nr_b5, nb5_x, nx_b5, nb5_bo, nbo_b5, z0, zl, hgx, RR, seval]
      refine hK _ _ ?_; clear hK K
      refine awp_seq ?_
      refine awp_seq_k fun K hK => ?_
      refine awp_region rfl ?_
      simp only [hr, hx, hbo, nxr, nrx, nbo, nbx, nbo', nbx', nb5_r, nr_b5, nb5_x, nx_b5, nb5_bo, nbo_b5, z0, zl, hgx, RR, seval]
      refine hK _ _ ?_; clear hK K
      refine awp_if false rfl (fun hc => by cases hc) (fun _ => ?_)
      refine awp_skip ?_; try simp only [RR]
      refine awp_seq ?_
      refine awp_seq_k fun K hK => ?_
      refine awp_region rfl ?_
      simp only [hr, hx, hbo, nxr, nrx, nbo, nbx, nbo', nbx', nb5_r, nr_b5, nb5_x, nx_b5, nb5_bo, nbo_b5, z0, zl, hgx, RR, seval]
      refine hK _ _ ?_; clear hK K
      refine awp_block ?_
      refine awp_seq_k fun K hK => ?_
      refine awp_region rfl ?_
      simp only [z0, zl, hgx, RR, seval]
      refine hK _ _ ?_; clear hK K
      refine awp_if false rfl (fun hc => by cases hc) (fun _ => ?_)
      refine awp_seq_k fun K hK => ?_
      refine awp_region rfl ?_
      simp only [z0, zl, hgx, RR, seval]
      refine hK _ _ ?_; clear hK K
      refine awp_if true rfl (fun _ => ?_) (fun hc => by cases hc)
      refine awp_seq_k fun K hK => ?_
      refine awp_region_draw2 (fun x => x ≠ r ∧ x ≠ x ∧ x ≠ bo ∧ x ≠ b5) [(0, 3), (1, 3), (2, 3), (3, 1), (4, 3), (5, 3), (6, 3), (7, 1), (8, 3), (9, 1), (10, 1), (11, 3), (12, 3), (13, 3), (14, 3), (15, 3)] [] draws (by kernel_rfl) rfl rfl ?_
      simp only [emitF, markOf, EM, hr, hx, hbo, nxr, nrx, nbo, nbx, nbo', nbx', nb5_r, nr_b5, nb5_x, nx_b5, nb5_bo, nbo_b5, z0, zl, hgx, RR, seval]
      refine awpC_pure' (hF) ?_
      simp only [emitF, markOf, EM, hr, hx, hbo, nxr, nrx, nbo, nbx, nbo', nbx', nb5_r, nr_b5, nb5_x, nx_b5, nb5_bo, nbo_b5, z0, zl, hgx, RR, seval]
      refine hK _ _ ?_; clear hK K
      refine awp_seq ?_
      refine awp_seq_k fun K hK => ?_
      refine awp_region rfl ?_
      simp only [z0, zl, hgx, RR, seval]
      refine hK _ _ ?_; clear hK K
      refine awp_if true rfl (fun _ => ?_) (fun hc => by cases hc)
      refine awp_seq_k fun K hK => ?_
      refine awp_region rfl ?_
      simp only [hr, hx, hbo, nxr, nrx, nbo, nbx, nbo', nbx', nb5_r, nr_b5, nb5_x, nx_b5, nb5_bo, nbo_b5, z0, zl, hgx, RR, seval]
      refine hK _ _ ?_; clear hK K
      refine awp_ret ?_; simp only [bodyQ, aresult, ares, z0, zl, hgx, RR, seval]
      exact Gives.run ⟨y, vo, rfl, hux, (fun _ _ e => by cases e; rfl), (fun _ _ e => by cases e), hR.new hn5 _, (keepsJ.refl _ _ _ _ _).updN hn5 _⟩
      skip
    · rw [hrs] at h z0
      simp only [Bool.false_eq_true, if_false, Option.map_eq_some_iff] at h z0
      obtain ⟨y, hg, rfl⟩ := h
      obtain ⟨bv, rfl, hbv⟩ := hR.osl hg
      have hl := (List.getElem?_eq_some_iff.1 hg).1
      have zl : ii < (st.vars.length : Int) := by omega
      have hgx := rowU_get hg
      have hux := hR.uv y (List.mem_of_getElem? hg)
      have hx := hfx
      have nbo : bv ≠ r := hR.nr hbv
      have nbx : bv ≠ x := fun e => by rw [e, hfx] at hbv; cases hbv
      have nbo' : r ≠ bv := fun e => nbo e.symm
      have nbx' : x ≠ bv := fun e => nbx e.symm
      refine con_of 232 [.tmp 6] Try.func42 rfl rfl rfl rfl ?_
      refine awp_seq_k fun K hK => ?_
      refine awp_region rfl ?_
      simp only [hr, hx, hbv, nxr, nrx, nbo, nbx, nbo', nbx', z0, zl, hgx, RR, seval]
      refine awpN_intro fun b5 hn5 => ?_
      have nb5_r : b5 ≠ r := fun e => by rw [e] at hn5; simp only [hr, nxr, nrx, nbo, nbx, nbo', nbx', RR, seval, reduceCtorEq] at hn5
      have nr_b5 : r ≠ b5 := fun e => nb5_r e.symm
      have nb5_x : b5 ≠ x := fun e => by rw [e] at hn5; simp only [hx, nxr, nrx, nbo, nbx, nbo', nbx', RR, seval, reduceCtorEq] at hn5
      have nx_b5 : x ≠ b5 := fun e => nb5_x e.symm
      have nb5_bv : b5 ≠ bv := fun e => by rw [e] at hn5; simp only [hbv, nxr, nrx, nbo, nbx, nbo', nbx', RR, seval, reduceCtorEq] at hn5
      have nbv_b5 : bv ≠ b5 := fun e => nb5_bv e.symm
      simp only [hr, hx, hbv, nxr, nrx, nbo, nbx, nbo', nbx', nb5_r, nr_b5, nb5_x, nx_b5, nb5_bv, nbv_b5, z0, zl, hgx, RR, seval]
      refine hK _ _ ?_; clear hK K
      refine awp_seq ?_
      refine awp_seq_k fun K hK => ?_
      refine awp_region rfl ?_
      simp only [hr, hx, hbv, nxr, nrx, nbo, nbx, nbo', nbx', nb5_r, nr_b5, nb5_x, nx_b5, nb5_bv, nbv_b5, z0, zl, hgx, RR, seval]
      refine hK _ _ ?_; clear hK K
      refine awp_if false rfl (fun hc => by cases hc) (fun _ => ?_)
      refine awp_skip ?_; try simp only [RR]
      refine awp_seq ?_
      refine awp_seq_k fun K hK => ?_
      refine awp_region rfl ?_
      simp only [hr, hx, hbv, nxr, nrx, nbo, nbx, nbo', nbx', nb5_r, nr_b5, nb5_x, nx_b5, nb5_bv, nbv_b5, z0, zl, hgx, RR, seval]
      refine hK _ _ ?_; clear hK K
      refine awp_block ?_
      refine awp_seq_k fun K hK => ?_
      refine awp_region rfl ?_
      simp only [z0, zl, hgx, RR, seval]
      refine hK _ _ ?_; clear hK K
      refine awp_if false rfl (fun hc => by cases hc) (fun _ => ?_)
      refine awp_seq_k fun K hK => ?_
      refine awp_region rfl ?_
      simp only [z0, zl, hgx, RR, seval]
      refine hK _ _ ?_; clear hK K
      refine awp_if true rfl (fun _ => ?_) (fun hc => by cases hc)
      refine awp_seq_k fun K hK => ?_
      refine awp_region_draw2 (fun x => x ≠ r ∧ x ≠ x ∧ x ≠ bv ∧ x ≠ b5) [(0, 3), (1, 3), (2, 3), (3, 1), (4, 3), (5, 3), (6, 3), (7, 1), (8, 3), (9, 1), (10, 1), (11, 3), (12, 3), (13, 3), (14, 3), (15, 3)] [] draws (by kernel_rfl) rfl rfl ?_
      simp only [emitF, markOf, EM, hr, hx, hbv, nxr, nrx, nbo, nbx, nbo', nbx', nb5_r, nr_b5, nb5_x, nx_b5, nb5_bv, nbv_b5, z0, zl, hgx, RR, seval]
      refine awpC_pure' (hF) ?_
      simp only [emitF, markOf, EM, hr, hx, hbv, nxr, nrx, nbo, nbx, nbo', nbx', nb5_r, nr_b5, nb5_x, nx_b5, nb5_bv, nbv_b5, z0, zl, hgx, RR, seval]
      refine hK _ _ ?_; clear hK K
      refine awp_seq ?_
      refine awp_seq_k fun K hK => ?_
      refine awp_region rfl ?_
      simp only [z0, zl, hgx, RR, seval]
      refine hK _ _ ?_; clear hK K
      refine awp_if false rfl (fun hc => by cases hc) (fun _ => ?_)
      refine awp_skip ?_; try simp only [RR]
      refine awp_seq_k fun K hK => ?_
      refine awp_region rfl ?_
      simp only [hr, hx, hbv, nxr, nrx, nbo, nbx, nbo', nbx', nb5_r, nr_b5, nb5_x, nx_b5, nb5_bv, nbv_b5, z0, zl, hgx, RR, seval]
      refine hK _ _ ?_; clear hK K
      refine awp_ret ?_; simp only [bodyQ, aresult, ares, z0, zl, hgx, RR, seval]
      exact Gives.run ⟨y, vo, rfl, hux, (fun _ _ e => by cases e; rfl), (fun _ _ e => by cases e), hR.new hn5 _, (keepsJ.refl _ _ _ _ _).updN hn5 _⟩
      skip
  by_cases k3 : k = 3
  · subst k3
    simp only [show ¬ (3 : Int) = 1 by decide, show ¬ (3 : Int) = 2 by decide, if_false, if_true] at h
    have hu1 := hU ⟨s, 3, 0⟩ (by simp [useX, Ex.kind, Ex.name])
    have hF := hu1.f
    rw [hpav] at hF
    simp only at hF
    have hk := hu1.k3
    generalize findF p i s = fi at hF hk
    obtain ⟨kk, ii⟩ := fi
    simp only at hF hk
    obtain ⟨rfl, hrs⟩ := hk
    rw [hrs] at h
    cases hl0 : l[0]? with
    | none => rw [hl0] at h; cases h
    | some a =>
      simp only [hl0] at h
      have hg0 := getE hl0
      obtain ⟨r1, h1⟩ : ∃ r1, evE cx n rs ow a st = some r1 := by
        cases h1 : evE cx n rs ow a st with
        | none => rw [h1] at h; cases h
        | some r1 => exact ⟨r1, rfl⟩
      rw [h1] at h
      have hVa := fun H' g1 g2 g3 => hV 0 a hl0 st vo 0 H' r1 g1 g2 g3 (.inl ⟨rfl, h1⟩)
      rw [a.row_eq] at hVa
      have hx := hfx
      obtain ⟨HX, hHX⟩ : ∃ X, X = H := ⟨_, rfl⟩
      refine con_of 232 [.tmp 6] Try.func42 rfl rfl rfl rfl ?_
      refine awp_seq_k fun K hK => ?_
      refine awp_region rfl ?_
      simp only [hr, hx, nxr, nrx, hg0, RR, seval]
      refine awpN_intro fun b5 hn5 => ?_
      have nb5_r : b5 ≠ r := fun e => by rw [e] at hn5; simp only [hr, nxr, nrx, RR, seval, reduceCtorEq] at hn5
      have nr_b5 : r ≠ b5 := fun e => nb5_r e.symm
      have nb5_x : b5 ≠ x := fun e => by rw [e] at hn5; simp only [hx, nxr, nrx, RR, seval, reduceCtorEq] at hn5
      have nx_b5 : x ≠ b5 := fun e => nb5_x e.symm
      simp only [hr, hx, nxr, nrx, nb5_r, nr_b5, nb5_x, nx_b5, hg0, RR, seval]
      refine hK _ _ ?_; clear hK K
      refine awp_seq ?_
      refine awp_seq_k fun K hK => ?_
      refine awp_region rfl ?_
      simp only [hr, hx, nxr, nrx, nb5_r, nr_b5, nb5_x, nx_b5, hg0, RR, seval]
      refine hK _ _ ?_; clear hK K
      refine awp_if false rfl (fun hc => by cases hc) (fun _ => ?_)
      refine awp_skip ?_; try simp only [RR]
      refine awp_seq ?_
      refine awp_seq_k fun K hK => ?_
      refine awp_region rfl ?_
      simp only [hr, hx, nxr, nrx, nb5_r, nr_b5, nb5_x, nx_b5, hg0, RR, seval]
      refine hK _ _ ?_; clear hK K
      refine awp_block ?_
      refine awp_seq_k fun K hK => ?_
      refine awp_region rfl ?_
      simp only [hg0, RR, seval]
      refine hK _ _ ?_; clear hK K
      refine awp_if false rfl (fun hc => by cases hc) (fun _ => ?_)
      refine awp_seq_k fun K hK => ?_
      refine awp_region rfl ?_
      simp only [hg0, RR, seval]
      refine hK _ _ ?_; clear hK K
      refine awp_if false rfl (fun hc => by cases hc) (fun _ => ?_)
      refine awp_seq_k fun K hK => ?_
      refine awp_region rfl ?_
      simp only [hg0, RR, seval]
      refine hK _ _ ?_; clear hK K
      refine awp_if true rfl (fun _ => ?_) (fun hc => by cases hc)
      refine awp_seq_k fun K hK => ?_
      refine awp_region_draw2 (fun x => x ≠ r ∧ x ≠ x ∧ x ≠ b5) [(0, 3), (1, 3), (2, 3), (3, 1), (4, 3), (5, 3), (6, 3), (7, 1), (8, 3), (9, 1), (10, 1), (11, 3), (12, 3), (13, 3), (14, 3), (15, 3)] [] draws (by kernel_rfl) rfl rfl ?_
      simp only [emitF, markOf, EM, hr, hx, nxr, nrx, nb5_r, nr_b5, nb5_x, nx_b5, hg0, RR, seval]
      refine awpC_pure' (hF) ?_
      simp only [emitF, markOf, EM, hr, hx, nxr, nrx, nb5_r, nr_b5, nb5_x, nx_b5, hg0, RR, seval]
      refine hK _ _ ?_; clear hK K
      refine awp_name fun F1 M1 hfr hH => ?_
      have g0 := hfr 0
      have g1 := hfr 1
      have g5 := hfr 5
      have g6 := hfr 6
      have g10 := hfr 10
      have gr := hH r
      have gx := hH x
      have gb5 := hH b5
      try simp only [hr, hx, nxr, nrx, nb5_r, nr_b5, nb5_x, nx_b5, hg0, RR, seval] at g0 g1 g5 g6 g10 gr gx gb5
      have hM := funext hH
      have hR0 := (hR.new hn5 _).same hH
      have hW0 := (hW.new hn5 _).same hH
      have hk0 : keepsJ r vv abs vo vo H M1 := by rw [hM]; exact (keepsJ.refl _ _ _ _ _).updN hn5 _
      have f0 := g0; clear g0
      have f1 := g1; clear g1
      have f5 := g5; clear g5
      have f6 := g6; clear g6
      have f10 := g10; clear g10
      have hr := gr; clear gr
      have hx := gx; clear gx
      have hb5 := gb5; clear gb5
      clear hfr hH
      refine awp_seq_k fun K hK => ?_
      refine awp_region rfl ?_
      simp only [f0, f1, f5, hr, hx, hb5, nxr, nrx, nb5_r, nr_b5, nb5_x, nx_b5, hg0, RR, seval]
      refine awpC_J (hVa _ hR0 hW0 hx) (fun _ => trivial) fun w vo1 H1 uw hwv hne hR1 hk1 => ?_
      have hr := hR1.r
      have hx := hR0.keep hx (by decide) (by decide) hk1
      have hk01 := hk0.trans hk1
      simp only [RR, seval]
      refine hK _ _ ?_; clear hK K
      refine awp_seq ?_
      refine awp_seq_k fun K hK => ?_
      refine awp_region rfl ?_
      simp only [f0, hr, hx, hb5, nxr, nrx, nb5_r, nr_b5, nb5_x, nx_b5, hg0, RR, seval]
      refine hK _ _ ?_; clear hK K
      refine awp_if _ rfl (fun hc14 => ?_) (fun hc14 => ?_)
      · obtain ⟨e1, s1, rfl⟩ := enR_fin (o := r1) (by simpa using hc14)
        obtain rfl := Option.some.inj (show some (Rz.fin e1 s1) = some o from h)
        refine awp_seq_k fun K hK => ?_
        refine awp_region rfl ?_
        simp only [hg0, RR, seval]
        refine hK _ _ ?_; clear hK K
        refine awp_ret ?_; simp only [bodyQ, aresult, ares, f6, hg0, RR, seval]
        exact Gives.run ⟨0, vo1, rfl, by simp [u32R], (fun _ _ e => by cases e), hne, hR1, hk01⟩
      · obtain ⟨x1, s1, rfl⟩ := enR_val (o := r1) hne (by simpa using hc14)
        obtain rfl := hwv _ _ rfl
        simp only [bindR] at h
        by_cases z0 : 0 ≤ ii
        rotate_left
        · rw [if_neg z0] at h; cases h
        rw [if_pos z0] at h
        obtain ⟨ia, rfl⟩ := Int.eq_ofNat_of_zero_le z0
        simp only [Int.toNat_natCast, atR] at h
        obtain ⟨la, hla⟩ : ∃ la, s1.arrs[ia]? = some la := by
          cases hla : s1.arrs[ia]? with
          | none => rw [hla] at h; cases h
          | some la => exact ⟨la, rfl⟩
        rw [hla] at h
        simp only at h
        have hl : ia < abs.length := by rw [hR1.al]; exact (List.getElem?_eq_some_iff.1 hla).1
        have hb := List.getElem?_eq_getElem hl
        generalize abs[ia] = ba at hb
        have hgar := arrRows_get abs s1.arrs ia ba la hb hla
        have hba := hR1.a ia ba la hb hla
        have hlen := (hR1.ua la (List.mem_of_getElem? hla)).1
        obtain ⟨m1, rfl⟩ := Int.eq_ofNat_of_zero_le uw.1
        have hx2 := uw.2
        have e1 : IntKind.wrap .u64 (m1 : Int) = (m1 : Int) := by simp [IntKind.wrap, IntKind.signed, IntKind.bits]; omega
        have e2 : IntKind.wrap .u64 (la.length : Int) = (la.length : Int) := by simp [IntKind.wrap, IntKind.signed, IntKind.bits]; omega
        rw [Int.toNat_natCast] at h
        have hr : H1 r = _ := hR1.r
        have hst1 : (Rz.val (m1 : Int) s1).st = s1 := rfl
        have hen1 : enR (Rz.val (m1 : Int) s1) = 0 := rfl
        rw [hst1, hen1] at hr
        have nba : ba ≠ r := hR1.nr hba
        have nba' : r ≠ ba := fun e => nba e.symm
        refine awp_skip ?_; try simp only [RR]
        refine awp_seq ?_
        refine awp_seq_k fun K hK => ?_
        refine awp_region rfl ?_
        simp only [f0, f10, hr, hx, hb5, hba, nxr, nrx, nb5_r, nr_b5, nb5_x, nx_b5, nba, nba', hg0, hgar, e1, e2, RR, seval]
        refine hK _ _ ?_; clear hK K
        refine awp_if _ rfl (fun hc16 => ?_) (fun hc16 => ?_)
        · have hf : ¬ m1 < la.length := by have := of_decide_eq_true hc16; omega
          rw [if_neg hf] at h
          cases h
          refine awp_seq_k fun K hK => ?_
          refine awp_region rfl ?_
          simp only [f0, hr, hx, hb5, hba, nxr, nrx, nb5_r, nr_b5, nb5_x, nx_b5, nba, nba', hg0, hgar, e1, e2, RR, seval]
          refine hK _ _ ?_; clear hK K
          refine awp_seq_k fun K hK => ?_
          refine awp_region rfl ?_
          simp only [hg0, hgar, e1, e2, RR, seval]
          refine hK _ _ ?_; clear hK K
          refine awp_ret ?_; simp only [bodyQ, aresult, ares, f6, hg0, hgar, e1, e2, RR, seval]
          exact Gives.run ⟨0, vo1, rfl, by simp [u32R], (fun _ _ e => by cases e), (fun _ _ e => by cases e; decide), RunJ.turn hR1 3 rfl rfl rfl hR1.rd hR1.tk, hk01.trans (keepsJ.run _)⟩
        · have hf : m1 < la.length := by have := of_decide_eq_false hc16; omega
          have zf : (m1 : Int) < (la.length : Int) := by omega
          rw [if_pos hf] at h
          simp only [bindR, hla, Option.bind_some, Option.map_eq_some_iff] at h
          obtain ⟨y, hy, rfl⟩ := h
          have hgy := rowU_get hy
          have uy := (hR1.ua la (List.mem_of_getElem? hla)).2 y (List.mem_of_getElem? hy)
          refine awp_skip ?_; try simp only [RR]
          refine awp_seq_k fun K hK => ?_
          refine awp_region rfl ?_
          simp only [f0, f10, hr, hx, hb5, hba, nxr, nrx, nb5_r, nr_b5, nb5_x, nx_b5, nba, nba', hg0, hgar, e1, e2, hgy, zf, RR, seval]
          refine hK _ _ ?_; clear hK K
          refine awp_ret ?_; simp only [bodyQ, aresult, ares, f6, hg0, hgar, e1, e2, hgy, zf, RR, seval]
          exact Gives.run ⟨y, vo1, rfl, uy, (fun _ _ e => by cases e; rfl), (fun _ _ e => by cases e), hR1, hk01⟩
  by_cases k4 : k = 4
  · subst k4
    simp only [show ¬ (4 : Int) = 1 by decide, show ¬ (4 : Int) = 2 by decide, show ¬ (4 : Int) = 3 by decide, if_false, if_true] at h
    have hu1 := hU ⟨s, 4, l.length⟩ (by simp [useX, Ex.kind, Ex.name, Ex.kids])
    have hx := hfx
    have hC := fun H' g1 g2 g3 => ih.C i rs ow s l st vo H' x wv bk vl o hkids hu1 hK g1 g2 hu g3 h
    obtain ⟨HX, hHX⟩ : ∃ X, X = H := ⟨_, rfl⟩
    refine con_of 232 [.tmp 6] Try.func42 rfl rfl rfl rfl ?_
    refine awp_seq_k fun K hK => ?_
    refine awp_region rfl ?_
    simp only [hr, hx, nxr, nrx, RR, seval]
    refine awpN_intro fun b5 hn5 => ?_
    have nb5_r : b5 ≠ r := fun e => by rw [e] at hn5; simp only [hr, nxr, nrx, RR, seval, reduceCtorEq] at hn5
    have nr_b5 : r ≠ b5 := fun e => nb5_r e.symm
    have nb5_x : b5 ≠ x := fun e => by rw [e] at hn5; simp only [hx, nxr, nrx, RR, seval, reduceCtorEq] at hn5
    have nx_b5 : x ≠ b5 := fun e => nb5_x e.symm
    simp only [hr, hx, nxr, nrx, nb5_r, nr_b5, nb5_x, nx_b5, RR, seval]
    refine hK _ _ ?_; clear hK K
    refine awp_seq ?_
    refine awp_seq_k fun K hK => ?_
    refine awp_region rfl ?_
    simp only [hr, hx, nxr, nrx, nb5_r, nr_b5, nb5_x, nx_b5, RR, seval]
    refine hK _ _ ?_; clear hK K
    refine awp_if false rfl (fun hc => by cases hc) (fun _ => ?_)
    refine awp_skip ?_; try simp only [RR]
    refine awp_seq ?_
    refine awp_seq_k fun K hK => ?_
    refine awp_region rfl ?_
    simp only [hr, hx, nxr, nrx, nb5_r, nr_b5, nb5_x, nx_b5, RR, seval]
    refine hK _ _ ?_; clear hK K
    refine awp_block ?_
    refine awp_seq_k fun K hK => ?_
    refine awp_region rfl ?_
    simp only [RR, seval]
    refine hK _ _ ?_; clear hK K
    refine awp_if false rfl (fun hc => by cases hc) (fun _ => ?_)
    refine awp_seq_k fun K hK => ?_
    refine awp_region rfl ?_
    simp only [RR, seval]
    refine hK _ _ ?_; clear hK K
    refine awp_if false rfl (fun hc => by cases hc) (fun _ => ?_)
    refine awp_seq_k fun K hK => ?_
    refine awp_region rfl ?_
    simp only [RR, seval]
    refine hK _ _ ?_; clear hK K
    refine awp_if false rfl (fun hc => by cases hc) (fun _ => ?_)
    refine awp_seq_k fun K hK => ?_
    refine awp_region rfl ?_
    simp only [RR, seval]
    refine hK _ _ ?_; clear hK K
    refine awp_if true rfl (fun _ => ?_) (fun hc => by cases hc)
    refine awp_name fun F1 M1 hfr hH => ?_
    have g0 := hfr 0
    have g1 := hfr 1
    have g5 := hfr 5
    have g6 := hfr 6
    have gr := hH r
    have gx := hH x
    have gb5 := hH b5
    try simp only [hr, hx, nxr, nrx, nb5_r, nr_b5, nb5_x, nx_b5, RR, seval] at g0 g1 g5 g6 gr gx gb5
    have hM := funext hH
    have hR0 := (hR.new hn5 _).same hH
    have hW0 := (hW.new hn5 _).same hH
    have hk0 : keepsJ r vv abs vo vo H M1 := by rw [hM]; exact (keepsJ.refl _ _ _ _ _).updN hn5 _
    have f0 := g0; clear g0
    have f1 := g1; clear g1
    have f5 := g5; clear g5
    have f6 := g6; clear g6
    have hr := gr; clear gr
    have hx := gx; clear gx
    have hb5 := gb5; clear gb5
    clear hfr hH
    refine awp_seq_k fun K hK => ?_
    refine awp_region rfl ?_
    simp only [f0, f1, f5, hr, hx, hb5, nxr, nrx, nb5_r, nr_b5, nb5_x, nx_b5, RR, seval]
    refine awpC_J (hC _ hR0 hW0 hx) (fun _ => trivial) fun w vo1 H1 uw hwv hne hR1 hk1 => ?_
    simp only [RR, seval]
    refine hK _ _ ?_; clear hK K
    refine awp_ret ?_; simp only [bodyQ, aresult, ares, f6, RR, seval]
    exact Gives.run ⟨w, vo1, rfl, uw, hwv, hne, hR1, hk0.trans hk1⟩
    skip
  by_cases k5 : k = 5
  · subst k5
    simp only [show ¬ (5 : Int) = 1 by decide, show ¬ (5 : Int) = 2 by decide, show ¬ (5 : Int) = 3 by decide, show ¬ (5 : Int) = 4 by decide, if_false, if_true, Option.some.injEq] at h
    have hrd := hR.rd
    have hin := hx.inp
    by_cases hf : cx.inp.length ≤ st.read
    · have zf : (cx.inp.length : Int) ≤ (st.read : Int) := by omega
      have e : getR cx st = .val 256 st := by unfold getR; rw [List.getElem?_eq_none hf]
      rw [e] at h
      subst h
      refine con_of 232 [.tmp 6] Try.func42 rfl rfl rfl rfl ?_
      refine awp_seq_k fun K hK => ?_
      refine awp_region rfl ?_
      simp only [hr, zf, RR, seval]
      refine awpN_intro fun b5 hn5 => ?_
      have nb5_r : b5 ≠ r := fun e => by rw [e] at hn5; simp only [hr, RR, seval, reduceCtorEq] at hn5
      have nr_b5 : r ≠ b5 := fun e => nb5_r e.symm
      simp only [hr, nb5_r, nr_b5, zf, RR, seval]
      refine hK _ _ ?_; clear hK K
      refine awp_seq ?_
      refine awp_seq_k fun K hK => ?_
      refine awp_region rfl ?_
      simp only [hr, nb5_r, nr_b5, zf, RR, seval]
      refine hK _ _ ?_; clear hK K
      refine awp_if false rfl (fun hc => by cases hc) (fun _ => ?_)
      refine awp_skip ?_; try simp only [RR]
      refine awp_seq ?_
      refine awp_seq_k fun K hK => ?_
      refine awp_region rfl ?_
      simp only [hr, nb5_r, nr_b5, zf, RR, seval]
      refine hK _ _ ?_; clear hK K
      refine awp_block ?_
      refine awp_seq_k fun K hK => ?_
      refine awp_region rfl ?_
      simp only [zf, RR, seval]
      refine hK _ _ ?_; clear hK K
      refine awp_if false rfl (fun hc => by cases hc) (fun _ => ?_)
      refine awp_seq_k fun K hK => ?_
      refine awp_region rfl ?_
      simp only [zf, RR, seval]
      refine hK _ _ ?_; clear hK K
      refine awp_if false rfl (fun hc => by cases hc) (fun _ => ?_)
      refine awp_seq_k fun K hK => ?_
      refine awp_region rfl ?_
      simp only [zf, RR, seval]
      refine hK _ _ ?_; clear hK K
      refine awp_if false rfl (fun hc => by cases hc) (fun _ => ?_)
      refine awp_seq_k fun K hK => ?_
      refine awp_region rfl ?_
      simp only [zf, RR, seval]
      refine hK _ _ ?_; clear hK K
      refine awp_if false rfl (fun hc => by cases hc) (fun _ => ?_)
      refine awp_seq_k fun K hK => ?_
      refine awp_region rfl ?_
      simp only [zf, RR, seval]
      refine hK _ _ ?_; clear hK K
      refine awp_if true rfl (fun _ => ?_) (fun hc => by cases hc)
      refine awp_seq ?_
      refine awp_seq_k fun K hK => ?_
      refine awp_region_draw2 (fun x => x ≠ r ∧ x ≠ b5) [(0, 3), (1, 3), (2, 3), (3, 1), (4, 3), (5, 3), (6, 3), (7, 1), (8, 3), (9, 3)] [] draws (by kernel_rfl) rfl rfl ?_
      simp only [emitF, markOf, EM, hr, nb5_r, nr_b5, zf, RR, seval]
      refine hK _ _ ?_; clear hK K
      refine awp_if true rfl (fun _ => ?_) (fun hc => by cases hc)
      refine awp_seq_k fun K hK => ?_
      refine awp_region rfl ?_
      simp only [zf, RR, seval]
      refine hK _ _ ?_; clear hK K
      refine awp_ret ?_; simp only [bodyQ, aresult, ares, zf, RR, seval]
      exact Gives.run ⟨256, vo, rfl, by simp [u32R], (fun _ _ e => by cases e; rfl), (fun _ _ e => by cases e), hR.new hn5 _, (keepsJ.refl _ _ _ _ _).updN hn5 _⟩
      skip
    · have zf : ¬ (cx.inp.length : Int) ≤ (st.read : Int) := by omega
      have hg := List.getElem?_eq_getElem (show st.read < cx.inp.length by omega)
      generalize cx.inp[st.read] = c at hg
      have e : getR cx st = .val c.toNat { st with read := st.read + 1 } := by unfold getR; rw [hg]
      rw [e] at h
      subst h
      have e1 : IntKind.wrap .i64 ((st.read : Int) + 1) = ((st.read + 1 : Nat) : Int) := by rw [IntWalk.i64_in _ (by omega)]; omega
      have e3 : IntKind.wrap .i64 (((st.read + 1 : Nat) : Int) - 1) = (st.read : Int) := by rw [IntWalk.i64_in _ (by omega)]; omega
      have hc := UInt8.toNat_lt c
      have hu2 : u32R (c.toNat : Int) := ⟨by omega, by omega⟩
      have e2 : IntKind.wrap .u32 (c.toNat : Int) = (c.toNat : Int) := by simp [IntKind.wrap, IntKind.signed, IntKind.bits]; omega
      refine con_of 232 [.tmp 6] Try.func42 rfl rfl rfl rfl ?_
      refine awp_seq_k fun K hK => ?_
      refine awp_region rfl ?_
      simp only [hr, zf, hg, e1, e2, e3, RR, seval]
      refine awpN_intro fun b5 hn5 => ?_
      have nb5_r : b5 ≠ r := fun e => by rw [e] at hn5; simp only [hr, RR, seval, reduceCtorEq] at hn5
      have nr_b5 : r ≠ b5 := fun e => nb5_r e.symm
      simp only [hr, nb5_r, nr_b5, zf, hg, e1, e2, e3, RR, seval]
      refine hK _ _ ?_; clear hK K
      refine awp_seq ?_
      refine awp_seq_k fun K hK => ?_
      refine awp_region rfl ?_
      simp only [hr, nb5_r, nr_b5, zf, hg, e1, e2, e3, RR, seval]
      refine hK _ _ ?_; clear hK K
      refine awp_if false rfl (fun hc => by cases hc) (fun _ => ?_)
      refine awp_skip ?_; try simp only [RR]
      refine awp_seq ?_
      refine awp_seq_k fun K hK => ?_
      refine awp_region rfl ?_
      simp only [hr, nb5_r, nr_b5, zf, hg, e1, e2, e3, RR, seval]
      refine hK _ _ ?_; clear hK K
      refine awp_block ?_
      refine awp_seq_k fun K hK => ?_
      refine awp_region rfl ?_
      simp only [zf, hg, e1, e2, e3, RR, seval]
      refine hK _ _ ?_; clear hK K
      refine awp_if false rfl (fun hc => by cases hc) (fun _ => ?_)
      refine awp_seq_k fun K hK => ?_
      refine awp_region rfl ?_
      simp only [zf, hg, e1, e2, e3, RR, seval]
      refine hK _ _ ?_; clear hK K
      refine awp_if false rfl (fun hc => by cases hc) (fun _ => ?_)
      refine awp_seq_k fun K hK => ?_
      refine awp_region rfl ?_
      simp only [zf, hg, e1, e2, e3, RR, seval]
      refine hK _ _ ?_; clear hK K
      refine awp_if false rfl (fun hc => by cases hc) (fun _ => ?_)
      refine awp_seq_k fun K hK => ?_
      refine awp_region rfl ?_
      simp only [zf, hg, e1, e2, e3, RR, seval]
      refine hK _ _ ?_; clear hK K
      refine awp_if false rfl (fun hc => by cases hc) (fun _ => ?_)
      refine awp_seq_k fun K hK => ?_
      refine awp_region rfl ?_
      simp only [zf, hg, e1, e2, e3, RR, seval]
      refine hK _ _ ?_; clear hK K
      refine awp_if true rfl (fun _ => ?_) (fun hc => by cases hc)
      refine awp_seq ?_
      refine awp_seq_k fun K hK => ?_
      refine awp_region_draw2 (fun x => x ≠ r ∧ x ≠ b5) [(0, 3), (1, 3), (2, 3), (3, 1), (4, 3), (5, 3), (6, 3), (7, 1), (8, 3), (9, 3)] [] draws (by kernel_rfl) rfl rfl ?_
      simp only [emitF, markOf, EM, hr, nb5_r, nr_b5, zf, hg, e1, e2, e3, RR, seval]
      refine hK _ _ ?_; clear hK K
      refine awp_if false rfl (fun hc => by cases hc) (fun _ => ?_)
      refine awp_skip ?_; try simp only [RR]
      refine awp_seq_k fun K hK => ?_
      refine awp_region rfl ?_
      simp only [hr, nb5_r, nr_b5, zf, hg, e1, e2, e3, RR, seval]
      refine hK _ _ ?_; clear hK K
      refine awp_seq_k fun K hK => ?_
      refine awp_region_draw2 (fun x => x ≠ r ∧ x ≠ b5) [(0, 3), (1, 3), (2, 3), (3, 1), (4, 3), (5, 3), (6, 3), (7, 1), (8, 3), (9, 3), (10, 3), (11, 3)] [] draws (by kernel_rfl) rfl rfl ?_
      simp only [emitF, markOf, EM, hr, nb5_r, nr_b5, zf, hg, e1, e2, e3, RR, seval]
      refine hK _ _ ?_; clear hK K
      refine awp_ret ?_; simp only [bodyQ, aresult, ares, zf, hg, e1, e2, e3, RR, seval]
      exact Gives.run ⟨_, vo, rfl, hu2, (fun _ _ e => by cases e; rfl), (fun _ _ e => by cases e), RunJ.turn (st' := { st with read := st.read + 1 }) (hR.new hn5 _) 0 rfl rfl rfl (by show st.read + 1 ≤ _; omega) hR.tk, ((keepsJ.refl _ _ _ _ _).updN hn5 _).trans (keepsJ.run _)⟩
      skip
  simp only [if_neg k1, if_neg k2, if_neg k3, if_neg k4, if_neg k5] at h
  cases hl0 : l[0]? with
  | none => rw [hl0] at h; cases h
  | some a =>
    simp only [hl0] at h
    have hg0 := getE hl0
    have hx := hfx
    obtain ⟨r1, h1⟩ : ∃ r1, evE cx n rs ow a st = some r1 := by
      cases h1 : evE cx n rs ow a st with
      | none =>
        rw [h1] at h
        by_cases k7 : k = 7
        · rw [if_pos k7] at h; cases h
        · rw [if_neg k7] at h
          cases hl1 : l[1]? with
          | none => rw [hl1] at h; cases h
          | some b =>
            simp only [hl1] at h
            by_cases k6 : k = 6
            · rw [if_pos k6] at h; cases h
            · rw [if_neg k6] at h; cases h
      | some r1 => exact ⟨r1, rfl⟩
    rw [h1] at h
    have hVa := fun H' g1 g2 g3 => hV 0 a hl0 st vo 0 H' r1 g1 g2 g3 (.inl ⟨rfl, h1⟩)
    rw [a.row_eq] at hVa
    obtain ⟨HX, hHX⟩ : ∃ X, X = H := ⟨_, rfl⟩
    by_cases k7 : k = 7
    · subst k7
      simp only [if_true] at h
      refine con_of 232 [.tmp 6] Try.func42 rfl rfl rfl rfl ?_
      refine awp_seq_k fun K hK => ?_
      refine awp_region rfl ?_
      simp only [hr, hx, nxr, nrx, hg0, RR, seval]
      refine awpN_intro fun b5 hn5 => ?_
      have nb5_r : b5 ≠ r := fun e => by rw [e] at hn5; simp only [hr, nxr, nrx, RR, seval, reduceCtorEq] at hn5
      have nr_b5 : r ≠ b5 := fun e => nb5_r e.symm
      have nb5_x : b5 ≠ x := fun e => by rw [e] at hn5; simp only [hx, nxr, nrx, RR, seval, reduceCtorEq] at hn5
      have nx_b5 : x ≠ b5 := fun e => nb5_x e.symm
      simp only [hr, hx, nxr, nrx, nb5_r, nr_b5, nb5_x, nx_b5, hg0, RR, seval]
      refine hK _ _ ?_; clear hK K
      refine awp_seq ?_
      refine awp_seq_k fun K hK => ?_
      refine awp_region rfl ?_
      simp only [hr, hx, nxr, nrx, nb5_r, nr_b5, nb5_x, nx_b5, hg0, RR, seval]
      refine hK _ _ ?_; clear hK K
      refine awp_if false rfl (fun hc => by cases hc) (fun _ => ?_)
      refine awp_skip ?_; try simp only [RR]
      refine awp_seq ?_
      refine awp_seq_k fun K hK => ?_
      refine awp_region rfl ?_
      simp only [hr, hx, nxr, nrx, nb5_r, nr_b5, nb5_x, nx_b5, hg0, RR, seval]
      refine hK _ _ ?_; clear hK K
      refine awp_block ?_
      refine awp_seq_k fun K hK => ?_
      refine awp_region rfl ?_
      simp only [hg0, RR, seval]
      refine hK _ _ ?_; clear hK K
      refine awp_if false rfl (fun hc => by cases hc) (fun _ => ?_)
      refine awp_seq_k fun K hK => ?_
      refine awp_region rfl ?_
      simp only [hg0, RR, seval]
      refine hK _ _ ?_; clear hK K
      refine awp_if false rfl (fun hc => by cases hc) (fun _ => ?_)
      refine awp_seq_k fun K hK => ?_
      refine awp_region rfl ?_
      simp only [hg0, RR, seval]
      refine hK _ _ ?_; clear hK K
      refine awp_if false rfl (fun hc => by cases hc) (fun _ => ?_)
      refine awp_seq_k fun K hK => ?_
      refine awp_region rfl ?_
      simp only [hg0, RR, seval]
      refine hK _ _ ?_; clear hK K
      refine awp_if false rfl (fun hc => by cases hc) (fun _ => ?_)
      refine awp_seq_k fun K hK => ?_
      refine awp_region rfl ?_
      simp only [hg0, RR, seval]
      refine hK _ _ ?_; clear hK K
      refine awp_if false rfl (fun hc => by cases hc) (fun _ => ?_)
      refine awp_seq_k fun K hK => ?_
      refine awp_region rfl ?_
      simp only [hg0, RR, seval]
      refine hK _ _ ?_; clear hK K
      refine awp_if false rfl (fun hc => by cases hc) (fun _ => ?_)
      refine awp_seq_k fun K hK => ?_
      refine awp_region rfl ?_
      simp only [hg0, RR, seval]
      refine hK _ _ ?_; clear hK K
      refine awp_if true rfl (fun _ => ?_) (fun hc => by cases hc)
      refine awp_name fun F1 M1 hfr hH => ?_
      have g0 := hfr 0
      have g1 := hfr 1
      have g5 := hfr 5
      have g6 := hfr 6
      have gr := hH r
      have gx := hH x
      have gb5 := hH b5
      try simp only [hr, hx, nxr, nrx, nb5_r, nr_b5, nb5_x, nx_b5, hg0, RR, seval] at g0 g1 g5 g6 gr gx gb5
      have hM := funext hH
      have hR0 := (hR.new hn5 _).same hH
      have hW0 := (hW.new hn5 _).same hH
      have hk0 : keepsJ r vv abs vo vo H M1 := by rw [hM]; exact (keepsJ.refl _ _ _ _ _).updN hn5 _
      have f0 := g0; clear g0
      have f1 := g1; clear g1
      have f5 := g5; clear g5
      have f6 := g6; clear g6
      have hr := gr; clear gr
      have hx := gx; clear gx
      have hb5 := gb5; clear gb5
      clear hfr hH
      refine awp_seq_k fun K hK => ?_
      refine awp_region rfl ?_
      simp only [f0, f1, f5, hr, hx, hb5, nxr, nrx, nb5_r, nr_b5, nb5_x, nx_b5, hg0, RR, seval]
      refine awpC_J (hVa _ hR0 hW0 hx) (fun _ => trivial) fun w vo1 H1 uw hwv hne hR1 hk1 => ?_
      simp only [RR, seval]
      refine awpC_pure' (truth_con _) ?_
      simp only [f0, f1, f5, hr, hx, hb5, nxr, nrx, nb5_r, nr_b5, nb5_x, nx_b5, hg0, RR, seval]
      refine hK _ _ ?_; clear hK K
      have hend : ∃ w', (if decide (w = 0) = true then (1 : Int) else 0) = w' ∧ u32R w' ∧ (∀ v s, o = .val v s → w' = v) ∧ (∀ e s, o = .fin e s → e ≠ 0) ∧ enR o = enR r1 ∧ o.st = r1.st := by
        refine ⟨_, rfl, by split <;> simp [u32R], ?_⟩
        cases r1 with
        | fin e1 s1 =>
          obtain rfl := Option.some.inj (show some (Rz.fin e1 s1) = some o from h)
          exact ⟨(fun _ _ e => by cases e), hne, rfl, rfl⟩
        | val x1 s1 =>
          obtain rfl := hwv _ _ rfl
          obtain rfl := Option.some.inj (show some (Rz.val (if w = 0 then (1 : Int) else 0) s1) = some o from h)
          exact ⟨(fun v s e => by cases e; simp), (fun _ _ e => by cases e), rfl, rfl⟩
      obtain ⟨w', hw', uw', g1, g2, g3, g4⟩ := hend
      rw [← g3, ← g4] at hR1
      refine awp_ret ?_; simp only [bodyQ, aresult, ares, f6, hg0, RR, seval]
      exact Gives.run ⟨_, vo1, by rw [hw'], uw', g1, g2, hR1, hk0.trans hk1⟩
      skip
    · rw [if_neg k7] at h
      cases hl1 : l[1]? with
      | none => rw [hl1] at h; cases h
      | some b =>
        simp only [hl1] at h
        have hg1 := getE hl1
        have hVb := fun vo' en' st' H' r2 g1 g2 g3 g4 => hV 1 b hl1 st' vo' en' H' r2 g1 g2 g3 g4
        rw [b.row_eq] at hVb
        by_cases k6 : k = 6
        · subst k6
          simp only [if_true] at h
          refine con_of 232 [.tmp 6] Try.func42 rfl rfl rfl rfl ?_
          refine awp_seq_k fun K hK => ?_
          refine awp_region rfl ?_
          simp only [hr, hx, nxr, nrx, hg0, hg1, RR, seval]
          refine awpN_intro fun b5 hn5 => ?_
          have nb5_r : b5 ≠ r := fun e => by rw [e] at hn5; simp only [hr, nxr, nrx, RR, seval, reduceCtorEq] at hn5
          have nr_b5 : r ≠ b5 := fun e => nb5_r e.symm
          have nb5_x : b5 ≠ x := fun e => by rw [e] at hn5; simp only [hx, nxr, nrx, RR, seval, reduceCtorEq] at hn5
          have nx_b5 : x ≠ b5 := fun e => nb5_x e.symm
          simp only [hr, hx, nxr, nrx, nb5_r, nr_b5, nb5_x, nx_b5, hg0, hg1, RR, seval]
          refine hK _ _ ?_; clear hK K
          refine awp_seq ?_
          refine awp_seq_k fun K hK => ?_
          refine awp_region rfl ?_
          simp only [hr, hx, nxr, nrx, nb5_r, nr_b5, nb5_x, nx_b5, hg0, hg1, RR, seval]
          refine hK _ _ ?_; clear hK K
          refine awp_if false rfl (fun hc => by cases hc) (fun _ => ?_)
          refine awp_skip ?_; try simp only [RR]
          refine awp_seq ?_
          refine awp_seq_k fun K hK => ?_
          refine awp_region rfl ?_
          simp only [hr, hx, nxr, nrx, nb5_r, nr_b5, nb5_x, nx_b5, hg0, hg1, RR, seval]
          refine hK _ _ ?_; clear hK K
          refine awp_block ?_
          refine awp_seq_k fun K hK => ?_
          refine awp_region rfl ?_
          simp only [hg0, hg1, RR, seval]
          refine hK _ _ ?_; clear hK K
          refine awp_if false rfl (fun hc => by cases hc) (fun _ => ?_)
          refine awp_seq_k fun K hK => ?_
          refine awp_region rfl ?_
          simp only [hg0, hg1, RR, seval]
          refine hK _ _ ?_; clear hK K
          refine awp_if false rfl (fun hc => by cases hc) (fun _ => ?_)
          refine awp_seq_k fun K hK => ?_
          refine awp_region rfl ?_
          simp only [hg0, hg1, RR, seval]
          refine hK _ _ ?_; clear hK K
          refine awp_if false rfl (fun hc => by cases hc) (fun _ => ?_)
          refine awp_seq_k fun K hK => ?_
          refine awp_region rfl ?_
          simp only [hg0, hg1, RR, seval]
          refine hK _ _ ?_; clear hK K
          refine awp_if false rfl (fun hc => by cases hc) (fun _ => ?_)
          refine awp_seq_k fun K hK => ?_
          refine awp_region rfl ?_
          simp only [hg0, hg1, RR, seval]
          refine hK _ _ ?_; clear hK K
          refine awp_if false rfl (fun hc => by cases hc) (fun _ => ?_)
          refine awp_seq_k fun K hK => ?_
          refine awp_region rfl ?_
          simp only [hg0, hg1, RR, seval]
          refine hK _ _ ?_; clear hK K
          refine awp_if true rfl (fun _ => ?_) (fun hc => by cases hc)
          refine awp_name fun F1 M1 hfr hH => ?_
          have g0 := hfr 0
          have g1 := hfr 1
          have g5 := hfr 5
          have g6 := hfr 6
          have gr := hH r
          have gx := hH x
          have gb5 := hH b5
          try simp only [hr, hx, nxr, nrx, nb5_r, nr_b5, nb5_x, nx_b5, hg0, hg1, RR, seval] at g0 g1 g5 g6 gr gx gb5
          have hM := funext hH
          have hR0 := (hR.new hn5 _).same hH
          have hW0 := (hW.new hn5 _).same hH
          have hk0 : keepsJ r vv abs vo vo H M1 := by rw [hM]; exact (keepsJ.refl _ _ _ _ _).updN hn5 _
          have f0 := g0; clear g0
          have f1 := g1; clear g1
          have f5 := g5; clear g5
          have f6 := g6; clear g6
          have hr := gr; clear gr
          have hx := gx; clear gx
          have hb5 := gb5; clear gb5
          clear hfr hH
          refine awp_seq_k fun K hK => ?_
          refine awp_region rfl ?_
          simp only [f0, f1, f5, hr, hx, hb5, nxr, nrx, nb5_r, nr_b5, nb5_x, nx_b5, hg0, hg1, RR, seval]
          refine awpC_J (hVa _ hR0 hW0 hx) (fun _ => trivial) fun w1 vo1 H1 uw1 hwv1 hne1 hR1 hk1 => ?_
          obtain ⟨r2, hc2, hcases⟩ := cont2 hne1 h
          have hr := hR1.r
          have hx := hR0.keep hx (by decide) (by decide) hk1
          have hb5 := hR0.keep hb5 (by decide) (by decide) hk1
          have hW1 := hW0.keep hR0 hk1
          simp only [RR, seval]
          refine hK _ _ ?_; clear hK K
          refine awp_seq_k fun K hK => ?_
          refine awp_region rfl ?_
          simp only [f0, f1, f5, hr, hx, hb5, nxr, nrx, nb5_r, nr_b5, nb5_x, nx_b5, hg0, hg1, RR, seval]
          refine awpC_J (hVb _ _ _ _ _ hR1 hW1 hx hc2) (fun _ => trivial) fun w2 vo2 H2 uw2 hwv2 hne2 hR2 hk2 => ?_
          have hr := hR2.r
          have hb5 := hR1.keep hb5 (by decide) (by decide) hk2
          have hk02 := (hk0.trans hk1).trans hk2
          simp only [RR, seval]
          refine hK _ _ ?_; clear hK K
          refine awp_seq ?_
          refine awp_seq_k fun K hK => ?_
          refine awp_region rfl ?_
          simp only [f0, hr, hx, hb5, nxr, nrx, nb5_r, nr_b5, nb5_x, nx_b5, hg0, hg1, RR, seval]
          refine hK _ _ ?_; clear hK K
          refine awp_if _ rfl (fun hc30 => ?_) (fun hc30 => ?_)
          · obtain ⟨e1, s1, hr2⟩ := enR_fin (o := r2) (by simpa using hc30)
            have ho : o = r2 := by
              rcases hcases with ⟨x1, s1', _, _, h4⟩ | ⟨e2, s2, _, h3, h4⟩
              · rw [hr2] at h4 ⊢
                exact (Option.some.inj (show some (Rz.fin e1 s1) = some o from h4)).symm
              · rw [h3, h4]
            subst ho
            refine awp_seq_k fun K hK => ?_
            refine awp_region rfl ?_
            simp only [hg0, hg1, RR, seval]
            refine hK _ _ ?_; clear hK K
            refine awp_ret ?_; simp only [bodyQ, aresult, ares, f6, hg0, hg1, RR, seval]
            exact Gives.run ⟨0, vo2, rfl, by simp [u32R], (fun _ _ e => by rw [hr2] at e; cases e), hne2, hR2, hk02⟩
          · obtain ⟨x2, s2, rfl⟩ := enR_val (o := r2) hne2 (by simpa using hc30)
            obtain rfl := hwv2 _ _ rfl
            obtain ⟨x1, s1, rfl, h2, h3⟩ : ∃ x s1, r1 = .val x s1 ∧ evE cx n rs ow b s1 = some (.val w2 s2) ∧ bindR (some (.val w2 s2)) (fun y st => if (applyI op x y).2 = 0 then some (Rz.val (applyI op x y).1 st) else some (.fin 2 st)) = some o := by
              rcases hcases with ⟨x1, s1, q1, q2, q3⟩ | ⟨e2, s3, _, q3, _⟩
              · exact ⟨x1, s1, q1, q2, q3⟩
              · cases q3
            obtain rfl := hwv1 _ _ rfl
            simp only [bindR] at h3
            have hA := JApply_con op uw1 uw2
            have uA := applyI_u op uw1 uw2
            generalize applyI op w1 w2 = q at hA uA h3
            obtain ⟨q1, q2⟩ := q
            have hr : H2 r = _ := hR2.r
            have hst1 : (Rz.val w2 s2).st = s2 := rfl
            have hen1 : enR (Rz.val w2 s2) = 0 := rfl
            rw [hst1, hen1] at hr
            refine awp_skip ?_; try simp only [RR]
            refine awp_seq_k fun K hK => ?_
            refine awp_region rfl ?_
            simp only [f5, hr, hx, hb5, nxr, nrx, nb5_r, nr_b5, nb5_x, nx_b5, hg0, hg1, RR, seval]
            refine awpC_pure' (hA) ?_
            simp only [f5, hr, hx, hb5, nxr, nrx, nb5_r, nr_b5, nb5_x, nx_b5, hg0, hg1, RR, seval]
            refine hK _ _ ?_; clear hK K
            refine awp_seq ?_
            refine awp_seq_k fun K hK => ?_
            refine awp_region rfl ?_
            simp only [hg0, hg1, RR, seval]
            refine hK _ _ ?_; clear hK K
            refine awp_if _ rfl (fun hc33 => ?_) (fun hc33 => ?_)
            · rw [if_neg (show ¬ q2 = 0 by simpa using hc33)] at h3
              cases h3
              have hfin := And.intro (RunJ.turn hR2 2 rfl rfl rfl hR2.rd hR2.tk) (hk02.trans (keepsJ.run (some (.rows 11 [[.isl 1 (p.vars.map strRow), .isl 2 (p.arrs.map Ar.row), .isl 5 (p.funs.map Fu.row), .str cx.inp, .int .i64 cx.fuel, vv, .isl 1 (arrRows abs s2.arrs), vo2, .int .i64 s2.read, .int .i64 s2.ticks, .int .i64 2]]))))
              have hfv : (∀ v s, (Rz.fin 2 s2 : Rz Int) = .val v s → q1 = v) ∧ ∀ e s, (Rz.fin 2 s2 : Rz Int) = .fin e s → e ≠ 0 := ⟨(fun _ _ e => by cases e), fun _ _ e => by cases e; decide⟩
              refine awp_region rfl ?_
              simp only [f0, hr, hx, hb5, nxr, nrx, nb5_r, nr_b5, nb5_x, nx_b5, hg0, hg1, RR, seval]
              refine awp_seq_k fun K hK => ?_
              refine awp_region rfl ?_
              simp only [hg0, hg1, RR, seval]
              refine hK _ _ ?_; clear hK K
              refine awp_ret ?_; simp only [bodyQ, aresult, ares, f6, hg0, hg1, RR, seval]
              exact Gives.run ⟨q1, vo2, rfl, uA, hfv.1, hfv.2, hfin.1, hfin.2⟩
            · rw [if_pos (show q2 = 0 by simpa using hc33)] at h3
              cases h3
              have hfin := And.intro hR2 hk02
              have hfv : (∀ v s, (Rz.val q1 s2 : Rz Int) = .val v s → q1 = v) ∧ ∀ e s, (Rz.val q1 s2 : Rz Int) = .fin e s → e ≠ 0 := ⟨(fun _ _ e => by cases e; rfl), fun _ _ e => by cases e⟩
              refine awp_skip ?_; try simp only [RR]
              refine awp_seq_k fun K hK => ?_
              refine awp_region rfl ?_
              simp only [hg0, hg1, RR, seval]
              refine hK _ _ ?_; clear hK K
              refine awp_ret ?_; simp only [bodyQ, aresult, ares, f6, hg0, hg1, RR, seval]
              exact Gives.run ⟨q1, vo2, rfl, uA, hfv.1, hfv.2, hfin.1, hfin.2⟩
        · rw [if_neg k6] at h
          by_cases k8 : k = 8
          · subst k8
            have k8 : decide ((8 : Int) = 8) = true := rfl
            refine con_of 232 [.tmp 6] Try.func42 rfl rfl rfl rfl ?_
            refine awp_seq_k fun K hK => ?_
            refine awp_region rfl ?_
            simp only [hr, hx, nxr, nrx, hg0, hg1, RR, seval]
            refine awpN_intro fun b5 hn5 => ?_
            have nb5_r : b5 ≠ r := fun e => by rw [e] at hn5; simp only [hr, nxr, nrx, RR, seval, reduceCtorEq] at hn5
            have nr_b5 : r ≠ b5 := fun e => nb5_r e.symm
            have nb5_x : b5 ≠ x := fun e => by rw [e] at hn5; simp only [hx, nxr, nrx, RR, seval, reduceCtorEq] at hn5
            have nx_b5 : x ≠ b5 := fun e => nb5_x e.symm
            simp only [hr, hx, nxr, nrx, nb5_r, nr_b5, nb5_x, nx_b5, hg0, hg1, RR, seval]
            refine hK _ _ ?_; clear hK K
            refine awp_seq ?_
            refine awp_seq_k fun K hK => ?_
            refine awp_region rfl ?_
            simp only [hr, hx, nxr, nrx, nb5_r, nr_b5, nb5_x, nx_b5, hg0, hg1, RR, seval]
            refine hK _ _ ?_; clear hK K
            refine awp_if false rfl (fun hc => by cases hc) (fun _ => ?_)
            refine awp_skip ?_; try simp only [RR]
            refine awp_seq ?_
            refine awp_seq_k fun K hK => ?_
            refine awp_region rfl ?_
            simp only [hr, hx, nxr, nrx, nb5_r, nr_b5, nb5_x, nx_b5, hg0, hg1, RR, seval]
            refine hK _ _ ?_; clear hK K
            refine awp_block ?_
            refine awp_seq_k fun K hK => ?_
            refine awp_region rfl ?_
            simp only [hg0, hg1, RR, seval]
            refine hK _ _ ?_; clear hK K
            refine awp_if false rfl (fun hc => by cases hc) (fun _ => ?_)
            refine awp_seq_k fun K hK => ?_
            refine awp_region rfl ?_
            simp only [hg0, hg1, RR, seval]
            refine hK _ _ ?_; clear hK K
            refine awp_if false rfl (fun hc => by cases hc) (fun _ => ?_)
            refine awp_seq_k fun K hK => ?_
            refine awp_region rfl ?_
            simp only [hg0, hg1, RR, seval]
            refine hK _ _ ?_; clear hK K
            refine awp_if false rfl (fun hc => by cases hc) (fun _ => ?_)
            refine awp_seq_k fun K hK => ?_
            refine awp_region rfl ?_
            simp only [hg0, hg1, RR, seval]
            refine hK _ _ ?_; clear hK K
            refine awp_if false rfl (fun hc => by cases hc) (fun _ => ?_)
            refine awp_seq_k fun K hK => ?_
            refine awp_region rfl ?_
            simp only [hg0, hg1, RR, seval]
            refine hK _ _ ?_; clear hK K
            refine awp_if false rfl (fun hc => by cases hc) (fun _ => ?_)
            refine awp_seq_k fun K hK => ?_
            refine awp_region rfl ?_
            simp only [hg0, hg1, RR, seval]
            refine hK _ _ ?_; clear hK K
            refine awp_if false rfl (fun hc => by cases hc) (fun _ => ?_)
            refine awp_seq_k fun K hK => ?_
            refine awp_region rfl ?_
            simp only [hg0, hg1, RR, seval]
            refine hK _ _ ?_; clear hK K
            refine awp_if false rfl (fun hc => by cases hc) (fun _ => ?_)
            refine awp_seq_k fun K hK => ?_
            refine awp_region rfl ?_
            simp only [hg0, hg1, RR, seval]
            refine hK _ _ ?_; clear hK K
            refine awp_if true rfl (fun _ => ?_) (fun hc => by cases hc)
            refine awp_seq ?_
            refine awp_name fun F1 M1 hfr hH => ?_
            have g0 := hfr 0
            have g1 := hfr 1
            have g5 := hfr 5
            have g6 := hfr 6
            have gr := hH r
            have gx := hH x
            have gb5 := hH b5
            try simp only [hr, hx, nxr, nrx, nb5_r, nr_b5, nb5_x, nx_b5, hg0, hg1, RR, seval] at g0 g1 g5 g6 gr gx gb5
            have hM := funext hH
            have hR0 := (hR.new hn5 _).same hH
            have hW0 := (hW.new hn5 _).same hH
            have hk0 : keepsJ r vv abs vo vo H M1 := by rw [hM]; exact (keepsJ.refl _ _ _ _ _).updN hn5 _
            have f0 := g0; clear g0
            have f1 := g1; clear g1
            have f5 := g5; clear g5
            have f6 := g6; clear g6
            have hr := gr; clear gr
            have hx := gx; clear gx
            have hb5 := gb5; clear gb5
            clear hfr hH
            refine awp_seq_k fun K hK => ?_
            refine awp_region rfl ?_
            simp only [f0, f1, f5, hr, hx, hb5, nxr, nrx, nb5_r, nr_b5, nb5_x, nx_b5, hg0, hg1, RR, seval]
            refine awpC_J (hVa _ hR0 hW0 hx) (fun _ => trivial) fun w1 vo1 H1 uw1 hwv1 hne1 hR1 hk1 => ?_
            have hr := hR1.r
            have hx := hR0.keep hx (by decide) (by decide) hk1
            have hb5 := hR0.keep hb5 (by decide) (by decide) hk1
            have hW1 := hW0.keep hR0 hk1
            simp only [RR, seval]
            refine hK _ _ ?_; clear hK K
            refine awp_if _ rfl (fun hc39 => ?_) (fun hc39 => ?_)
            · have hw1 : w1 = 0 := of_decide_eq_true hc39
              have hend : (∀ v s, o = .val v s → w1 = v) ∧ (∀ e s, o = .fin e s → e ≠ 0) ∧ enR o = enR r1 ∧ o.st = r1.st := by
                cases r1 with
                | fin e1 s1 =>
                  obtain rfl := Option.some.inj (show some (Rz.fin e1 s1) = some o from h)
                  exact ⟨(fun _ _ e => by cases e), hne1, rfl, rfl⟩
                | val x1 s1 =>
                  obtain rfl := hwv1 _ _ rfl
                  simp only [bindR] at h
                  rw [if_pos (by simp [hw1, k8])] at h
                  cases h
                  exact ⟨(fun v s e => by cases e; rfl), (fun _ _ e => by cases e), rfl, rfl⟩
              obtain ⟨g1, g2, g3, g4⟩ := hend
              rw [← g3, ← g4] at hR1
              subst hw1
              refine awp_seq_k fun K hK => ?_
              refine awp_region rfl ?_
              simp only [hg0, hg1, RR, seval]
              refine hK _ _ ?_; clear hK K
              refine awp_ret ?_; simp only [bodyQ, aresult, ares, f6, hg0, hg1, RR, seval]
              exact Gives.run ⟨0, vo1, rfl, uw1, g1, g2, hR1, hk0.trans hk1⟩
            · have hw1 : ¬ w1 = 0 := of_decide_eq_false hc39
              have hc2 : contJ (enR r1) r1.st (evE cx n rs ow b r1.st) o := by
                cases r1 with
                | fin e1 s1 =>
                  obtain rfl := Option.some.inj (show some (Rz.fin e1 s1) = some o from h)
                  exact .inr ⟨hne1 _ _ rfl, rfl⟩
                | val x1 s1 =>
                  obtain rfl := hwv1 _ _ rfl
                  simp only [bindR] at h
                  rw [if_neg (by simp [hw1, k8])] at h
                  exact .inl ⟨rfl, h⟩
              refine awp_skip ?_; try simp only [RR]
              refine awp_seq_k fun K hK => ?_
              refine awp_region rfl ?_
              simp only [f0, f1, f5, hr, hx, hb5, nxr, nrx, nb5_r, nr_b5, nb5_x, nx_b5, hg0, hg1, RR, seval]
              refine awpC_J (hVb _ _ _ _ _ hR1 hW1 hx hc2) (fun _ => trivial) fun w2 vo2 H2 uw2 hwv2 hne2 hR2 hk2 => ?_
              simp only [RR, seval]
              refine hK _ _ ?_; clear hK K
              refine awp_ret ?_; simp only [bodyQ, aresult, ares, f6, hg0, hg1, RR, seval]
              exact Gives.run ⟨w2, vo2, rfl, uw2, hwv2, hne2, hR2, (hk0.trans hk1).trans hk2⟩
          · skip
            refine con_of 232 [.tmp 6] Try.func42 rfl rfl rfl rfl ?_
            refine awp_seq_k fun K hK => ?_
            refine awp_region rfl ?_
            simp only [hr, hx, nxr, nrx, hg0, hg1, k1, k2, k3, k4, k5, k6, k7, k8, RR, seval]
            refine awpN_intro fun b5 hn5 => ?_
            have nb5_r : b5 ≠ r := fun e => by rw [e] at hn5; simp only [hr, nxr, nrx, RR, seval, reduceCtorEq] at hn5
            have nr_b5 : r ≠ b5 := fun e => nb5_r e.symm
            have nb5_x : b5 ≠ x := fun e => by rw [e] at hn5; simp only [hx, nxr, nrx, RR, seval, reduceCtorEq] at hn5
            have nx_b5 : x ≠ b5 := fun e => nb5_x e.symm
            simp only [hr, hx, nxr, nrx, nb5_r, nr_b5, nb5_x, nx_b5, hg0, hg1, k1, k2, k3, k4, k5, k6, k7, k8, RR, seval]
            refine hK _ _ ?_; clear hK K
            refine awp_seq ?_
            refine awp_seq_k fun K hK => ?_
            refine awp_region rfl ?_
            simp only [hr, hx, nxr, nrx, nb5_r, nr_b5, nb5_x, nx_b5, hg0, hg1, k1, k2, k3, k4, k5, k6, k7, k8, RR, seval]
            refine hK _ _ ?_; clear hK K
            refine awp_if false rfl (fun hc => by cases hc) (fun _ => ?_)
            refine awp_skip ?_; try simp only [RR]
            refine awp_seq ?_
            refine awp_seq_k fun K hK => ?_
            refine awp_region rfl ?_
            simp only [hr, hx, nxr, nrx, nb5_r, nr_b5, nb5_x, nx_b5, hg0, hg1, k1, k2, k3, k4, k5, k6, k7, k8, RR, seval]
            refine hK _ _ ?_; clear hK K
            refine awp_block ?_
            refine awp_seq_k fun K hK => ?_
            refine awp_region rfl ?_
            simp only [hg0, hg1, k1, k2, k3, k4, k5, k6, k7, k8, RR, seval]
            refine hK _ _ ?_; clear hK K
            refine awp_if false rfl (fun hc => by cases hc) (fun _ => ?_)
            refine awp_seq_k fun K hK => ?_
            refine awp_region rfl ?_
            simp only [hg0, hg1, k1, k2, k3, k4, k5, k6, k7, k8, RR, seval]
            refine hK _ _ ?_; clear hK K
            refine awp_if false rfl (fun hc => by cases hc) (fun _ => ?_)
            refine awp_seq_k fun K hK => ?_
            refine awp_region rfl ?_
            simp only [hg0, hg1, k1, k2, k3, k4, k5, k6, k7, k8, RR, seval]
            refine hK _ _ ?_; clear hK K
            refine awp_if false rfl (fun hc => by cases hc) (fun _ => ?_)
            refine awp_seq_k fun K hK => ?_
            refine awp_region rfl ?_
            simp only [hg0, hg1, k1, k2, k3, k4, k5, k6, k7, k8, RR, seval]
            refine hK _ _ ?_; clear hK K
            refine awp_if false rfl (fun hc => by cases hc) (fun _ => ?_)
            refine awp_seq_k fun K hK => ?_
            refine awp_region rfl ?_
            simp only [hg0, hg1, k1, k2, k3, k4, k5, k6, k7, k8, RR, seval]
            refine hK _ _ ?_; clear hK K
            refine awp_if false rfl (fun hc => by cases hc) (fun _ => ?_)
            refine awp_seq_k fun K hK => ?_
            refine awp_region rfl ?_
            simp only [hg0, hg1, k1, k2, k3, k4, k5, k6, k7, k8, RR, seval]
            refine hK _ _ ?_; clear hK K
            refine awp_if false rfl (fun hc => by cases hc) (fun _ => ?_)
            refine awp_seq_k fun K hK => ?_
            refine awp_region rfl ?_
            simp only [hg0, hg1, k1, k2, k3, k4, k5, k6, k7, k8, RR, seval]
            refine hK _ _ ?_; clear hK K
            refine awp_if false rfl (fun hc => by cases hc) (fun _ => ?_)
            refine awp_seq_k fun K hK => ?_
            refine awp_region rfl ?_
            simp only [hg0, hg1, k1, k2, k3, k4, k5, k6, k7, k8, RR, seval]
            refine hK _ _ ?_; clear hK K
            refine awp_if false rfl (fun hc => by cases hc) (fun _ => ?_)
            refine awp_skip ?_; try simp only [RR]
            refine awp_name fun F1 M1 hfr hH => ?_
            have g0 := hfr 0
            have g1 := hfr 1
            have g5 := hfr 5
            have g6 := hfr 6
            have gr := hH r
            have gx := hH x
            have gb5 := hH b5
            try simp only [hr, hx, nxr, nrx, nb5_r, nr_b5, nb5_x, nx_b5, hg0, hg1, k1, k2, k3, k4, k5, k6, k7, k8, RR, seval] at g0 g1 g5 g6 gr gx gb5
            have hM := funext hH
            have hR0 := (hR.new hn5 _).same hH
            have hW0 := (hW.new hn5 _).same hH
            have hk0 : keepsJ r vv abs vo vo H M1 := by rw [hM]; exact (keepsJ.refl _ _ _ _ _).updN hn5 _
            have f0 := g0; clear g0
            have f1 := g1; clear g1
            have f5 := g5; clear g5
            have f6 := g6; clear g6
            have hr := gr; clear gr
            have hx := gx; clear gx
            have hb5 := gb5; clear gb5
            clear hfr hH
            refine awp_seq_k fun K hK => ?_
            refine awp_region rfl ?_
            simp only [f0, f1, f5, hr, hx, hb5, nxr, nrx, nb5_r, nr_b5, nb5_x, nx_b5, hg0, hg1, k1, k2, k3, k4, k5, k6, k7, k8, RR, seval]
            refine awpC_J (hVa _ hR0 hW0 hx) (fun _ => trivial) fun w1 vo1 H1 uw1 hwv1 hne1 hR1 hk1 => ?_
            have hr := hR1.r
            have hx := hR0.keep hx (by decide) (by decide) hk1
            have hb5 := hR0.keep hb5 (by decide) (by decide) hk1
            have hW1 := hW0.keep hR0 hk1
            simp only [RR, seval]
            refine hK _ _ ?_; clear hK K
            refine awp_seq ?_
            refine awp_seq_k fun K hK => ?_
            refine awp_region rfl ?_
            simp only [hg0, hg1, k1, k2, k3, k4, k5, k6, k7, k8, RR, seval]
            refine hK _ _ ?_; clear hK K
            refine awp_if _ rfl (fun hc43 => ?_) (fun hc43 => ?_)
            · have hw1 : ¬ w1 = 0 := by simpa using hc43
              have hend : (∀ v s, o = .val v s → w1 = v) ∧ (∀ e s, o = .fin e s → e ≠ 0) ∧ enR o = enR r1 ∧ o.st = r1.st := by
                cases r1 with
                | fin e1 s1 =>
                  obtain rfl := Option.some.inj (show some (Rz.fin e1 s1) = some o from h)
                  exact ⟨(fun _ _ e => by cases e), hne1, rfl, rfl⟩
                | val x1 s1 =>
                  obtain rfl := hwv1 _ _ rfl
                  simp only [bindR] at h
                  rw [if_pos (by simp [hw1, k8])] at h
                  cases h
                  exact ⟨(fun v s e => by cases e; rfl), (fun _ _ e => by cases e), rfl, rfl⟩
              obtain ⟨g1, g2, g3, g4⟩ := hend
              rw [← g3, ← g4] at hR1
              refine awp_seq_k fun K hK => ?_
              refine awp_region rfl ?_
              simp only [hg0, hg1, k1, k2, k3, k4, k5, k6, k7, k8, RR, seval]
              refine hK _ _ ?_; clear hK K
              refine awp_ret ?_; simp only [bodyQ, aresult, ares, f6, hg0, hg1, k1, k2, k3, k4, k5, k6, k7, k8, RR, seval]
              exact Gives.run ⟨w1, vo1, rfl, uw1, g1, g2, hR1, hk0.trans hk1⟩
            · have hw1 : w1 = 0 := by simpa using hc43
              have hc2 : contJ (enR r1) r1.st (evE cx n rs ow b r1.st) o := by
                cases r1 with
                | fin e1 s1 =>
                  obtain rfl := Option.some.inj (show some (Rz.fin e1 s1) = some o from h)
                  exact .inr ⟨hne1 _ _ rfl, rfl⟩
                | val x1 s1 =>
                  obtain rfl := hwv1 _ _ rfl
                  simp only [bindR] at h
                  rw [if_neg (by simp [hw1, k8])] at h
                  exact .inl ⟨rfl, h⟩
              refine awp_skip ?_; try simp only [RR]
              refine awp_seq_k fun K hK => ?_
              refine awp_region rfl ?_
              simp only [f0, f1, f5, hr, hx, hb5, nxr, nrx, nb5_r, nr_b5, nb5_x, nx_b5, hg0, hg1, k1, k2, k3, k4, k5, k6, k7, k8, RR, seval]
              refine awpC_J (hVb _ _ _ _ _ hR1 hW1 hx hc2) (fun _ => trivial) fun w2 vo2 H2 uw2 hwv2 hne2 hR2 hk2 => ?_
              simp only [RR, seval]
              refine hK _ _ ?_; clear hK K
              refine awp_ret ?_; simp only [bodyQ, aresult, ares, f6, hg0, hg1, k1, k2, k3, k4, k5, k6, k7, k8, RR, seval]
              exact Gives.run ⟨w2, vo2, rfl, uw2, hwv2, hne2, hR2, (hk0.trans hk1).trans hk2⟩
end
end Go.Proofs.Ytlokndnkpleegaa
