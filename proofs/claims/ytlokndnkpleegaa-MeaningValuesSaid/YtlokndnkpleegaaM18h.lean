/- Chapter 18, the program's: what two words make by an operation. -/
import Derived.Test.YtlokndnkpleegaaM18g
import Derived.Test.YtlokndnkpleegaaTyB
set_option linter.unusedSimpArgs false
set_option linter.unusedVariables false
set_option maxRecDepth 10000
namespace Go.Al
theorem tmod_u {a b : Int} (ha : u32R a) (hb : u32R b) (h0 : ¬ b = 0) : u32R (a.tmod b) := by
  obtain ⟨a1, a2⟩ := ha
  obtain ⟨b1, b2⟩ := hb
  have := Int.tmod_nonneg b a1
  have := Int.tmod_lt_of_pos a (show 0 < b by omega)
  exact ⟨by omega, by omega⟩
theorem wrap_u (n : Int) : u32R (IntKind.wrap .u32 n) := by
  have h : IntKind.wrap .u32 n = n % 4294967296 := by simp [IntKind.wrap, IntKind.signed, IntKind.bits]
  rw [h]
  exact ⟨Int.emod_nonneg _ (by decide), Int.emod_lt_of_pos _ (by decide)⟩
theorem shr_u {a : Int} (ha : u32R a) (k : Nat) : u32R (a.fdiv (2 ^ k)) := by
  obtain ⟨a1, a2⟩ := ha
  have hp : (0 : Int) < 2 ^ k := Int.pow_pos (by decide)
  rw [Int.fdiv_eq_ediv_of_nonneg _ (by omega)]
  have h1 := Int.ediv_nonneg a1 (Int.le_of_lt hp)
  have h2 := Int.ediv_le_self (2 ^ k) a1
  exact ⟨h1, by omega⟩
theorem u_ite {c : Prop} [Decidable c] {x y : Int} (h : c → u32R x) (h' : ¬ c → u32R y) : u32R (if c then x else y) := by
  by_cases hc : c
  · rw [if_pos hc]; exact h hc
  · rw [if_neg hc]; exact h' hc
theorem applyI_u (op : Int) {a b : Int} (ha : u32R a) (hb : u32R b) : u32R (applyI op a b).1 := by
  unfold applyI
  generalize min b.toNat 32 = k
  have z : u32R 0 := by simp [u32R]
  have o : u32R 1 := by simp [u32R]
  simp only [apply_ite Prod.fst]
  repeat' refine u_ite (fun _ => ?_) fun _ => ?_
  all_goals first | exact wrap_u _ | exact z | exact o | exact tmod_u ha hb ‹_› | exact shr_u ha _
end Go.Al
namespace Go.Proofs.Ytlokndnkpleegaa
open Go.Al
theorem divide_con (op a b : Int) : PCon env 76 [.int .i64 op, .int .u32 a, .int .u32 b] (.tup (if b = 0 then [.int .u32 0, .int .i64 14] else if op = 7 then [.int .u32 (IntKind.wrap .u32 (a.tdiv b)), .int .i64 0] else [.int .u32 (a.tmod b), .int .i64 0])) := by
  by_cases h : b = 0
  · subst h
    rw [if_pos rfl]
    refine con_of 18 [.tmp 6, .tmp 7] Try.func76 rfl rfl rfl rfl ?_
    refine awp_seq_k fun K hK => ?_
    refine awp_region rfl ?_
    simp only [RR, seval]
    refine hK _ _ ?_; clear hK K
    refine awp_seq ?_
    refine awp_seq_k fun K hK => ?_
    refine awp_region rfl ?_
    simp only [RR, seval]
    refine hK _ _ ?_; clear hK K
    refine awp_if true rfl (fun _ => ?_) (fun hc => by cases hc)
    refine awp_seq_k fun K hK => ?_
    refine awp_region rfl ?_
    simp only [RR, seval]
    refine hK _ _ ?_; clear hK K
    refine awp_ret ?_; simp only [bodyQ, aresult, ares, RR, seval]
    refine Gives.pure ?_
    rfl
  · rw [if_neg h]
    by_cases h7 : op = 7
    · subst h7
      rw [if_pos rfl]
      refine con_of 18 [.tmp 6, .tmp 7] Try.func76 rfl rfl rfl rfl ?_
      refine awp_seq_k fun K hK => ?_
      refine awp_region rfl ?_
      simp only [h, RR, seval]
      refine hK _ _ ?_; clear hK K
      refine awp_seq ?_
      refine awp_seq_k fun K hK => ?_
      refine awp_region rfl ?_
      simp only [h, RR, seval]
      refine hK _ _ ?_; clear hK K
      refine awp_if false rfl (fun hc => by cases hc) (fun _ => ?_)
      refine awp_skip ?_; try simp only [RR]
      refine awp_seq ?_
      refine awp_seq_k fun K hK => ?_
      refine awp_region rfl ?_
      simp only [h, RR, seval]
      refine hK _ _ ?_; clear hK K
      refine awp_if true rfl (fun _ => ?_) (fun hc => by cases hc)
      refine awp_seq_k fun K hK => ?_
      refine awp_region rfl ?_
      simp only [h, RR, seval]
      refine hK _ _ ?_; clear hK K
      refine awp_ret ?_; simp only [bodyQ, aresult, ares, h, RR, seval]
      refine Gives.pure ?_
      rfl
    · rw [if_neg h7]
      refine con_of 18 [.tmp 6, .tmp 7] Try.func76 rfl rfl rfl rfl ?_
      refine awp_seq_k fun K hK => ?_
      refine awp_region rfl ?_
      simp only [h, h7, RR, seval]
      refine hK _ _ ?_; clear hK K
      refine awp_seq ?_
      refine awp_seq_k fun K hK => ?_
      refine awp_region rfl ?_
      simp only [h, h7, RR, seval]
      refine hK _ _ ?_; clear hK K
      refine awp_if false rfl (fun hc => by cases hc) (fun _ => ?_)
      refine awp_skip ?_; try simp only [RR]
      refine awp_seq ?_
      refine awp_seq_k fun K hK => ?_
      refine awp_region rfl ?_
      simp only [h, h7, RR, seval]
      refine hK _ _ ?_; clear hK K
      refine awp_if false rfl (fun hc => by cases hc) (fun _ => ?_)
      refine awp_skip ?_; try simp only [RR]
      refine awp_seq_k fun K hK => ?_
      refine awp_region rfl ?_
      simp only [h, h7, RR, seval]
      refine hK _ _ ?_; clear hK K
      refine awp_ret ?_; simp only [bodyQ, aresult, ares, h, h7, RR, seval]
      refine Gives.pure ?_
      rfl
theorem shift_con (op a b : Int) (hb : u32R b) : PCon env 77 [.int .i64 op, .int .u32 a, .int .u32 b] (.int .u32 (if 31 < b then 0 else if op = 12 then IntKind.wrap .u32 (a * 2 ^ (min b.toNat 32)) else a.fdiv (2 ^ (min b.toNat 32)))) := by
  have h0 : 0 ≤ b := hb.1
  have hbits : IntKind.bits .u32 = 32 := rfl
  by_cases h : 31 < b
  · rw [if_pos h]
    refine con_of 19 [.tmp 6] Try.func77 rfl rfl rfl rfl ?_
    refine awp_seq_k fun K hK => ?_
    refine awp_region rfl ?_
    simp only [h, RR, seval]
    refine hK _ _ ?_; clear hK K
    refine awp_seq ?_
    refine awp_block ?_
    refine awp_seq_k fun K hK => ?_
    refine awp_region rfl ?_
    simp only [h, RR, seval]
    refine hK _ _ ?_; clear hK K
    refine awp_if true rfl (fun _ => ?_) (fun hc => by cases hc)
    refine awp_seq_k fun K hK => ?_
    refine awp_region rfl ?_
    simp only [h, RR, seval]
    refine hK _ _ ?_; clear hK K
    refine awp_ret ?_; simp only [bodyQ, aresult, ares, h, RR, seval]
    refine Gives.pure ?_
    rfl
  · rw [if_neg h]
    by_cases h7 : op = 12
    · subst h7
      rw [if_pos rfl]
      refine con_of 19 [.tmp 6] Try.func77 rfl rfl rfl rfl ?_
      refine awp_seq_k fun K hK => ?_
      refine awp_region rfl ?_
      simp only [h, h0, hbits, RR, seval]
      refine hK _ _ ?_; clear hK K
      refine awp_seq ?_
      refine awp_block ?_
      refine awp_seq_k fun K hK => ?_
      refine awp_region rfl ?_
      simp only [h, h0, hbits, RR, seval]
      refine hK _ _ ?_; clear hK K
      refine awp_if false rfl (fun hc => by cases hc) (fun _ => ?_)
      refine awp_seq_k fun K hK => ?_
      refine awp_region rfl ?_
      simp only [h, h0, hbits, RR, seval]
      refine hK _ _ ?_; clear hK K
      refine awp_if true rfl (fun _ => ?_) (fun hc => by cases hc)
      refine awp_seq_k fun K hK => ?_
      refine awp_region rfl ?_
      simp only [h, h0, hbits, RR, seval]
      refine hK _ _ ?_; clear hK K
      refine awp_ret ?_; simp only [bodyQ, aresult, ares, h, h0, hbits, RR, seval]
      refine Gives.pure ?_
      rfl
    · rw [if_neg h7]
      refine con_of 19 [.tmp 6] Try.func77 rfl rfl rfl rfl ?_
      refine awp_seq_k fun K hK => ?_
      refine awp_region rfl ?_
      simp only [h, h7, h0, hbits, RR, seval]
      refine hK _ _ ?_; clear hK K
      refine awp_seq ?_
      refine awp_block ?_
      refine awp_seq_k fun K hK => ?_
      refine awp_region rfl ?_
      simp only [h, h7, h0, hbits, RR, seval]
      refine hK _ _ ?_; clear hK K
      refine awp_if false rfl (fun hc => by cases hc) (fun _ => ?_)
      refine awp_seq_k fun K hK => ?_
      refine awp_region rfl ?_
      simp only [h, h7, h0, hbits, RR, seval]
      refine hK _ _ ?_; clear hK K
      refine awp_if false rfl (fun hc => by cases hc) (fun _ => ?_)
      refine awp_skip ?_; try simp only [RR]
      refine awp_seq_k fun K hK => ?_
      refine awp_region rfl ?_
      simp only [h, h7, h0, hbits, RR, seval]
      refine hK _ _ ?_; clear hK K
      refine awp_ret ?_; simp only [bodyQ, aresult, ares, h, h7, h0, hbits, RR, seval]
      refine Gives.pure ?_
      rfl
theorem compare_con (op a b : Int) (hop : op = 14 ∨ op = 15) : PCon env 78 [.int .i64 op, .int .u32 a, .int .u32 b] (.int .u32 (if op = 14 then (if a < b then 1 else 0) else (if a = b then 1 else 0))) := by
  rcases hop with rfl | rfl
  · rw [if_pos rfl]
    by_cases h : a < b
    · rw [if_pos h]
      refine con_of 23 [.tmp 6] Try.func78 rfl rfl rfl rfl ?_
      refine awp_seq_k fun K hK => ?_
      refine awp_region rfl ?_
      simp only [h, RR, seval]
      refine hK _ _ ?_; clear hK K
      refine awp_seq ?_
      refine awp_block ?_
      refine awp_seq ?_
      refine awp_block ?_
      refine awp_block ?_
      refine awp_seq ?_
      refine awp_seq ?_
      refine awp_seq_k fun K hK => ?_
      refine awp_region rfl ?_
      simp only [h, RR, seval]
      repeat' ((first | refine awpG_splitN (fun h => ?_) (fun h => ?_) | refine awpG_split (fun h => ?_) (fun h => ?_)) <;> simp only [h, h, RR, seval])
      all_goals
        refine hK _ _ ?_; clear hK K
        refine awp_if _ rfl (fun hc1 => ?_) (fun hc1 => ?_)
        · try (cases hc1; done)
          all_goals
            refine awp_exit ?_; simp only [RR, seval]
            refine awp_seq ?_
            refine awp_seq_k fun K hK => ?_
            refine awp_region rfl ?_
            simp only [h, RR, seval]
            refine hK _ _ ?_; clear hK K
            refine awp_ret ?_; simp only [bodyQ, aresult, ares, h, RR, seval]
            refine Gives.pure ?_
            rfl
        · try (cases hc1; done)
          all_goals
            refine awp_skip ?_; try simp only [RR]
            refine awp_seq_k fun K hK => ?_
            refine awp_region rfl ?_
            simp only [h, RR, seval]
            repeat' ((first | refine awpG_splitN (fun h => ?_) (fun h => ?_) | refine awpG_split (fun h => ?_) (fun h => ?_)) <;> simp only [h, h, RR, seval])
            all_goals
              refine hK _ _ ?_; clear hK K
              refine awp_if _ rfl (fun hc2 => ?_) (fun hc2 => ?_)
              · try (cases hc2; done)
                all_goals
                  refine awp_exit ?_; simp only [RR, seval]
                  refine awp_seq ?_
                  refine awp_seq_k fun K hK => ?_
                  refine awp_region rfl ?_
                  simp only [h, RR, seval]
                  refine hK _ _ ?_; clear hK K
                  refine awp_ret ?_; simp only [bodyQ, aresult, ares, h, RR, seval]
                  refine Gives.pure ?_
                  rfl
              · try (cases hc2; done)
                all_goals
                  refine awp_skip ?_; try simp only [RR]
                  refine awp_exit ?_; simp only [RR, seval]
                  refine awp_seq_k fun K hK => ?_
                  refine awp_region rfl ?_
                  simp only [h, RR, seval]
                  refine hK _ _ ?_; clear hK K
                  refine awp_ret ?_; simp only [bodyQ, aresult, ares, h, RR, seval]
                  refine Gives.pure ?_
                  rfl
    · rw [if_neg h]
      refine con_of 23 [.tmp 6] Try.func78 rfl rfl rfl rfl ?_
      refine awp_seq_k fun K hK => ?_
      refine awp_region rfl ?_
      simp only [h, RR, seval]
      refine hK _ _ ?_; clear hK K
      refine awp_seq ?_
      refine awp_block ?_
      refine awp_seq ?_
      refine awp_block ?_
      refine awp_block ?_
      refine awp_seq ?_
      refine awp_seq ?_
      refine awp_seq_k fun K hK => ?_
      refine awp_region rfl ?_
      simp only [h, RR, seval]
      repeat' ((first | refine awpG_splitN (fun h => ?_) (fun h => ?_) | refine awpG_split (fun h => ?_) (fun h => ?_)) <;> simp only [h, h, RR, seval])
      all_goals
        refine hK _ _ ?_; clear hK K
        refine awp_if _ rfl (fun hc1 => ?_) (fun hc1 => ?_)
        · try (cases hc1; done)
          all_goals
            refine awp_exit ?_; simp only [RR, seval]
            refine awp_seq ?_
            refine awp_seq_k fun K hK => ?_
            refine awp_region rfl ?_
            simp only [h, RR, seval]
            refine hK _ _ ?_; clear hK K
            refine awp_ret ?_; simp only [bodyQ, aresult, ares, h, RR, seval]
            refine Gives.pure ?_
            rfl
        · try (cases hc1; done)
          all_goals
            refine awp_skip ?_; try simp only [RR]
            refine awp_seq_k fun K hK => ?_
            refine awp_region rfl ?_
            simp only [h, RR, seval]
            repeat' ((first | refine awpG_splitN (fun h => ?_) (fun h => ?_) | refine awpG_split (fun h => ?_) (fun h => ?_)) <;> simp only [h, h, RR, seval])
            all_goals
              refine hK _ _ ?_; clear hK K
              refine awp_if _ rfl (fun hc2 => ?_) (fun hc2 => ?_)
              · try (cases hc2; done)
                all_goals
                  refine awp_exit ?_; simp only [RR, seval]
                  refine awp_seq ?_
                  refine awp_seq_k fun K hK => ?_
                  refine awp_region rfl ?_
                  simp only [h, RR, seval]
                  refine hK _ _ ?_; clear hK K
                  refine awp_ret ?_; simp only [bodyQ, aresult, ares, h, RR, seval]
                  refine Gives.pure ?_
                  rfl
              · try (cases hc2; done)
                all_goals
                  refine awp_skip ?_; try simp only [RR]
                  refine awp_exit ?_; simp only [RR, seval]
                  refine awp_seq_k fun K hK => ?_
                  refine awp_region rfl ?_
                  simp only [h, RR, seval]
                  refine hK _ _ ?_; clear hK K
                  refine awp_ret ?_; simp only [bodyQ, aresult, ares, h, RR, seval]
                  refine Gives.pure ?_
                  rfl
  · rw [if_neg (by decide)]
    by_cases h : a = b
    · rw [if_pos h]
      refine con_of 23 [.tmp 6] Try.func78 rfl rfl rfl rfl ?_
      refine awp_seq_k fun K hK => ?_
      refine awp_region rfl ?_
      simp only [h, RR, seval]
      refine hK _ _ ?_; clear hK K
      refine awp_seq ?_
      refine awp_block ?_
      refine awp_seq ?_
      refine awp_block ?_
      refine awp_block ?_
      refine awp_seq ?_
      refine awp_seq ?_
      refine awp_seq_k fun K hK => ?_
      refine awp_region rfl ?_
      simp only [h, RR, seval]
      repeat' ((first | refine awpG_splitN (fun h => ?_) (fun h => ?_) | refine awpG_split (fun h => ?_) (fun h => ?_)) <;> simp only [h, h, RR, seval])
      all_goals
        refine hK _ _ ?_; clear hK K
        refine awp_if _ rfl (fun hc1 => ?_) (fun hc1 => ?_)
        · try (cases hc1; done)
          all_goals
            refine awp_exit ?_; simp only [RR, seval]
            refine awp_seq ?_
            refine awp_seq_k fun K hK => ?_
            refine awp_region rfl ?_
            simp only [h, RR, seval]
            refine hK _ _ ?_; clear hK K
            refine awp_ret ?_; simp only [bodyQ, aresult, ares, h, RR, seval]
            refine Gives.pure ?_
            rfl
        · try (cases hc1; done)
          all_goals
            refine awp_skip ?_; try simp only [RR]
            refine awp_seq_k fun K hK => ?_
            refine awp_region rfl ?_
            simp only [h, RR, seval]
            repeat' ((first | refine awpG_splitN (fun h => ?_) (fun h => ?_) | refine awpG_split (fun h => ?_) (fun h => ?_)) <;> simp only [h, h, RR, seval])
            all_goals
              refine hK _ _ ?_; clear hK K
              refine awp_if _ rfl (fun hc2 => ?_) (fun hc2 => ?_)
              · try (cases hc2; done)
                all_goals
                  refine awp_exit ?_; simp only [RR, seval]
                  refine awp_seq ?_
                  refine awp_seq_k fun K hK => ?_
                  refine awp_region rfl ?_
                  simp only [h, RR, seval]
                  refine hK _ _ ?_; clear hK K
                  refine awp_ret ?_; simp only [bodyQ, aresult, ares, h, RR, seval]
                  refine Gives.pure ?_
                  rfl
              · try (cases hc2; done)
                all_goals
                  refine awp_skip ?_; try simp only [RR]
                  refine awp_exit ?_; simp only [RR, seval]
                  refine awp_seq_k fun K hK => ?_
                  refine awp_region rfl ?_
                  simp only [h, RR, seval]
                  refine hK _ _ ?_; clear hK K
                  refine awp_ret ?_; simp only [bodyQ, aresult, ares, h, RR, seval]
                  refine Gives.pure ?_
                  rfl
    · rw [if_neg h]
      refine con_of 23 [.tmp 6] Try.func78 rfl rfl rfl rfl ?_
      refine awp_seq_k fun K hK => ?_
      refine awp_region rfl ?_
      simp only [h, RR, seval]
      refine hK _ _ ?_; clear hK K
      refine awp_seq ?_
      refine awp_block ?_
      refine awp_seq ?_
      refine awp_block ?_
      refine awp_block ?_
      refine awp_seq ?_
      refine awp_seq ?_
      refine awp_seq_k fun K hK => ?_
      refine awp_region rfl ?_
      simp only [h, RR, seval]
      repeat' ((first | refine awpG_splitN (fun h => ?_) (fun h => ?_) | refine awpG_split (fun h => ?_) (fun h => ?_)) <;> simp only [h, h, RR, seval])
      all_goals
        refine hK _ _ ?_; clear hK K
        refine awp_if _ rfl (fun hc1 => ?_) (fun hc1 => ?_)
        · try (cases hc1; done)
          all_goals
            refine awp_exit ?_; simp only [RR, seval]
            refine awp_seq ?_
            refine awp_seq_k fun K hK => ?_
            refine awp_region rfl ?_
            simp only [h, RR, seval]
            refine hK _ _ ?_; clear hK K
            refine awp_ret ?_; simp only [bodyQ, aresult, ares, h, RR, seval]
            refine Gives.pure ?_
            rfl
        · try (cases hc1; done)
          all_goals
            refine awp_skip ?_; try simp only [RR]
            refine awp_seq_k fun K hK => ?_
            refine awp_region rfl ?_
            simp only [h, RR, seval]
            repeat' ((first | refine awpG_splitN (fun h => ?_) (fun h => ?_) | refine awpG_split (fun h => ?_) (fun h => ?_)) <;> simp only [h, h, RR, seval])
            all_goals
              refine hK _ _ ?_; clear hK K
              refine awp_if _ rfl (fun hc2 => ?_) (fun hc2 => ?_)
              · try (cases hc2; done)
                all_goals
                  refine awp_exit ?_; simp only [RR, seval]
                  refine awp_seq ?_
                  refine awp_seq_k fun K hK => ?_
                  refine awp_region rfl ?_
                  simp only [h, RR, seval]
                  refine hK _ _ ?_; clear hK K
                  refine awp_ret ?_; simp only [bodyQ, aresult, ares, h, RR, seval]
                  refine Gives.pure ?_
                  rfl
              · try (cases hc2; done)
                all_goals
                  refine awp_skip ?_; try simp only [RR]
                  refine awp_exit ?_; simp only [RR, seval]
                  refine awp_seq_k fun K hK => ?_
                  refine awp_region rfl ?_
                  simp only [h, RR, seval]
                  refine hK _ _ ?_; clear hK K
                  refine awp_ret ?_; simp only [bodyQ, aresult, ares, h, RR, seval]
                  refine Gives.pure ?_
                  rfl
set_option maxHeartbeats 2000000 in
theorem Apply_con (op a b : Int) (hb : u32R b) : PCon env 53 [.int .i64 op, .int .u32 a, .int .u32 b] (.tup [.int .u32 (applyI op a b).1, .int .i64 (applyI op a b).2]) := by
  by_cases h : op = 4 ∨ op = 5 ∨ op = 6 ∨ op = 7 ∨ op = 8 ∨ op = 9 ∨ op = 10 ∨ op = 11 ∨ op = 12 ∨ op = 13 ∨ op = 14 ∨ op = 15
  · have hd := divide_con op a b
    have hs := shift_con op a b hb
    have hk := fun h => compare_con op a b h
    have hbits : IntKind.bits .u32 = 32 := rfl
    have e7 : b = 0 → applyI 7 a b = (0, 14) := fun h => by simp [applyI, h]
    have e7' : ¬ b = 0 → applyI 7 a b = (IntKind.wrap .u32 (a.tdiv b), 0) := fun h => by simp [applyI, h]
    have e8 : b = 0 → applyI 8 a b = (0, 14) := fun h => by simp [applyI, h]
    have e8' : ¬ b = 0 → applyI 8 a b = (a.tmod b, 0) := fun h => by simp [applyI, h]
    have e12 : applyI 12 a b = (if 31 < b then 0 else IntKind.wrap .u32 (a * 2 ^ (min b.toNat 32)), 0) := by
      show (if 31 < b then ((0 : Int), (0 : Int)) else (IntKind.wrap .u32 (a * 2 ^ (min b.toNat 32)), 0)) = _
      by_cases h : 31 < b <;> simp only [h, if_true, if_false]
    have e13 : applyI 13 a b = (if 31 < b then 0 else a.fdiv (2 ^ (min b.toNat 32)), 0) := by
      show (if 31 < b then ((0 : Int), (0 : Int)) else (a.fdiv (2 ^ (min b.toNat 32)), 0)) = _
      by_cases h : 31 < b <;> simp only [h, if_true, if_false]
    have e14 : applyI 14 a b = (if a < b then 1 else 0, 0) := by simp [applyI]
    have e15 : applyI 15 a b = (if a = b then 1 else 0, 0) := by simp [applyI]
    have a4 : applyI 4 a b = (IntKind.wrap .u32 (a + b), 0) := rfl
    have a5 : applyI 5 a b = (IntKind.wrap .u32 (a - b), 0) := rfl
    have a6 : applyI 6 a b = (IntKind.wrap .u32 (a * b), 0) := rfl
    have a9 : applyI 9 a b = (IntKind.wrap .u32 (BitVec.ofInt 32 a &&& BitVec.ofInt 32 b).toNat, 0) := rfl
    have a10 : applyI 10 a b = (IntKind.wrap .u32 (BitVec.ofInt 32 a ||| BitVec.ofInt 32 b).toNat, 0) := rfl
    have a11 : applyI 11 a b = (IntKind.wrap .u32 (BitVec.ofInt 32 a ^^^ BitVec.ofInt 32 b).toNat, 0) := rfl
    rcases h with rfl | rfl | rfl | rfl | rfl | rfl | rfl | rfl | rfl | rfl | rfl | rfl
    case inr.inr.inr.inl =>
      by_cases h0 : b = 0
      · rw [e7 h0]
        rw [if_pos h0] at hd
        refine con_of 62 [.tmp 6, .tmp 7] Try.func53 rfl rfl rfl rfl ?_
        repeat' (first | (refine awp_seq_k fun K hK => ?_; refine awp_region rfl ?_; simp only [hbits, RR, seval]; refine hK _ _ ?_; clear hK K) | (refine awp_seq ?_) | (refine awp_block ?_) | (refine awp_if true rfl (fun _ => ?_) (fun hc => by cases hc)) | (refine awp_if false rfl (fun hc => by cases hc) (fun _ => ?_)) | (refine awp_skip ?_; simp only [thenQ, blockQ]) | (refine awp_exit ?_; simp only [thenQ, blockQ, reduceIte, Nat.reduceEqDiff]) | (refine awp_region rfl ?_; simp only [hbits, thenQ, blockQ, RR, seval]) | (refine awpG_splitN (fun h => ?_) (fun h => ?_) <;> simp only [h, hbits, thenQ, blockQ, RR, seval]) | (refine awpG_split (fun h => ?_) (fun h => ?_) <;> simp only [h, hbits, thenQ, blockQ, RR, seval]) | (refine awp_if _ rfl (fun h => ?_) (fun h => ?_)) | (refine awp_ret ?_; simp only [thenQ, blockQ, bodyQ, aresult, ares, argF, hbits, RR, seval]; refine Gives.pure ?_) | (refine awpC_pure' (hd) ?_; simp only [hbits, thenQ, blockQ, RR, seval]))
        all_goals rfl
      · rw [e7' h0]
        rw [if_neg h0, if_pos rfl] at hd
        refine con_of 62 [.tmp 6, .tmp 7] Try.func53 rfl rfl rfl rfl ?_
        repeat' (first | (refine awp_seq_k fun K hK => ?_; refine awp_region rfl ?_; simp only [hbits, RR, seval]; refine hK _ _ ?_; clear hK K) | (refine awp_seq ?_) | (refine awp_block ?_) | (refine awp_if true rfl (fun _ => ?_) (fun hc => by cases hc)) | (refine awp_if false rfl (fun hc => by cases hc) (fun _ => ?_)) | (refine awp_skip ?_; simp only [thenQ, blockQ]) | (refine awp_exit ?_; simp only [thenQ, blockQ, reduceIte, Nat.reduceEqDiff]) | (refine awp_region rfl ?_; simp only [hbits, thenQ, blockQ, RR, seval]) | (refine awpG_splitN (fun h => ?_) (fun h => ?_) <;> simp only [h, hbits, thenQ, blockQ, RR, seval]) | (refine awpG_split (fun h => ?_) (fun h => ?_) <;> simp only [h, hbits, thenQ, blockQ, RR, seval]) | (refine awp_if _ rfl (fun h => ?_) (fun h => ?_)) | (refine awp_ret ?_; simp only [thenQ, blockQ, bodyQ, aresult, ares, argF, hbits, RR, seval]; refine Gives.pure ?_) | (refine awpC_pure' (hd) ?_; simp only [hbits, thenQ, blockQ, RR, seval]))
        all_goals rfl
    case inr.inr.inr.inr.inl =>
      by_cases h0 : b = 0
      · rw [e8 h0]
        rw [if_pos h0] at hd
        refine con_of 62 [.tmp 6, .tmp 7] Try.func53 rfl rfl rfl rfl ?_
        repeat' (first | (refine awp_seq_k fun K hK => ?_; refine awp_region rfl ?_; simp only [hbits, RR, seval]; refine hK _ _ ?_; clear hK K) | (refine awp_seq ?_) | (refine awp_block ?_) | (refine awp_if true rfl (fun _ => ?_) (fun hc => by cases hc)) | (refine awp_if false rfl (fun hc => by cases hc) (fun _ => ?_)) | (refine awp_skip ?_; simp only [thenQ, blockQ]) | (refine awp_exit ?_; simp only [thenQ, blockQ, reduceIte, Nat.reduceEqDiff]) | (refine awp_region rfl ?_; simp only [hbits, thenQ, blockQ, RR, seval]) | (refine awpG_splitN (fun h => ?_) (fun h => ?_) <;> simp only [h, hbits, thenQ, blockQ, RR, seval]) | (refine awpG_split (fun h => ?_) (fun h => ?_) <;> simp only [h, hbits, thenQ, blockQ, RR, seval]) | (refine awp_if _ rfl (fun h => ?_) (fun h => ?_)) | (refine awp_ret ?_; simp only [thenQ, blockQ, bodyQ, aresult, ares, argF, hbits, RR, seval]; refine Gives.pure ?_) | (refine awpC_pure' (hd) ?_; simp only [hbits, thenQ, blockQ, RR, seval]))
        all_goals rfl
      · rw [e8' h0]
        rw [if_neg h0, if_neg (by decide)] at hd
        refine con_of 62 [.tmp 6, .tmp 7] Try.func53 rfl rfl rfl rfl ?_
        repeat' (first | (refine awp_seq_k fun K hK => ?_; refine awp_region rfl ?_; simp only [hbits, RR, seval]; refine hK _ _ ?_; clear hK K) | (refine awp_seq ?_) | (refine awp_block ?_) | (refine awp_if true rfl (fun _ => ?_) (fun hc => by cases hc)) | (refine awp_if false rfl (fun hc => by cases hc) (fun _ => ?_)) | (refine awp_skip ?_; simp only [thenQ, blockQ]) | (refine awp_exit ?_; simp only [thenQ, blockQ, reduceIte, Nat.reduceEqDiff]) | (refine awp_region rfl ?_; simp only [hbits, thenQ, blockQ, RR, seval]) | (refine awpG_splitN (fun h => ?_) (fun h => ?_) <;> simp only [h, hbits, thenQ, blockQ, RR, seval]) | (refine awpG_split (fun h => ?_) (fun h => ?_) <;> simp only [h, hbits, thenQ, blockQ, RR, seval]) | (refine awp_if _ rfl (fun h => ?_) (fun h => ?_)) | (refine awp_ret ?_; simp only [thenQ, blockQ, bodyQ, aresult, ares, argF, hbits, RR, seval]; refine Gives.pure ?_) | (refine awpC_pure' (hd) ?_; simp only [hbits, thenQ, blockQ, RR, seval]))
        all_goals rfl
    all_goals first | (rw [a4]; have hcl := hd) | (rw [a5]; have hcl := hd) | (rw [a6]; have hcl := hd) | (rw [a9]; have hcl := hd) | (rw [a10]; have hcl := hd) | (rw [a11]; have hcl := hd) | (rw [e12]; have hcl := hs) | (rw [e13]; have hcl := hs) | (rw [e14]; have hcl := hk (.inl rfl)) | (rw [e15]; have hcl := hk (.inr rfl))
    all_goals
      try simp only [Int.reduceEq, if_true, if_false, reduceIte] at hcl
      refine con_of 62 [.tmp 6, .tmp 7] Try.func53 rfl rfl rfl rfl ?_
      repeat' (first | (refine awp_seq_k fun K hK => ?_; refine awp_region rfl ?_; simp only [hbits, RR, seval]; refine hK _ _ ?_; clear hK K) | (refine awp_seq ?_) | (refine awp_block ?_) | (refine awp_if true rfl (fun _ => ?_) (fun hc => by cases hc)) | (refine awp_if false rfl (fun hc => by cases hc) (fun _ => ?_)) | (refine awp_skip ?_; simp only [thenQ, blockQ]) | (refine awp_exit ?_; simp only [thenQ, blockQ, reduceIte, Nat.reduceEqDiff]) | (refine awp_region rfl ?_; simp only [hbits, thenQ, blockQ, RR, seval]) | (refine awpG_splitN (fun h => ?_) (fun h => ?_) <;> simp only [h, hbits, thenQ, blockQ, RR, seval]) | (refine awpG_split (fun h => ?_) (fun h => ?_) <;> simp only [h, hbits, thenQ, blockQ, RR, seval]) | (refine awp_if _ rfl (fun h => ?_) (fun h => ?_)) | (refine awp_ret ?_; simp only [thenQ, blockQ, bodyQ, aresult, ares, argF, hbits, RR, seval]; refine Gives.pure ?_) | (refine awpC_pure' (hcl) ?_; simp only [hbits, thenQ, blockQ, RR, seval]))
      all_goals rfl
  · have n4 : ¬ op = 4 := fun e => h (by simp [e])
    have n5 : ¬ op = 5 := fun e => h (by simp [e])
    have n6 : ¬ op = 6 := fun e => h (by simp [e])
    have n7 : ¬ op = 7 := fun e => h (by simp [e])
    have n8 : ¬ op = 8 := fun e => h (by simp [e])
    have n9 : ¬ op = 9 := fun e => h (by simp [e])
    have n10 : ¬ op = 10 := fun e => h (by simp [e])
    have n11 : ¬ op = 11 := fun e => h (by simp [e])
    have n12 : ¬ op = 12 := fun e => h (by simp [e])
    have n13 : ¬ op = 13 := fun e => h (by simp [e])
    have n14 : ¬ op = 14 := fun e => h (by simp [e])
    have n15 : ¬ op = 15 := fun e => h (by simp [e])
    have e : applyI op a b = (0, 1) := by simp [applyI, n4, n5, n6, n7, n8, n9, n10, n11, n12, n13, n14, n15]
    rw [e]
    refine con_of 62 [.tmp 6, .tmp 7] Try.func53 rfl rfl rfl rfl ?_
    repeat' (first | (refine awp_seq_k fun K hK => ?_; refine awp_region rfl ?_; simp only [n4, n5, n6, n7, n8, n9, n10, n11, n12, n13, n14, n15, RR, seval]; refine hK _ _ ?_; clear hK K) | (refine awp_seq ?_) | (refine awp_block ?_) | (refine awp_if true rfl (fun _ => ?_) (fun hc => by cases hc)) | (refine awp_if false rfl (fun hc => by cases hc) (fun _ => ?_)) | (refine awp_skip ?_; simp only [thenQ, blockQ]) | (refine awp_exit ?_; simp only [thenQ, blockQ, reduceIte, Nat.reduceEqDiff]) | (refine awp_region rfl ?_; simp only [n4, n5, n6, n7, n8, n9, n10, n11, n12, n13, n14, n15, thenQ, blockQ, RR, seval]) | (refine awpG_splitN (fun h => ?_) (fun h => ?_) <;> simp only [h, n4, n5, n6, n7, n8, n9, n10, n11, n12, n13, n14, n15, thenQ, blockQ, RR, seval]) | (refine awpG_split (fun h => ?_) (fun h => ?_) <;> simp only [h, n4, n5, n6, n7, n8, n9, n10, n11, n12, n13, n14, n15, thenQ, blockQ, RR, seval]) | (refine awp_if _ rfl (fun h => ?_) (fun h => ?_)) | (refine awp_ret ?_; simp only [thenQ, blockQ, bodyQ, aresult, ares, argF, n4, n5, n6, n7, n8, n9, n10, n11, n12, n13, n14, n15, RR, seval]; refine Gives.pure ?_))
    all_goals rfl
end Go.Proofs.Ytlokndnkpleegaa
