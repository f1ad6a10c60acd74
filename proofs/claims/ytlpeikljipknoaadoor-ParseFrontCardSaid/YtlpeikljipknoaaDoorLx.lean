/- Chapter 15, the lexer (after chapter 13): what it begins with; the signs. Chapter 15, the lexer: names, bytes, numbers. Chapter 15, the lexer: the first token. Chapter 15, the lexer: the next token. Chapter 15, the lexer, in plain Lean. Chapter 15, the lexer: the program's. Chapter 15, the lexer: the judge's. -/
import Derived.Test.YtlpeikljipknoaaDoorSy3
import Derived.Test.YtlpeikljipknoaaDoorAl4
set_option linter.unusedSimpArgs false
set_option linter.unusedVariables false
set_option maxRecDepth 10000
namespace Go.Proofs.YtlpeikljipknoaaDoor
open Go.Al
theorem lex1_con (c : Int) : PCon env 80 [.int .u8 c] (.bool (!decide (c = 10))) := by
  refine con_of 5 [.tmp 2] Tryd.func80 rfl rfl rfl rfl ?_
  refine awp_seq_k fun K hK => ?_; refine awp_region rfl ?_; simp only [RR, seval]
  refine hK _ _ ?_; clear hK K
  refine awp_seq_k fun K hK => ?_; refine awp_region rfl ?_; simp only [RR, seval]
  refine hK _ _ ?_; clear hK K
  refine awp_ret ?_; simp only [thenQ, blockQ, bodyQ, aresult, ares, argF, RR, seval]; refine Gives.pure ?_
  rfl
def hasP (s p : List UInt8) : Bool := decide (s.take p.length = p)
theorem lhas_con (s p : List UInt8) : PCon env 97 [.str s, .str p] (.bool (hasP s p)) := by
  refine con_of 18 [.tmp 4] Tryd.func97 rfl rfl rfl rfl ?_
  refine awp_seq_k fun K hK => ?_; refine awp_region rfl ?_; simp only [RR, seval]
  refine hK _ _ ?_; clear hK K
  refine awp_seq_k fun K hK => ?_; refine awp_region rfl ?_; simp only [RR, seval]
  refine awpG_split (fun h => ?_) (fun h => ?_)
  · have h' : (p.length : Int) ≤ s.length := of_decide_eq_true h
    simp only [h, h', RR, seval]
    repeat' ((first | refine awpG_splitN (fun h => ?_) (fun h => ?_) | refine awpG_split (fun h => ?_) (fun h => ?_)) <;> simp only [h, RR, seval])
    all_goals
      refine hK _ _ ?_; clear hK K
      refine awp_ret ?_; simp only [thenQ, blockQ, bodyQ, aresult, ares, argF, RR, seval]; refine Gives.pure ?_
      simp [hasP, *]
  · simp only [h, RR, seval]
    refine hK _ _ ?_; clear hK K
    refine awp_ret ?_; simp only [thenQ, blockQ, bodyQ, aresult, ares, argF, RR, seval]; refine Gives.pure ?_
    have h' : ¬ (p.length : Int) ≤ s.length := of_decide_eq_false h
    have : ¬ s.take p.length = p := fun e => by
      have := congrArg List.length e
      rw [List.length_take] at this
      omega
    simp [hasP, this]
theorem has_con (s p : List UInt8) : PCon env 78 [.str s, .str p] (.bool (hasP s p)) := by
  refine con_of 8 [.tmp 4] Tryd.func78 rfl rfl rfl rfl ?_
  refine awp_seq_k fun K hK => ?_; refine awp_region rfl ?_; simp only [RR, seval]
  refine hK _ _ ?_; clear hK K
  refine awp_seq_k fun K hK => ?_; refine awp_region rfl ?_; simp only [RR, seval]
  refine awpC_pure' (lhas_con s p) ?_
  simp only [RR, seval]
  refine hK _ _ ?_; clear hK K
  refine awp_ret ?_; simp only [thenQ, blockQ, bodyQ, aresult, ares, argF, RR, seval]; refine Gives.pure ?_
  rfl
theorem signs_con : PCon env 77 [] (.isl 1 (signsL.map fun w => [.str w])) := by
  refine con_of 2 [.tmp 0] Tryd.func77 rfl rfl rfl rfl ?_
  refine awp_seq_k fun K hK => ?_; refine awp_region rfl ?_; simp only [RR, seval]
  refine hK _ _ ?_; clear hK K
  refine awp_seq_k fun K hK => ?_; refine awp_region rfl ?_; simp only [RR, seval]
  refine awpB_sealed ?_
  simp only [RR, seval]
  refine hK _ _ ?_; clear hK K
  refine awp_ret ?_; simp only [thenQ, blockQ, bodyQ, aresult, ares, argF, RR, seval]; refine Gives.pure ?_
  rfl
end Go.Proofs.YtlpeikljipknoaaDoor

namespace Go.Proofs.YtlpeikljipknoaaDoor
open Go.Al
structure Tok where
  kind : Int
  text : List UInt8
  num : Int
  pos : Int
def Tok.row (t : Tok) : List AV := [.int .i64 t.kind, .str t.text, .int .u32 t.num, .int .i64 t.pos]
def tok0 : Tok := ⟨0, [], 0, 0⟩
def tokE (p : Tok × Int) : AV := .tup [.agg p.1.row, .int .i64 p.2]
def nameS (s : List UInt8) : Tok × Int := if 20 < s.length then (tok0, 2) else if wordsL.contains s then (⟨3, s, 0, 0⟩, 0) else (⟨1, s, 0, 0⟩, 0)
theorem nameOf_con (s : List UInt8) : PCon env 102 [.str s] (tokE (nameS s)) := by
  refine con_of 14 [.cell 2 47, .tmp 3] Tryd.func102 rfl rfl rfl rfl ?_
  refine awp_seq_k fun K hK => ?_; refine awp_region rfl ?_; simp only [RR, seval]
  refine awpN_intro fun b hb => ?_; simp only [RR, seval]
  refine hK _ _ ?_; clear hK K
  refine awp_seq ?_
  refine awp_seq_k fun K hK => ?_; refine awp_region rfl ?_; simp only [RR, seval]
  refine hK _ _ ?_; clear hK K
  refine awp_if _ rfl (fun hc => ?_) (fun hc => ?_)
  · refine awp_seq_k fun K hK => ?_; refine awp_region rfl ?_; simp only [RR, seval]
    refine hK _ _ ?_; clear hK K
    refine awp_ret ?_; simp only [thenQ, blockQ, bodyQ, aresult, ares, argF, RR, seval]; refine Gives.pure ?_
    have h : 20 < s.length := by have := of_decide_eq_true hc; omega
    simp [tokE, nameS, h, tok0, Tok.row]
  · have h : ¬ 20 < s.length := by have := of_decide_eq_false hc; omega
    refine awp_skip ?_; simp only [thenQ, blockQ]
    refine awp_seq ?_
    refine awp_seq_k fun K hK => ?_; refine awp_region rfl ?_; simp only [RR, seval]
    refine awpC_pure' (isWord_con s) ?_
    simp only [RR, seval]
    refine hK _ _ ?_; clear hK K
    refine awp_if _ rfl (fun hc => ?_) (fun hc => ?_)
    · refine awp_seq_k fun K hK => ?_; refine awp_region rfl ?_; simp only [RR, seval]
      refine hK _ _ ?_; clear hK K
      refine awp_ret ?_; simp only [thenQ, blockQ, bodyQ, aresult, ares, argF, RR, seval]; refine Gives.pure ?_
      simp only [tokE, nameS, h, hc, if_false, if_true, Tok.row]
    · refine awp_skip ?_; simp only [thenQ, blockQ]
      refine awp_seq_k fun K hK => ?_; refine awp_region rfl ?_; simp only [RR, seval]
      refine hK _ _ ?_; clear hK K
      refine awp_ret ?_; simp only [thenQ, blockQ, bodyQ, aresult, ares, argF, RR, seval]; refine Gives.pure ?_
      simp only [tokE, nameS, h, hc, if_false, Bool.false_eq_true, Tok.row]
def byteOk (c d : UInt8) : Bool := decide ((d.toNat : Int) = 39) && !decide ((c.toNat : Int) < 32) && !decide (126 < (c.toNat : Int)) && !decide ((c.toNat : Int) = 39) && !decide ((c.toNat : Int) = 92)
def byteS (s : List UInt8) : Tok × Int :=
  match s with
  | _ :: c :: d :: _ => if byteOk c d then (⟨2, s.take 3, c.toNat, 0⟩, 0) else (tok0, 3)
  | _ => (tok0, 3)
theorem byteOf_con (s : List UInt8) : PCon env 100 [.str s] (tokE (byteS s)) := by
  refine con_of 39 [.cell 2 47, .tmp 3] Tryd.func100 rfl rfl rfl rfl ?_
  refine awp_seq_k fun K hK => ?_; refine awp_region rfl ?_; simp only [RR, seval]
  refine awpN_intro fun b hb => ?_; simp only [RR, seval]
  refine hK _ _ ?_; clear hK K
  refine awp_seq ?_
  refine awp_cutK (fun fr H => ∃ b b0 : _, fr 31 = .bool b ∧ fr 0 = .str s ∧ fr 2 = .ptr 4 b0 0 0 ∧ H b0 = some (.rows 4 [tok0.row]) ∧ (b = true → byteS s = (tok0, 3)) ∧ (b = false → ∃ x c d r, s = x :: c :: d :: r ∧ byteS s = (⟨2, s.take 3, c.toNat, 0⟩, 0))) (fun K hK => ?_) ?_
  · refine awp_region rfl ?_; simp only [RR, seval]
    by_cases hl : s.length < 3
    · have h : decide ((s.length : Int) < 3) = true := decide_eq_true (by omega)
      simp only [h, RR, seval]
      repeat' ((first | refine awpG_splitN (fun h => ?_) (fun h => ?_) | refine awpG_split (fun h => ?_) (fun h => ?_)) <;> simp only [h, RR, seval])
      refine hK _ _ ⟨_, b, rfl, rfl, rfl, upd_same _ _ _, fun _ => ?_, fun e => by cases e⟩
      match s, hl with
      | [], _ => rfl
      | [_], _ => rfl
      | [_, _], _ => rfl
      | _ :: _ :: _ :: _, hl => simp only [List.length_cons] at hl; omega
    · have h : decide ((s.length : Int) < 3) = false := decide_eq_false (by omega)
      obtain ⟨x, c, d, r, e⟩ : ∃ x c d r, s = x :: c :: d :: r := by
        match s, hl with
        | [], hl => exact absurd (by decide) hl
        | [_], hl => exact absurd (by simp) hl
        | [_, _], hl => exact absurd (by simp) hl
        | x :: c :: d :: r, _ => exact ⟨x, c, d, r, rfl⟩
      have h1 : s[1]? = some c := by rw [e]; rfl
      have h2 : s[2]? = some d := by rw [e]; rfl
      simp only [h, h1, h2, RR, seval]
      repeat' ((first | refine awpG_splitN (fun h => ?_) (fun h => ?_) | refine awpG_split (fun h => ?_) (fun h => ?_)) <;> simp only [h, h1, h2, RR, seval])
      all_goals
        refine hK _ _ ⟨_, b, rfl, rfl, rfl, upd_same _ _ _, ?_, ?_⟩; clear hK
        · subst e; intro g; first | (simp only [Bool.false_eq_true] at g; done) | simp_all [byteS, byteOk]
        · subst e; intro g; first | (simp only [Bool.true_eq_false] at g; done) | exact ⟨x, c, d, r, rfl, by clear hK; simp_all [byteS, byteOk]⟩
  · rintro fr H ⟨t, b0, h31, h0, h2, hb0, ht, hf⟩
    refine awp_if _ h31 (fun hc => ?_) (fun hc => ?_)
    · refine awp_seq_k fun K hK => ?_; refine awp_region rfl ?_; simp only [RR, seval]
      simp only [h2, hb0, Tok.row, RR, seval]
      refine hK _ _ ?_; clear hK K
      refine awp_ret ?_; simp only [thenQ, blockQ, bodyQ, aresult, ares, argF, h2, RR, seval]; refine Gives.pure ?_
      rw [ht hc]
      rfl
    · refine awp_skip ?_; simp only [thenQ, blockQ]
      obtain ⟨x, c, d, r, e, hs⟩ := hf hc
      have h1' : s[1]? = some c := by rw [e]; rfl
      have hl : (3 : Int) ≤ s.length := by rw [e]; simp only [List.length_cons]; omega
      refine awp_seq_k fun K hK => ?_
      refine awp_region_draw (fun _ => True) [(0, true), (1, true), (2, true), (3, true), (4, true), (5, true), (6, true), (7, true)] draws (by kernel_rfl) rfl ?_
      simp only [emit, markOf, h0, h2, hb0, h1', hl, Tok.row, RR, seval]
      refine hK _ _ ?_; clear hK K
      refine awp_ret ?_; simp only [thenQ, blockQ, bodyQ, aresult, ares, argF, h2, RR, seval]; refine Gives.pure ?_
      rw [hs, IntWalk.u32_in _ (by have := c.toNat_lt; omega)]
      rfl
def numS : Int → List UInt8 → Option Int
  | n, [] => some n
  | n, c :: cs => if 4294967295 < n * 10 + ((c.toNat : Int) - 48) then none else numS (n * 10 + ((c.toNat : Int) - 48)) cs
def numTok (s : List UInt8) : Tok × Int := match numS 0 s with | some n => (⟨2, s, n, 0⟩, 0) | none => (tok0, 2)
theorem digit_bounds {c : UInt8} (h : digI c.toNat = true) : 48 ≤ (c.toNat : Int) ∧ (c.toNat : Int) ≤ 57 := by
  simpa [digI] using h
theorem numS_bound : ∀ (s : List UInt8) (n m : Int), 0 ≤ n → n ≤ 4294967295 → s.all (fun c => digI c.toNat) = true → numS n s = some m → 0 ≤ m ∧ m ≤ 4294967295
  | [], n, m, h0, h1, _, h => by simp only [numS, Option.some.injEq] at h; omega
  | c :: cs, n, m, h0, h1, hd, h => by
    simp only [List.all_cons, Bool.and_eq_true] at hd
    have hb := digit_bounds hd.1
    simp only [numS] at h
    split at h
    · cases h
    · exact numS_bound cs _ m (by omega) (by omega) hd.2 h
theorem numberOf_con (s : List UInt8) (hs : s.length ≤ 1000000) (hd : s.all (fun c => digI c.toNat) = true) : PCon env 99 [.str s] (tokE (numTok s)) := by
  refine con_of 27 [.cell 2 47, .tmp 3] Tryd.func99 rfl rfl rfl rfl ?_
  refine awp_seq_k fun K hK => ?_; refine awp_region rfl ?_; simp only [RR, seval]
  refine awpN_intro fun b hb => ?_; simp only [RR, seval]
  refine hK _ _ ?_; clear hK K
  refine awp_seq_k fun K hK => ?_; refine awp_region rfl ?_; simp only [RR, seval]
  refine hK _ _ ?_; clear hK K
  refine awp_seq ?_
  refine awp_seq ?_
  refine awp_region rfl ?_; simp only [RR, seval]
  refine awp_block ?_
  refine awp_loopK (fun k fr H => ∃ (i : Nat) (n : Int) (b : Nat), k = s.length - i ∧ i ≤ s.length ∧ 0 ≤ n ∧ n ≤ 4294967295 ∧ numS 0 s = numS n (s.drop i) ∧ fr 0 = .str s ∧ fr 2 = .ptr 4 b 0 0 ∧ H b = some (.rows 4 [tok0.row]) ∧ fr 4 = .int .u64 n ∧ fr 5 = .int .i64 i) s.length ⟨0, 0, b, rfl, by omega, by omega, by omega, rfl, rfl, rfl, upd_same _ _ _, rfl, rfl⟩ ?_
  rintro k fr H ⟨i, n, b, rfl, hi, hn0, hn1, hnum, h0, h2, hb, h4, h5⟩ K hK
  refine awp_seq ?_
  refine awp_seq ?_
  refine awp_region rfl ?_; simp only [RR, seval]
  simp only [h0, h5, RR, seval]
  refine awp_if _ rfl (fun hc => ?_) (fun hc => ?_)
  · have hl : i < s.length := by have := of_decide_eq_true hc; omega
    have hg : s[i]? = some s[i] := List.getElem?_eq_getElem hl
    have hdi : digI s[i].toNat = true := by
      rw [List.all_eq_true] at hd
      exact hd s[i] (List.getElem_mem hl)
    have hbd := digit_bounds hdi
    have hstep : numS n (s.drop i) = if 4294967295 < n * 10 + ((s[i].toNat : Int) - 48) then none else numS (n * 10 + ((s[i].toNat : Int) - 48)) (s.drop (i + 1)) := by
      rw [List.drop_eq_getElem_cons hl]; rfl
    refine awp_skip ?_; simp only [thenQ, blockQ]
    refine awp_seq ?_
    refine awp_block ?_
    refine awp_seq_k fun K hK => ?_; refine awp_region rfl ?_; simp only [RR, seval]
    simp only [h0, h4, h5, hg, RR, seval]
    rw [IntWalk.u64_in (n * 10) (by omega), IntWalk.u8_in _ (by omega), IntWalk.u64_in ((s[i].toNat : Int) - 48) (by omega), IntWalk.u64_in _ (by omega)]
    refine hK _ _ ?_; clear hK K
    refine awp_seq_k fun K hK => ?_; refine awp_region rfl ?_; simp only [RR, seval]
    refine hK _ _ ?_; clear hK K
    refine awp_if _ rfl (fun hc => ?_) (fun hc => ?_)
    · refine awp_seq_k fun K hK => ?_; refine awp_region rfl ?_; simp only [RR, seval]
      simp only [h2, hb, Tok.row, tok0, RR, seval]
      refine hK _ _ ?_; clear hK K
      refine awp_ret ?_; simp only [thenQ, blockQ, bodyQ, aresult, ares, argF, h2, RR, seval]; refine Gives.pure ?_
      have h : 4294967295 < n * 10 + ((s[i].toNat : Int) - 48) := of_decide_eq_true hc
      simp only [numTok, hnum, hstep, h, if_true]
      rfl
    · refine awp_skip ?_; simp only [thenQ, blockQ]
      refine awp_region rfl ?_; simp only [RR, seval]
      simp only [h5, RR, seval]
      have h : ¬ 4294967295 < n * 10 + ((s[i].toNat : Int) - 48) := of_decide_eq_false hc
      rw [IntWalk.i64_in _ (by omega)]
      refine hK (s.length - (i + 1)) _ _ (by omega) ⟨i + 1, n * 10 + ((s[i].toNat : Int) - 48), b, rfl, by omega, by omega, by omega, ?_, ?_, ?_, hb, rfl, rfl⟩
      · rw [hnum, hstep, if_neg h]
      · simp [upd, h0]
      · simp [upd, h2]
  · refine awp_exit ?_; simp only [thenQ, blockQ, reduceIte, Nat.reduceEqDiff]
    have hl : i = s.length := by have := of_decide_eq_false hc; omega
    subst hl
    rw [List.drop_length] at hnum
    refine awp_seq_k fun K hK => ?_; refine awp_region rfl ?_; simp only [RR, seval]
    simp only [h0, h2, h4, hb, Tok.row, tok0, RR, seval]
    rw [IntWalk.u32_in _ (by omega)]
    refine hK _ _ ?_; clear hK K
    refine awp_ret ?_; simp only [thenQ, blockQ, bodyQ, aresult, ares, argF, h2, RR, seval]; refine Gives.pure ?_
    simp only [numTok, hnum, numS]
    rfl
end Go.Proofs.YtlpeikljipknoaaDoor

namespace Go.Proofs.YtlpeikljipknoaaDoor
open Go.Al
theorem begins_con (s w : List UInt8) (i : Nat) (hs : s.length ≤ 1000000) (hw : w.length ≤ 1000000) (hi : i ≤ s.length) : PCon env 71 [.str s, .int .i64 i, .str w] (.bool (hasP (s.drop i) w)) := by
  refine con_of 25 [.tmp 6] Tryd.func71 rfl rfl rfl rfl ?_
  refine awp_seq_k fun K hK => ?_; refine awp_region rfl ?_; simp only [RR, seval]
  refine hK _ _ ?_; clear hK K
  refine awp_seq_k fun K hK => ?_; refine awp_region rfl ?_; simp only [RR, seval]
  rw [IntWalk.i64_in _ (by omega)]
  refine awpG_split (fun h => ?_) (fun h => ?_)
  · have h' : (i : Int) + w.length ≤ s.length := of_decide_eq_true h
    have e1 : ((i : Int) + w.length).toNat = i + w.length := by omega
    have e2 : (0 : Int) ≤ (i : Int) + w.length := by omega
    have e3 : (i : Int) ≤ ((i + w.length : Nat) : Int) := by omega
    simp only [h, h', e1, e2, e3, RR, seval]
    repeat' ((first | refine awpG_splitN (fun h => ?_) (fun h => ?_) | refine awpG_split (fun h => ?_) (fun h => ?_)) <;> simp only [h, e1, e2, h', e3, RR, seval])
    rw [IntWalk.i64_in _ (by omega)]
    simp only [h, h', e1, e2, e3, RR, seval]
    refine hK _ _ ?_; clear hK K
    refine awp_ret ?_; simp only [thenQ, blockQ, bodyQ, aresult, ares, argF, RR, seval]; refine Gives.pure ?_
    rw [hasP, Nat.add_sub_cancel_left]
  · simp only [h, RR, seval]
    refine hK _ _ ?_; clear hK K
    refine awp_ret ?_; simp only [thenQ, blockQ, bodyQ, aresult, ares, argF, RR, seval]; refine Gives.pure ?_
    have h' : ¬ (i : Int) + w.length ≤ s.length := of_decide_eq_false h
    have : ¬ (s.drop i).take w.length = w := fun e => by
      have := congrArg List.length e
      rw [List.length_take, List.length_drop] at this
      omega
    simp [hasP, this]
def numR : Int → Bool → List UInt8 → Int × Bool
  | n, g, [] => (n, g)
  | n, g, c :: cs => if 4294967295 < n * 10 + ((c.toNat : Int) - 48) then numR 0 true cs else numR (n * 10 + ((c.toNat : Int) - 48)) g cs
theorem numR_great : ∀ (s : List UInt8) (n : Int), (numR n true s).2 = true
  | [], _ => rfl
  | c :: cs, n => by simp only [numR]; split <;> exact numR_great cs _
theorem numR_spec : ∀ (s : List UInt8) (n : Int), match numS n s with | some m => numR n false s = (m, false) | none => (numR n false s).2 = true
  | [], n => rfl
  | c :: cs, n => by
    simp only [numS, numR]
    split
    · rename_i m h
      split at h
      · cases h
      · rename_i h2
        have := numR_spec cs (n * 10 + ((c.toNat : Int) - 48))
        rw [h] at this
        rw [if_neg h2]; exact this
    · rename_i h
      split at h
      · rename_i h2; rw [if_pos h2]; exact numR_great _ _
      · rename_i h2
        have := numR_spec cs (n * 10 + ((c.toNat : Int) - 48))
        rw [h] at this
        rw [if_neg h2]; exact this
def isD (c : UInt8) : Bool := digI c.toNat
theorem number_con (s : List UInt8) (i0 : Nat) (hs : s.length ≤ 1000000) (hi0 : i0 ≤ s.length) : PCon env 73 [.str s, .int .i64 i0]
    (.tup [.int .u64 (numR 0 false ((s.drop i0).takeWhile isD)).1, .int .i64 ((i0 + ((s.drop i0).takeWhile isD).length : Nat)), .bool (numR 0 false ((s.drop i0).takeWhile isD)).2]) := by
  refine con_of 34 [.tmp 4, .tmp 5, .tmp 6] Tryd.func73 rfl rfl rfl rfl ?_
  refine awp_seq_k fun K hK => ?_; refine awp_region rfl ?_; simp only [RR, seval]
  refine hK _ _ ?_; clear hK K
  refine awp_seq_k fun K hK => ?_; refine awp_region rfl ?_; simp only [RR, seval]
  refine hK _ _ ?_; clear hK K
  refine awp_cutK (fun fr H => ∃ (i : Nat) (n : Int) (g : Bool), fr 7 = .int .u64 n ∧ fr 1 = .int .i64 i ∧ fr 8 = .bool g ∧ numR 0 false ((s.drop i0).takeWhile isD) = (n, g) ∧ i0 + ((s.drop i0).takeWhile isD).length = i) (fun K hK => ?_) ?_
  · refine awp_block ?_
    refine awp_loopK (fun k fr H => ∃ (i : Nat) (n : Int) (g : Bool), k = s.length - i ∧ i ≤ s.length ∧ 0 ≤ n ∧ n ≤ 4294967295 ∧ fr 0 = .str s ∧ fr 7 = .int .u64 n ∧ fr 1 = .int .i64 i ∧ fr 8 = .bool g ∧ numR 0 false ((s.drop i0).takeWhile isD) = numR n g ((s.drop i).takeWhile isD) ∧ i0 + ((s.drop i0).takeWhile isD).length = i + ((s.drop i).takeWhile isD).length) (s.length - i0) ⟨i0, 0, false, rfl, hi0, by omega, by omega, rfl, rfl, rfl, rfl, rfl, rfl⟩ ?_
    rintro k fr H ⟨i, n, g, rfl, hi, hn0, hn1, h0, h7, h1, h8, hnum, hlen⟩ K2 hK2
    refine awp_seq ?_
    refine awp_cutK (fun fr' H' => ∃ b, fr' 18 = .bool b ∧ fr' 0 = .str s ∧ fr' 1 = .int .i64 i ∧ fr' 7 = .int .u64 n ∧ fr' 8 = .bool g ∧ (b = true → ∃ c, s[i]? = some c ∧ isD c = true) ∧ (b = false → ∀ c, s[i]? = some c → isD c = false)) (fun K hK => ?_) ?_
    · refine awp_region rfl ?_; simp only [RR, seval]
      simp only [h0, h1, RR, seval]
      refine awpG_split (fun h => ?_) (fun h => ?_)
      · have h2 : (i : Int) < s.length := of_decide_eq_true h
        have hl : i < s.length := by omega
        have hg : s[i]? = some s[i] := List.getElem?_eq_getElem hl
        simp only [h, h0, h1, hg, RR, seval]
        refine awpC_pure' (rdigit_con _) ?_
        simp only [h0, h1, RR, seval]
        refine hK _ _ ⟨_, rfl, h0, h1, h7, h8, ?_, ?_⟩
        · intro e; exact ⟨_, hg, e⟩
        · intro e c hc; rw [hg] at hc; cases hc; exact e
      · simp only [h, h0, h1, RR, seval]
        refine hK _ _ ⟨_, rfl, h0, h1, h7, h8, ?_, ?_⟩
        · intro e; cases e
        · intro _ c hc
          have h2 : ¬ (i : Int) < s.length := of_decide_eq_false h
          rw [List.getElem?_eq_none (by omega)] at hc
          cases hc
    rintro fr H ⟨b, h18, h0, h1, h7, h8, ht, hf⟩
    refine awp_if _ h18 (fun hc => ?_) (fun hc => ?_)
    · refine awp_skip ?_; simp only [thenQ, blockQ]
      obtain ⟨c, hg, hd⟩ := ht hc
      obtain ⟨hl, hce⟩ := List.getElem?_eq_some_iff.1 hg
      have hbd := digit_bounds hd
      have hdrop : s.drop i = c :: s.drop (i + 1) := by rw [List.drop_eq_getElem_cons hl, hce]
      rw [hdrop] at hnum hlen
      simp only [List.takeWhile, hd, numR, List.length_cons] at hnum hlen
      refine awp_block ?_
      refine awp_seq_k fun K hK => ?_; refine awp_region rfl ?_; simp only [RR, seval]
      simp only [h0, h1, h7, hg, RR, seval]
      rw [IntWalk.u64_in (n * 10) (by omega), IntWalk.u8_in _ (by omega), IntWalk.u64_in ((c.toNat : Int) - 48) (by omega), IntWalk.u64_in _ (by omega)]
      refine hK _ _ ?_; clear hK K
      refine awp_seq ?_
      refine awp_seq_k fun K hK => ?_; refine awp_region rfl ?_; simp only [RR, seval]
      refine hK _ _ ?_; clear hK K
      refine awp_if _ rfl (fun hc => ?_) (fun hc => ?_)
      · have h : 4294967295 < n * 10 + ((c.toNat : Int) - 48) := of_decide_eq_true hc
        rw [if_pos h] at hnum
        refine awp_seq_k fun K hK => ?_; refine awp_region rfl ?_; simp only [RR, seval]
        refine hK _ _ ?_; clear hK K
        refine awp_region rfl ?_; simp only [RR, seval]
        refine awp_region rfl ?_; simp only [RR, seval]
        simp only [h1, RR, seval]
        rw [IntWalk.i64_in _ (by omega)]
        exact hK2 (s.length - (i + 1)) _ _ (by omega) ⟨i + 1, 0, true, rfl, by omega, by omega, by omega, h0, rfl, rfl, rfl, hnum, by omega⟩
      · have h : ¬ 4294967295 < n * 10 + ((c.toNat : Int) - 48) := of_decide_eq_false hc
        rw [if_neg h] at hnum
        refine awp_skip ?_; simp only [thenQ, blockQ]
        refine awp_region rfl ?_; simp only [RR, seval]
        simp only [h1, RR, seval]
        rw [IntWalk.i64_in _ (by omega)]
        exact hK2 (s.length - (i + 1)) _ _ (by omega) ⟨i + 1, _, g, rfl, by omega, by omega, by omega, h0, rfl, rfl, h8, hnum, by omega⟩
    · refine awp_exit ?_; simp only [thenQ, blockQ, reduceIte, Nat.reduceEqDiff]
      have hnil : (s.drop i).takeWhile isD = [] := by
        cases hd : s.drop i with
        | nil => rfl
        | cons c r =>
          have : s[i]? = some c := by
            have := List.getElem?_drop (xs := s) (i := i) (j := 0)
            rw [hd] at this
            simpa using this.symm
          simp only [List.takeWhile, hf hc c this]
      rw [hnil] at hnum hlen
      exact hK _ _ ⟨i, n, g, h7, h1, h8, hnum, hlen⟩
  · rintro fr H ⟨i, n, g, h7, h1, h8, hnum, hlen⟩
    refine awp_seq_k fun K hK => ?_; refine awp_region rfl ?_; simp only [RR, seval]
    simp only [h1, h7, h8, RR, seval]
    refine hK _ _ ?_; clear hK K
    refine awp_ret ?_; simp only [thenQ, blockQ, bodyQ, aresult, ares, argF, RR, seval]; refine Gives.pure ?_
    rw [hnum, hlen]
def firstS (s : List UInt8) : Tok × Int :=
  match s with
  | [] => (tok0, 3)
  | c :: r => if digI c.toNat then numTok ((c :: r).takeWhile isD) else if decide ((c.toNat : Int) = 39) then byteS (c :: r) else if alphI c.toNat then nameS ((c :: r).takeWhile isN) else
    match signsL.find? (hasP (c :: r)) with
    | some w => (⟨4, w, 0, 0⟩, 0)
    | none => (tok0, 3)
theorem all_takeWhile (p : UInt8 → Bool) : ∀ s : List UInt8, (s.takeWhile p).all p = true
  | [] => rfl
  | c :: s => by
    simp only [List.takeWhile]
    cases h : p c
    · rfl
    · simp [h, all_takeWhile p s]
theorem takeWhile_len (p : UInt8 → Bool) : ∀ s : List UInt8, (s.takeWhile p).length ≤ s.length
  | [] => by simp
  | c :: s => by
    simp only [List.takeWhile]
    have := takeWhile_len p s
    cases h : p c <;> simp <;> omega
theorem find_at {α : Type} (p : α → Bool) (l : List α) (i : Nat) (hl : i < l.length) (hn : (l.take i).find? p = none) (h : p l[i] = true) : l.find? p = some l[i] := by
  rw [show l.find? p = (l.take i ++ l.drop i).find? p by rw [List.take_append_drop], List.find?_append, hn, List.drop_eq_getElem_cons hl]
  simp [List.find?, h]
theorem first_con (c : UInt8) (r : List UInt8) (hs : (c :: r).length ≤ 1000000) : PCon env 81 [.str (c :: r)] (tokE (firstS (c :: r))) := by
  refine con_of 45 [.cell 2 47, .tmp 3] Tryd.func81 rfl rfl rfl rfl ?_
  generalize hsc : c :: r = s at hs ⊢
  have h0' : s[0]? = some c := by rw [← hsc]; rfl
  refine awp_seq_k fun K hK => ?_; refine awp_region rfl ?_; simp only [RR, seval]
  refine awpN_intro fun b hb => ?_; simp only [RR, seval]
  refine hK _ _ ?_; clear hK K
  refine awp_seq ?_
  refine awp_seq_k fun K hK => ?_; refine awp_region rfl ?_; simp only [RR, seval]
  simp only [h0', RR, seval]
  refine hK _ _ ?_; clear hK K
  refine awp_block ?_
  refine awp_seq_k fun K hK => ?_; refine awp_region rfl ?_; simp only [RR, seval]
  refine awpC_pure' (digit_con _) ?_
  simp only [RR, seval]
  refine hK _ _ ?_; clear hK K
  refine awp_if _ rfl (fun hd => ?_) (fun hd => ?_)
  · refine awp_seq_k fun K hK => ?_; refine awp_region rfl ?_; simp only [RR, seval]
    refine awpC_pure' (front_con _ isD (fun c => digit_con _) s hs) ?_
    simp only [RR, seval]
    refine awpC_pure' (numberOf_con _ (Nat.le_trans (takeWhile_len _ _) hs) (all_takeWhile _ _)) ?_
    simp only [tokE, Tok.row, RR, seval]
    refine hK _ _ ?_; clear hK K
    refine awp_ret ?_; simp only [thenQ, blockQ, bodyQ, aresult, ares, argF, RR, seval]; refine Gives.pure ?_
    rw [← hsc]
    simp only [firstS, hd, if_true, tokE, Tok.row]
  · refine awp_seq_k fun K hK => ?_; refine awp_region rfl ?_; simp only [RR, seval]
    refine hK _ _ ?_; clear hK K
    refine awp_if _ rfl (fun hq => ?_) (fun hq => ?_)
    · refine awp_seq_k fun K hK => ?_; refine awp_region rfl ?_; simp only [RR, seval]
      refine awpC_pure' (byteOf_con _) ?_
      simp only [tokE, Tok.row, RR, seval]
      refine hK _ _ ?_; clear hK K
      refine awp_ret ?_; simp only [thenQ, blockQ, bodyQ, aresult, ares, argF, RR, seval]; refine Gives.pure ?_
      rw [← hsc]
      simp only [firstS, hd, hq, if_true, if_false, Bool.false_eq_true, tokE, Tok.row]
    · refine awp_seq_k fun K hK => ?_; refine awp_region rfl ?_; simp only [RR, seval]
      refine awpC_pure' (alpha_con _) ?_
      simp only [RR, seval]
      refine hK _ _ ?_; clear hK K
      refine awp_if _ rfl (fun ha => ?_) (fun ha => ?_)
      · refine awp_seq_k fun K hK => ?_; refine awp_region rfl ?_; simp only [RR, seval]
        refine awpC_pure' (front_con _ isN (fun c => inName_con _) s hs) ?_
        simp only [RR, seval]
        refine awpC_pure' (nameOf_con _) ?_
        simp only [tokE, Tok.row, RR, seval]
        refine hK _ _ ?_; clear hK K
        refine awp_ret ?_; simp only [thenQ, blockQ, bodyQ, aresult, ares, argF, RR, seval]; refine Gives.pure ?_
        rw [← hsc]
        simp only [firstS, hd, hq, ha, if_true, if_false, Bool.false_eq_true, tokE, Tok.row]
      · refine awp_skip ?_; simp only [thenQ, blockQ]
        have hfirst : firstS s = match signsL.find? (hasP s) with | some w => (⟨4, w, 0, 0⟩, 0) | none => (tok0, 3) := by
          rw [← hsc]
          simp only [firstS, hd, hq, ha, if_false, Bool.false_eq_true]
        refine awp_cutK (fun fr H => ∃ b, signsL.find? (hasP s) = none ∧ fr 2 = .ptr 4 b 0 0 ∧ H b = some (.rows 4 [tok0.row])) (fun K hK => ?_) ?_
        · refine awp_seq_k fun K hK => ?_; refine awp_region rfl ?_; simp only [RR, seval]
          refine hK _ _ ?_; clear hK K
          refine awp_block ?_
          refine awp_loopK (fun n fr H => ∃ (i : Nat) (b : Nat), n = 24 - i ∧ i ≤ 24 ∧ (signsL.take i).find? (hasP s) = none ∧ fr 0 = .str s ∧ fr 2 = .ptr 4 b 0 0 ∧ H b = some (.rows 4 [tok0.row]) ∧ fr 31 = .int .i64 i) 24 ⟨0, b, rfl, by omega, rfl, rfl, rfl, upd_same _ _ _, rfl⟩ ?_
          rintro n fr H ⟨i, b, rfl, hi, hnone, h0, h2, hb, h31⟩ K2 hK2
          refine awp_seq_k fun K hK => ?_; refine awp_region rfl ?_; simp only [RR, seval]
          simp only [h31, RR, seval]
          refine hK _ _ ?_; clear hK K
          refine awp_seq ?_; refine awp_if _ rfl (fun hc => ?_) (fun hc => ?_)
          · refine awp_skip ?_; simp only [thenQ, blockQ]
            have hi2 : (i : Int) < 24 := of_decide_eq_true hc
            have hi' : i < 24 := by omega
            have hl : i < signsL.length := hi'
            have hg : (signsL.map AV.str)[i]? = some (.str signsL[i]) := by rw [List.getElem?_map, List.getElem?_eq_getElem hl]; rfl
            refine awp_seq ?_
            refine awp_block ?_
            refine awp_seq_k fun K hK => ?_; refine awp_region rfl ?_; simp only [RR, seval]
            refine hK _ _ ?_; clear hK K
            refine awp_seq_k fun K hK => ?_; refine awp_region rfl ?_; simp only [RR, seval]
            simp only [h0, h31, hi2, hg, RR, seval]
            refine awpC_pure' (has_con s signsL[i]) ?_
            simp only [RR, seval]
            refine hK _ _ ?_; clear hK K
            refine awp_if _ rfl (fun hc => ?_) (fun hc => ?_)
            · refine awp_seq_k fun K hK => ?_; refine awp_region rfl ?_; simp only [RR, seval]
              simp only [h2, h31, hi2, hg, hb, Tok.row, tok0, RR, seval]
              refine hK _ _ ?_; clear hK K
              refine awp_ret ?_; simp only [thenQ, blockQ, bodyQ, aresult, ares, argF, h2, RR, seval]; refine Gives.pure ?_
              have hf : signsL.find? (hasP s) = some signsL[i] := find_at _ _ _ hl hnone hc
              simp only [hfirst, hf]
              rfl
            · refine awp_skip ?_; simp only [thenQ, blockQ]
              refine awp_region rfl ?_; simp only [RR, seval]
              simp only [h31, RR, seval]
              rw [IntWalk.i64_in _ (by omega)]
              refine hK2 (24 - (i + 1)) _ _ (by omega) ⟨i + 1, b, rfl, by omega, ?_, h0, h2, hb, rfl⟩
              rw [List.take_succ_eq_append_getElem hl, List.find?_append, hnone]
              simp [List.find?, hc]
          · refine awp_exit ?_; simp only [thenQ, blockQ, reduceIte, Nat.reduceEqDiff]
            have hi2 : ¬ (i : Int) < 24 := of_decide_eq_false hc
            have : i = 24 := by omega
            subst this
            exact hK _ _ ⟨b, hnone, h2, hb⟩
        · rintro fr H ⟨b, hnone, h2, hb⟩
          refine awp_seq_k fun K hK => ?_; refine awp_region rfl ?_; simp only [RR, seval]
          simp only [h2, hb, Tok.row, tok0, RR, seval]
          refine hK _ _ ?_; clear hK K
          refine awp_ret ?_; simp only [thenQ, blockQ, bodyQ, aresult, ares, argF, h2, RR, seval]; refine Gives.pure ?_
          simp only [hfirst, hnone]
          rfl
end Go.Proofs.YtlpeikljipknoaaDoor

namespace Go.Proofs.YtlpeikljipknoaaDoor
open Go.Al
def nextS (s : List UInt8) (i : Nat) : Tok × Int := if (firstS (s.drop i)).2 = 0 then ({ (firstS (s.drop i)).1 with pos := i }, 0) else (tok0, (firstS (s.drop i)).2)
theorem byteS_cons (x : UInt8) (r : List UInt8) : byteS (x :: r) = match r[0]?, r[1]? with | some c, some d => if byteOk c d then (⟨2, (x :: r).take 3, c.toNat, 0⟩, 0) else (tok0, 3) | _, _ => (tok0, 3) := by
  match r with
  | [] => rfl
  | [_] => rfl
  | c :: d :: r => rfl
theorem take_takeWhile (p : UInt8 → Bool) : ∀ s : List UInt8, s.take (s.takeWhile p).length = s.takeWhile p
  | [] => rfl
  | c :: s => by
    simp only [List.takeWhile]
    cases h : p c <;> simp [take_takeWhile p s]
theorem byteOk_le (c d : UInt8) : byteOk c d = (decide ((d.toNat : Int) = 39) && decide (32 ≤ (c.toNat : Int)) && decide ((c.toNat : Int) ≤ 126) && !decide ((c.toNat : Int) = 39) && !decide ((c.toNat : Int) = 92)) := by
  have h1 : (!decide ((c.toNat : Int) < 32)) = decide (32 ≤ (c.toNat : Int)) := by rw [Bool.eq_iff_iff]; simp
  have h2 : (!decide (126 < (c.toNat : Int))) = decide ((c.toNat : Int) ≤ 126) := by rw [Bool.eq_iff_iff]; simp
  rw [byteOk, h1, h2]
theorem next_con (s : List UInt8) (i : Nat) (hs : s.length ≤ 1000000) (hi : i < s.length) : PCon env 41 [.str s, .int .i64 i] (tokE (nextS s i)) := by
  refine con_of 161 [.cell 4 47, .tmp 5] Tryd.func41 rfl rfl rfl rfl ?_
  have hg : s[i]? = some s[i] := List.getElem?_eq_getElem hi
  have hdrop : s.drop i = s[i] :: s.drop (i + 1) := List.drop_eq_getElem_cons hi
  have hlen : (s.drop i).length = s.length - i := List.length_drop
  generalize hc : s[i] = c at hg hdrop
  refine awp_seq_k fun K hK => ?_; refine awp_region rfl ?_; simp only [RR, seval]
  refine awpN_intro fun b hb => ?_; simp only [RR, seval]
  refine hK _ _ ?_; clear hK K
  refine awp_seq_k fun K hK => ?_; refine awp_region rfl ?_; simp only [RR, seval]
  simp only [hg, RR, seval]
  refine hK _ _ ?_; clear hK K
  refine awp_cutK (fun fr H => digI c.toNat = false ∧ ∃ b, fr 0 = .str s ∧ fr 1 = .int .i64 i ∧ fr 4 = .ptr 4 b 0 0 ∧ H b = some (.rows 4 [tok0.row]) ∧ fr 6 = .int .u8 c.toNat) (fun K hK => ?_) ?_
  · refine awp_seq_k fun K hK => ?_; refine awp_region rfl ?_; simp only [RR, seval]
    refine awpC_pure' (rdigit_con _) ?_
    simp only [RR, seval]
    refine hK _ _ ?_; clear hK K
    refine awp_if _ rfl (fun hd => ?_) (fun hd => ?_)
    · have hf : firstS (s.drop i) = numTok ((s.drop i).takeWhile isD) := by
        rw [hdrop]; simp only [firstS, hd, if_true]
      have hsp := numR_spec ((s.drop i).takeWhile isD) 0
      have htl := takeWhile_len isD (s.drop i)
      refine awp_seq_k fun K hK => ?_; refine awp_region rfl ?_; simp only [RR, seval]
      refine awpC_pure' (number_con s i hs (by omega)) ?_
      simp only [RR, seval]
      refine hK _ _ ?_; clear hK K
      refine awp_seq ?_
      refine awp_seq_k fun K hK => ?_; refine awp_region rfl ?_; simp only [RR, seval]
      refine hK _ _ ?_; clear hK K
      refine awp_if _ rfl (fun hgr => ?_) (fun hgr => ?_)
      · refine awp_seq_k fun K hK => ?_; refine awp_region rfl ?_; simp only [RR, seval]
        refine hK _ _ ?_; clear hK K
        refine awp_ret ?_; simp only [thenQ, blockQ, bodyQ, aresult, ares, argF, RR, seval]; refine Gives.pure ?_
        cases hn : numS 0 ((s.drop i).takeWhile isD) with
        | some m => rw [hn] at hsp; simp only at hsp; rw [hsp] at hgr; cases hgr
        | none => simp [nextS, hf, numTok, hn, tokE, tok0, Tok.row]
      · refine awp_skip ?_; simp only [thenQ, blockQ]
        have h1 : (i : Int) ≤ ((i + ((s.drop i).takeWhile isD).length : Nat) : Int) := by omega
        have h2 : (((i + ((s.drop i).takeWhile isD).length : Nat)) : Int) ≤ s.length := by omega
        refine awp_seq_k fun K hK => ?_; refine awp_region rfl ?_; simp only [RR, seval]
        simp only [h1, h2, RR, seval]
        refine hK _ _ ?_; clear hK K
        refine awp_ret ?_; simp only [thenQ, blockQ, bodyQ, aresult, ares, argF, RR, seval]; refine Gives.pure ?_
        cases hn : numS 0 ((s.drop i).takeWhile isD) with
        | none => rw [hn] at hsp; simp only at hsp; rw [hsp] at hgr; cases hgr
        | some m =>
          rw [hn] at hsp; simp only at hsp
          have hbd := numS_bound _ 0 m (by omega) (by omega) (all_takeWhile isD _) hn
          rw [hsp, IntWalk.u32_in _ (by simp only; omega), Nat.add_sub_cancel_left]
          simp only [nextS, hf, numTok, hn, tokE, Tok.row, if_true, take_takeWhile]
    · refine awp_skip ?_; simp only [thenQ, blockQ]
      exact hK _ _ ⟨hd, b, rfl, rfl, rfl, upd_same _ _ _, rfl⟩
  · rintro fr H ⟨hd, b, h0, h1, h4, hb, h6⟩
    refine awp_cutK (fun fr H => decide ((c.toNat : Int) = 39) = false ∧ fr 0 = .str s ∧ fr 1 = .int .i64 i ∧ fr 4 = .ptr 4 b 0 0 ∧ H b = some (.rows 4 [tok0.row]) ∧ fr 6 = .int .u8 c.toNat) (fun K hK => ?_) ?_
    · refine awp_seq_k fun K hK => ?_; refine awp_region rfl ?_; simp only [RR, seval]
      simp only [h6, RR, seval]
      refine hK _ _ ?_; clear hK K
      refine awp_if _ rfl (fun hq => ?_) (fun hq => ?_)
      · have hf : firstS (s.drop i) = byteS (s.drop i) := by
          rw [hdrop]; simp only [firstS, hd, hq, if_true, if_false, Bool.false_eq_true]
        have hby : byteS (s.drop i) = match s[i + 1]?, s[i + 2]? with | some c, some d => if byteOk c d then (⟨2, (s.drop i).take 3, c.toNat, 0⟩, 0) else (tok0, 3) | _, _ => (tok0, 3) := by
          rw [hdrop, byteS_cons]
          simp only [List.getElem?_drop]
        refine awp_seq ?_
        refine awp_cutK (fun fr H => ∃ t, fr 76 = .bool t ∧ fr 0 = .str s ∧ fr 1 = .int .i64 i ∧ fr 4 = .ptr 4 b 0 0 ∧ H b = some (.rows 4 [tok0.row]) ∧ (t = false → byteS (s.drop i) = (tok0, 3)) ∧ (t = true → ∃ e : UInt8, s[i + 1]? = some e ∧ i + 2 < s.length ∧ byteS (s.drop i) = (⟨2, (s.drop i).take 3, e.toNat, 0⟩, 0))) (fun K hK => ?_) ?_
        · refine awp_region rfl ?_; simp only [RR, seval]
          simp only [h0, h1, RR, seval]
          rw [IntWalk.i64_in _ (by omega)]
          by_cases hl : i + 2 < s.length
          · have h : decide ((i : Int) + 2 < s.length) = true := decide_eq_true (by omega)
            have e1 : (0 : Int) ≤ (i : Int) + 1 := by omega
            have e2 : (0 : Int) ≤ (i : Int) + 2 := by omega
            have e3 : ((i : Int) + 1).toNat = i + 1 := by omega
            have e4 : ((i : Int) + 2).toNat = i + 2 := by omega
            have g1 : s[i + 1]? = some s[i + 1] := List.getElem?_eq_getElem (by omega)
            have g2 : s[i + 2]? = some s[i + 2] := List.getElem?_eq_getElem (by omega)
            have w1 : IntKind.wrap .i64 ((i : Int) + 1) = (i : Int) + 1 := IntWalk.i64_in _ (by omega)
            have w2 : IntKind.wrap .i64 ((i : Int) + 2) = (i : Int) + 2 := IntWalk.i64_in _ (by omega)
            generalize s[i + 1] = e at g1
            generalize s[i + 2] = d at g2
            rw [g1, g2] at hby
            simp only [byteOk_le] at hby
            simp only [h, h0, h1, w1, w2, e1, e2, e3, e4, g1, g2, RR, seval]
            repeat' ((first | refine awpG_splitN (fun h => ?_) (fun h => ?_) | refine awpG_split (fun h => ?_) (fun h => ?_)) <;> simp only [h, h0, h1, w1, w2, e1, e2, e3, e4, g1, g2, RR, seval])
            all_goals
              refine hK _ _ ⟨_, rfl, h0, h1, h4, hb, ?_, ?_⟩ <;> clear hK
              · intro g; first | (simp only [Bool.true_eq_false] at g; done) | (rw [hby]; simp_all <;> (intros; omega))
              · intro g; first | (simp only [Bool.false_eq_true] at g; done) | exact ⟨e, g1, hl, by rw [hby]; simp_all⟩
          · have h : decide ((i : Int) + 2 < s.length) = false := decide_eq_false (by omega)
            have g2 : s[i + 2]? = none := List.getElem?_eq_none (by omega)
            simp only [h, h0, h1, RR, seval]
            refine hK _ _ ⟨_, rfl, h0, h1, h4, hb, fun _ => ?_, fun e => by cases e⟩
            rw [hby, g2]
            cases s[i + 1]? <;> rfl
        · rintro fr H ⟨t, h76, h0, h1, h4, hb, ht, htt⟩
          refine awp_if _ h76 (fun hc => ?_) (fun hc => ?_)
          · obtain ⟨e, g1, hl, hby2⟩ := htt hc
            have e1 : (0 : Int) ≤ (i : Int) + 1 := by omega
            have e2 : (0 : Int) ≤ (i : Int) + 3 := by omega
            have e3 : ((i : Int) + 1).toNat = i + 1 := by omega
            have e4 : ((i : Int) + 3).toNat = i + 3 := by omega
            have e5 : (i : Int) + 3 ≤ s.length := by omega
            have e6 : (i : Int) ≤ ((i + 3 : Nat) : Int) := by omega
            have w1 : IntKind.wrap .i64 ((i : Int) + 1) = (i : Int) + 1 := IntWalk.i64_in _ (by omega)
            have w3 : IntKind.wrap .i64 ((i : Int) + 3) = (i : Int) + 3 := IntWalk.i64_in _ (by omega)
            have w4 : IntKind.wrap .u32 (e.toNat : Int) = e.toNat := IntWalk.u32_in _ (by have := e.toNat_lt; omega)
            refine awp_seq_k fun K hK => ?_
            refine awp_region_draw (fun _ => True) [(0, true), (1, true), (2, true), (3, true), (4, true), (5, true), (6, true), (7, true), (8, true), (9, true), (10, true), (11, true), (12, true), (13, true)] draws (by kernel_rfl) rfl ?_
            simp only [emit, markOf, h0, h1, h4, hb, w1, w3, w4, e1, e2, e3, e4, e5, e6, g1, Tok.row, tok0, RR, seval]
            refine hK _ _ ?_; clear hK K
            refine awp_ret ?_; simp only [thenQ, blockQ, bodyQ, aresult, ares, argF, h4, RR, seval]; refine Gives.pure ?_
            simp only [nextS, hf, hby2, if_true, tokE, Tok.row]
            rw [Nat.add_sub_cancel_left]
          · refine awp_skip ?_; simp only [thenQ, blockQ]
            refine awp_seq_k fun K hK => ?_; refine awp_region rfl ?_; simp only [RR, seval]
            simp only [h4, hb, Tok.row, tok0, RR, seval]
            refine hK _ _ ?_; clear hK K
            refine awp_ret ?_; simp only [thenQ, blockQ, bodyQ, aresult, ares, argF, h4, RR, seval]; refine Gives.pure ?_
            simp only [nextS, hf, ht hc]
            rfl
      · refine awp_skip ?_; simp only [thenQ, blockQ]
        exact hK _ _ ⟨hq, h0, h1, h4, hb, h6⟩
    · rintro fr H ⟨hq, h0, h1, h4, hb, h6⟩
      refine awp_cutK (fun fr H => alphI c.toNat = false ∧ fr 0 = .str s ∧ fr 1 = .int .i64 i ∧ fr 4 = .ptr 4 b 0 0 ∧ H b = some (.rows 4 [tok0.row])) (fun K hK => ?_) ?_
      · refine awp_seq_k fun K hK => ?_; refine awp_region rfl ?_; simp only [RR, seval]
        simp only [h6, RR, seval]
        refine awpC_pure' (ralpha_con _) ?_
        simp only [RR, seval]
        refine hK _ _ ?_; clear hK K
        refine awp_if _ rfl (fun ha => ?_) (fun ha => ?_)
        · have hf : firstS (s.drop i) = nameS ((s.drop i).takeWhile isN) := by
            rw [hdrop]; simp only [firstS, hd, hq, ha, if_true, if_false, Bool.false_eq_true]
          have htl := takeWhile_len isN (s.drop i)
          have htk := take_takeWhile isN (s.drop i)
          refine awp_seq_k fun K hK => ?_; refine awp_region rfl ?_; simp only [RR, seval]
          simp only [h1, RR, seval]
          refine hK _ _ ?_; clear hK K
          refine awp_cutK (fun fr H => fr 0 = .str s ∧ fr 1 = .int .i64 i ∧ fr 4 = .ptr 4 b 0 0 ∧ H b = some (.rows 4 [tok0.row]) ∧ fr 10 = .int .i64 ((i + ((s.drop i).takeWhile isN).length : Nat))) (fun K hK => ?_) ?_
          · refine awp_block ?_
            refine awp_loopK (fun k fr H => ∃ j : Nat, k = s.length - j ∧ j ≤ s.length ∧ fr 0 = .str s ∧ fr 1 = .int .i64 i ∧ fr 4 = .ptr 4 b 0 0 ∧ H b = some (.rows 4 [tok0.row]) ∧ fr 10 = .int .i64 j ∧ i + ((s.drop i).takeWhile isN).length = j + ((s.drop j).takeWhile isN).length) (s.length - i) ⟨i, rfl, by omega, h0, h1, h4, hb, rfl, rfl⟩ ?_
            rintro k fr H ⟨j, rfl, hj, h0, h1, h4, hb, h10, hjl⟩ K2 hK2
            refine awp_seq ?_
            refine awp_cutK (fun fr' H' => ∃ t, fr' 114 = .bool t ∧ fr' 0 = .str s ∧ fr' 1 = .int .i64 i ∧ fr' 4 = .ptr 4 b 0 0 ∧ H' b = some (.rows 4 [tok0.row]) ∧ fr' 10 = .int .i64 j ∧ (t = true → ∃ c, s[j]? = some c ∧ isN c = true) ∧ (t = false → ∀ c, s[j]? = some c → isN c = false)) (fun K hK => ?_) ?_
            · refine awp_region rfl ?_; simp only [RR, seval]
              simp only [h0, h10, RR, seval]
              refine awpG_split (fun h => ?_) (fun h => ?_)
              · have h2 : (j : Int) < s.length := of_decide_eq_true h
                have hl : j < s.length := by omega
                have hg : s[j]? = some s[j] := List.getElem?_eq_getElem hl
                generalize s[j] = e at hg
                simp only [h, h0, h10, hg, RR, seval]
                refine awpC_pure' (ralpha_con _) ?_
                simp only [h0, h10, hg, RR, seval]
                refine awpG_splitN (fun ha => ?_) (fun ha => ?_) <;> simp only [ha, h0, h10, hg, RR, seval]
                · refine awpC_pure' (rdigit_con _) ?_
                  simp only [h0, h10, hg, RR, seval]
                  repeat' ((first | refine awpG_splitN (fun h => ?_) (fun h => ?_) | refine awpG_split (fun h => ?_) (fun h => ?_)) <;> simp only [h, h0, h10, hg, RR, seval])
                  all_goals
                    refine hK _ _ ⟨_, rfl, h0, h1, h4, hb, h10, ?_, ?_⟩
                    · intro g; refine ⟨e, hg, ?_⟩; simp [isN, inI, *]
                    · intro g c' hc'; rw [hg] at hc'; cases hc'; simp [isN, inI, *] at g ⊢
                · refine hK _ _ ⟨_, rfl, h0, h1, h4, hb, h10, ?_, ?_⟩
                  · intro g; refine ⟨e, hg, ?_⟩; simp [isN, inI, ha]
                  · intro g; cases g
              · simp only [h, h0, h10, RR, seval]
                refine hK _ _ ⟨_, rfl, h0, h1, h4, hb, h10, ?_, ?_⟩
                · intro g; cases g
                · intro _ c hc
                  have h2 : ¬ (j : Int) < s.length := of_decide_eq_false h
                  rw [List.getElem?_eq_none (by omega)] at hc
                  cases hc
            · rintro fr H ⟨t, h114, h0, h1, h4, hb, h10, ht, hff⟩
              refine awp_if _ h114 (fun hc => ?_) (fun hc => ?_)
              · refine awp_skip ?_; simp only [thenQ, blockQ]
                obtain ⟨e, hg, he⟩ := ht hc
                obtain ⟨hl, hce⟩ := List.getElem?_eq_some_iff.1 hg
                have hdj : s.drop j = e :: s.drop (j + 1) := by rw [List.drop_eq_getElem_cons hl, hce]
                rw [hdj] at hjl
                simp only [List.takeWhile, he, List.length_cons] at hjl
                refine awp_block ?_
                refine awp_region rfl ?_; simp only [RR, seval]
                simp only [h10, RR, seval]
                rw [IntWalk.i64_in _ (by omega)]
                exact hK2 (s.length - (j + 1)) _ _ (by omega) ⟨j + 1, rfl, by omega, h0, h1, h4, hb, rfl, by omega⟩
              · refine awp_exit ?_; simp only [thenQ, blockQ, reduceIte, Nat.reduceEqDiff]
                have hnil : (s.drop j).takeWhile isN = [] := by
                  cases hdj : s.drop j with
                  | nil => rfl
                  | cons e r =>
                    have : s[j]? = some e := by
                      have := List.getElem?_drop (xs := s) (i := j) (j := 0)
                      rw [hdj] at this
                      simpa using this.symm
                    simp only [List.takeWhile, hff hc e this]
                rw [hnil] at hjl
                exact hK _ _ ⟨h0, h1, h4, hb, by rw [h10, hjl]; rfl⟩
          · rintro fr H ⟨h0, h1, h4, hb, h10⟩
            have hnm : nameS ((s.drop i).takeWhile isN) = if 20 < ((s.drop i).takeWhile isN).length then (tok0, 2) else if wordsL.contains ((s.drop i).takeWhile isN) then (⟨3, (s.drop i).takeWhile isN, 0, 0⟩, 0) else (⟨1, (s.drop i).takeWhile isN, 0, 0⟩, 0) := rfl
            generalize htw : (s.drop i).takeWhile isN = tw at *
            have e1 : (i : Int) ≤ ((i + tw.length : Nat) : Int) := by omega
            have e2 : ((i + tw.length : Nat) : Int) ≤ s.length := by omega
            refine awp_seq ?_
            refine awp_seq_k fun K hK => ?_; refine awp_region rfl ?_; simp only [RR, seval]
            simp only [h1, h10, RR, seval]
            rw [IntWalk.i64_in _ (by omega)]
            refine hK _ _ ?_; clear hK K
            refine awp_if _ rfl (fun hc => ?_) (fun hc => ?_)
            · have h : 20 < tw.length := by have := of_decide_eq_true hc; omega
              refine awp_seq_k fun K hK => ?_; refine awp_region rfl ?_; simp only [RR, seval]
              simp only [h4, hb, Tok.row, tok0, RR, seval]
              refine hK _ _ ?_; clear hK K
              refine awp_ret ?_; simp only [thenQ, blockQ, bodyQ, aresult, ares, argF, h4, RR, seval]; refine Gives.pure ?_
              simp only [nextS, hf, hnm, h, if_true]
              rfl
            · have h : ¬ 20 < tw.length := by have := of_decide_eq_false hc; omega
              refine awp_skip ?_; simp only [thenQ, blockQ]
              refine awp_seq ?_
              refine awp_seq_k fun K hK => ?_
              refine awp_region_draw (fun _ => True) [(1, false), (2, false), (3, false), (4, false), (0, true), (5, true)] draws (by kernel_rfl) rfl ?_
              simp only [emit, markOf, h0, h1, h10, e1, e2, RR, seval]
              refine awpC_pure' words_con ?_
              simp only [RR, seval]
              refine awpC_pure' (in_con wordsL _ (by decide)) ?_
              simp only [Nat.add_sub_cancel_left, htk, RR, seval]
              refine hK _ _ ?_; clear hK K
              refine awp_if _ rfl (fun hw => ?_) (fun hw => ?_)
              · refine awp_seq_k fun K hK => ?_; refine awp_region rfl ?_; simp only [RR, seval]
                simp only [h0, h1, h4, h10, hb, e1, e2, Nat.add_sub_cancel_left, htk, Tok.row, tok0, RR, seval]
                refine hK _ _ ?_; clear hK K
                refine awp_ret ?_; simp only [thenQ, blockQ, bodyQ, aresult, ares, argF, h4, RR, seval]; refine Gives.pure ?_
                simp only [nextS, hf, hnm, h, hw, if_true, if_false]
                rfl
              · refine awp_skip ?_; simp only [thenQ, blockQ]
                refine awp_seq_k fun K hK => ?_; refine awp_region rfl ?_; simp only [RR, seval]
                simp only [h0, h1, h4, h10, hb, e1, e2, Nat.add_sub_cancel_left, htk, Tok.row, tok0, RR, seval]
                refine hK _ _ ?_; clear hK K
                refine awp_ret ?_; simp only [thenQ, blockQ, bodyQ, aresult, ares, argF, h4, RR, seval]; refine Gives.pure ?_
                simp only [nextS, hf, hnm, h, hw, if_true, if_false, Bool.false_eq_true]
                rfl
        · refine awp_skip ?_; simp only [thenQ, blockQ]
          exact hK _ _ ⟨ha, h0, h1, h4, hb⟩
      · rintro fr H ⟨ha, h0, h1, h4, hb⟩
        have hfirst : firstS (s.drop i) = match signsL.find? (hasP (s.drop i)) with | some w => (⟨4, w, 0, 0⟩, 0) | none => (tok0, 3) := by
          rw [hdrop]; simp only [firstS, hd, hq, ha, if_false, Bool.false_eq_true]
          all_goals rfl
        refine awp_seq_k fun K hK => ?_; refine awp_region rfl ?_; simp only [RR, seval]
        refine awpC_pure' signs_con ?_
        simp only [RR, seval]
        refine hK _ _ ?_; clear hK K
        refine awp_cutK (fun fr H => signsL.find? (hasP (s.drop i)) = none ∧ fr 4 = .ptr 4 b 0 0 ∧ H b = some (.rows 4 [tok0.row])) (fun K hK => ?_) ?_
        · refine awp_seq_k fun K hK => ?_; refine awp_region rfl ?_; simp only [RR, seval]
          refine hK _ _ ?_; clear hK K
          refine awp_block ?_
          refine awp_loopK (fun n fr H => ∃ j : Nat, n = 24 - j ∧ j ≤ 24 ∧ (signsL.take j).find? (hasP (s.drop i)) = none ∧ fr 0 = .str s ∧ fr 1 = .int .i64 i ∧ fr 4 = .ptr 4 b 0 0 ∧ H b = some (.rows 4 [tok0.row]) ∧ fr 11 = .isl 1 (signsL.map fun w => [.str w]) ∧ fr 12 = .int .i64 j) 24 ⟨0, rfl, by omega, rfl, h0, h1, h4, hb, rfl, rfl⟩ ?_
          rintro n fr H ⟨j, rfl, hj, hnone, h0, h1, h4, hb, h11, h12⟩ K2 hK2
          refine awp_seq ?_
          refine awp_seq_k fun K hK => ?_; refine awp_region rfl ?_; simp only [RR, seval]
          simp only [h11, h12, List.length_map, RR, seval]
          refine hK _ _ ?_; clear hK K
          refine awp_if _ rfl (fun hc => ?_) (fun hc => ?_)
          · refine awp_skip ?_; simp only [thenQ, blockQ]
            have hi2 : (j : Int) < signsL.length := of_decide_eq_true hc
            have hl : j < signsL.length := by omega
            have hl24 : signsL.length = 24 := rfl
            have hgs : (signsL.map fun w => [AV.str w])[j]? = some [.str signsL[j]] := by rw [List.getElem?_map, List.getElem?_eq_getElem hl]; rfl
            have hlw : signsL[j].length ≤ 1000000 := by
              have : ∀ w ∈ signsL, w.length ≤ 2 := by decide
              have := this _ (List.getElem_mem hl)
              omega
            refine awp_seq ?_
            refine awp_block ?_
            refine awp_seq_k fun K hK => ?_; refine awp_region rfl ?_; simp only [RR, seval]
            simp only [h0, h1, h11, h12, hgs, RR, seval]
            refine awpC_pure' (begins_con s signsL[j] i hs hlw (by omega)) ?_
            simp only [RR, seval]
            refine hK _ _ ?_; clear hK K
            refine awp_if _ rfl (fun hc => ?_) (fun hc => ?_)
            · refine awp_seq_k fun K hK => ?_; refine awp_region rfl ?_; simp only [RR, seval]
              simp only [h0, h1, h4, h11, h12, hgs, hb, Tok.row, tok0, RR, seval]
              refine hK _ _ ?_; clear hK K
              refine awp_ret ?_; simp only [thenQ, blockQ, bodyQ, aresult, ares, argF, h4, RR, seval]; refine Gives.pure ?_
              have hf : signsL.find? (hasP (s.drop i)) = some signsL[j] := find_at _ _ _ hl hnone hc
              simp only [nextS, hfirst, hf, if_true]
              rfl
            · refine awp_skip ?_; simp only [thenQ, blockQ]
              refine awp_region rfl ?_; simp only [RR, seval]
              simp only [h12, RR, seval]
              rw [IntWalk.i64_in _ (by omega)]
              refine hK2 (24 - (j + 1)) _ _ (by omega) ⟨j + 1, rfl, by omega, ?_, h0, h1, h4, hb, h11, rfl⟩
              rw [List.take_succ_eq_append_getElem hl, List.find?_append, hnone]
              simp [List.find?, hc]
          · refine awp_exit ?_; simp only [thenQ, blockQ, reduceIte, Nat.reduceEqDiff]
            have hi2 : ¬ (j : Int) < signsL.length := of_decide_eq_false hc
            have hl24 : signsL.length = 24 := rfl
            have : j = 24 := by omega
            subst this
            exact hK _ _ ⟨hnone, h4, hb⟩
        · rintro fr H ⟨hnone, h4, hb⟩
          refine awp_seq_k fun K hK => ?_; refine awp_region rfl ?_; simp only [RR, seval]
          simp only [h4, hb, Tok.row, tok0, RR, seval]
          refine hK _ _ ?_; clear hK K
          refine awp_ret ?_; simp only [thenQ, blockQ, bodyQ, aresult, ares, argF, h4, RR, seval]; refine Gives.pure ?_
          simp only [nextS, hfirst, hnone]
          rfl
end Go.Proofs.YtlpeikljipknoaaDoor

namespace Go.Proofs.YtlpeikljipknoaaDoor
open Go.Al
def wsI (c : Int) : Bool := decide (c = 32) || decide (c = 9) || decide (c = 10)
def notNL (c : UInt8) : Bool := !decide ((c.toNat : Int) = 10)
def lexH : List UInt8 → Nat → Nat → Except (Nat × Int) (List Tok)
  | [], _, _ => .ok []
  | _ :: r, k + 1, i => lexH r k (i + 1)
  | c :: r, 0, i =>
    if wsI c.toNat then lexH r 0 (i + 1)
    else if hasP (c :: r) [47, 47] then lexH r (((c :: r).takeWhile notNL).length - 1) (i + 1)
    else if (firstS (c :: r)).2 = 0 then (lexH r ((firstS (c :: r)).1.text.length - 1) (i + 1)).map ({ (firstS (c :: r)).1 with pos := i } :: ·)
    else .error (i, (firstS (c :: r)).2)
theorem lexH_skip : ∀ (s : List UInt8) (k i : Nat), lexH s k i = lexH (s.drop k) 0 (i + k)
  | [], k, i => by cases k <;> simp [lexH]
  | c :: r, 0, i => by simp
  | c :: r, k + 1, i => by
    simp only [lexH, List.drop_succ_cons]
    rw [lexH_skip r k (i + 1)]
    congr 1; omega
def lexV : Except (Nat × Int) (List Tok) → AV
  | .ok l => .tup [slV 4 (l.map Tok.row), .int .i64 0, .int .i64 0]
  | .error (i, e) => .tup [.nsl, .int .i64 i, .int .i64 e]
def lexS (s : List UInt8) : Except (Nat × Int) (List Tok) := if 20000 < s.length then .error (0, 2) else lexH s 0 0
def pre (l : List Tok) (x : Except (Nat × Int) (List Tok)) : Except (Nat × Int) (List Tok) := x.map (l ++ ·)
theorem pre_nil (x : Except (Nat × Int) (List Tok)) : pre [] x = x := by cases x <;> rfl
theorem pre_cons (l : List Tok) (t : Tok) (x : Except (Nat × Int) (List Tok)) : pre l (x.map (t :: ·)) = pre (l ++ [t]) x := by cases x <;> simp [pre, Except.map]
theorem first_text {s : List UInt8} (hs : s ≠ []) (h : (firstS s).2 = 0) : 0 < (firstS s).1.text.length := by
  cases s with
  | nil => exact absurd rfl hs
  | cons c r =>
    simp only [firstS] at *
    split at h
    · rename_i hd
      rw [if_pos hd]
      simp only [numTok] at *
      split at h
      · rename_i n e; have : isD c = true := hd; simp [List.takeWhile, this]
      · exact absurd h (by decide)
    · rename_i hd
      rw [if_neg hd]
      split at h
      · rename_i hq
        rw [if_pos hq]
        rw [byteS_cons] at *
        split at h
        · rename_i e1 e2; split at h
          · rename_i e3; simp only [e1, e2, e3, if_true]; simp
          · exact absurd h (by decide)
        · exact absurd h (by decide)
      · rename_i hq
        rw [if_neg hq]
        split at h
        · rename_i ha
          rw [if_pos ha]
          have hlen : 0 < ((c :: r).takeWhile isN).length := by
            have : isN c = true := by simp [isN, inI, ha]
            simp only [List.takeWhile, this]; simp
          simp only [nameS] at *
          split at h
          · exact absurd h (by decide)
          · rename_i h20
            rw [if_neg h20]
            split <;> exact hlen
        · rename_i ha
          rw [if_neg ha]
          split at h
          · rename_i w e
            have := List.mem_of_find?_eq_some e
            have h2 : ∀ w ∈ signsL, 0 < w.length := by decide
            exact h2 w this
          · exact absurd h (by decide)
theorem first_len (s : List UInt8) : (firstS s).1.text.length ≤ s.length := by
  cases s with
  | nil => simp [firstS, tok0]
  | cons c r =>
    simp only [firstS]
    split
    · simp only [numTok]
      split
      · exact takeWhile_len _ _
      · simp [tok0]
    · split
      · rw [byteS_cons]
        split
        · split
          · rename_i e1 e2 _
            have := (List.getElem?_eq_some_iff.1 e2).1
            simp only [List.length_take]
            omega
          · simp [tok0]
        · simp [tok0]
      · split
        · simp only [nameS]
          split
          · simp [tok0]
          · split <;> exact takeWhile_len _ _
        · split
          · rename_i w e
            have h := List.find?_some e
            have h2 : (c :: r).take w.length = w := of_decide_eq_true h
            have := congrArg List.length h2
            rw [List.length_take] at this
            simp only
            omega
          · simp [tok0]
end Go.Proofs.YtlpeikljipknoaaDoor

namespace Go.Proofs.YtlpeikljipknoaaDoor
open Go.Al
theorem tok_row_len (t : Tok) : t.row.length = 4 := rfl
theorem Lex_con (s : List UInt8) (hs : s.length ≤ 1000000) : PCon env 42 [.str s] (lexV (lexS s)) := by
  refine con_of 68 [.tmp 2, .tmp 3, .tmp 4] Tryd.func42 rfl rfl rfl rfl ?_
  refine awp_seq_k fun K hK => ?_; refine awp_region rfl ?_; simp only [RR, seval]
  refine hK _ _ ?_; clear hK K
  refine awp_scope ?_
  refine awp_seq ?_
  refine awp_seq_k fun K hK => ?_; refine awp_region rfl ?_; simp only [RR, seval]
  refine hK _ _ ?_; clear hK K
  refine awp_if _ rfl (fun hc => ?_) (fun hc => ?_)
  · have h : 20000 < s.length := by have := of_decide_eq_true hc; omega
    refine awp_seq_k fun K hK => ?_; refine awp_region rfl ?_; simp only [RR, seval]
    refine hK _ _ ?_; clear hK K
    refine awp_ret ?_; simp only [thenQ, blockQ, bodyQ, aresult, ares, argF, RR, seval]; refine Gives.pure ?_
    simp [lexS, h, lexV]
  · have h : ¬ 20000 < s.length := by have := of_decide_eq_false hc; omega
    have hS : lexS s = lexH s 0 0 := if_neg h
    refine awp_skip ?_; simp only [thenQ, blockQ]
    refine awp_seq_k fun K hK => ?_; refine awp_region rfl ?_; simp only [RR, seval]
    refine hK _ _ ?_; clear hK K
    refine awp_seq_k fun K hK => ?_; refine awp_region rfl ?_; simp only [RR, seval]
    refine hK _ _ ?_; clear hK K
    refine awp_seq ?_
    refine awp_label ?_
    simp only [thenQ]
    refine awp_cutK (fun fr H => ∃ l : List Tok, lexH s 0 0 = .ok l ∧ OwnN 4 (fr 5) (l.map Tok.row) H) (fun K hK => ?_) ?_
    · refine awp_block ?_
      refine awp_loopK (fun n fr H => ∃ (a : Nat) (l : List Tok), n = s.length - a ∧ a ≤ s.length ∧ lexH s 0 0 = pre l (lexH (s.drop a) 0 a) ∧ l.length ≤ a ∧ fr 0 = .str s ∧ OwnN 4 (fr 5) (l.map Tok.row) H ∧ fr 6 = .int .i64 a) s.length ⟨0, [], rfl, by omega, (pre_nil _).symm, by simp, rfl, .inl ⟨rfl, rfl⟩, rfl⟩ ?_
      rintro n fr H ⟨a, l, rfl, ha, hlex, hll, h0, h5, h6⟩ K2 hK2
      refine awp_seq ?_
      refine awp_seq_k fun K hK => ?_; refine awp_region rfl ?_; simp only [RR, seval]
      simp only [h0, h6, RR, seval]
      refine hK _ _ ?_; clear hK K
      refine awp_if _ rfl (fun hc => ?_) (fun hc => ?_)
      · have hl : a < s.length := by have := of_decide_eq_true hc; omega
        have hg : s[a]? = some s[a] := List.getElem?_eq_getElem hl
        have hdrop : s.drop a = s[a] :: s.drop (a + 1) := List.drop_eq_getElem_cons hl
        have htake : (s.drop a).take (s.length - a) = s.drop a := List.take_of_length_le (by rw [List.length_drop]; omega)
        have hal : (a : Int) ≤ s.length := by omega
        generalize s[a] = c at hg hdrop
        refine awp_skip ?_; simp only [thenQ, blockQ]
        refine awp_block ?_
        refine awp_cutK (fun fr H => wsI c.toNat = false ∧ hasP (s.drop a) [47, 47] = false ∧ fr 0 = .str s ∧ OwnN 4 (fr 5) (l.map Tok.row) H ∧ fr 6 = .int .i64 a) (fun K hK => ?_) ?_
        · refine awp_seq_k fun K hK => ?_; refine awp_region rfl ?_; simp only [RR, seval]
          simp only [h0, h6, hg, RR, seval]
          refine hK _ _ ?_; clear hK K
          refine awp_block ?_
          refine awp_cutK (fun fr H => fr 20 = .bool (wsI c.toNat) ∧ fr 0 = .str s ∧ OwnN 4 (fr 5) (l.map Tok.row) H ∧ fr 6 = .int .i64 a) (fun K hK => ?_) ?_
          · refine awp_region rfl ?_; simp only [RR, seval]
            repeat' ((first | refine awpG_splitN (fun h => ?_) (fun h => ?_) | refine awpG_split (fun h => ?_) (fun h => ?_)) <;> simp only [h, RR, seval])
            all_goals exact hK _ _ ⟨by simp [upd, wsI, *], h0, h5, h6⟩
          · rintro fr H ⟨h20, h0, h5, h6⟩
            refine awp_if _ h20 (fun hc => ?_) (fun hc => ?_)
            · refine awp_seq_k fun K hK => ?_; refine awp_region rfl ?_; simp only [RR, seval]
              simp only [h6, RR, seval]
              rw [IntWalk.i64_in _ (by omega)]
              refine hK _ _ ?_; clear hK K
              refine awp_exit ?_; simp only [thenQ, blockQ, reduceIte, Nat.reduceEqDiff]
              refine hK2 (s.length - (a + 1)) _ _ (by omega) ⟨a + 1, l, rfl, by omega, ?_, by omega, h0, h5, rfl⟩
              rw [hlex, hdrop]
              simp only [lexH, hc, if_true]
            · refine awp_seq_k fun K hK => ?_; refine awp_region rfl ?_; simp only [RR, seval]
              simp only [h0, h6, hal, htake, RR, seval]
              refine awpC_pure' (has_con _ _) ?_
              simp only [RR, seval]
              refine hK _ _ ?_; clear hK K
              refine awp_if _ rfl (fun hp => ?_) (fun hp => ?_)
              · have hc47 : notNL c = true := by
                  have : (s.drop a).take 2 = [47, 47] := of_decide_eq_true hp
                  rw [hdrop] at this
                  simp only [List.take_succ_cons, List.cons.injEq] at this
                  rw [this.1]; rfl
                have hn1 : 1 ≤ ((s.drop a).takeWhile notNL).length := by
                  rw [hdrop]; simp only [List.takeWhile, hc47]; simp
                have hn2 := takeWhile_len notNL (s.drop a)
                rw [List.length_drop] at hn2
                refine awp_seq_k fun K hK => ?_; refine awp_region rfl ?_; simp only [RR, seval]
                simp only [h0, h6, hal, htake, RR, seval]
                refine awpC_pure' (front_con _ notNL (fun c => lex1_con _) _ (by rw [List.length_drop]; omega)) ?_
                simp only [RR, seval]
                rw [IntWalk.i64_in _ (by omega)]
                refine hK _ _ ?_; clear hK K
                refine awp_exit ?_; simp only [thenQ, blockQ, reduceIte, Nat.reduceEqDiff]
                refine hK2 (s.length - (a + ((s.drop a).takeWhile notNL).length)) _ _ (by omega) ⟨a + ((s.drop a).takeWhile notNL).length, l, rfl, by omega, ?_, by omega, h0, h5, by simp [upd]⟩
                rw [hlex]
                congr 1
                conv => lhs; rw [hdrop]
                rw [hdrop] at hp
                simp only [lexH, hc, hp, if_true, if_false, Bool.false_eq_true]
                rw [lexH_skip, ← hdrop, List.drop_drop, show a + 1 + (((s.drop a).takeWhile notNL).length - 1) = a + ((s.drop a).takeWhile notNL).length by omega]
              · refine awp_skip ?_; simp only [thenQ, blockQ]
                exact hK _ _ ⟨hc, hp, h0, h5, h6⟩
        · rintro fr H ⟨hws, hp, h0, h5, h6⟩
          have hstep : lexH (s.drop a) 0 a = if (firstS (s.drop a)).2 = 0 then (lexH (s.drop (a + 1)) ((firstS (s.drop a)).1.text.length - 1) (a + 1)).map ({ (firstS (s.drop a)).1 with pos := a } :: ·) else .error (a, (firstS (s.drop a)).2) := by
            rw [hdrop] at hp ⊢
            simp only [lexH, hws, hp, if_false, Bool.false_eq_true]
          have hfc := first_con c (s.drop (a + 1)) (by rw [← hdrop, List.length_drop]; omega)
          rw [← hdrop] at hfc
          have hflen := first_len (s.drop a)
          rw [List.length_drop] at hflen
          have htext := first_text (s := s.drop a) (by rw [hdrop]; simp)
          generalize firstS (s.drop a) = p at *
          obtain ⟨t, e⟩ := p
          simp only [tokE] at hfc
          refine awp_seq_k fun K hK => ?_; refine awp_region rfl ?_; simp only [RR, seval]
          simp only [h0, h6, hal, htake, RR, seval]
          refine awpC_pure' hfc ?_
          simp only [Tok.row, RR, seval]
          refine awpN_intro fun b hb => ?_
          simp only [RR, seval]
          refine hK _ _ ?_; clear hK K
          have hne : ∀ b', fr 5 = .osl 4 b' (l.map Tok.row).length → b' ≠ b := fun b' e e2 => by
            rcases h5 with ⟨h5, _⟩ | ⟨_, b'', h7, h8⟩
            · rw [h5] at e; cases e
            · rw [h7] at e
              cases e
              rw [e2, hb] at h8; cases h8
          have hown : OwnN 4 (fr 5) (l.map Tok.row) (upd (upd H b (some (.rows 4 [[.int .i64 0, .str [], .int .u32 0, .int .i64 0]]))) b (some (.rows 4 [t.row]))) := by
            rcases h5 with h5 | ⟨h5, b', h7, h8⟩
            · exact .inl h5
            · have hne : b' ≠ b := fun e => by rw [e, hb] at h8; cases h8
              exact .inr ⟨h5, b', h7, by simp [upd, hne, h8]⟩
          have hb2 : (upd (upd H b (some (.rows 4 [[.int .i64 0, .str [], .int .u32 0, .int .i64 0]]))) b (some (.rows 4 [t.row]))) b = some (.rows 4 [t.row]) := upd_same _ _ _
          simp only [Tok.row] at hown hb2
          generalize (upd (upd H b (some (.rows 4 [[.int .i64 0, .str [], .int .u32 0, .int .i64 0]]))) b (some (.rows 4 [[AV.int .i64 t.kind, .str t.text, .int .u32 t.num, .int .i64 t.pos]]))) = H1 at hown hb2 ⊢
          refine awp_seq ?_
          refine awp_seq_k fun K hK => ?_; refine awp_region rfl ?_; simp only [RR, seval]
          refine hK _ _ ?_; clear hK K
          refine awp_if _ rfl (fun hc => ?_) (fun hc => ?_)
          · have he : ¬ e = 0 := by simpa using hc
            refine awp_seq_k fun K hK => ?_; refine awp_region rfl ?_; simp only [RR, seval]
            try simp only [h6, RR, seval]
            refine hK _ _ ?_; clear hK K
            refine awp_ret ?_; simp only [thenQ, blockQ, bodyQ, aresult, ares, argF, RR, seval]; refine Gives.pure ?_
            rw [hS, hlex, hstep, if_neg he]
            rfl
          · have he : e = 0 := by simpa using hc
            refine awp_skip ?_; simp only [thenQ, blockQ]
            refine awp_seq_k fun K hK => ?_; refine awp_region rfl ?_; simp only [RR, seval]
            simp only [h6, hb2, RR, seval]
            refine hK _ _ ?_; clear hK K
            refine awp_seq_k fun K hK => ?_; refine awp_region rfl ?_; simp only [RR, seval]
            try simp only [hb2, RR, seval]
            refine awpB_sealed ?_
            simp only [RR, seval]
            refine awpA_own (rows := l.map Tok.row) ?_ (by simp only [List.length_map, List.length_cons, List.length_nil]; omega) (fun _ => trivial) fun v' H' hv' hkeep => ?_
            · rcases hown with hown | ⟨h5, b', h7, h8⟩
              · exact .inl hown
              · exact .inr ⟨b', h7, by simp [upd, hne b' h7, h8]⟩
            have hb3 := hkeep b _ (upd_same _ _ _) (fun e => hne b e rfl)
            simp only [RR, seval]
            refine hK _ _ ?_; clear hK K
            refine awp_region rfl ?_; simp only [RR, seval]
            simp only [h6, hb3, RR, seval]
            have htx := htext he
            simp only at htx hflen
            rw [IntWalk.i64_in _ (by omega)]
            refine hK2 (s.length - (a + t.text.length)) _ _ (by omega) ⟨a + t.text.length, l ++ [{ t with pos := a }], rfl, by omega, ?_, ?_, h0, ?_, rfl⟩
            · rw [hlex, hstep, if_pos he, pre_cons, lexH_skip, List.drop_drop, show a + 1 + (t.text.length - 1) = a + t.text.length by omega]
            · simp only [List.length_append, List.length_cons, List.length_nil]; omega
            · refine OwnL.ne ?_ (by simp)
              rw [List.map_append]
              exact hv'
      · refine awp_exit ?_; simp only [thenQ, blockQ, reduceIte, Nat.reduceEqDiff]
        have hl : ¬ (a : Int) < s.length := of_decide_eq_false hc
        have : a = s.length := by omega
        subst this
        rw [List.drop_length] at hlex
        exact hK _ _ ⟨l, by rw [hlex]; simp [lexH, pre, Except.map], h5⟩
    · rintro fr H ⟨l, hl, h5⟩
      refine awp_seq_k fun K hK => ?_; refine awp_region rfl ?_; simp only [RR, seval]
      refine hK _ _ ?_; clear hK K
      refine awp_ret ?_
      simp only [thenQ, blockQ, bodyQ, aresult, ares, argF, RR, seval]
      refine OwnN.gives h5 ?_
      rw [hS, hl]
      rfl
end Go.Proofs.YtlpeikljipknoaaDoor

namespace Go.Proofs.YtlpeikljipknoaaDoor
open Go.Al
def passH : List UInt8 → Nat → Nat
  | [], _ => 0
  | _ :: r, k + 1 => passH r k + 1
  | c :: r, 0 => if wsI c.toNat then passH r 0 + 1 else if hasP (c :: r) [47, 47] then passH r (((c :: r).takeWhile notNL).length - 1) + 1 else 0
theorem passH_skip : ∀ (s : List UInt8) (k : Nat), k ≤ s.length → passH s k = passH (s.drop k) 0 + k
  | [], k, h => by simp at h; subst h; rfl
  | c :: r, 0, _ => by simp
  | c :: r, k + 1, h => by
    simp only [passH, List.drop_succ_cons]
    rw [passH_skip r k (by simpa using h)]
    omega
theorem comment_len {c : UInt8} {r : List UInt8} (h : hasP (c :: r) [47, 47] = true) : 1 ≤ ((c :: r).takeWhile notNL).length := by
  have : (c :: r).take 2 = [47, 47] := of_decide_eq_true h
  simp only [List.take_succ_cons, List.cons.injEq] at this
  have hc47 : notNL c = true := by rw [this.1]; rfl
  simp only [List.takeWhile, hc47]; simp
theorem passH_spec (n : Nat) : ∀ (s : List UInt8) (i : Nat), s.length ≤ n → passH s 0 ≤ s.length ∧ lexH s 0 i = lexH (s.drop (passH s 0)) 0 (i + passH s 0) ∧ (∀ c r, s.drop (passH s 0) = c :: r → wsI c.toNat = false ∧ hasP (c :: r) [47, 47] = false) := by
  induction n with
  | zero =>
    intro s i h
    cases s with
    | nil => exact ⟨by simp [passH], by simp [passH], fun c r e => by simp at e⟩
    | cons => simp at h
  | succ n ih =>
    intro s i h
    cases s with
    | nil => exact ⟨by simp [passH], by simp [passH], fun c r e => by simp at e⟩
    | cons c r =>
      simp only [List.length_cons] at h
      cases hw : wsI c.toNat with
      | true =>
        obtain ⟨h1, h2, h3⟩ := ih r (i + 1) (by omega)
        simp only [passH, hw, if_true, lexH, List.length_cons, List.drop_succ_cons]
        refine ⟨by omega, ?_, h3⟩
        rw [h2]; congr 1; omega
      | false =>
        cases hp : hasP (c :: r) [47, 47] with
        | true =>
          have hn := comment_len hp
          have hn2 := takeWhile_len notNL (c :: r)
          simp only [List.length_cons] at hn2
          simp only [passH, hw, hp, if_true, if_false, Bool.false_eq_true, lexH, List.length_cons]
          rw [lexH_skip, passH_skip _ _ (by omega)]
          obtain ⟨h1, h2, h3⟩ := ih (r.drop (((c :: r).takeWhile notNL).length - 1)) (i + 1 + (((c :: r).takeWhile notNL).length - 1)) (by rw [List.length_drop]; omega)
          rw [List.length_drop] at h1
          rw [List.drop_drop] at h2 h3
          refine ⟨by omega, ?_, ?_⟩
          · rw [h2, List.drop_succ_cons]
            congr 1
            · congr 1; omega
            · omega
          · intro c' r' e
            rw [List.drop_succ_cons] at e
            refine h3 c' r' ?_
            rw [← e]; congr 1; omega
        | false =>
          simp only [passH, hw, hp, if_false, Bool.false_eq_true]
          refine ⟨by omega, by simp, fun c' r' e => ?_⟩
          simp only [List.drop_zero, List.cons.injEq] at e
          rw [← e.1, ← e.2]
          exact ⟨hw, hp⟩
theorem pass_con (s : List UInt8) (i : Nat) (hs : s.length ≤ 1000000) (hi : i ≤ s.length) : PCon env 40 [.str s, .int .i64 i] (.int .i64 ((i + passH (s.drop i) 0 : Nat))) := by
  refine con_of 46 [.tmp 4] Tryd.func40 rfl rfl rfl rfl ?_
  refine awp_seq_k fun K hK => ?_; refine awp_region rfl ?_; simp only [RR, seval]
  refine hK _ _ ?_; clear hK K
  refine awp_cutK (fun fr H => fr 1 = .int .i64 ((i + passH (s.drop i) 0 : Nat))) (fun K hK => ?_) ?_
  · refine awp_block ?_
    refine awp_loopK (fun n fr H => ∃ j : Nat, n = s.length - j ∧ j ≤ s.length ∧ fr 0 = .str s ∧ fr 1 = .int .i64 j ∧ i + passH (s.drop i) 0 = j + passH (s.drop j) 0) (s.length - i) ⟨i, rfl, hi, rfl, rfl, rfl⟩ ?_
    rintro n fr H ⟨j, rfl, hj, h0, h1, hp⟩ K2 hK2
    refine awp_seq ?_
    refine awp_seq_k fun K hK => ?_; refine awp_region rfl ?_; simp only [RR, seval]
    simp only [h0, h1, RR, seval]
    refine hK _ _ ?_; clear hK K
    refine awp_if _ rfl (fun hc => ?_) (fun hc => ?_)
    · have hl : j < s.length := by have := of_decide_eq_true hc; omega
      have hg : s[j]? = some s[j] := List.getElem?_eq_getElem hl
      have hdrop : s.drop j = s[j] :: s.drop (j + 1) := List.drop_eq_getElem_cons hl
      generalize s[j] = c at hg hdrop
      refine awp_skip ?_; simp only [thenQ, blockQ]
      refine awp_block ?_
      refine awp_block ?_
      refine awp_cutK (fun fr H => fr 10 = .bool (wsI c.toNat) ∧ fr 0 = .str s ∧ fr 1 = .int .i64 j) (fun K hK => ?_) ?_
      · refine awp_region rfl ?_; simp only [RR, seval]
        simp only [h0, h1, hg, RR, seval]
        repeat' ((first | refine awpG_splitN (fun h => ?_) (fun h => ?_) | refine awpG_split (fun h => ?_) (fun h => ?_)) <;> simp only [h, h0, h1, hg, RR, seval])
        all_goals exact hK _ _ ⟨by simp [upd, wsI, *], h0, h1⟩
      · rintro fr H ⟨h10, h0, h1⟩
        refine awp_if _ h10 (fun hw => ?_) (fun hw => ?_)
        · refine awp_region rfl ?_; simp only [RR, seval]
          simp only [h1, blockQ, RR, seval]
          rw [IntWalk.i64_in _ (by omega)]
          refine hK2 (s.length - (j + 1)) _ _ (by omega) ⟨j + 1, rfl, by omega, h0, rfl, ?_⟩
          rw [hp, hdrop]
          simp only [passH, hw, if_true]
          omega
        · refine awp_seq_k fun K hK => ?_; refine awp_region rfl ?_; simp only [RR, seval]
          simp only [h0, h1, RR, seval]
          refine awpC_pure' (begins_con s _ j hs (by decide) hj) ?_
          simp only [RR, seval]
          refine hK _ _ ?_; clear hK K
          refine awp_if _ rfl (fun hb => ?_) (fun hb => ?_)
          · have hlen := takeWhile_len notNL (s.drop j)
            rw [List.length_drop] at hlen
            refine awp_block ?_
            refine awp_loopK (fun n fr H => ∃ k : Nat, n = s.length - k ∧ k ≤ s.length ∧ fr 0 = .str s ∧ fr 1 = .int .i64 k ∧ j + ((s.drop j).takeWhile notNL).length = k + ((s.drop k).takeWhile notNL).length) (s.length - j) ⟨j, rfl, hj, h0, h1, rfl⟩ ?_
            rintro n fr H ⟨k, rfl, hk, h0, h1, hkl⟩ K3 hK3
            refine awp_seq ?_
            refine awp_cutK (fun fr' H' => ∃ t, fr' 42 = .bool t ∧ fr' 0 = .str s ∧ fr' 1 = .int .i64 k ∧ (t = true → ∃ c, s[k]? = some c ∧ notNL c = true) ∧ (t = false → ∀ c, s[k]? = some c → notNL c = false)) (fun K hK => ?_) ?_
            · refine awp_region rfl ?_; simp only [RR, seval]
              simp only [h0, h1, RR, seval]
              refine awpG_split (fun h => ?_) (fun h => ?_)
              · have h2 : (k : Int) < s.length := of_decide_eq_true h
                have hl : k < s.length := by omega
                have hg : s[k]? = some s[k] := List.getElem?_eq_getElem hl
                generalize s[k] = e at hg
                simp only [h, h0, h1, hg, RR, seval]
                repeat' ((first | refine awpG_splitN (fun h => ?_) (fun h => ?_) | refine awpG_split (fun h => ?_) (fun h => ?_)) <;> simp only [h, h0, h1, hg, RR, seval])
                refine hK _ _ ⟨_, rfl, h0, h1, ?_, ?_⟩
                · intro g; exact ⟨e, hg, g⟩
                · intro g c' hc'; rw [hg] at hc'; cases hc'; exact g
              · simp only [h, h0, h1, RR, seval]
                refine hK _ _ ⟨_, rfl, h0, h1, ?_, ?_⟩
                · intro g; cases g
                · intro _ c hc
                  have h2 : ¬ (k : Int) < s.length := of_decide_eq_false h
                  rw [List.getElem?_eq_none (by omega)] at hc
                  cases hc
            · rintro fr H ⟨t, h42, h0, h1, ht, hff⟩
              refine awp_if _ h42 (fun hc => ?_) (fun hc => ?_)
              · refine awp_skip ?_; simp only [thenQ, blockQ]
                obtain ⟨e, hg, he⟩ := ht hc
                obtain ⟨hl, hce⟩ := List.getElem?_eq_some_iff.1 hg
                have hdj : s.drop k = e :: s.drop (k + 1) := by rw [List.drop_eq_getElem_cons hl, hce]
                rw [hdj] at hkl
                simp only [List.takeWhile, he, List.length_cons] at hkl
                refine awp_block ?_
                refine awp_region rfl ?_; simp only [RR, seval]
                simp only [h1, RR, seval]
                rw [IntWalk.i64_in _ (by omega)]
                exact hK3 (s.length - (k + 1)) _ _ (by omega) ⟨k + 1, rfl, by omega, h0, rfl, by omega⟩
              · refine awp_exit ?_; simp only [thenQ, blockQ, reduceIte, Nat.reduceEqDiff]
                have hnil : (s.drop k).takeWhile notNL = [] := by
                  cases hdj : s.drop k with
                  | nil => rfl
                  | cons e r =>
                    have : s[k]? = some e := by
                      have := List.getElem?_drop (xs := s) (i := k) (j := 0)
                      rw [hdj] at this
                      simpa using this.symm
                    simp only [List.takeWhile, hff hc e this]
                rw [hnil] at hkl
                simp only [List.length_nil, Nat.add_zero] at hkl
                rw [hdrop] at hb
                have hn1 := comment_len hb
                rw [← hdrop] at hn1
                refine hK2 (s.length - k) _ _ (by omega) ⟨k, rfl, hk, h0, h1, ?_⟩
                rw [hp]
                conv => lhs; rw [hdrop]
                simp only [passH, hw, hb, if_true, if_false, Bool.false_eq_true]
                rw [← hdrop, passH_skip _ _ (by rw [List.length_drop]; omega), List.drop_drop, show j + 1 + (((s.drop j).takeWhile notNL).length - 1) = k by omega]
                omega
          · refine awp_seq_k fun K hK => ?_; refine awp_region rfl ?_; simp only [RR, seval]
            simp only [h1, RR, seval]
            refine hK _ _ ?_; clear hK K
            refine awp_ret ?_; simp only [thenQ, blockQ, bodyQ, aresult, ares, argF, RR, seval]; refine Gives.pure ?_
            rw [hp, hdrop]
            rw [hdrop] at hb
            simp only [passH, hw, hb, if_false, Bool.false_eq_true]
            simp
    · refine awp_exit ?_; simp only [thenQ, blockQ, reduceIte, Nat.reduceEqDiff]
      have : j = s.length := by have := of_decide_eq_false hc; omega
      subst this
      rw [List.drop_length] at hp
      refine hK _ _ ?_
      rw [hp]
      exact h1
  · intro fr H h1
    refine awp_seq_k fun K hK => ?_; refine awp_region rfl ?_; simp only [RR, seval]
    simp only [h1, RR, seval]
    refine hK _ _ ?_; clear hK K
    refine awp_ret ?_; simp only [thenQ, blockQ, bodyQ, aresult, ares, argF, RR, seval]; refine Gives.pure ?_
    rfl
theorem rLex_con (s : List UInt8) (hs : s.length ≤ 1000000) : PCon env 20 [.str s] (lexV (lexS s)) := by
  refine con_of 40 [.tmp 2, .tmp 3, .tmp 4] Tryd.func20 rfl rfl rfl rfl ?_
  refine awp_seq_k fun K hK => ?_; refine awp_region rfl ?_; simp only [RR, seval]
  refine hK _ _ ?_; clear hK K
  refine awp_seq ?_
  refine awp_seq_k fun K hK => ?_; refine awp_region rfl ?_; simp only [RR, seval]
  refine hK _ _ ?_; clear hK K
  refine awp_if _ rfl (fun hc => ?_) (fun hc => ?_)
  · have h : 20000 < s.length := by have := of_decide_eq_true hc; omega
    refine awp_seq_k fun K hK => ?_; refine awp_region rfl ?_; simp only [RR, seval]
    refine hK _ _ ?_; clear hK K
    refine awp_ret ?_; simp only [thenQ, blockQ, bodyQ, aresult, ares, argF, RR, seval]; refine Gives.pure ?_
    simp [lexS, h, lexV]
  · have h : ¬ 20000 < s.length := by have := of_decide_eq_false hc; omega
    have hS : lexS s = lexH s 0 0 := if_neg h
    refine awp_skip ?_; simp only [thenQ, blockQ]
    refine awp_seq_k fun K hK => ?_; refine awp_region rfl ?_; simp only [RR, seval]
    refine hK _ _ ?_; clear hK K
    have hp0 := pass_con s 0 hs (by omega)
    obtain ⟨hps1, hps2, hps3⟩ := passH_spec s.length s 0 (Nat.le_refl _)
    simp only [List.drop_zero, Nat.zero_add] at hp0 hps2
    refine awp_seq_k fun K hK => ?_; refine awp_region rfl ?_; simp only [RR, seval]
    refine awpC_pure' hp0 ?_
    simp only [RR, seval]
    refine hK _ _ ?_; clear hK K
    refine awp_cutK (fun fr H => ∃ l : List Tok, lexH s 0 0 = .ok l ∧ OwnN 4 (fr 5) (l.map Tok.row) H) (fun K hK => ?_) ?_
    · refine awp_block ?_
      refine awp_loopK (fun n fr H => ∃ (a : Nat) (l : List Tok), n = s.length - a ∧ a ≤ s.length ∧ lexH s 0 0 = pre l (lexH (s.drop a) 0 a) ∧ (∀ c r, s.drop a = c :: r → wsI c.toNat = false ∧ hasP (c :: r) [47, 47] = false) ∧ l.length ≤ a ∧ fr 0 = .str s ∧ OwnN 4 (fr 5) (l.map Tok.row) H ∧ fr 6 = .int .i64 a) (s.length - passH s 0) ⟨passH s 0, [], rfl, by omega, by rw [pre_nil]; exact hps2, hps3, by simp, rfl, .inl ⟨rfl, rfl⟩, rfl⟩ ?_
      rintro n fr H ⟨a, l, rfl, ha, hlex, hstop, hll, h0, h5, h6⟩ K2 hK2
      refine awp_seq ?_
      refine awp_seq_k fun K hK => ?_; refine awp_region rfl ?_; simp only [RR, seval]
      simp only [h0, h6, RR, seval]
      refine hK _ _ ?_; clear hK K
      refine awp_if _ rfl (fun hc => ?_) (fun hc => ?_)
      · have hl : a < s.length := by have := of_decide_eq_true hc; omega
        have hdrop : s.drop a = s[a] :: s.drop (a + 1) := List.drop_eq_getElem_cons hl
        generalize s[a] = c at hdrop
        obtain ⟨hws, hp⟩ := hstop _ _ hdrop
        have hstep : lexH (s.drop a) 0 a = if (firstS (s.drop a)).2 = 0 then (lexH (s.drop (a + 1)) ((firstS (s.drop a)).1.text.length - 1) (a + 1)).map ({ (firstS (s.drop a)).1 with pos := a } :: ·) else .error (a, (firstS (s.drop a)).2) := by
          rw [hdrop]
          simp only [lexH, hws, hp, if_false, Bool.false_eq_true]
        have hfc := next_con s a hs hl
        have hflen := first_len (s.drop a)
        rw [List.length_drop] at hflen
        have htext := first_text (s := s.drop a) (by rw [hdrop]; simp)
        simp only [nextS] at hfc
        refine awp_skip ?_; simp only [thenQ, blockQ]
        refine awp_block ?_
        generalize firstS (s.drop a) = p at *
        obtain ⟨t, e⟩ := p
        simp only at hstep hflen htext hfc
        have hsplit : ∃ t', (if e = 0 then (({ t with pos := (a : Int) } : Tok), (0 : Int)) else (tok0, e)) = (t', e) ∧ (e = 0 → t' = { t with pos := (a : Int) }) := by
          by_cases he : e = 0
          · exact ⟨_, by rw [if_pos he, he], fun _ => rfl⟩
          · exact ⟨tok0, if_neg he, fun h => absurd h he⟩
        obtain ⟨t', ht1, ht2⟩ := hsplit
        rw [ht1] at hfc
        simp only [tokE] at hfc
        refine awp_seq_k fun K hK => ?_; refine awp_region rfl ?_; simp only [RR, seval]
        simp only [h0, h6, RR, seval]
        refine awpC_pure' hfc ?_
        simp only [Tok.row, RR, seval]
        refine awpN_intro fun b hb => ?_
        simp only [RR, seval]
        refine hK _ _ ?_; clear hK K
        have hne : ∀ b', fr 5 = .osl 4 b' (l.map Tok.row).length → b' ≠ b := fun b' e e2 => by
          rcases h5 with ⟨h5, _⟩ | ⟨_, b'', h7, h8⟩
          · rw [h5] at e; cases e
          · rw [h7] at e
            cases e
            rw [e2, hb] at h8; cases h8
        have hown : OwnN 4 (fr 5) (l.map Tok.row) (upd (upd H b (some (.rows 4 [[.int .i64 0, .str [], .int .u32 0, .int .i64 0]]))) b (some (.rows 4 [t'.row]))) := by
          rcases h5 with h5 | ⟨h5, b', h7, h8⟩
          · exact .inl h5
          · exact .inr ⟨h5, b', h7, by simp [upd, hne b' h7, h8]⟩
        have hb2 : (upd (upd H b (some (.rows 4 [[.int .i64 0, .str [], .int .u32 0, .int .i64 0]]))) b (some (.rows 4 [t'.row]))) b = some (.rows 4 [t'.row]) := upd_same _ _ _
        simp only [Tok.row] at hown hb2
        generalize (upd (upd H b (some (.rows 4 [[.int .i64 0, .str [], .int .u32 0, .int .i64 0]]))) b (some (.rows 4 [[AV.int .i64 t'.kind, .str t'.text, .int .u32 t'.num, .int .i64 t'.pos]]))) = H1 at hown hb2 ⊢
        refine awp_seq ?_
        refine awp_seq_k fun K hK => ?_; refine awp_region rfl ?_; simp only [RR, seval]
        refine hK _ _ ?_; clear hK K
        refine awp_if _ rfl (fun hc => ?_) (fun hc => ?_)
        · have he : ¬ e = 0 := by simpa using hc
          refine awp_seq_k fun K hK => ?_; refine awp_region rfl ?_; simp only [RR, seval]
          try simp only [h6, RR, seval]
          refine hK _ _ ?_; clear hK K
          refine awp_ret ?_; simp only [thenQ, blockQ, bodyQ, aresult, ares, argF, RR, seval]; refine Gives.pure ?_
          rw [hS, hlex, hstep, if_neg he]
          rfl
        · have he : e = 0 := by simpa using hc
          have ht3 := ht2 he
          subst ht3
          refine awp_skip ?_; simp only [thenQ, blockQ]
          refine awp_seq_k fun K hK => ?_; refine awp_region rfl ?_; simp only [RR, seval]
          simp only [hb2, RR, seval]
          refine awpB_sealed ?_
          simp only [RR, seval]
          refine awpA_own (rows := l.map Tok.row) hown.own (by simp only [List.length_map, List.length_cons, List.length_nil]; omega) (fun _ => trivial) fun v' H' hv' hkeep => ?_
          have hb3 := hkeep b _ hb2 (fun e => hne b e rfl)
          simp only [RR, seval]
          refine hK _ _ ?_; clear hK K
          have htx := htext he
          have hpc := pass_con s (a + t.text.length) hs (by omega)
          obtain ⟨hq1, hq2, hq3⟩ := passH_spec s.length (s.drop (a + t.text.length)) (a + t.text.length) (by rw [List.length_drop]; omega)
          rw [List.length_drop] at hq1
          rw [List.drop_drop] at hq2 hq3
          refine awp_region rfl ?_; simp only [RR, seval]
          simp only [h0, h6, hb3, RR, seval]
          rw [IntWalk.i64_in _ (by omega)]
          refine awpC_pure' hpc ?_
          simp only [RR, seval]
          refine hK2 (s.length - (a + t.text.length + passH (s.drop (a + t.text.length)) 0)) _ _ (by omega) ⟨a + t.text.length + passH (s.drop (a + t.text.length)) 0, l ++ [{ t with pos := a }], rfl, by omega, ?_, hq3, ?_, h0, ?_, rfl⟩
          · rw [hlex, hstep, if_pos he, pre_cons, lexH_skip, List.drop_drop, show a + 1 + (t.text.length - 1) = a + t.text.length by omega, hq2]
          · simp only [List.length_append, List.length_cons, List.length_nil]; omega
          · refine OwnL.ne ?_ (by simp)
            rw [List.map_append]
            exact hv'
      · refine awp_exit ?_; simp only [thenQ, blockQ, reduceIte, Nat.reduceEqDiff]
        have : a = s.length := by have := of_decide_eq_false hc; omega
        subst this
        rw [List.drop_length] at hlex
        exact hK _ _ ⟨l, by rw [hlex]; simp [lexH, pre, Except.map], h5⟩
    · rintro fr H ⟨l, hl, h5⟩
      refine awp_seq_k fun K hK => ?_; refine awp_region rfl ?_; simp only [RR, seval]
      refine hK _ _ ?_; clear hK K
      refine awp_ret ?_
      simp only [thenQ, blockQ, bodyQ, aresult, ares, argF, RR, seval]
      refine OwnN.gives h5 ?_
      rw [hS, hl]
      rfl
end Go.Proofs.YtlpeikljipknoaaDoor
