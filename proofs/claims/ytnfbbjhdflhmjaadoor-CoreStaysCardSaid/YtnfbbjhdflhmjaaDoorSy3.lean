/- Chapter 13: the program's own small functions of names. Chapter 14, the program's: may a program be? First part: names; an expression's form. Chapter 14, the program's: the forms of expressions and statements. Chapter 14, the program's: the forms of statements; what is nested. Chapter 14, the program's: statements that are nested; Right. Chapter 14, the program's: Right. -/
import Derived.Test.YtnfbbjhdflhmjaaDoorSy2
import Derived.Test.YtnfbbjhdflhmjaaDoorAl4
set_option linter.unusedSimpArgs false
set_option linter.unusedVariables false
set_option maxRecDepth 10000
namespace Go.Proofs.YtnfbbjhdflhmjaaDoor
open Go.Al
theorem digit_con (c : Int) : PCon env 112 [.int .u8 c] (.bool (digI c)) := by
 refine con_of 9 [.tmp 2] Tryd.func112 rfl rfl rfl rfl ?_
 refine awp_seq_k fun K hK => ?_; refine awp_region rfl ?_; simp only [RR, seval]
 refine hK _ _ ?_; clear hK K
 refine awp_seq_k fun K hK => ?_; refine awp_region rfl ?_; simp only [RR, seval]
 repeat' ((first | refine awpG_splitN (fun h => ?_) (fun h => ?_) | refine awpG_split (fun h => ?_) (fun h => ?_)) <;> simp only [h, RR, seval])
 all_goals
  refine hK _ _ ?_; clear hK K
  refine awp_ret ?_; simp only [bodyQ, aresult, ares, RR, seval]; refine Gives.pure ?_
  simp [digI, *]
theorem alpha_con (c : Int) : PCon env 103 [.int .u8 c] (.bool (alphI c)) := by
 refine con_of 17 [.tmp 2] Tryd.func103 rfl rfl rfl rfl ?_
 refine awp_seq_k fun K hK => ?_; refine awp_region rfl ?_; simp only [RR, seval]
 refine hK _ _ ?_; clear hK K
 refine awp_seq_k fun K hK => ?_; refine awp_region rfl ?_; simp only [RR, seval]
 repeat' ((first | refine awpG_splitN (fun h => ?_) (fun h => ?_) | refine awpG_split (fun h => ?_) (fun h => ?_)) <;> simp only [h, RR, seval])
 all_goals
  refine hK _ _ ?_; clear hK K
  refine awp_ret ?_; simp only [bodyQ, aresult, ares, RR, seval]; refine Gives.pure ?_
  simp [alphI, *]
theorem inName_con (c : Int) : PCon env 105 [.int .u8 c] (.bool (inI c)) := by
 refine con_of 13 [.tmp 2] Tryd.func105 rfl rfl rfl rfl ?_
 refine awp_seq_k fun K hK => ?_; refine awp_region rfl ?_; simp only [RR, seval]
 refine hK _ _ ?_; clear hK K
 refine awp_seq_k fun K hK => ?_; refine awp_region rfl ?_; simp only [RR, seval]
 refine awpC_pure' (alpha_con c) ?_
 simp only [RR, seval]
 refine awpG_splitN (fun h => ?_) (fun h => ?_) <;> simp only [h, RR, seval]
 ·refine awpC_pure' (digit_con c) ?_
  simp only [RR, seval]
  repeat' ((first | refine awpG_splitN (fun h => ?_) (fun h => ?_) | refine awpG_split (fun h => ?_) (fun h => ?_)) <;> simp only [h, RR, seval])
  all_goals
   refine hK _ _ ?_; clear hK K
   refine awp_ret ?_; simp only [bodyQ, aresult, ares, RR, seval]; refine Gives.pure ?_
   simp [inI, *]
 ·refine hK _ _ ?_; clear hK K
  refine awp_ret ?_; simp only [bodyQ, aresult, ares, RR, seval]; refine Gives.pure ?_
  simp [inI, *]
theorem isWord_con (s : List UInt8) : PCon env 106 [.str s] (.bool (wordsL.contains s)) := by
 refine con_of 13 [.tmp 2] Tryd.func106 rfl rfl rfl rfl ?_
 refine awp_seq_k fun K hK => ?_; refine awp_region rfl ?_; simp only [RR, seval]
 refine hK _ _ ?_; clear hK K
 refine awp_cut (fun fr H => wordsL.contains s = false) ?_ ?_
 ·refine awp_seq_k fun K hK => ?_; refine awp_region rfl ?_; simp only [RR, seval]
  refine hK _ _ ?_; clear hK K
  refine awp_block ?_
  refine awp_loop (fun n fr H => ∃ i, n = 10 - i ∧ i ≤ 10 ∧ (wordsL.take i).contains s = false ∧ fr 0 = .str s ∧ fr 4 = .int .i64 (i : Nat)) 10 ⟨0, rfl, by omega, rfl, rfl, rfl⟩ ?_
  rintro n fr H ⟨i, rfl, hi, hw, h0, h4⟩
  refine awp_seq_k fun K hK => ?_; refine awp_region rfl ?_; simp only [RR, seval]
  simp only [h4, RR, seval]
  refine hK _ _ ?_; clear hK K
  refine awp_seq ?_; refine awp_if _ rfl (fun hc => ?_) (fun hc => ?_)
  ·refine awp_skip ?_; simp only [thenQ]
   have hi2 : (i : Int) < 10 := of_decide_eq_true hc
   have hi' : i < 10 := by omega
   have hl : i < wordsL.length := hi'
   have hg : (wordsL.map AV.str)[i]? = some (.str wordsL[i]) := by rw [List.getElem?_map, List.getElem?_eq_getElem hl]; rfl
   refine awp_seq ?_
   refine awp_block ?_
   refine awp_seq_k fun K hK => ?_; refine awp_region rfl ?_; simp only [RR, seval]
   refine hK _ _ ?_; clear hK K
   refine awp_seq_k fun K hK => ?_; refine awp_region rfl ?_; simp only [RR, seval]
   simp only [h0, h4, hi2, hg, RR, seval]
   refine hK _ _ ?_; clear hK K
   refine awp_if _ rfl (fun hc => ?_) (fun hc => ?_)
   ·refine awp_seq_k fun K hK => ?_; refine awp_region rfl ?_; simp only [RR, seval]
    refine hK _ _ ?_; clear hK K
    refine awp_ret ?_; simp only [thenQ, blockQ, bodyQ, aresult, ares, RR, seval]; refine Gives.pure ?_
    have : wordsL[i] = s := of_decide_eq_true hc
    rw [← this]
    simp
   ·refine awp_skip ?_; simp only [thenQ, blockQ]
    refine awp_region rfl ?_; simp only [RR, seval]
    simp only [h0, h4, RR, seval]
    refine ⟨10 - (i + 1), by omega, i + 1, rfl, by omega, ?_, ?_⟩
    ·have hne : ¬ wordsL[i] = s := of_decide_eq_false hc
     rw [List.take_succ_eq_append_getElem hl]
     simp only [List.contains_append, hw, Bool.false_or]
     simp [Ne.symm hne]
    ·rw [IntWalk.i64_in _ (by omega)]; rfl
  ·refine awp_exit ?_; simp only [thenQ, blockQ, reduceIte]
   have hi2 : ¬ (i : Int) < 10 := of_decide_eq_false hc
   have : i = 10 := by omega
   subst this
   exact hw
 ·intro fr H h
  refine awp_seq_k fun K hK => ?_; refine awp_region rfl ?_; simp only [RR, seval]
  refine hK _ _ ?_; clear hK K
  refine awp_ret ?_; simp only [bodyQ, aresult, ares, RR, seval]; refine Gives.pure ?_
  rw [h]
theorem take_all {α : Type} (p : α → Bool) : ∀ (s : List α) (i : Nat), (s.take i).all p = true → (∀ x, s[i]? = some x → p x = false) → i ≤ s.length → s.takeWhile p = s.take i
 | [], i, _, _, _ => by simp
 | x :: s, 0, _, h, _ => by simp [List.takeWhile, h x rfl]
 | x :: s, i + 1, h, h', hi => by
   simp only [List.take_succ_cons, List.all_cons, Bool.and_eq_true] at h
   simp only [List.takeWhile, h.1, List.take_succ_cons]
   rw [take_all p s i h.2 (fun y hy => h' y (by simpa using hy)) (by simpa using hi)]
theorem front_con (g : FuncId) (k : UInt8 → Bool) (hk : ∀ c : UInt8, PCon env g [.int .u8 c.toNat] (.bool (k c))) (s : List UInt8) (hs : s.length ≤ 1000000) :
  PCon env 104 [.str s, .fn (.func g) [] []] (.str (s.takeWhile k)) := by
 refine con_of 22 [.tmp 4] Tryd.func104 rfl rfl rfl rfl ?_
 refine awp_seq_k fun K hK => ?_; refine awp_region rfl ?_; simp only [RR, seval]
 refine hK _ _ ?_; clear hK K
 refine awp_seq_k fun K hK => ?_; refine awp_region rfl ?_; simp only [RR, seval]
 refine hK _ _ ?_; clear hK K
 refine awp_cut (fun fr H => ∃ i : Nat, i ≤ s.length ∧ s.takeWhile k = s.take i ∧ fr 0 = .str s ∧ fr 5 = .int .i64 i) ?_ ?_
 ·refine awp_block ?_
  refine awp_loop (fun n fr H => ∃ i : Nat, n = s.length - i ∧ i ≤ s.length ∧ (s.take i).all k = true ∧ fr 0 = .str s ∧ fr 1 = .fn (.func g) [] [] ∧ fr 5 = .int .i64 i) s.length ⟨0, rfl, by omega, rfl, rfl, rfl, rfl⟩ ?_
  rintro n fr H ⟨i, rfl, hi, hw, h0, h1, h5⟩
  refine awp_seq ?_
  refine awp_cut (fun fr' H' => ∃ b, fr' 16 = .bool b ∧ fr' 0 = .str s ∧ fr' 1 = .fn (.func g) [] [] ∧ fr' 5 = .int .i64 i ∧ (b = true → ∃ c, s[i]? = some c ∧ k c = true) ∧ (b = false → ∀ c, s[i]? = some c → k c = false)) ?_ ?_
  ·refine awp_region rfl ?_; simp only [RR, seval]
   simp only [h0, h5, RR, seval]
   refine awpG_split (fun h => ?_) (fun h => ?_)
   ·have h2 : (i : Int) < s.length := of_decide_eq_true h
    have hl : i < s.length := by omega
    have hg : s[i]? = some s[i] := List.getElem?_eq_getElem hl
    simp only [h, h0, h1, h5, hg, RR, seval]
    refine awpC_pure' (hk _) ?_
    simp only [h0, h1, h5, RR, seval]
    refine ⟨_, rfl, ?_, ?_⟩
    ·intro e; exact ⟨_, rfl, e⟩
    ·intro e c hc; cases hc; exact e
   ·simp only [h, h0, h1, h5, RR, seval]
    refine ⟨_, rfl, ?_, ?_⟩
    ·intro e; cases e
    ·intro _ c hc
     have h2 : ¬ (i : Int) < s.length := of_decide_eq_false h
     rw [List.getElem?_eq_none (by omega)] at hc
     cases hc
  rintro fr H ⟨b, h16, h0, h1, h5, ht, hf⟩
  refine awp_if _ h16 (fun hc => ?_) (fun hc => ?_)
  ·refine awp_skip ?_; simp only [thenQ]
   refine awp_block ?_
   refine awp_region rfl ?_; simp only [RR, seval]
   simp only [h0, h1, h5, RR, seval]
   obtain ⟨c, hc1, hc2⟩ := ht hc
   obtain ⟨hl, hc3⟩ := List.getElem?_eq_some_iff.1 hc1
   refine ⟨s.length - (i + 1), by omega, i + 1, rfl, by omega, ?_, ?_⟩
   ·rw [List.take_succ_eq_append_getElem hl, List.all_append, hw, hc3]
    simp [hc2]
   ·rw [IntWalk.i64_in _ (by omega)]; simp []
  ·refine awp_exit ?_; simp only [thenQ, blockQ, reduceIte]
   exact ⟨i, hi, take_all k s i hw (hf hc) hi, h0, h5⟩
 ·rintro fr H ⟨i, hi, hw, h0, h5⟩
  refine awp_seq_k fun K hK => ?_; refine awp_region rfl ?_; simp only [RR, seval]
  have h2 : (i : Int) ≤ s.length := by omega
  simp only [h0, h5, h2, RR, seval]
  refine hK _ _ ?_; clear hK K
  refine awp_ret ?_; simp only [bodyQ, aresult, ares, RR, seval]; refine Gives.pure ?_
  rw [hw]
  simp
theorem Name_con (s : List UInt8) : PCon env 83 [.str s] (.bool (nameB s)) := by
 refine con_of 26 [.tmp 2] Tryd.func83 rfl rfl rfl rfl ?_
 cases hsc : s with
 | nil =>
   refine awp_seq_k fun K hK => ?_; refine awp_region rfl ?_; simp only [RR, seval]
   refine hK _ _ ?_; clear hK K
   refine awp_seq_k fun K hK => ?_; refine awp_region rfl ?_; simp only [RR, seval]
   refine hK _ _ ?_; clear hK K
   refine awp_ret ?_; simp only [bodyQ, aresult, ares, RR, seval]; refine Gives.pure ?_
   rfl
 | cons c r =>
   have h0 : (c :: r)[0]? = some c := rfl
   have hne : decide (c :: r = []) = false := rfl
   rw [← hsc] at h0 hne ⊢
   have hB : nameB s = (decide (s.length ≤ 20) && (alphI c.toNat && (decide (s.takeWhile isN = s) && !wordsL.contains s))) := by rw [hsc]; rfl
   clear hsc
   rw [hB]
   refine awp_seq_k fun K hK => ?_; refine awp_region rfl ?_; simp only [RR, seval]
   refine hK _ _ ?_; clear hK K
   refine awp_seq_k fun K hK => ?_; refine awp_region rfl ?_; simp only [RR, seval]
   simp only [hne, RR, seval]
   refine awpG_split (fun h => ?_) (fun h => ?_) <;> simp only [h, h0, RR, seval]
   ·have hl : decide (s.length ≤ 20) = true := decide_eq_true (by have := of_decide_eq_true h; omega)
    refine awpC_pure' (alpha_con _) ?_
    simp only [RR, seval]
    refine awpG_split (fun ha => ?_) (fun ha => ?_) <;> simp only [ha, RR, seval]
    ·refine awpC_pure' (front_con _ isN (fun c => inName_con _) s (by have := of_decide_eq_true hl; omega)) ?_
     simp only [RR, seval]
     refine awpG_split (fun hf => ?_) (fun hf => ?_) <;> simp only [hf, RR, seval]
     ·refine awpC_pure' (isWord_con s) ?_
      simp only [RR, seval]
      refine hK _ _ ?_; clear hK K
      refine awp_ret ?_; simp only [bodyQ, aresult, ares, RR, seval]; refine Gives.pure ?_
      rw [hl, ha, hf]; rfl
     ·refine hK _ _ ?_; clear hK K
      refine awp_ret ?_; simp only [bodyQ, aresult, ares, RR, seval]; refine Gives.pure ?_
      rw [hl, ha, hf]; rfl
    ·refine hK _ _ ?_; clear hK K
     refine awp_ret ?_; simp only [bodyQ, aresult, ares, RR, seval]; refine Gives.pure ?_
     rw [hl, ha]; rfl
   ·have hl : decide (s.length ≤ 20) = false := decide_eq_false (by have := of_decide_eq_false h; omega)
    refine hK _ _ ?_; clear hK K
    refine awp_ret ?_; simp only [bodyQ, aresult, ares, RR, seval]; refine Gives.pure ?_
    rw [hl]; rfl
end Go.Proofs.YtnfbbjhdflhmjaaDoor
namespace Go.Proofs.YtnfbbjhdflhmjaaDoor
open Go.Al
theorem mayStand_con (s : Str) : PCon env 67 [.str s] (.bool (nameB s)) := by
 have hN := Name_con s
 refine con_of 17 [.tmp 2] Tryd.func67 rfl rfl rfl rfl ?_
 refine awp_seq_k fun K hK => ?_
 refine awp_region rfl ?_
 simp only [RR, seval]
 refine hK _ _ ?_; clear hK K
 refine awp_seq ?_
 refine awp_seq_k fun K hK => ?_
 refine awp_region rfl ?_
 simp only [RR, seval]
 refine hK _ _ ?_; clear hK K
 refine awp_block ?_
 refine awp_seq ?_
 refine awp_seq_k fun K hK => ?_
 refine awp_region rfl ?_
 simp only [RR, seval]
 refine hK _ _ ?_; clear hK K
 refine awp_name fun F1 M1 hfr hH => ?_
 have g0 := hfr 0
 have g2 := hfr 2
 have g3 := hfr 3
 have g4 := hfr 4
 try simp only [RR, seval] at g0 g2 g3 g4
 have f0 := g0; clear g0
 have f2 := g2; clear g2
 have f3 := g3; clear g3
 have f4 := g4; clear g4
 clear hfr hH
 refine awp_cutP (fun fr M => agree [0, 2] F1 fr ∧ fr 4 = .bool (wordsL.contains s)) (fun KC2 hKC2 => ?_) ?_
 ·have agC2 := agree.refl [0, 2] F1
  refine awp_if _ (by first | rfl | exact f4) (fun hc2 => ?_) (fun hc2 => ?_)
  ·refine awp_skip ?_; try simp only [RR]
   refine hKC2 _ _ ⟨(by repeat (first | exact agC2 | refine agree.upd rfl ?_)), ?_⟩
   first | (rw [f4]; obtain rfl := of_decide_eq_true hc2; rfl) | (obtain rfl := of_decide_eq_true hc2; rfl) | (obtain rfl := of_decide_eq_true hc3; rfl) | (obtain rfl := of_decide_eq_true hc4; rfl) | (obtain rfl := of_decide_eq_true hc5; rfl) | (obtain rfl := of_decide_eq_true hc6; rfl) | (obtain rfl := of_decide_eq_true hc7; rfl) | (obtain rfl := of_decide_eq_true hc8; rfl) | (obtain rfl := of_decide_eq_true hc9; rfl) | (obtain rfl := of_decide_eq_true hc10; rfl) | (simp only [upd_app, seval]; simp [wordsL, of_decide_eq_false hc2, of_decide_eq_false hc3, of_decide_eq_false hc4, of_decide_eq_false hc5, of_decide_eq_false hc6, of_decide_eq_false hc7, of_decide_eq_false hc8, of_decide_eq_false hc9, of_decide_eq_false hc10])
  ·refine awp_seq_k fun K hK => ?_
   refine awp_region rfl ?_
   simp only [f3, RR, seval]
   refine hK _ _ ?_; clear hK K
   refine awp_if _ (by first | rfl | exact f4) (fun hc3 => ?_) (fun hc3 => ?_)
   ·refine awp_skip ?_; try simp only [RR]
    refine hKC2 _ _ ⟨(by repeat (first | exact agC2 | refine agree.upd rfl ?_)), ?_⟩
    first | (rw [f4]; obtain rfl := of_decide_eq_true hc2; rfl) | (obtain rfl := of_decide_eq_true hc2; rfl) | (obtain rfl := of_decide_eq_true hc3; rfl) | (obtain rfl := of_decide_eq_true hc4; rfl) | (obtain rfl := of_decide_eq_true hc5; rfl) | (obtain rfl := of_decide_eq_true hc6; rfl) | (obtain rfl := of_decide_eq_true hc7; rfl) | (obtain rfl := of_decide_eq_true hc8; rfl) | (obtain rfl := of_decide_eq_true hc9; rfl) | (obtain rfl := of_decide_eq_true hc10; rfl) | (simp only [upd_app, seval]; simp [wordsL, of_decide_eq_false hc2, of_decide_eq_false hc3, of_decide_eq_false hc4, of_decide_eq_false hc5, of_decide_eq_false hc6, of_decide_eq_false hc7, of_decide_eq_false hc8, of_decide_eq_false hc9, of_decide_eq_false hc10])
   ·refine awp_seq_k fun K hK => ?_
    refine awp_region rfl ?_
    simp only [f3, RR, seval]
    refine hK _ _ ?_; clear hK K
    refine awp_if _ (by first | rfl | exact f4) (fun hc4 => ?_) (fun hc4 => ?_)
    ·refine awp_skip ?_; try simp only [RR]
     refine hKC2 _ _ ⟨(by repeat (first | exact agC2 | refine agree.upd rfl ?_)), ?_⟩
     first | (rw [f4]; obtain rfl := of_decide_eq_true hc2; rfl) | (obtain rfl := of_decide_eq_true hc2; rfl) | (obtain rfl := of_decide_eq_true hc3; rfl) | (obtain rfl := of_decide_eq_true hc4; rfl) | (obtain rfl := of_decide_eq_true hc5; rfl) | (obtain rfl := of_decide_eq_true hc6; rfl) | (obtain rfl := of_decide_eq_true hc7; rfl) | (obtain rfl := of_decide_eq_true hc8; rfl) | (obtain rfl := of_decide_eq_true hc9; rfl) | (obtain rfl := of_decide_eq_true hc10; rfl) | (simp only [upd_app, seval]; simp [wordsL, of_decide_eq_false hc2, of_decide_eq_false hc3, of_decide_eq_false hc4, of_decide_eq_false hc5, of_decide_eq_false hc6, of_decide_eq_false hc7, of_decide_eq_false hc8, of_decide_eq_false hc9, of_decide_eq_false hc10])
    ·refine awp_seq_k fun K hK => ?_
     refine awp_region rfl ?_
     simp only [f3, RR, seval]
     refine hK _ _ ?_; clear hK K
     refine awp_if _ (by first | rfl | exact f4) (fun hc5 => ?_) (fun hc5 => ?_)
     ·refine awp_skip ?_; try simp only [RR]
      refine hKC2 _ _ ⟨(by repeat (first | exact agC2 | refine agree.upd rfl ?_)), ?_⟩
      first | (rw [f4]; obtain rfl := of_decide_eq_true hc2; rfl) | (obtain rfl := of_decide_eq_true hc2; rfl) | (obtain rfl := of_decide_eq_true hc3; rfl) | (obtain rfl := of_decide_eq_true hc4; rfl) | (obtain rfl := of_decide_eq_true hc5; rfl) | (obtain rfl := of_decide_eq_true hc6; rfl) | (obtain rfl := of_decide_eq_true hc7; rfl) | (obtain rfl := of_decide_eq_true hc8; rfl) | (obtain rfl := of_decide_eq_true hc9; rfl) | (obtain rfl := of_decide_eq_true hc10; rfl) | (simp only [upd_app, seval]; simp [wordsL, of_decide_eq_false hc2, of_decide_eq_false hc3, of_decide_eq_false hc4, of_decide_eq_false hc5, of_decide_eq_false hc6, of_decide_eq_false hc7, of_decide_eq_false hc8, of_decide_eq_false hc9, of_decide_eq_false hc10])
     ·refine awp_seq_k fun K hK => ?_
      refine awp_region rfl ?_
      simp only [f3, RR, seval]
      refine hK _ _ ?_; clear hK K
      refine awp_if _ (by first | rfl | exact f4) (fun hc6 => ?_) (fun hc6 => ?_)
      ·refine awp_skip ?_; try simp only [RR]
       refine hKC2 _ _ ⟨(by repeat (first | exact agC2 | refine agree.upd rfl ?_)), ?_⟩
       first | (rw [f4]; obtain rfl := of_decide_eq_true hc2; rfl) | (obtain rfl := of_decide_eq_true hc2; rfl) | (obtain rfl := of_decide_eq_true hc3; rfl) | (obtain rfl := of_decide_eq_true hc4; rfl) | (obtain rfl := of_decide_eq_true hc5; rfl) | (obtain rfl := of_decide_eq_true hc6; rfl) | (obtain rfl := of_decide_eq_true hc7; rfl) | (obtain rfl := of_decide_eq_true hc8; rfl) | (obtain rfl := of_decide_eq_true hc9; rfl) | (obtain rfl := of_decide_eq_true hc10; rfl) | (simp only [upd_app, seval]; simp [wordsL, of_decide_eq_false hc2, of_decide_eq_false hc3, of_decide_eq_false hc4, of_decide_eq_false hc5, of_decide_eq_false hc6, of_decide_eq_false hc7, of_decide_eq_false hc8, of_decide_eq_false hc9, of_decide_eq_false hc10])
      ·refine awp_seq_k fun K hK => ?_
       refine awp_region rfl ?_
       simp only [f3, RR, seval]
       refine hK _ _ ?_; clear hK K
       refine awp_if _ (by first | rfl | exact f4) (fun hc7 => ?_) (fun hc7 => ?_)
       ·refine awp_skip ?_; try simp only [RR]
        refine hKC2 _ _ ⟨(by repeat (first | exact agC2 | refine agree.upd rfl ?_)), ?_⟩
        first | (rw [f4]; obtain rfl := of_decide_eq_true hc2; rfl) | (obtain rfl := of_decide_eq_true hc2; rfl) | (obtain rfl := of_decide_eq_true hc3; rfl) | (obtain rfl := of_decide_eq_true hc4; rfl) | (obtain rfl := of_decide_eq_true hc5; rfl) | (obtain rfl := of_decide_eq_true hc6; rfl) | (obtain rfl := of_decide_eq_true hc7; rfl) | (obtain rfl := of_decide_eq_true hc8; rfl) | (obtain rfl := of_decide_eq_true hc9; rfl) | (obtain rfl := of_decide_eq_true hc10; rfl) | (simp only [upd_app, seval]; simp [wordsL, of_decide_eq_false hc2, of_decide_eq_false hc3, of_decide_eq_false hc4, of_decide_eq_false hc5, of_decide_eq_false hc6, of_decide_eq_false hc7, of_decide_eq_false hc8, of_decide_eq_false hc9, of_decide_eq_false hc10])
       ·refine awp_seq_k fun K hK => ?_
        refine awp_region rfl ?_
        simp only [f3, RR, seval]
        refine hK _ _ ?_; clear hK K
        refine awp_if _ (by first | rfl | exact f4) (fun hc8 => ?_) (fun hc8 => ?_)
        ·refine awp_skip ?_; try simp only [RR]
         refine hKC2 _ _ ⟨(by repeat (first | exact agC2 | refine agree.upd rfl ?_)), ?_⟩
         first | (rw [f4]; obtain rfl := of_decide_eq_true hc2; rfl) | (obtain rfl := of_decide_eq_true hc2; rfl) | (obtain rfl := of_decide_eq_true hc3; rfl) | (obtain rfl := of_decide_eq_true hc4; rfl) | (obtain rfl := of_decide_eq_true hc5; rfl) | (obtain rfl := of_decide_eq_true hc6; rfl) | (obtain rfl := of_decide_eq_true hc7; rfl) | (obtain rfl := of_decide_eq_true hc8; rfl) | (obtain rfl := of_decide_eq_true hc9; rfl) | (obtain rfl := of_decide_eq_true hc10; rfl) | (simp only [upd_app, seval]; simp [wordsL, of_decide_eq_false hc2, of_decide_eq_false hc3, of_decide_eq_false hc4, of_decide_eq_false hc5, of_decide_eq_false hc6, of_decide_eq_false hc7, of_decide_eq_false hc8, of_decide_eq_false hc9, of_decide_eq_false hc10])
        ·refine awp_seq_k fun K hK => ?_
         refine awp_region rfl ?_
         simp only [f3, RR, seval]
         refine hK _ _ ?_; clear hK K
         refine awp_if _ (by first | rfl | exact f4) (fun hc9 => ?_) (fun hc9 => ?_)
         ·refine awp_skip ?_; try simp only [RR]
          refine hKC2 _ _ ⟨(by repeat (first | exact agC2 | refine agree.upd rfl ?_)), ?_⟩
          first | (rw [f4]; obtain rfl := of_decide_eq_true hc2; rfl) | (obtain rfl := of_decide_eq_true hc2; rfl) | (obtain rfl := of_decide_eq_true hc3; rfl) | (obtain rfl := of_decide_eq_true hc4; rfl) | (obtain rfl := of_decide_eq_true hc5; rfl) | (obtain rfl := of_decide_eq_true hc6; rfl) | (obtain rfl := of_decide_eq_true hc7; rfl) | (obtain rfl := of_decide_eq_true hc8; rfl) | (obtain rfl := of_decide_eq_true hc9; rfl) | (obtain rfl := of_decide_eq_true hc10; rfl) | (simp only [upd_app, seval]; simp [wordsL, of_decide_eq_false hc2, of_decide_eq_false hc3, of_decide_eq_false hc4, of_decide_eq_false hc5, of_decide_eq_false hc6, of_decide_eq_false hc7, of_decide_eq_false hc8, of_decide_eq_false hc9, of_decide_eq_false hc10])
         ·refine awp_seq_k fun K hK => ?_
          refine awp_region rfl ?_
          simp only [f3, RR, seval]
          refine hK _ _ ?_; clear hK K
          refine awp_if _ (by first | rfl | exact f4) (fun hc10 => ?_) (fun hc10 => ?_)
          ·refine awp_skip ?_; try simp only [RR]
           refine hKC2 _ _ ⟨(by repeat (first | exact agC2 | refine agree.upd rfl ?_)), ?_⟩
           first | (rw [f4]; obtain rfl := of_decide_eq_true hc2; rfl) | (obtain rfl := of_decide_eq_true hc2; rfl) | (obtain rfl := of_decide_eq_true hc3; rfl) | (obtain rfl := of_decide_eq_true hc4; rfl) | (obtain rfl := of_decide_eq_true hc5; rfl) | (obtain rfl := of_decide_eq_true hc6; rfl) | (obtain rfl := of_decide_eq_true hc7; rfl) | (obtain rfl := of_decide_eq_true hc8; rfl) | (obtain rfl := of_decide_eq_true hc9; rfl) | (obtain rfl := of_decide_eq_true hc10; rfl) | (simp only [upd_app, seval]; simp [wordsL, of_decide_eq_false hc2, of_decide_eq_false hc3, of_decide_eq_false hc4, of_decide_eq_false hc5, of_decide_eq_false hc6, of_decide_eq_false hc7, of_decide_eq_false hc8, of_decide_eq_false hc9, of_decide_eq_false hc10])
          ·refine awp_region rfl ?_
           simp only [f3, RR, seval]
           refine hKC2 _ _ ⟨(by repeat (first | exact agC2 | refine agree.upd rfl ?_)), ?_⟩
           first | (rw [f4]; obtain rfl := of_decide_eq_true hc2; rfl) | (obtain rfl := of_decide_eq_true hc2; rfl) | (obtain rfl := of_decide_eq_true hc3; rfl) | (obtain rfl := of_decide_eq_true hc4; rfl) | (obtain rfl := of_decide_eq_true hc5; rfl) | (obtain rfl := of_decide_eq_true hc6; rfl) | (obtain rfl := of_decide_eq_true hc7; rfl) | (obtain rfl := of_decide_eq_true hc8; rfl) | (obtain rfl := of_decide_eq_true hc9; rfl) | (obtain rfl := of_decide_eq_true hc10; rfl) | (simp only [upd_app, seval]; simp [wordsL, of_decide_eq_false hc2, of_decide_eq_false hc3, of_decide_eq_false hc4, of_decide_eq_false hc5, of_decide_eq_false hc6, of_decide_eq_false hc7, of_decide_eq_false hc8, of_decide_eq_false hc9, of_decide_eq_false hc10])
 rintro F2 M2 ⟨agx, f4⟩
 have f0 := (agx 0 rfl).trans f0
 have f2 := (agx 2 rfl).trans f2
 clear agx
 simp only [RR, seval]
 refine awp_if _ (by first | rfl | exact f4) (fun hc11 => ?_) (fun hc11 => ?_)
 ·refine awp_seq_k fun K hK => ?_
  refine awp_region rfl ?_
  simp only [RR, seval]
  refine hK _ _ ?_; clear hK K
  refine awp_ret ?_; simp only [bodyQ, aresult, ares, RR, seval]
  refine Gives.pure ?_
  rw [nameB_words hc11]
 ·refine awp_skip ?_; try simp only [RR]
  refine awp_seq_k fun K hK => ?_
  refine awp_region rfl ?_
  simp only [f0, RR, seval]
  refine awpC_pure' (hN) ?_
  simp only [RR, seval]
  refine hK _ _ ?_; clear hK K
  refine awp_ret ?_; simp only [bodyQ, aresult, ares, RR, seval]
  refine Gives.pure ?_
  rfl
theorem allStand_con (l : List Str) (hl : fitL l) : PCon env 66 [.isl 1 (l.map strRow)] (.bool (l.all nameB)) := by
 simp only [fitL] at hl
 refine con_of 15 [.tmp 2] Tryd.func66 rfl rfl rfl rfl ?_
 refine awp_seq_k fun K hK => ?_
 refine awp_region rfl ?_
 simp only [RR, seval]
 refine hK _ _ ?_; clear hK K
 refine awp_seq ?_
 refine awp_seq_k fun K hK => ?_
 refine awp_region rfl ?_
 simp only [List.length_map, RR, seval]
 refine hK _ _ ?_; clear hK K
 refine awp_name fun F1 M1 hfr hH => ?_
 have g2 := hfr 2
 have g5 := hfr 5
 have g6 := hfr 6
 have g7 := hfr 7
 try simp only [RR, seval] at g2 g5 g6 g7
 have f2 := g2; clear g2
 have f5 := g5; clear g5
 have f6 := g6; clear g6
 have f7 := g7; clear g7
 clear hfr hH
 refine awp_block ?_
 refine awp_each [5, 6] (l.length) (fun k fr M => fr 7 = .int .i64 (k : Nat) ∧ l.all nameB = (l.drop k).all nameB) ⟨f7, by rw [List.drop_zero]⟩ ?_
 rintro k F2 M2 hk0 ⟨fx, hall⟩ agx K0 hK0
 have f5 := (agx 5 rfl).trans f5
 have f6 := (agx 6 rfl).trans f6
 have f7 := fx; clear fx
 have ag0 := agree.refl [5, 6] F2
 clear agx
 refine awp_seq_k fun K hK => ?_
 refine awp_region rfl ?_
 simp only [f6, f7, RR, seval]
 refine hK _ _ ?_; clear hK K
 refine awp_seq ?_
 refine awp_if _ rfl (fun hc => ?_) (fun hc => ?_)
 ·have hlt0 : k < l.length := by have := of_decide_eq_true hc; omega
  clear hc
  have hg := getN (List.getElem?_eq_getElem hlt0)
  rw [List.drop_eq_getElem_cons hlt0, List.all_cons] at hall
  generalize l[k] = s at hg hall
  have hm := mayStand_con s
  refine awp_skip ?_; try simp only [RR]
  refine awp_seq ?_
  refine awp_block ?_
  refine awp_seq_k fun K hK => ?_
  refine awp_region rfl ?_
  simp only [f5, f7, hg, RR, seval]
  refine hK _ _ ?_; clear hK K
  refine awp_seq_k fun K hK => ?_
  refine awp_region rfl ?_
  simp only [RR, seval]
  refine awpC_pure' (hm) ?_
  simp only [RR, seval]
  refine hK _ _ ?_; clear hK K
  refine awp_if _ rfl (fun hc4 => ?_) (fun hc4 => ?_)
  ·refine awp_seq_k fun K hK => ?_
   refine awp_region rfl ?_
   simp only [RR, seval]
   refine hK _ _ ?_; clear hK K
   refine awp_ret ?_; simp only [bodyQ, aresult, ares, RR, seval]
   refine Gives.pure ?_
   rw [hall, show nameB s = false by simpa using hc4]
   rfl
  ·refine awp_skip ?_; try simp only [RR]
   refine awp_region rfl ?_
   simp only [f7, RR, seval]
   try rw [IntWalk.i64_in _ (by omega)]
   refine hK0 _ _ hlt0 ⟨by first | rfl | (simp only [upd_app, seval]; rfl), by rw [hall, show nameB s = true by simpa using hc4, Bool.true_and]⟩ (by repeat (first | exact ag0 | refine agree.upd rfl ?_))
 ·have hkn0 : k = l.length := by have := of_decide_eq_false hc; omega
  clear hc
  refine awp_exit ?_; simp only [RR, seval]
  refine awp_seq_k fun K hK => ?_
  refine awp_region rfl ?_
  simp only [RR, seval]
  refine hK _ _ ?_; clear hK K
  refine awp_ret ?_; simp only [bodyQ, aresult, ares, RR, seval]
  refine Gives.pure ?_
  rw [hall, hkn0, List.drop_length]
  rfl
def nameF (s : Str) (b : Bool) : Bool := if b then nameB s else decide (s = [])
theorem nameForm_con (s : Str) (b : Bool) : PCon env 107 [.str s, .bool b] (.bool (nameF s b)) := by
 have hm := mayStand_con s
 cases b with
 | true =>
   refine con_of 10 [.tmp 4] Tryd.func107 rfl rfl rfl rfl ?_
   refine awp_seq_k fun K hK => ?_
   refine awp_region rfl ?_
   simp only [RR, seval]
   refine hK _ _ ?_; clear hK K
   refine awp_seq ?_
   refine awp_seq_k fun K hK => ?_
   refine awp_region rfl ?_
   simp only [RR, seval]
   refine hK _ _ ?_; clear hK K
   refine awp_if true rfl (fun _ => ?_) (fun hc => by cases hc)
   refine awp_seq_k fun K hK => ?_
   refine awp_region rfl ?_
   simp only [RR, seval]
   refine awpC_pure' (hm) ?_
   simp only [RR, seval]
   refine hK _ _ ?_; clear hK K
   refine awp_ret ?_; simp only [bodyQ, aresult, ares, RR, seval]
   refine Gives.pure ?_
   rfl
 | false =>
   refine con_of 10 [.tmp 4] Tryd.func107 rfl rfl rfl rfl ?_
   refine awp_seq_k fun K hK => ?_
   refine awp_region rfl ?_
   simp only [RR, seval]
   refine hK _ _ ?_; clear hK K
   refine awp_seq ?_
   refine awp_seq_k fun K hK => ?_
   refine awp_region rfl ?_
   simp only [RR, seval]
   refine hK _ _ ?_; clear hK K
   refine awp_if false rfl (fun hc => by cases hc) (fun _ => ?_)
   refine awp_skip ?_; try simp only [RR]
   refine awp_seq_k fun K hK => ?_
   refine awp_region rfl ?_
   simp only [RR, seval]
   refine hK _ _ ?_; clear hK K
   refine awp_ret ?_; simp only [bodyQ, aresult, ares, RR, seval]
   refine Gives.pure ?_
   rfl
end Go.Proofs.YtnfbbjhdflhmjaaDoor
namespace Go.Proofs.YtnfbbjhdflhmjaaDoor
open Go.Al
def loX (k : Int) : Int := if k = 3 ∨ k = 7 then 1 else if k = 6 ∨ k = 8 ∨ k = 9 then 2 else 0
def hiX (k : Int) : Int := if k = 3 ∨ k = 7 then 1 else if k = 4 then 6 else if k = 6 ∨ k = 8 ∨ k = 9 then 2 else 0
def nmX (k : Int) : Bool := decide (k = 2 ∨ k = 3 ∨ k = 4)
def formX (e : Ex) : Bool := headX e 0 && kidsX e.kind e.op e.kids.length
theorem int_le0 (n : Nat) : decide ((0 : Int) ≤ (n : Int)) = true := decide_eq_true (by omega)
theorem formX_eq (k o n : Int) (s : Str) (l : List Ex) (h1 : 1 ≤ k) (h9 : k ≤ 9) : formX (.mk k o n s l) =
  ((if decide (k = 6) then !decide (o < 4) && !decide (15 < o) else decide (o = 0)) && (decide (k = 1) || decide (n = 0)) && nameF s (nmX k) && (decide (loX k ≤ (l.length : Int)) && decide ((l.length : Int) ≤ hiX k))) := by
 have hk : k = 1 ∨ k = 2 ∨ k = 3 ∨ k = 4 ∨ k = 5 ∨ k = 6 ∨ k = 7 ∨ k = 8 ∨ k = 9 := by omega
 have d1 : decide (o < 4) = !decide (4 ≤ o) := by rw [Bool.eq_iff_iff]; simp
 have d2 : decide (15 < o) = !decide (o ≤ 15) := by rw [Bool.eq_iff_iff]; simp
 have e0 : (decide ((0 : Int) ≤ (l.length : Int)) && decide ((l.length : Int) ≤ 0)) = decide (l.length = 0) := by rw [Bool.eq_iff_iff]; simp only [Bool.and_eq_true, decide_eq_true_eq]; omega
 have e1 : (decide ((1 : Int) ≤ (l.length : Int)) && decide ((l.length : Int) ≤ 1)) = decide (l.length = 1) := by rw [Bool.eq_iff_iff]; simp only [Bool.and_eq_true, decide_eq_true_eq]; omega
 have e2 : (decide ((2 : Int) ≤ (l.length : Int)) && decide ((l.length : Int) ≤ 2)) = decide (l.length = 2) := by rw [Bool.eq_iff_iff]; simp only [Bool.and_eq_true, decide_eq_true_eq]; omega
 have e6 : (decide ((0 : Int) ≤ (l.length : Int)) && decide ((l.length : Int) ≤ 6)) = decide (l.length ≤ 6) := by rw [Bool.eq_iff_iff]; simp only [Bool.and_eq_true, decide_eq_true_eq]; omega
 have key : ∀ a b c d : Bool, (a && b && c && d) = (a && (b && (c && d))) := fun a b c d => by cases a <;> cases b <;> cases c <;> cases d <;> rfl
 rcases hk with rfl | rfl | rfl | rfl | rfl | rfl | rfl | rfl | rfl <;>
  simp only [formX, headX, kidsX, nameF, nmX, loX, hiX, Ex.kind, Ex.op, Ex.num, Ex.name, Ex.kids, d1, d2, Bool.not_not, Int.reduceEq, Int.reduceLE, decide_true, decide_false, Bool.true_and, Bool.false_or, Bool.true_or, or_true, or_false, if_true, if_false, Bool.false_eq_true, or_self] <;> (try simp only [e0, e1, e2, e6]) <;> (try simp only [Bool.and_assoc, Bool.and_comm, Bool.and_left_comm, Bool.true_and]) <;> (first | rfl | congr)
theorem formX_no (k o n : Int) (s : Str) (l : List Ex) (h : ¬ (1 ≤ k ∧ k ≤ 9)) : formX (.mk k o n s l) = false := by
 have : kidsX k o l.length = false := by
  unfold kidsX
  rw [if_neg (by omega), if_neg (by omega), if_neg (by omega), if_neg (by omega), if_neg (by omega)]
 simp only [formX, Ex.kind, Ex.op, Ex.kids, this, Bool.and_false]
theorem exprForm_con (e : Ex) : PCon env 108 [.agg e.row] (.bool (formX e)) := by
 rw [e.row_eq]
 obtain ⟨k, o, n, s, l⟩ := e
 simp only [Ex.kind, Ex.op, Ex.num, Ex.name, Ex.kids]
 have hno := formX_no k o n s l
 have hyes := formX_eq k o n s l
 have hnf := nameForm_con s (nmX k)
 generalize formX (.mk k o n s l) = res at *
 refine con_of 73 [.tmp 2] Tryd.func108 rfl rfl rfl rfl ?_
 refine awp_seq_k fun K hK => ?_
 refine awp_region rfl ?_
 simp only [RR, seval]
 refine awpN_intro fun b1 hn1 => ?_
 simp only [RR, seval]
 refine hK _ _ ?_; clear hK K
 refine awp_seq_k fun K hK => ?_
 refine awp_region rfl ?_
 simp only [RR, seval]
 refine hK _ _ ?_; clear hK K
 refine awp_seq_k fun K hK => ?_
 refine awp_region rfl ?_
 simp only [RR, seval]
 refine hK _ _ ?_; clear hK K
 refine awp_seq ?_
 refine awp_seq_k fun K hK => ?_
 refine awp_region rfl ?_
 simp only [RR, seval]
 refine hK _ _ ?_; clear hK K
 refine awp_name fun F1 M1 hfr hH => ?_
 have g1 := hfr 1
 have g2 := hfr 2
 have g3 := hfr 3
 have g4 := hfr 4
 have g5 := hfr 5
 have g6 := hfr 6
 have g7 := hfr 7
 have g9 := hfr 9
 have gb1 := hH b1
 try simp only [RR, seval] at g1 g2 g3 g4 g5 g6 g7 g9 gb1
 have f1 := g1; clear g1
 have f2 := g2; clear g2
 have f3 := g3; clear g3
 have f4 := g4; clear g4
 have f5 := g5; clear g5
 have f6 := g6; clear g6
 have f7 := g7; clear g7
 have f9 := g9; clear g9
 have hb1 := gb1; clear gb1
 clear hfr hH
 refine awp_cutP (fun fr M => agree [1] F1 fr ∧ M b1 = M1 b1 ∧ fr 3 = .int .i64 (loX k) ∧ fr 4 = .int .i64 (hiX k) ∧ fr 5 = .bool (nmX k) ∧ fr 6 = .bool (decide (k = 6)) ∧ fr 7 = .bool (decide (k = 1)) ∧ 1 ≤ k ∧ k ≤ 9) (fun KB0 hKB0 => ?_) ?_
 ·have agB0 := agree.refl [1] F1
  have eB0_b1 : M1 b1 = M1 b1 := rfl
  refine awp_block ?_
  refine awp_seq_k fun K hK => ?_
  refine awp_region rfl ?_
  simp only [f9, RR, seval]
  refine hK _ _ ?_; clear hK K
  refine awp_if _ rfl (fun hc5 => ?_) (fun hc5 => ?_)
  ·refine awp_region rfl ?_
   simp only [RR, seval]
   refine hKB0 _ _ ⟨(by repeat (first | exact agB0 | refine agree.upd rfl ?_)), (by first | exact eB0_b1 | (simp only [upd_app, seval]; first | done | exact eB0_b1)), ?_⟩
   first | (obtain rfl := of_decide_eq_true hc5; refine ⟨?_, ?_, ?_, ?_, ?_, ?_, ?_⟩ <;> first | rfl | omega | assumption) | (obtain rfl := of_decide_eq_true hc7; refine ⟨?_, ?_, ?_, ?_, ?_, ?_, ?_⟩ <;> first | rfl | omega | assumption) | (obtain rfl := of_decide_eq_true hc9; refine ⟨?_, ?_, ?_, ?_, ?_, ?_, ?_⟩ <;> first | rfl | omega | assumption) | (obtain rfl := of_decide_eq_true hc11; refine ⟨?_, ?_, ?_, ?_, ?_, ?_, ?_⟩ <;> first | rfl | omega | assumption) | (obtain rfl := of_decide_eq_true hc13; refine ⟨?_, ?_, ?_, ?_, ?_, ?_, ?_⟩ <;> first | rfl | omega | assumption) | (obtain rfl := of_decide_eq_true hc14; refine ⟨?_, ?_, ?_, ?_, ?_, ?_, ?_⟩ <;> first | rfl | omega | assumption) | (obtain rfl := of_decide_eq_true hc16; refine ⟨?_, ?_, ?_, ?_, ?_, ?_, ?_⟩ <;> first | rfl | omega | assumption) | (simp only [Bool.or_eq_true, decide_eq_true_eq] at hc19; rcases hc19 with h | h <;> subst h <;> refine ⟨?_, ?_, ?_, ?_, ?_, ?_, ?_⟩ <;> first | rfl | omega | assumption | (simp only [upd_app, seval, f5, f6, f7]; rfl))
  ·refine awp_seq_k fun K hK => ?_
   refine awp_region rfl ?_
   simp only [f9, RR, seval]
   refine hK _ _ ?_; clear hK K
   refine awp_if _ rfl (fun hc7 => ?_) (fun hc7 => ?_)
   ·refine awp_region rfl ?_
    simp only [RR, seval]
    refine hKB0 _ _ ⟨(by repeat (first | exact agB0 | refine agree.upd rfl ?_)), (by first | exact eB0_b1 | (simp only [upd_app, seval]; first | done | exact eB0_b1)), ?_⟩
    first | (obtain rfl := of_decide_eq_true hc5; refine ⟨?_, ?_, ?_, ?_, ?_, ?_, ?_⟩ <;> first | rfl | omega | assumption) | (obtain rfl := of_decide_eq_true hc7; refine ⟨?_, ?_, ?_, ?_, ?_, ?_, ?_⟩ <;> first | rfl | omega | assumption) | (obtain rfl := of_decide_eq_true hc9; refine ⟨?_, ?_, ?_, ?_, ?_, ?_, ?_⟩ <;> first | rfl | omega | assumption) | (obtain rfl := of_decide_eq_true hc11; refine ⟨?_, ?_, ?_, ?_, ?_, ?_, ?_⟩ <;> first | rfl | omega | assumption) | (obtain rfl := of_decide_eq_true hc13; refine ⟨?_, ?_, ?_, ?_, ?_, ?_, ?_⟩ <;> first | rfl | omega | assumption) | (obtain rfl := of_decide_eq_true hc14; refine ⟨?_, ?_, ?_, ?_, ?_, ?_, ?_⟩ <;> first | rfl | omega | assumption) | (obtain rfl := of_decide_eq_true hc16; refine ⟨?_, ?_, ?_, ?_, ?_, ?_, ?_⟩ <;> first | rfl | omega | assumption) | (simp only [Bool.or_eq_true, decide_eq_true_eq] at hc19; rcases hc19 with h | h <;> subst h <;> refine ⟨?_, ?_, ?_, ?_, ?_, ?_, ?_⟩ <;> first | rfl | omega | assumption | (simp only [upd_app, seval, f5, f6, f7]; rfl))
   ·refine awp_seq_k fun K hK => ?_
    refine awp_region rfl ?_
    simp only [f9, RR, seval]
    refine hK _ _ ?_; clear hK K
    refine awp_if _ rfl (fun hc9 => ?_) (fun hc9 => ?_)
    ·refine awp_region rfl ?_
     simp only [RR, seval]
     refine hKB0 _ _ ⟨(by repeat (first | exact agB0 | refine agree.upd rfl ?_)), (by first | exact eB0_b1 | (simp only [upd_app, seval]; first | done | exact eB0_b1)), ?_⟩
     first | (obtain rfl := of_decide_eq_true hc5; refine ⟨?_, ?_, ?_, ?_, ?_, ?_, ?_⟩ <;> first | rfl | omega | assumption) | (obtain rfl := of_decide_eq_true hc7; refine ⟨?_, ?_, ?_, ?_, ?_, ?_, ?_⟩ <;> first | rfl | omega | assumption) | (obtain rfl := of_decide_eq_true hc9; refine ⟨?_, ?_, ?_, ?_, ?_, ?_, ?_⟩ <;> first | rfl | omega | assumption) | (obtain rfl := of_decide_eq_true hc11; refine ⟨?_, ?_, ?_, ?_, ?_, ?_, ?_⟩ <;> first | rfl | omega | assumption) | (obtain rfl := of_decide_eq_true hc13; refine ⟨?_, ?_, ?_, ?_, ?_, ?_, ?_⟩ <;> first | rfl | omega | assumption) | (obtain rfl := of_decide_eq_true hc14; refine ⟨?_, ?_, ?_, ?_, ?_, ?_, ?_⟩ <;> first | rfl | omega | assumption) | (obtain rfl := of_decide_eq_true hc16; refine ⟨?_, ?_, ?_, ?_, ?_, ?_, ?_⟩ <;> first | rfl | omega | assumption) | (simp only [Bool.or_eq_true, decide_eq_true_eq] at hc19; rcases hc19 with h | h <;> subst h <;> refine ⟨?_, ?_, ?_, ?_, ?_, ?_, ?_⟩ <;> first | rfl | omega | assumption | (simp only [upd_app, seval, f5, f6, f7]; rfl))
    ·refine awp_seq_k fun K hK => ?_
     refine awp_region rfl ?_
     simp only [f9, RR, seval]
     refine hK _ _ ?_; clear hK K
     refine awp_if _ rfl (fun hc11 => ?_) (fun hc11 => ?_)
     ·refine awp_region rfl ?_
      simp only [RR, seval]
      refine hKB0 _ _ ⟨(by repeat (first | exact agB0 | refine agree.upd rfl ?_)), (by first | exact eB0_b1 | (simp only [upd_app, seval]; first | done | exact eB0_b1)), ?_⟩
      first | (obtain rfl := of_decide_eq_true hc5; refine ⟨?_, ?_, ?_, ?_, ?_, ?_, ?_⟩ <;> first | rfl | omega | assumption) | (obtain rfl := of_decide_eq_true hc7; refine ⟨?_, ?_, ?_, ?_, ?_, ?_, ?_⟩ <;> first | rfl | omega | assumption) | (obtain rfl := of_decide_eq_true hc9; refine ⟨?_, ?_, ?_, ?_, ?_, ?_, ?_⟩ <;> first | rfl | omega | assumption) | (obtain rfl := of_decide_eq_true hc11; refine ⟨?_, ?_, ?_, ?_, ?_, ?_, ?_⟩ <;> first | rfl | omega | assumption) | (obtain rfl := of_decide_eq_true hc13; refine ⟨?_, ?_, ?_, ?_, ?_, ?_, ?_⟩ <;> first | rfl | omega | assumption) | (obtain rfl := of_decide_eq_true hc14; refine ⟨?_, ?_, ?_, ?_, ?_, ?_, ?_⟩ <;> first | rfl | omega | assumption) | (obtain rfl := of_decide_eq_true hc16; refine ⟨?_, ?_, ?_, ?_, ?_, ?_, ?_⟩ <;> first | rfl | omega | assumption) | (simp only [Bool.or_eq_true, decide_eq_true_eq] at hc19; rcases hc19 with h | h <;> subst h <;> refine ⟨?_, ?_, ?_, ?_, ?_, ?_, ?_⟩ <;> first | rfl | omega | assumption | (simp only [upd_app, seval, f5, f6, f7]; rfl))
     ·refine awp_seq_k fun K hK => ?_
      refine awp_region rfl ?_
      simp only [f9, RR, seval]
      refine hK _ _ ?_; clear hK K
      refine awp_if _ rfl (fun hc13 => ?_) (fun hc13 => ?_)
      ·refine awp_skip ?_; try simp only [RR]
       refine hKB0 _ _ ⟨(by repeat (first | exact agB0 | refine agree.upd rfl ?_)), (by first | exact eB0_b1 | (simp only [upd_app, seval]; first | done | exact eB0_b1)), ?_⟩
       first | (obtain rfl := of_decide_eq_true hc5; refine ⟨?_, ?_, ?_, ?_, ?_, ?_, ?_⟩ <;> first | rfl | omega | assumption) | (obtain rfl := of_decide_eq_true hc7; refine ⟨?_, ?_, ?_, ?_, ?_, ?_, ?_⟩ <;> first | rfl | omega | assumption) | (obtain rfl := of_decide_eq_true hc9; refine ⟨?_, ?_, ?_, ?_, ?_, ?_, ?_⟩ <;> first | rfl | omega | assumption) | (obtain rfl := of_decide_eq_true hc11; refine ⟨?_, ?_, ?_, ?_, ?_, ?_, ?_⟩ <;> first | rfl | omega | assumption) | (obtain rfl := of_decide_eq_true hc13; refine ⟨?_, ?_, ?_, ?_, ?_, ?_, ?_⟩ <;> first | rfl | omega | assumption) | (obtain rfl := of_decide_eq_true hc14; refine ⟨?_, ?_, ?_, ?_, ?_, ?_, ?_⟩ <;> first | rfl | omega | assumption) | (obtain rfl := of_decide_eq_true hc16; refine ⟨?_, ?_, ?_, ?_, ?_, ?_, ?_⟩ <;> first | rfl | omega | assumption) | (simp only [Bool.or_eq_true, decide_eq_true_eq] at hc19; rcases hc19 with h | h <;> subst h <;> refine ⟨?_, ?_, ?_, ?_, ?_, ?_, ?_⟩ <;> first | rfl | omega | assumption | (simp only [upd_app, seval, f5, f6, f7]; rfl))
      ·refine awp_seq_k fun K hK => ?_
       refine awp_region rfl ?_
       simp only [f9, RR, seval]
       refine hK _ _ ?_; clear hK K
       refine awp_if _ rfl (fun hc14 => ?_) (fun hc14 => ?_)
       ·refine awp_region rfl ?_
        simp only [RR, seval]
        refine hKB0 _ _ ⟨(by repeat (first | exact agB0 | refine agree.upd rfl ?_)), (by first | exact eB0_b1 | (simp only [upd_app, seval]; first | done | exact eB0_b1)), ?_⟩
        first | (obtain rfl := of_decide_eq_true hc5; refine ⟨?_, ?_, ?_, ?_, ?_, ?_, ?_⟩ <;> first | rfl | omega | assumption) | (obtain rfl := of_decide_eq_true hc7; refine ⟨?_, ?_, ?_, ?_, ?_, ?_, ?_⟩ <;> first | rfl | omega | assumption) | (obtain rfl := of_decide_eq_true hc9; refine ⟨?_, ?_, ?_, ?_, ?_, ?_, ?_⟩ <;> first | rfl | omega | assumption) | (obtain rfl := of_decide_eq_true hc11; refine ⟨?_, ?_, ?_, ?_, ?_, ?_, ?_⟩ <;> first | rfl | omega | assumption) | (obtain rfl := of_decide_eq_true hc13; refine ⟨?_, ?_, ?_, ?_, ?_, ?_, ?_⟩ <;> first | rfl | omega | assumption) | (obtain rfl := of_decide_eq_true hc14; refine ⟨?_, ?_, ?_, ?_, ?_, ?_, ?_⟩ <;> first | rfl | omega | assumption) | (obtain rfl := of_decide_eq_true hc16; refine ⟨?_, ?_, ?_, ?_, ?_, ?_, ?_⟩ <;> first | rfl | omega | assumption) | (simp only [Bool.or_eq_true, decide_eq_true_eq] at hc19; rcases hc19 with h | h <;> subst h <;> refine ⟨?_, ?_, ?_, ?_, ?_, ?_, ?_⟩ <;> first | rfl | omega | assumption | (simp only [upd_app, seval, f5, f6, f7]; rfl))
       ·refine awp_seq_k fun K hK => ?_
        refine awp_region rfl ?_
        simp only [f9, RR, seval]
        refine hK _ _ ?_; clear hK K
        refine awp_if _ rfl (fun hc16 => ?_) (fun hc16 => ?_)
        ·refine awp_region rfl ?_
         simp only [RR, seval]
         refine hKB0 _ _ ⟨(by repeat (first | exact agB0 | refine agree.upd rfl ?_)), (by first | exact eB0_b1 | (simp only [upd_app, seval]; first | done | exact eB0_b1)), ?_⟩
         first | (obtain rfl := of_decide_eq_true hc5; refine ⟨?_, ?_, ?_, ?_, ?_, ?_, ?_⟩ <;> first | rfl | omega | assumption) | (obtain rfl := of_decide_eq_true hc7; refine ⟨?_, ?_, ?_, ?_, ?_, ?_, ?_⟩ <;> first | rfl | omega | assumption) | (obtain rfl := of_decide_eq_true hc9; refine ⟨?_, ?_, ?_, ?_, ?_, ?_, ?_⟩ <;> first | rfl | omega | assumption) | (obtain rfl := of_decide_eq_true hc11; refine ⟨?_, ?_, ?_, ?_, ?_, ?_, ?_⟩ <;> first | rfl | omega | assumption) | (obtain rfl := of_decide_eq_true hc13; refine ⟨?_, ?_, ?_, ?_, ?_, ?_, ?_⟩ <;> first | rfl | omega | assumption) | (obtain rfl := of_decide_eq_true hc14; refine ⟨?_, ?_, ?_, ?_, ?_, ?_, ?_⟩ <;> first | rfl | omega | assumption) | (obtain rfl := of_decide_eq_true hc16; refine ⟨?_, ?_, ?_, ?_, ?_, ?_, ?_⟩ <;> first | rfl | omega | assumption) | (simp only [Bool.or_eq_true, decide_eq_true_eq] at hc19; rcases hc19 with h | h <;> subst h <;> refine ⟨?_, ?_, ?_, ?_, ?_, ?_, ?_⟩ <;> first | rfl | omega | assumption | (simp only [upd_app, seval, f5, f6, f7]; rfl))
        ·refine awp_seq ?_
         refine awp_seq_k fun K hK => ?_
         refine awp_region rfl ?_
         simp only [f9, RR, seval]
         refine hK _ _ ?_; clear hK K
         refine awp_name fun F2 M2 hfr hH => ?_
         have g1 := hfr 1
         have g2 := hfr 2
         have g3 := hfr 3
         have g4 := hfr 4
         have g5 := hfr 5
         have g6 := hfr 6
         have g7 := hfr 7
         have g9 := hfr 9
         have g24 := hfr 24
         have gb1 := hH b1
         try simp only [f1, f2, f3, f4, f5, f6, f7, f9, hb1, RR, seval] at g1 g2 g3 g4 g5 g6 g7 g9 g24 gb1
         have agB0 : agree [1] F1 F2 := agree.same hfr (by repeat (first | exact agB0 | refine agree.upd rfl ?_))
         have eB0_b1 := (hH b1).trans (by first | exact eB0_b1 | (simp only [upd_app, seval]; first | done | exact eB0_b1))
         have f1 := g1; clear g1
         have f2 := g2; clear g2
         have f3 := g3; clear g3
         have f4 := g4; clear g4
         have f5 := g5; clear g5
         have f6 := g6; clear g6
         have f7 := g7; clear g7
         have f9 := g9; clear g9
         have f24 := g24; clear g24
         have hb1 := gb1; clear gb1
         clear hfr hH
         refine awp_cutP (fun fr M => agree [1, 2, 3, 4, 5, 6, 7] F2 fr ∧ M b1 = M2 b1 ∧ fr 24 = .bool (decide (k = 8) || decide (k = 9))) (fun KC18 hKC18 => ?_) ?_
         ·have agC18 := agree.refl [1, 2, 3, 4, 5, 6, 7] F2
          have eC18_b1 : M2 b1 = M2 b1 := rfl
          refine awp_if _ (by first | rfl | exact f24) (fun hc18 => ?_) (fun hc18 => ?_)
          ·refine awp_skip ?_; try simp only [RR]
           refine hKC18 _ _ ⟨(by repeat (first | exact agC18 | refine agree.upd rfl ?_)), (by first | exact eC18_b1 | (simp only [upd_app, seval]; first | done | exact eC18_b1)), ?_⟩
           first | (rw [f24, hc18]; rfl) | (simp only [upd_app, seval, hc18, Bool.false_or])
          ·refine awp_region rfl ?_
           simp only [f9, RR, seval]
           refine hKC18 _ _ ⟨(by repeat (first | exact agC18 | refine agree.upd rfl ?_)), (by first | exact eC18_b1 | (simp only [upd_app, seval]; first | done | exact eC18_b1)), ?_⟩
           first | (rw [f24, hc18]; rfl) | (simp only [upd_app, seval, hc18, Bool.false_or])
         rintro F3 M3 ⟨agx, gb1, f24⟩
         have f1 := (agx 1 rfl).trans f1
         have f2 := (agx 2 rfl).trans f2
         have f3 := (agx 3 rfl).trans f3
         have f4 := (agx 4 rfl).trans f4
         have f5 := (agx 5 rfl).trans f5
         have f6 := (agx 6 rfl).trans f6
         have f7 := (agx 7 rfl).trans f7
         have hb1 := gb1.trans hb1
         have agB0 : agree [1] F1 F3 := agree.sub agx rfl agB0
         have eB0_b1 := gb1.trans eB0_b1
         clear agx
         clear gb1
         simp only [RR, seval]
         refine awp_if _ (by first | rfl | exact f24) (fun hc19 => ?_) (fun hc19 => ?_)
         ·refine awp_region rfl ?_
          simp only [RR, seval]
          refine hKB0 _ _ ⟨(by repeat (first | exact agB0 | refine agree.upd rfl ?_)), (by first | exact eB0_b1 | (simp only [upd_app, seval]; first | done | exact eB0_b1)), ?_⟩
          first | (obtain rfl := of_decide_eq_true hc5; refine ⟨?_, ?_, ?_, ?_, ?_, ?_, ?_⟩ <;> first | rfl | omega | assumption) | (obtain rfl := of_decide_eq_true hc7; refine ⟨?_, ?_, ?_, ?_, ?_, ?_, ?_⟩ <;> first | rfl | omega | assumption) | (obtain rfl := of_decide_eq_true hc9; refine ⟨?_, ?_, ?_, ?_, ?_, ?_, ?_⟩ <;> first | rfl | omega | assumption) | (obtain rfl := of_decide_eq_true hc11; refine ⟨?_, ?_, ?_, ?_, ?_, ?_, ?_⟩ <;> first | rfl | omega | assumption) | (obtain rfl := of_decide_eq_true hc13; refine ⟨?_, ?_, ?_, ?_, ?_, ?_, ?_⟩ <;> first | rfl | omega | assumption) | (obtain rfl := of_decide_eq_true hc14; refine ⟨?_, ?_, ?_, ?_, ?_, ?_, ?_⟩ <;> first | rfl | omega | assumption) | (obtain rfl := of_decide_eq_true hc16; refine ⟨?_, ?_, ?_, ?_, ?_, ?_, ?_⟩ <;> first | rfl | omega | assumption) | (simp only [Bool.or_eq_true, decide_eq_true_eq] at hc19; rcases hc19 with h | h <;> subst h <;> refine ⟨?_, ?_, ?_, ?_, ?_, ?_, ?_⟩ <;> first | rfl | omega | assumption | (simp only [upd_app, seval, f5, f6, f7]; rfl))
         ·refine awp_seq_k fun K hK => ?_
          refine awp_region rfl ?_
          simp only [RR, seval]
          refine hK _ _ ?_; clear hK K
          refine awp_ret ?_; simp only [bodyQ, aresult, ares, RR, seval]
          refine Gives.pure ?_
          rw [hno (by simp only [Bool.or_eq_false_iff, decide_eq_false_iff_not] at hc5 hc7 hc9 hc11 hc13 hc14 hc16 hc19; omega)]
 rintro F4 M4 ⟨agx, gb1, f3, f4, f5, f6, f7, h1, h9⟩
 have f1 := (agx 1 rfl).trans f1
 have hb1 := gb1.trans hb1
 clear agx
 clear gb1
 simp only [RR, seval]
 have hform := hyes h1 h9
 clear hyes hno
 generalize decide (k = 6) = B6 at *
 generalize decide (k = 1) = B1 at *
 generalize nameF s (nmX k) = NF at *
 obtain ⟨C1, z1⟩ : ∃ C, decide (loX k ≤ (l.length : Int)) = C := ⟨_, rfl⟩
 obtain ⟨C2, z2⟩ : ∃ C, decide ((l.length : Int) ≤ hiX k) = C := ⟨_, rfl⟩
 rw [z1, z2] at hform
 refine awp_seq ?_
 refine awp_seq_k fun K hK => ?_
 refine awp_region rfl ?_
 simp only [f6, RR, seval]
 repeat' ((first | refine awpG_splitN (fun h => ?_) (fun h => ?_) | refine awpG_split (fun h => ?_) (fun h => ?_)) <;> simp only [h, f1, f6, hb1, RR, seval])
 all_goals
  refine hK _ _ ?_; clear hK K
  refine awp_if _ rfl (fun hc21 => ?_) (fun hc21 => ?_)
  ·try (cases hc21; done)
   all_goals
    refine awp_seq_k fun K hK => ?_
    refine awp_region rfl ?_
    simp only [RR, seval]
    refine hK _ _ ?_; clear hK K
    refine awp_ret ?_; simp only [bodyQ, aresult, ares, RR, seval]
    refine Gives.pure ?_
    rw [hform]
    clear z1 z2 hform hnf
    simp_all
  ·try (cases hc21; done)
   all_goals
    refine awp_skip ?_; try simp only [RR]
    refine awp_seq ?_
    refine awp_seq_k fun K hK => ?_
    refine awp_region rfl ?_
    simp only [f7, RR, seval]
    all_goals try ((first | refine awpG_splitN (fun h => ?_) (fun h => ?_) | refine awpG_split (fun h => ?_) (fun h => ?_)) <;> simp only [h, f1, f5, hb1, RR, seval])
    all_goals try ((first | refine awpG_splitN (fun h => ?_) (fun h => ?_) | refine awpG_split (fun h => ?_) (fun h => ?_)) <;> simp only [h, f1, f5, hb1, RR, seval])
    all_goals try (refine awpC_pure' (hnf) ?_; simp only [RR, seval])
    all_goals
     refine hK _ _ ?_; clear hK K
     refine awp_if _ rfl (fun hc23 => ?_) (fun hc23 => ?_)
     ·try (cases hc23; done)
      all_goals
       refine awp_seq_k fun K hK => ?_
       refine awp_region rfl ?_
       simp only [RR, seval]
       refine hK _ _ ?_; clear hK K
       refine awp_ret ?_; simp only [bodyQ, aresult, ares, RR, seval]
       refine Gives.pure ?_
       rw [hform]
       clear z1 z2 hform hnf
       simp_all
     ·try (cases hc23; done)
      all_goals
       refine awp_skip ?_; try simp only [RR]
       refine awp_seq_k fun K hK => ?_
       refine awp_region rfl ?_
       simp only [f1, f3, hb1, List.length_map, z1, RR, seval]
       repeat' ((first | refine awpG_splitN (fun h => ?_) (fun h => ?_) | refine awpG_split (fun h => ?_) (fun h => ?_)) <;> simp only [h, f1, f4, hb1, List.length_map, z2, RR, seval])
       all_goals
        refine hK _ _ ?_; clear hK K
        refine awp_ret ?_; simp only [bodyQ, aresult, ares, RR, seval]
        refine Gives.pure ?_
        rw [hform]
        clear z1 z2 hform hnf
        simp_all
end Go.Proofs.YtnfbbjhdflhmjaaDoor
namespace Go.Proofs.YtnfbbjhdflhmjaaDoor
open Go.Al
def loS (k : Int) : Int := if k = 2 then 2 else if k = 6 ∨ k = 7 then 0 else 1
def hiS (k : Int) : Int := if k = 2 then 2 else if k = 6 then 6 else 1
def nmS (k : Int) : Bool := decide (k = 1 ∨ k = 2 ∨ k = 6)
def thS (k : Int) : Bool := decide (k = 4 ∨ k = 5)
def formS (s : Sm) : Bool := headS s 0 && fitS s.kind s.es.length
theorem formS_eq (k : Int) (s : Str) (l : List Ex) (t u : List Sm) (h1 : 1 ≤ k) (h9 : k ≤ 7) : formS (.mk k s l t u) =
  (nameF s (nmS k) && !decide ((l.length : Int) < loS k) && !decide (hiS k < (l.length : Int)) && (thS k || decide (t.length = 0)) && (decide (k = 4) || decide (u.length = 0))) := by
 have hk : k = 1 ∨ k = 2 ∨ k = 3 ∨ k = 4 ∨ k = 5 ∨ k = 6 ∨ k = 7 := by omega
 have hf : formS (.mk k s l t u) = ((decide ((0 : Int) ≤ 24) && (decide (k = 4) || decide (u.length = 0)) && (decide (k = 4) || decide (k = 5) || decide (t.length = 0)) && (if k = 1 ∨ k = 2 ∨ k = 6 then nameB s else decide (s = []))) && fitS k l.length) := rfl
 have hg : nameF s (nmS k) = if nmS k then nameB s else decide (s = []) := rfl
 rw [hf, hg]
 have e1 : decide (l.length = 1) = (!decide ((l.length : Int) < 1) && !decide (1 < (l.length : Int))) := by rw [Bool.eq_iff_iff]; simp only [Bool.and_eq_true, decide_eq_true_eq, Bool.not_eq_true', decide_eq_false_iff_not]; omega
 have e2 : decide (l.length = 2) = (!decide ((l.length : Int) < 2) && !decide (2 < (l.length : Int))) := by rw [Bool.eq_iff_iff]; simp only [Bool.and_eq_true, decide_eq_true_eq, Bool.not_eq_true', decide_eq_false_iff_not]; omega
 have e6 : decide (l.length ≤ 6) = (!decide ((l.length : Int) < 0) && !decide (6 < (l.length : Int))) := by rw [Bool.eq_iff_iff]; simp only [Bool.and_eq_true, decide_eq_true_eq, Bool.not_eq_true', decide_eq_false_iff_not]; omega
 have e7 : decide (l.length ≤ 1) = (!decide ((l.length : Int) < 0) && !decide (1 < (l.length : Int))) := by rw [Bool.eq_iff_iff]; simp only [Bool.and_eq_true, decide_eq_true_eq, Bool.not_eq_true', decide_eq_false_iff_not]; omega
 have hfit : fitS k l.length = (!decide ((l.length : Int) < loS k) && !decide (hiS k < (l.length : Int))) := by
  rcases hk with rfl | rfl | rfl | rfl | rfl | rfl | rfl <;> first | exact e1 | exact e2 | exact e6 | exact e7
 rw [hfit]
 generalize decide ((l.length : Int) < loS k) = C1
 generalize decide (hiS k < (l.length : Int)) = C2
 generalize decide (s = []) = B1
 generalize decide (t.length = 0) = B2
 generalize decide (u.length = 0) = B3
 generalize nameB s = NB
 rcases hk with rfl | rfl | rfl | rfl | rfl | rfl | rfl <;>
  cases B1 <;> cases B2 <;> cases B3 <;> cases NB <;> cases C1 <;> cases C2 <;> rfl
theorem formS_no (k : Int) (s : Str) (l : List Ex) (t u : List Sm) (h : ¬ (1 ≤ k ∧ k ≤ 7)) : formS (.mk k s l t u) = false := by
 have : fitS k l.length = false := by
  unfold fitS
  rw [if_neg (by omega), if_neg (by omega), if_neg (by omega), if_neg (by omega)]
 simp only [formS, Sm.kind, Sm.es, this, Bool.and_false]
theorem len0 (n : Nat) : decide ((n : Int) = 0) = decide (n = 0) := by rw [Bool.eq_iff_iff]; simp only [decide_eq_true_eq]; omega
theorem stmtForm_con (e : Sm) : PCon env 84 [.agg e.row] (.bool (formS e)) := by
 rw [e.row_eq]
 obtain ⟨k, s, l, t, u⟩ := e
 simp only [Sm.kind, Sm.name, Sm.es, Sm.thn, Sm.els]
 have hno := formS_no k s l t u
 have hyes := formS_eq k s l t u
 have hnf := nameForm_con s (nmS k)
 generalize formS (.mk k s l t u) = res at *
 refine con_of 59 [.tmp 2] Tryd.func84 rfl rfl rfl rfl ?_
 refine awp_seq_k fun K hK => ?_
 refine awp_region rfl ?_
 simp only [RR, seval]
 refine awpN_intro fun b1 hn1 => ?_
 simp only [RR, seval]
 refine hK _ _ ?_; clear hK K
 refine awp_seq_k fun K hK => ?_
 refine awp_region rfl ?_
 simp only [RR, seval]
 refine hK _ _ ?_; clear hK K
 refine awp_seq_k fun K hK => ?_
 refine awp_region rfl ?_
 simp only [RR, seval]
 refine hK _ _ ?_; clear hK K
 refine awp_seq ?_
 refine awp_seq_k fun K hK => ?_
 refine awp_region rfl ?_
 simp only [RR, seval]
 refine hK _ _ ?_; clear hK K
 refine awp_name fun F1 M1 hfr hH => ?_
 have g1 := hfr 1
 have g2 := hfr 2
 have g3 := hfr 3
 have g4 := hfr 4
 have g5 := hfr 5
 have g6 := hfr 6
 have g7 := hfr 7
 have g9 := hfr 9
 have gb1 := hH b1
 try simp only [RR, seval] at g1 g2 g3 g4 g5 g6 g7 g9 gb1
 have f1 := g1; clear g1
 have f2 := g2; clear g2
 have f3 := g3; clear g3
 have f4 := g4; clear g4
 have f5 := g5; clear g5
 have f6 := g6; clear g6
 have f7 := g7; clear g7
 have f9 := g9; clear g9
 have hb1 := gb1; clear gb1
 clear hfr hH
 refine awp_cutP (fun fr M => agree [1] F1 fr ∧ M b1 = M1 b1 ∧ fr 3 = .int .i64 (loS k) ∧ fr 4 = .int .i64 (hiS k) ∧ fr 5 = .bool (nmS k) ∧ fr 6 = .bool (thS k) ∧ fr 7 = .bool (decide (k = 4)) ∧ 1 ≤ k ∧ k ≤ 7) (fun KB0 hKB0 => ?_) ?_
 ·have agB0 := agree.refl [1] F1
  have eB0_b1 : M1 b1 = M1 b1 := rfl
  refine awp_block ?_
  refine awp_seq_k fun K hK => ?_
  refine awp_region rfl ?_
  simp only [f9, RR, seval]
  refine hK _ _ ?_; clear hK K
  refine awp_if _ rfl (fun hc5 => ?_) (fun hc5 => ?_)
  ·refine awp_region rfl ?_
   simp only [RR, seval]
   refine hKB0 _ _ ⟨(by repeat (first | exact agB0 | refine agree.upd rfl ?_)), (by first | exact eB0_b1 | (simp only [upd_app, seval]; first | done | exact eB0_b1)), ?_⟩
   first | (obtain rfl := of_decide_eq_true hc5; refine ⟨?_, ?_, ?_, ?_, ?_, ?_, ?_⟩ <;> first | rfl | omega | assumption) | (obtain rfl := of_decide_eq_true hc7; refine ⟨?_, ?_, ?_, ?_, ?_, ?_, ?_⟩ <;> first | rfl | omega | assumption) | (obtain rfl := of_decide_eq_true hc9; refine ⟨?_, ?_, ?_, ?_, ?_, ?_, ?_⟩ <;> first | rfl | omega | assumption) | (obtain rfl := of_decide_eq_true hc10; refine ⟨?_, ?_, ?_, ?_, ?_, ?_, ?_⟩ <;> first | rfl | omega | assumption) | (obtain rfl := of_decide_eq_true hc12; refine ⟨?_, ?_, ?_, ?_, ?_, ?_, ?_⟩ <;> first | rfl | omega | assumption) | (obtain rfl := of_decide_eq_true hc14; refine ⟨?_, ?_, ?_, ?_, ?_, ?_, ?_⟩ <;> first | rfl | omega | assumption) | (obtain rfl := of_decide_eq_true hc16; refine ⟨?_, ?_, ?_, ?_, ?_, ?_, ?_⟩ <;> first | rfl | omega | assumption)
  ·refine awp_seq_k fun K hK => ?_
   refine awp_region rfl ?_
   simp only [f9, RR, seval]
   refine hK _ _ ?_; clear hK K
   refine awp_if _ rfl (fun hc7 => ?_) (fun hc7 => ?_)
   ·refine awp_region rfl ?_
    simp only [RR, seval]
    refine hKB0 _ _ ⟨(by repeat (first | exact agB0 | refine agree.upd rfl ?_)), (by first | exact eB0_b1 | (simp only [upd_app, seval]; first | done | exact eB0_b1)), ?_⟩
    first | (obtain rfl := of_decide_eq_true hc5; refine ⟨?_, ?_, ?_, ?_, ?_, ?_, ?_⟩ <;> first | rfl | omega | assumption) | (obtain rfl := of_decide_eq_true hc7; refine ⟨?_, ?_, ?_, ?_, ?_, ?_, ?_⟩ <;> first | rfl | omega | assumption) | (obtain rfl := of_decide_eq_true hc9; refine ⟨?_, ?_, ?_, ?_, ?_, ?_, ?_⟩ <;> first | rfl | omega | assumption) | (obtain rfl := of_decide_eq_true hc10; refine ⟨?_, ?_, ?_, ?_, ?_, ?_, ?_⟩ <;> first | rfl | omega | assumption) | (obtain rfl := of_decide_eq_true hc12; refine ⟨?_, ?_, ?_, ?_, ?_, ?_, ?_⟩ <;> first | rfl | omega | assumption) | (obtain rfl := of_decide_eq_true hc14; refine ⟨?_, ?_, ?_, ?_, ?_, ?_, ?_⟩ <;> first | rfl | omega | assumption) | (obtain rfl := of_decide_eq_true hc16; refine ⟨?_, ?_, ?_, ?_, ?_, ?_, ?_⟩ <;> first | rfl | omega | assumption)
   ·refine awp_seq_k fun K hK => ?_
    refine awp_region rfl ?_
    simp only [f9, RR, seval]
    refine hK _ _ ?_; clear hK K
    refine awp_if _ rfl (fun hc9 => ?_) (fun hc9 => ?_)
    ·refine awp_skip ?_; try simp only [RR]
     refine hKB0 _ _ ⟨(by repeat (first | exact agB0 | refine agree.upd rfl ?_)), (by first | exact eB0_b1 | (simp only [upd_app, seval]; first | done | exact eB0_b1)), ?_⟩
     first | (obtain rfl := of_decide_eq_true hc5; refine ⟨?_, ?_, ?_, ?_, ?_, ?_, ?_⟩ <;> first | rfl | omega | assumption) | (obtain rfl := of_decide_eq_true hc7; refine ⟨?_, ?_, ?_, ?_, ?_, ?_, ?_⟩ <;> first | rfl | omega | assumption) | (obtain rfl := of_decide_eq_true hc9; refine ⟨?_, ?_, ?_, ?_, ?_, ?_, ?_⟩ <;> first | rfl | omega | assumption) | (obtain rfl := of_decide_eq_true hc10; refine ⟨?_, ?_, ?_, ?_, ?_, ?_, ?_⟩ <;> first | rfl | omega | assumption) | (obtain rfl := of_decide_eq_true hc12; refine ⟨?_, ?_, ?_, ?_, ?_, ?_, ?_⟩ <;> first | rfl | omega | assumption) | (obtain rfl := of_decide_eq_true hc14; refine ⟨?_, ?_, ?_, ?_, ?_, ?_, ?_⟩ <;> first | rfl | omega | assumption) | (obtain rfl := of_decide_eq_true hc16; refine ⟨?_, ?_, ?_, ?_, ?_, ?_, ?_⟩ <;> first | rfl | omega | assumption)
    ·refine awp_seq_k fun K hK => ?_
     refine awp_region rfl ?_
     simp only [f9, RR, seval]
     refine hK _ _ ?_; clear hK K
     refine awp_if _ rfl (fun hc10 => ?_) (fun hc10 => ?_)
     ·refine awp_region rfl ?_
      simp only [RR, seval]
      refine hKB0 _ _ ⟨(by repeat (first | exact agB0 | refine agree.upd rfl ?_)), (by first | exact eB0_b1 | (simp only [upd_app, seval]; first | done | exact eB0_b1)), ?_⟩
      first | (obtain rfl := of_decide_eq_true hc5; refine ⟨?_, ?_, ?_, ?_, ?_, ?_, ?_⟩ <;> first | rfl | omega | assumption) | (obtain rfl := of_decide_eq_true hc7; refine ⟨?_, ?_, ?_, ?_, ?_, ?_, ?_⟩ <;> first | rfl | omega | assumption) | (obtain rfl := of_decide_eq_true hc9; refine ⟨?_, ?_, ?_, ?_, ?_, ?_, ?_⟩ <;> first | rfl | omega | assumption) | (obtain rfl := of_decide_eq_true hc10; refine ⟨?_, ?_, ?_, ?_, ?_, ?_, ?_⟩ <;> first | rfl | omega | assumption) | (obtain rfl := of_decide_eq_true hc12; refine ⟨?_, ?_, ?_, ?_, ?_, ?_, ?_⟩ <;> first | rfl | omega | assumption) | (obtain rfl := of_decide_eq_true hc14; refine ⟨?_, ?_, ?_, ?_, ?_, ?_, ?_⟩ <;> first | rfl | omega | assumption) | (obtain rfl := of_decide_eq_true hc16; refine ⟨?_, ?_, ?_, ?_, ?_, ?_, ?_⟩ <;> first | rfl | omega | assumption)
     ·refine awp_seq_k fun K hK => ?_
      refine awp_region rfl ?_
      simp only [f9, RR, seval]
      refine hK _ _ ?_; clear hK K
      refine awp_if _ rfl (fun hc12 => ?_) (fun hc12 => ?_)
      ·refine awp_region rfl ?_
       simp only [RR, seval]
       refine hKB0 _ _ ⟨(by repeat (first | exact agB0 | refine agree.upd rfl ?_)), (by first | exact eB0_b1 | (simp only [upd_app, seval]; first | done | exact eB0_b1)), ?_⟩
       first | (obtain rfl := of_decide_eq_true hc5; refine ⟨?_, ?_, ?_, ?_, ?_, ?_, ?_⟩ <;> first | rfl | omega | assumption) | (obtain rfl := of_decide_eq_true hc7; refine ⟨?_, ?_, ?_, ?_, ?_, ?_, ?_⟩ <;> first | rfl | omega | assumption) | (obtain rfl := of_decide_eq_true hc9; refine ⟨?_, ?_, ?_, ?_, ?_, ?_, ?_⟩ <;> first | rfl | omega | assumption) | (obtain rfl := of_decide_eq_true hc10; refine ⟨?_, ?_, ?_, ?_, ?_, ?_, ?_⟩ <;> first | rfl | omega | assumption) | (obtain rfl := of_decide_eq_true hc12; refine ⟨?_, ?_, ?_, ?_, ?_, ?_, ?_⟩ <;> first | rfl | omega | assumption) | (obtain rfl := of_decide_eq_true hc14; refine ⟨?_, ?_, ?_, ?_, ?_, ?_, ?_⟩ <;> first | rfl | omega | assumption) | (obtain rfl := of_decide_eq_true hc16; refine ⟨?_, ?_, ?_, ?_, ?_, ?_, ?_⟩ <;> first | rfl | omega | assumption)
      ·refine awp_seq_k fun K hK => ?_
       refine awp_region rfl ?_
       simp only [f9, RR, seval]
       refine hK _ _ ?_; clear hK K
       refine awp_if _ rfl (fun hc14 => ?_) (fun hc14 => ?_)
       ·refine awp_region rfl ?_
        simp only [RR, seval]
        refine hKB0 _ _ ⟨(by repeat (first | exact agB0 | refine agree.upd rfl ?_)), (by first | exact eB0_b1 | (simp only [upd_app, seval]; first | done | exact eB0_b1)), ?_⟩
        first | (obtain rfl := of_decide_eq_true hc5; refine ⟨?_, ?_, ?_, ?_, ?_, ?_, ?_⟩ <;> first | rfl | omega | assumption) | (obtain rfl := of_decide_eq_true hc7; refine ⟨?_, ?_, ?_, ?_, ?_, ?_, ?_⟩ <;> first | rfl | omega | assumption) | (obtain rfl := of_decide_eq_true hc9; refine ⟨?_, ?_, ?_, ?_, ?_, ?_, ?_⟩ <;> first | rfl | omega | assumption) | (obtain rfl := of_decide_eq_true hc10; refine ⟨?_, ?_, ?_, ?_, ?_, ?_, ?_⟩ <;> first | rfl | omega | assumption) | (obtain rfl := of_decide_eq_true hc12; refine ⟨?_, ?_, ?_, ?_, ?_, ?_, ?_⟩ <;> first | rfl | omega | assumption) | (obtain rfl := of_decide_eq_true hc14; refine ⟨?_, ?_, ?_, ?_, ?_, ?_, ?_⟩ <;> first | rfl | omega | assumption) | (obtain rfl := of_decide_eq_true hc16; refine ⟨?_, ?_, ?_, ?_, ?_, ?_, ?_⟩ <;> first | rfl | omega | assumption)
       ·refine awp_seq_k fun K hK => ?_
        refine awp_region rfl ?_
        simp only [f9, RR, seval]
        refine hK _ _ ?_; clear hK K
        refine awp_if _ rfl (fun hc16 => ?_) (fun hc16 => ?_)
        ·refine awp_region rfl ?_
         simp only [RR, seval]
         refine hKB0 _ _ ⟨(by repeat (first | exact agB0 | refine agree.upd rfl ?_)), (by first | exact eB0_b1 | (simp only [upd_app, seval]; first | done | exact eB0_b1)), ?_⟩
         first | (obtain rfl := of_decide_eq_true hc5; refine ⟨?_, ?_, ?_, ?_, ?_, ?_, ?_⟩ <;> first | rfl | omega | assumption) | (obtain rfl := of_decide_eq_true hc7; refine ⟨?_, ?_, ?_, ?_, ?_, ?_, ?_⟩ <;> first | rfl | omega | assumption) | (obtain rfl := of_decide_eq_true hc9; refine ⟨?_, ?_, ?_, ?_, ?_, ?_, ?_⟩ <;> first | rfl | omega | assumption) | (obtain rfl := of_decide_eq_true hc10; refine ⟨?_, ?_, ?_, ?_, ?_, ?_, ?_⟩ <;> first | rfl | omega | assumption) | (obtain rfl := of_decide_eq_true hc12; refine ⟨?_, ?_, ?_, ?_, ?_, ?_, ?_⟩ <;> first | rfl | omega | assumption) | (obtain rfl := of_decide_eq_true hc14; refine ⟨?_, ?_, ?_, ?_, ?_, ?_, ?_⟩ <;> first | rfl | omega | assumption) | (obtain rfl := of_decide_eq_true hc16; refine ⟨?_, ?_, ?_, ?_, ?_, ?_, ?_⟩ <;> first | rfl | omega | assumption)
        ·refine awp_seq_k fun K hK => ?_
         refine awp_region rfl ?_
         simp only [RR, seval]
         refine hK _ _ ?_; clear hK K
         refine awp_ret ?_; simp only [bodyQ, aresult, ares, RR, seval]
         refine Gives.pure ?_
         rw [hno (by simp only [decide_eq_false_iff_not] at hc5 hc7 hc9 hc10 hc12 hc14 hc16; omega)]
 rintro F2 M2 ⟨agx, gb1, f3, f4, f5, f6, f7, h1, h9⟩
 have f1 := (agx 1 rfl).trans f1
 have hb1 := gb1.trans hb1
 clear agx
 clear gb1
 simp only [RR, seval]
 have hform := hyes h1 h9
 clear hyes hno
 generalize decide (k = 4) = B4 at *
 generalize thS k = BT at *
 generalize nameF s (nmS k) = NF at *
 obtain ⟨C1, z1⟩ : ∃ C, decide ((l.length : Int) < loS k) = C := ⟨_, rfl⟩
 obtain ⟨C2, z2⟩ : ∃ C, decide (hiS k < (l.length : Int)) = C := ⟨_, rfl⟩
 obtain ⟨C3, z3⟩ : ∃ C, decide (t.length = 0) = C := ⟨_, rfl⟩
 obtain ⟨C4, z4⟩ : ∃ C, decide (u.length = 0) = C := ⟨_, rfl⟩
 rw [z1, z2, z3, z4] at hform
 refine awp_seq ?_
 refine awp_seq_k fun K hK => ?_
 refine awp_region rfl ?_
 simp only [f1, f5, hb1, RR, seval]
 all_goals try (refine awpC_pure' (hnf) ?_; simp only [RR, seval])
 all_goals try ((first | refine awpG_splitN (fun h => ?_) (fun h => ?_) | refine awpG_split (fun h => ?_) (fun h => ?_)) <;> simp only [h, f1, f3, hb1, List.length_map, z1, RR, seval])
 all_goals try ((first | refine awpG_splitN (fun h => ?_) (fun h => ?_) | refine awpG_split (fun h => ?_) (fun h => ?_)) <;> simp only [h, f1, f4, hb1, List.length_map, z2, RR, seval])
 all_goals
  refine hK _ _ ?_; clear hK K
  refine awp_if _ rfl (fun hc18 => ?_) (fun hc18 => ?_)
  ·try (cases hc18; done)
   all_goals
    refine awp_seq_k fun K hK => ?_
    refine awp_region rfl ?_
    simp only [RR, seval]
    refine hK _ _ ?_; clear hK K
    refine awp_ret ?_; simp only [bodyQ, aresult, ares, RR, seval]
    refine Gives.pure ?_
    rw [hform]
    clear z1 z2 z3 z4 hform hnf
    simp_all
  ·try (cases hc18; done)
   all_goals
    refine awp_skip ?_; try simp only [RR]
    refine awp_seq_k fun K hK => ?_
    refine awp_region rfl ?_
    simp only [f6, RR, seval]
    repeat' ((first | refine awpG_splitN (fun h => ?_) (fun h => ?_) | refine awpG_split (fun h => ?_) (fun h => ?_)) <;> simp only [h, f1, f7, hb1, List.length_map, len0, z3, z4, RR, seval])
    all_goals
     refine hK _ _ ?_; clear hK K
     refine awp_ret ?_; simp only [bodyQ, aresult, ares, RR, seval]
     refine Gives.pure ?_
     rw [hform]
     clear z1 z2 z3 z4 hform hnf
     simp_all
theorem headX_level (e : Ex) (level : Int) (h : level ≤ 24) : headX e level = headX e 0 := by
 simp only [headX, decide_eq_true h]
 rfl
theorem rightX_form (e : Ex) (level : Int) (h : level ≤ 24) : rightX e level = (formX e && rightE e.kids (level + 1)) := by
 simp only [rightX, formX, headX_level e level h]
theorem rightE_high (l : List Ex) (level : Int) (h : 24 < level) (hl : 0 < l.length) : rightE l level = false := by
 cases l with
 | nil => simp at hl
 | cons e l =>
   rw [rightE_cons]
   have : headX e level = false := by simp only [headX, decide_eq_false (show ¬ level ≤ 24 by omega), Bool.false_and]
   simp only [rightX, this, Bool.false_and]
theorem rightExprs_con (n : Nat) : ∀ (l : List Ex) (level : Int), szE l ≤ n → fitL l → okE l → -1000000 ≤ level → level ≤ 1000000 → PCon env 85 [.isl 5 (l.map Ex.row), .int .i64 level] (.bool (rightE l level)) := by
 induction n using Nat.strongRecOn with
 | _ n ih =>
   intro l level hn hfit hok h1 h2
   simp only [fitL] at hfit
   have hhigh := rightE_high l level
   refine con_of 32 [.tmp 4] Tryd.func85 rfl rfl rfl rfl ?_
   refine awp_seq_k fun K hK => ?_
   refine awp_region rfl ?_
   simp only [RR, seval]
   refine hK _ _ ?_; clear hK K
   refine awp_seq ?_
   refine awp_seq_k fun K hK => ?_
   refine awp_region rfl ?_
   simp only [List.length_map, RR, seval]
   repeat' ((first | refine awpG_splitN (fun h => ?_) (fun h => ?_) | refine awpG_split (fun h => ?_) (fun h => ?_)) <;> simp only [h, RR, seval])
   all_goals
    refine hK _ _ ?_; clear hK K
    refine awp_if _ rfl (fun hc1 => ?_) (fun hc1 => ?_)
    ·try (cases hc1; done)
     all_goals
      refine awp_seq_k fun K hK => ?_
      refine awp_region rfl ?_
      simp only [RR, seval]
      refine hK _ _ ?_; clear hK K
      refine awp_ret ?_; simp only [bodyQ, aresult, ares, RR, seval]
      refine Gives.pure ?_
      rw [hhigh (of_decide_eq_true hc1) (by have := of_decide_eq_true h; omega)]
    ·try (cases hc1; done)
     all_goals
      have hlv : 0 < l.length → level ≤ 24 := by
       intro hp
       first | (have := of_decide_eq_false h; omega) | (have := of_decide_eq_false hc1; omega)
      refine awp_skip ?_; try simp only [RR]
      refine awp_seq ?_
      refine awp_seq_k fun K hK => ?_
      refine awp_region rfl ?_
      simp only [List.length_map, RR, seval]
      refine hK _ _ ?_; clear hK K
      refine awp_name fun F1 M1 hfr hH => ?_
      have g1 := hfr 1
      have g4 := hfr 4
      have g14 := hfr 14
      have g15 := hfr 15
      have g16 := hfr 16
      try simp only [RR, seval] at g1 g4 g14 g15 g16
      have f1 := g1; clear g1
      have f4 := g4; clear g4
      have f14 := g14; clear g14
      have f15 := g15; clear g15
      have f16 := g16; clear g16
      clear hfr hH
      refine awp_block ?_
      refine awp_each [1, 14, 15] (l.length) (fun k fr M => fr 16 = .int .i64 (k : Nat) ∧ rightE l level = rightE (l.drop k) level) ⟨f16, by rw [List.drop_zero]⟩ ?_
      rintro k F2 M2 hk0 ⟨fx, hall⟩ agx K0 hK0
      have f1 := (agx 1 rfl).trans f1
      have f14 := (agx 14 rfl).trans f14
      have f15 := (agx 15 rfl).trans f15
      have f16 := fx; clear fx
      have ag0 := agree.refl [1, 14, 15] F2
      clear agx
      refine awp_seq_k fun K hK => ?_
      refine awp_region rfl ?_
      simp only [f15, f16, RR, seval]
      refine hK _ _ ?_; clear hK K
      refine awp_seq ?_
      refine awp_if _ rfl (fun hc => ?_) (fun hc => ?_)
      ·have hlt0 : k < l.length := by have := of_decide_eq_true hc; omega
       clear hc
       have hg := getE (List.getElem?_eq_getElem hlt0)
       have hm := List.getElem_mem hlt0
       have hke := (hok.all _ hm).kids
       have hsz := szE_mem hm
       rw [List.drop_eq_getElem_cons hlt0, rightE_cons, rightX_form _ _ (hlv (by omega))] at hall
       generalize l[k] = e at hg hall hke hsz
       have hz := e.sz_eq
       have hfm := exprForm_con e
       rw [e.row_eq] at hfm
       have hih := ih (szE e.kids) (by omega) e.kids (level + 1) (Nat.le_refl _) hke.fit hke (by have := hlv (by omega); omega) (by have := hlv (by omega); omega)
       have w1 : IntKind.wrap .i64 (level + 1) = level + 1 := by have := hlv (by omega); rw [IntWalk.i64_in _ (by omega)]
       generalize formX e = FX at *
       generalize rightE e.kids (level + 1) = RK at *
       refine awp_skip ?_; try simp only [RR]
       refine awp_seq ?_
       refine awp_block ?_
       refine awp_seq_k fun K hK => ?_
       refine awp_region rfl ?_
       simp only [f14, f16, hg, RR, seval]
       refine awpN_intro fun b6 hn6 => ?_
       simp only [RR, seval]
       refine hK _ _ ?_; clear hK K
       refine awp_seq_k fun K hK => ?_
       refine awp_region rfl ?_
       simp only [RR, seval]
       all_goals try (refine awpC_pure' (hfm) ?_; simp only [RR, seval])
       all_goals try ((first | refine awpG_splitN (fun h => ?_) (fun h => ?_) | refine awpG_split (fun h => ?_) (fun h => ?_)) <;> simp only [h, f1, w1, RR, seval])
       all_goals try (refine awpC_pure' (hih) ?_; simp only [RR, seval])
       all_goals
        refine hK _ _ ?_; clear hK K
        refine awp_if _ rfl (fun hc6 => ?_) (fun hc6 => ?_)
        ·try (cases hc6; done)
         all_goals
          refine awp_seq_k fun K hK => ?_
          refine awp_region rfl ?_
          simp only [RR, seval]
          refine hK _ _ ?_; clear hK K
          refine awp_ret ?_; simp only [bodyQ, aresult, ares, RR, seval]
          refine Gives.pure ?_
          rw [hall]
          simp_all
        ·try (cases hc6; done)
         all_goals
          refine awp_skip ?_; try simp only [RR]
          refine awp_region rfl ?_
          simp only [f16, RR, seval]
          try rw [IntWalk.i64_in _ (by omega)]
          refine hK0 _ _ hlt0 ⟨by first | rfl | (simp only [upd_app, seval]; rfl), by rw [hall]; simp_all⟩ (by repeat (first | exact ag0 | refine agree.upd rfl ?_))
      ·have hkn0 : k = l.length := by have := of_decide_eq_false hc; omega
       clear hc
       refine awp_exit ?_; simp only [RR, seval]
       refine awp_seq_k fun K hK => ?_
       refine awp_region rfl ?_
       simp only [RR, seval]
       refine hK _ _ ?_; clear hK K
       refine awp_ret ?_; simp only [bodyQ, aresult, ares, RR, seval]
       refine Gives.pure ?_
       rw [hall, hkn0, List.drop_length, rightE_nil]
end Go.Proofs.YtnfbbjhdflhmjaaDoor
namespace Go.Proofs.YtnfbbjhdflhmjaaDoor
open Go.Al
theorem headS_level (e : Sm) (level : Int) (h : level ≤ 24) : headS e level = headS e 0 := by
 simp only [headS, decide_eq_true h]
 rfl
theorem rightM_form (e : Sm) (level : Int) (h : level ≤ 24) : rightM e level = (formS e && rightE e.es (level + 1) && rightS e.thn (level + 1) && rightS e.els (level + 1)) := by
 simp only [rightM, formS, headS_level e level h]
theorem rightS_high (l : List Sm) (level : Int) (h : 24 < level) (hl : 0 < l.length) : rightS l level = false := by
 cases l with
 | nil => simp at hl
 | cons e l =>
   rw [rightS_cons]
   have : headS e level = false := by simp only [headS, decide_eq_false (show ¬ level ≤ 24 by omega), Bool.false_and]
   simp only [rightM, this, Bool.false_and]
theorem rightStmts_con (n : Nat) : ∀ (l : List Sm) (level : Int), szS l ≤ n → okS l → -1000000 ≤ level → level ≤ 1000000 → PCon env 68 [.isl 5 (l.map Sm.row), .int .i64 level] (.bool (rightS l level)) := by
 induction n using Nat.strongRecOn with
 | _ n ih =>
   intro l level hn hok h1 h2
   have hfit := hok.fit
   simp only [fitL] at hfit
   have hhigh := rightS_high l level
   refine con_of 46 [.tmp 4] Tryd.func68 rfl rfl rfl rfl ?_
   refine awp_seq_k fun K hK => ?_
   refine awp_region rfl ?_
   simp only [RR, seval]
   refine hK _ _ ?_; clear hK K
   refine awp_seq ?_
   refine awp_seq_k fun K hK => ?_
   refine awp_region rfl ?_
   simp only [List.length_map, RR, seval]
   repeat' ((first | refine awpG_splitN (fun h => ?_) (fun h => ?_) | refine awpG_split (fun h => ?_) (fun h => ?_)) <;> simp only [h, RR, seval])
   all_goals
    refine hK _ _ ?_; clear hK K
    refine awp_if _ rfl (fun hc1 => ?_) (fun hc1 => ?_)
    ·try (cases hc1; done)
     all_goals
      refine awp_seq_k fun K hK => ?_
      refine awp_region rfl ?_
      simp only [RR, seval]
      refine hK _ _ ?_; clear hK K
      refine awp_ret ?_; simp only [bodyQ, aresult, ares, RR, seval]
      refine Gives.pure ?_
      rw [hhigh (of_decide_eq_true hc1) (by have := of_decide_eq_true h; omega)]
    ·try (cases hc1; done)
     all_goals
      have hlv : 0 < l.length → level ≤ 24 := by
       intro hp
       first | (have := of_decide_eq_false h; omega) | (have := of_decide_eq_false hc1; omega)
      refine awp_skip ?_; try simp only [RR]
      refine awp_seq ?_
      refine awp_seq_k fun K hK => ?_
      refine awp_region rfl ?_
      simp only [List.length_map, RR, seval]
      refine hK _ _ ?_; clear hK K
      refine awp_name fun F1 M1 hfr hH => ?_
      have g1 := hfr 1
      have g4 := hfr 4
      have g14 := hfr 14
      have g15 := hfr 15
      have g16 := hfr 16
      try simp only [RR, seval] at g1 g4 g14 g15 g16
      have f1 := g1; clear g1
      have f4 := g4; clear g4
      have f14 := g14; clear g14
      have f15 := g15; clear g15
      have f16 := g16; clear g16
      clear hfr hH
      refine awp_block ?_
      refine awp_each [1, 14, 15] (l.length) (fun k fr M => fr 16 = .int .i64 (k : Nat) ∧ rightS l level = rightS (l.drop k) level) ⟨f16, by rw [List.drop_zero]⟩ ?_
      rintro k F2 M2 hk0 ⟨fx, hall⟩ agx K0 hK0
      have f1 := (agx 1 rfl).trans f1
      have f14 := (agx 14 rfl).trans f14
      have f15 := (agx 15 rfl).trans f15
      have f16 := fx; clear fx
      have ag0 := agree.refl [1, 14, 15] F2
      clear agx
      refine awp_seq_k fun K hK => ?_
      refine awp_region rfl ?_
      simp only [f15, f16, RR, seval]
      refine hK _ _ ?_; clear hK K
      refine awp_seq ?_
      refine awp_if _ rfl (fun hc => ?_) (fun hc => ?_)
      ·have hlt0 : k < l.length := by have := of_decide_eq_true hc; omega
       clear hc
       have hg := getS (List.getElem?_eq_getElem hlt0)
       have hm := List.getElem_mem hlt0
       have hoe := hok.all _ hm
       have hsz := szS_mem hm
       rw [List.drop_eq_getElem_cons hlt0, rightS_cons, rightM_form _ _ (hlv (by omega))] at hall
       generalize l[k] = e at hg hall hoe hsz
       have hz := e.sz_eq
       have hfm := stmtForm_con e
       rw [e.row_eq] at hfm
       have hl2 := hlv (by omega)
       have hE := rightExprs_con _ e.es (level + 1) (Nat.le_refl _) hoe.es.fit hoe.es (by omega) (by omega)
       have hT := ih (szS e.thn) (by omega) e.thn (level + 1) (Nat.le_refl _) hoe.thn (by omega) (by omega)
       have hU := ih (szS e.els) (by omega) e.els (level + 1) (Nat.le_refl _) hoe.els (by omega) (by omega)
       have w1 : IntKind.wrap .i64 (level + 1) = level + 1 := by rw [IntWalk.i64_in _ (by omega)]
       generalize formS e = FX at *
       generalize rightE e.es (level + 1) = RE at *
       generalize rightS e.thn (level + 1) = RT at *
       generalize rightS e.els (level + 1) = RU at *
       clear ih hoe hm hok
       cases FX <;> cases RE <;> cases RT <;> cases RU
       all_goals
        refine awp_skip ?_; try simp only [RR]
        refine awp_seq ?_
        refine awp_block ?_
        refine awp_seq_k fun K hK => ?_
        refine awp_region rfl ?_
        simp only [f14, f16, hg, RR, seval]
        refine awpN_intro fun b6 hn6 => ?_
        simp only [RR, seval]
        refine hK _ _ ?_; clear hK K
        refine awp_seq ?_
        refine awp_seq_k fun K hK => ?_
        refine awp_region rfl ?_
        simp only [RR, seval]
        all_goals try (refine awpC_pure' (hfm) ?_; simp only [f1, w1, RR, seval])
        all_goals try ((first | refine awpG_splitN (fun h => ?_) (fun h => ?_) | refine awpG_split (fun h => ?_) (fun h => ?_)) <;> simp only [h, f1, f14, f15, f16, List.length_map, hg, w1, RR, seval])
        all_goals try (refine awpC_pure' (hE) ?_; simp only [RR, seval])
        all_goals
         refine hK _ _ ?_; clear hK K
         refine awp_if _ rfl (fun hc6 => ?_) (fun hc6 => ?_)
         ·try (cases hc6; done)
          all_goals
           refine awp_seq_k fun K hK => ?_
           refine awp_region rfl ?_
           simp only [RR, seval]
           refine hK _ _ ?_; clear hK K
           refine awp_ret ?_; simp only [bodyQ, aresult, ares, RR, seval]
           refine Gives.pure ?_
           rw [hall]
           rfl
         ·try (cases hc6; done)
          all_goals
           refine awp_skip ?_; try simp only [RR]
           refine awp_seq_k fun K hK => ?_
           refine awp_region rfl ?_
           simp only [f1, w1, RR, seval]
           all_goals try (refine awpC_pure' (hT) ?_; simp only [f1, w1, RR, seval])
           all_goals try ((first | refine awpG_splitN (fun h => ?_) (fun h => ?_) | refine awpG_split (fun h => ?_) (fun h => ?_)) <;> simp only [h, f1, f14, f15, f16, List.length_map, hg, w1, RR, seval])
           all_goals try (refine awpC_pure' (hU) ?_; simp only [RR, seval])
           all_goals
            refine hK _ _ ?_; clear hK K
            refine awp_if _ rfl (fun hc8 => ?_) (fun hc8 => ?_)
            ·try (cases hc8; done)
             all_goals
              refine awp_seq_k fun K hK => ?_
              refine awp_region rfl ?_
              simp only [RR, seval]
              refine hK _ _ ?_; clear hK K
              refine awp_ret ?_; simp only [bodyQ, aresult, ares, RR, seval]
              refine Gives.pure ?_
              rw [hall]
              rfl
            ·try (cases hc8; done)
             all_goals
              refine awp_skip ?_; try simp only [RR]
              refine awp_region rfl ?_
              simp only [f16, RR, seval]
              try rw [IntWalk.i64_in _ (by omega)]
              refine hK0 _ _ hlt0 ⟨by first | rfl | (simp only [upd_app, seval]; rfl), by rw [hall]; rfl⟩ (by repeat (first | exact ag0 | refine agree.upd rfl ?_))
      ·have hkn0 : k = l.length := by have := of_decide_eq_false hc; omega
       clear hc
       refine awp_exit ?_; simp only [RR, seval]
       refine awp_seq_k fun K hK => ?_
       refine awp_region rfl ?_
       simp only [RR, seval]
       refine hK _ _ ?_; clear hK K
       refine awp_ret ?_; simp only [bodyQ, aresult, ares, RR, seval]
       refine Gives.pure ?_
       rw [hall, hkn0, List.drop_length, rightS_nil]
end Go.Proofs.YtnfbbjhdflhmjaaDoor
namespace Go.Proofs.YtnfbbjhdflhmjaaDoor
open Go.Al
theorem pRight_con (p : Pg) (hp : p.ok) : PCon env 49 [p.av] (.bool (rightP p)) := by
 have hff := hp.ffit
 have hof := hp.funs
 simp only [fitL] at hff
 have hV := allStand_con p.vars hp.vars.fit
 have hP : rightP p = (p.vars.all nameB && decide (1 ≤ p.funs.length) && decide (p.funs.length ≤ 64) && p.arrs.all rightA && p.funs.all rightF) := rfl
 have hA : ∀ a : Ar, rightA a = (nameB a.name && decide (1 ≤ a.size) && decide (a.size ≤ 4096)) := fun _ => rfl
 have hF : ∀ f : Fu, rightF f = (nameB f.name && decide (f.params.length ≤ 6) && f.params.all nameB && f.locs.all nameB && rightS f.body 1) := fun _ => rfl
 have hal := hp.afit
 simp only [fitL] at hal
 have z1 : decide ((p.funs.length : Int) < 1) = !decide (1 ≤ p.funs.length) := by rw [Bool.eq_iff_iff]; simp only [decide_eq_true_eq, Bool.not_eq_true', decide_eq_false_iff_not]; omega
 have z2 : decide (64 < (p.funs.length : Int)) = !decide (p.funs.length ≤ 64) := by rw [Bool.eq_iff_iff]; simp only [decide_eq_true_eq, Bool.not_eq_true', decide_eq_false_iff_not]; omega
 generalize rightP p = res at *
 generalize decide (1 ≤ p.funs.length) = C1 at *
 generalize decide (p.funs.length ≤ 64) = C2 at *
 generalize p.vars.all nameB = V at *
 obtain ⟨vs, aa, fs⟩ := p
 simp only [Pg.av, Pg.row] at *
 clear hp
 refine con_of 79 [.tmp 2] Tryd.func49 rfl rfl rfl rfl ?_
 refine awp_seq_k fun K hK => ?_
 refine awp_region rfl ?_
 simp only [RR, seval]
 refine awpN_intro fun b1 hn1 => ?_
 simp only [RR, seval]
 refine hK _ _ ?_; clear hK K
 refine awp_seq ?_
 refine awp_seq_k fun K hK => ?_
 refine awp_region rfl ?_
 simp only [List.length_map, z1, RR, seval]
 all_goals try ((first | refine awpG_splitN (fun h => ?_) (fun h => ?_) | refine awpG_split (fun h => ?_) (fun h => ?_)) <;> simp only [h, List.length_map, z2, RR, seval])
 all_goals try ((first | refine awpG_splitN (fun h => ?_) (fun h => ?_) | refine awpG_split (fun h => ?_) (fun h => ?_)) <;> simp only [h, RR, seval])
 all_goals try (refine awpC_pure' (hV) ?_; simp only [RR, seval])
 all_goals
  refine hK _ _ ?_; clear hK K
  refine awp_if _ rfl (fun hc1 => ?_) (fun hc1 => ?_)
  ·try (cases hc1; done)
   all_goals
    refine awp_seq_k fun K hK => ?_
    refine awp_region rfl ?_
    simp only [RR, seval]
    refine hK _ _ ?_; clear hK K
    refine awp_ret ?_; simp only [bodyQ, aresult, ares, RR, seval]
    refine Gives.pure ?_
    rw [hP]
    clear hA hF hof
    simp_all
  ·try (cases hc1; done)
   all_goals
    have hP2 : res = (aa.all rightA && fs.all rightF) := by
     rw [hP]
     clear hA hF hof
     simp_all
    clear hP
    refine awp_skip ?_; try simp only [RR]
    refine awp_seq ?_
    refine awp_seq_k fun K hK => ?_
    refine awp_region rfl ?_
    simp only [List.length_map, RR, seval]
    refine hK _ _ ?_; clear hK K
    refine awp_name fun F1 M1 hfr hH => ?_
    have g1 := hfr 1
    have g2 := hfr 2
    have g24 := hfr 24
    have g25 := hfr 25
    have g26 := hfr 26
    have gb1 := hH b1
    try simp only [RR, seval] at g1 g2 g24 g25 g26 gb1
    have f1 := g1; clear g1
    have f2 := g2; clear g2
    have f24 := g24; clear g24
    have f25 := g25; clear g25
    have f26 := g26; clear g26
    have hb1 := gb1; clear gb1
    clear hfr hH
    refine awp_block ?_
    refine awp_each [1, 24, 25] (aa.length) (fun k fr M => fr 26 = .int .i64 (k : Nat) ∧ M b1 = M1 b1 ∧ aa.all rightA = (aa.drop k).all rightA) ⟨f26, rfl, by rw [List.drop_zero]⟩ ?_
    rintro k F2 M2 hk0 ⟨fx, gb1, hall⟩ agx K0 hK0
    have f1 := (agx 1 rfl).trans f1
    have f24 := (agx 24 rfl).trans f24
    have f25 := (agx 25 rfl).trans f25
    have f26 := fx; clear fx
    have hb1 := gb1.trans hb1
    have ag0 := agree.refl [1, 24, 25] F2
    have e0_b1 := gb1; clear gb1
    clear agx
    refine awp_seq_k fun K hK => ?_
    refine awp_region rfl ?_
    simp only [f25, f26, RR, seval]
    refine hK _ _ ?_; clear hK K
    refine awp_seq ?_
    refine awp_if _ rfl (fun hc => ?_) (fun hc => ?_)
    ·have hlt0 : k < aa.length := by have := of_decide_eq_true hc; omega
     clear hc
     have hg := getA (List.getElem?_eq_getElem hlt0)
     rw [List.drop_eq_getElem_cons hlt0, List.all_cons, hA] at hall
     generalize aa[k] = a at hg hall
     have hm := mayStand_con a.name
     have z3 : decide (a.size < 1) = !decide (1 ≤ a.size) := by rw [Bool.eq_iff_iff]; simp only [decide_eq_true_eq, Bool.not_eq_true', decide_eq_false_iff_not]; omega
     have z4 : decide (4096 < a.size) = !decide (a.size ≤ 4096) := by rw [Bool.eq_iff_iff]; simp only [decide_eq_true_eq, Bool.not_eq_true', decide_eq_false_iff_not]; omega
     generalize decide (1 ≤ a.size) = D1 at *
     generalize decide (a.size ≤ 4096) = D2 at *
     generalize nameB a.name = D3 at *
     cases D1 <;> cases D2 <;> cases D3
     all_goals
      refine awp_skip ?_; try simp only [RR]
      refine awp_seq ?_
      refine awp_block ?_
      refine awp_seq_k fun K hK => ?_
      refine awp_region rfl ?_
      simp only [f24, f26, hg, RR, seval]
      refine awpN_intro fun b4 hn4 => ?_
      have nb4_b1 : b4 ≠ b1 := fun e => by rw [e] at hn4; simp only [hb1, seval, reduceCtorEq] at hn4
      have nb1_b4 : b1 ≠ b4 := fun e => nb4_b1 e.symm
      simp only [RR, seval]
      refine hK _ _ ?_; clear hK K
      refine awp_seq_k fun K hK => ?_
      refine awp_region rfl ?_
      simp only [RR, seval]
      refine awpC_pure' (hm) ?_
      simp only [z3, z4, RR, seval]
      refine hK _ _ ?_; clear hK K
      refine awp_if _ rfl (fun hc6 => ?_) (fun hc6 => ?_)
      ·try (cases hc6; done)
       all_goals
        refine awp_seq_k fun K hK => ?_
        refine awp_region rfl ?_
        simp only [RR, seval]
        refine hK _ _ ?_; clear hK K
        refine awp_ret ?_; simp only [bodyQ, aresult, ares, RR, seval]
        refine Gives.pure ?_
        rw [hP2, hall]
        rfl
      ·try (cases hc6; done)
       all_goals
        refine awp_skip ?_; try simp only [RR]
        refine awp_region rfl ?_
        simp only [f26, RR, seval]
        try rw [IntWalk.i64_in _ (by omega)]
        refine hK0 _ _ hlt0 ⟨by first | rfl | (simp only [upd_app, seval]; rfl), (by first | exact e0_b1 | (simp only [nb1_b4, upd_app, seval]; first | done | exact e0_b1)), by rw [hall]; rfl⟩ (by repeat (first | exact ag0 | refine agree.upd rfl ?_))
    ·have hkn0 : k = aa.length := by have := of_decide_eq_false hc; omega
     clear hc
     rw [hkn0, List.drop_length, List.all_nil] at hall
     rw [hall, Bool.true_and] at hP2
     refine awp_exit ?_; simp only [RR, seval]
     refine awp_seq ?_
     refine awp_seq_k fun K hK => ?_
     refine awp_region rfl ?_
     simp only [f1, hb1, List.length_map, RR, seval]
     refine hK _ _ ?_; clear hK K
     refine awp_name fun F3 M3 hfr hH => ?_
     have g2 := hfr 2
     have g46 := hfr 46
     have g47 := hfr 47
     have g48 := hfr 48
     have gb1 := hH b1
     try simp only [hb1, RR, seval] at g2 g46 g47 g48 gb1
     have f2 := g2; clear g2
     have f46 := g46; clear g46
     have f47 := g47; clear g47
     have f48 := g48; clear g48
     have hb1 := gb1; clear gb1
     clear hfr hH
     refine awp_block ?_
     refine awp_each [46, 47] (fs.length) (fun j fr M => fr 48 = .int .i64 (j : Nat) ∧ M b1 = M3 b1 ∧ fs.all rightF = (fs.drop j).all rightF) ⟨f48, rfl, by rw [List.drop_zero]⟩ ?_
     rintro j F4 M4 hk2 ⟨fx, gb1, hall⟩ agx K2 hK2
     have f46 := (agx 46 rfl).trans f46
     have f47 := (agx 47 rfl).trans f47
     have f48 := fx; clear fx
     have hb1 := gb1.trans hb1
     have ag2 := agree.refl [46, 47] F4
     have e2_b1 := gb1; clear gb1
     clear agx
     refine awp_seq_k fun K hK => ?_
     refine awp_region rfl ?_
     simp only [f47, f48, RR, seval]
     refine hK _ _ ?_; clear hK K
     refine awp_seq ?_
     refine awp_if _ rfl (fun hc => ?_) (fun hc => ?_)
     ·have hlt2 : j < fs.length := by have := of_decide_eq_true hc; omega
      clear hc
      have hg := getF (List.getElem?_eq_getElem hlt2)
      have hok := hof _ (List.getElem_mem hlt2)
      rw [List.drop_eq_getElem_cons hlt2, List.all_cons, hF] at hall
      generalize fs[j] = f at hg hall hok
      have hm := mayStand_con f.name
      have hq1 := allStand_con f.params hok.params.fit
      have hq2 := allStand_con f.locs hok.locs.fit
      have hq3 := rightStmts_con _ f.body 1 (Nat.le_refl _) hok.body (by omega) (by omega)
      have z5 : decide (6 < (f.params.length : Int)) = !decide (f.params.length ≤ 6) := by rw [Bool.eq_iff_iff]; simp only [decide_eq_true_eq, Bool.not_eq_true', decide_eq_false_iff_not]; omega
      generalize decide (f.params.length ≤ 6) = D1 at *
      generalize nameB f.name = D2 at *
      generalize f.params.all nameB = D3 at *
      generalize f.locs.all nameB = D4 at *
      generalize rightS f.body 1 = D5 at *
      clear hA hF hof hok
      refine awp_skip ?_; try simp only [RR]
      refine awp_seq ?_
      refine awp_block ?_
      refine awp_seq_k fun K hK => ?_
      refine awp_region rfl ?_
      simp only [f46, f48, hg, RR, seval]
      refine awpN_intro fun b6 hn6 => ?_
      have nb6_b1 : b6 ≠ b1 := fun e => by rw [e] at hn6; simp only [hb1, seval, reduceCtorEq] at hn6
      have nb1_b6 : b1 ≠ b6 := fun e => nb6_b1 e.symm
      simp only [RR, seval]
      refine hK _ _ ?_; clear hK K
      refine awp_seq ?_
      refine awp_seq_k fun K hK => ?_
      refine awp_region rfl ?_
      simp only [RR, seval]
      all_goals try (refine awpC_pure' (hm) ?_; simp only [RR, seval])
      all_goals try ((first | refine awpG_splitN (fun h => ?_) (fun h => ?_) | refine awpG_split (fun h => ?_) (fun h => ?_)) <;> simp only [h, List.length_map, z5, RR, seval])
      all_goals
       refine hK _ _ ?_; clear hK K
       refine awp_if _ rfl (fun hc12 => ?_) (fun hc12 => ?_)
       ·try (cases hc12; done)
        all_goals
         refine awp_seq_k fun K hK => ?_
         refine awp_region rfl ?_
         simp only [RR, seval]
         refine hK _ _ ?_; clear hK K
         refine awp_ret ?_; simp only [bodyQ, aresult, ares, RR, seval]
         refine Gives.pure ?_
         rw [hP2, hall]
         simp_all
       ·try (cases hc12; done)
        all_goals
         refine awp_skip ?_; try simp only [RR]
         refine awp_seq_k fun K hK => ?_
         refine awp_region rfl ?_
         simp only [RR, seval]
         all_goals try (refine awpC_pure' (hq1) ?_; simp only [RR, seval])
         all_goals try ((first | refine awpG_splitN (fun h => ?_) (fun h => ?_) | refine awpG_split (fun h => ?_) (fun h => ?_)) <;> simp only [h, RR, seval])
         all_goals try (refine awpC_pure' (hq2) ?_; simp only [RR, seval])
         all_goals try ((first | refine awpG_splitN (fun h => ?_) (fun h => ?_) | refine awpG_split (fun h => ?_) (fun h => ?_)) <;> simp only [h, RR, seval])
         all_goals try (refine awpC_pure' (hq3) ?_; simp only [RR, seval])
         all_goals
          refine hK _ _ ?_; clear hK K
          refine awp_if _ rfl (fun hc14 => ?_) (fun hc14 => ?_)
          ·try (cases hc14; done)
           all_goals
            refine awp_seq_k fun K hK => ?_
            refine awp_region rfl ?_
            simp only [RR, seval]
            refine hK _ _ ?_; clear hK K
            refine awp_ret ?_; simp only [bodyQ, aresult, ares, RR, seval]
            refine Gives.pure ?_
            rw [hP2, hall]
            simp_all
          ·try (cases hc14; done)
           all_goals
            refine awp_skip ?_; try simp only [RR]
            refine awp_region rfl ?_
            simp only [f48, RR, seval]
            try rw [IntWalk.i64_in _ (by omega)]
            refine hK2 _ _ hlt2 ⟨by first | rfl | (simp only [upd_app, seval]; rfl), (by first | exact e2_b1 | (simp only [nb1_b6, upd_app, seval]; first | done | exact e2_b1)), by rw [hall]; simp_all⟩ (by repeat (first | exact ag2 | refine agree.upd rfl ?_))
     ·have hkn2 : j = fs.length := by have := of_decide_eq_false hc; omega
      clear hc
      refine awp_exit ?_; simp only [RR, seval]
      refine awp_seq_k fun K hK => ?_
      refine awp_region rfl ?_
      simp only [RR, seval]
      refine hK _ _ ?_; clear hK K
      refine awp_ret ?_; simp only [bodyQ, aresult, ares, RR, seval]
      refine Gives.pure ?_
      rw [hP2, hall, hkn2, List.drop_length]
      rfl
end Go.Proofs.YtnfbbjhdflhmjaaDoor
