/- Chapter 18: the value of an expression alone. -/
import Derived.Test.YtlokndnkpleegaaM18s
set_option linter.unusedSimpArgs false
set_option linter.unusedVariables false
set_option maxRecDepth 10000
namespace Go.Al
mutual
def plX : Ex → Bool
  | .mk k _ _ _ l => !(decide (k = 2) || decide (k = 3) || decide (k = 4) || decide (k = 5)) && plE l
def plE : List Ex → Bool
  | [] => true
  | e :: l => plX e && plE l
end
theorem plE_all : ∀ l : List Ex, plE l = l.all plX
  | [] => by simp only [plE, List.all_nil]
  | e :: l => by simp only [plE, List.all_cons, plE_all l]
theorem plX_eq (k o m : Int) (s : Str) (l : List Ex) : plX (.mk k o m s l) = (!(decide (k = 2) || decide (k = 3) || decide (k = 4) || decide (k = 5)) && l.all plX) := by
  simp only [plX, plE_all]
def valX : Nat → Ex → Option (Int × Int)
  | 0, _ => none
  | n + 1, .mk k o m _ l => if k = 1 then some (m, 0) else
    (l[0]?).bind fun a => (valX n a).bind fun p => if ¬ p.2 = 0 then some (0, p.2) else if k = 7 then some (if p.1 = 0 then 1 else 0, 0)
      else if (k = 8 ∧ p.1 = 0) ∨ (k = 9 ∧ ¬ p.1 = 0) then some (p.1, 0)
      else (l[1]?).bind fun b => (valX n b).bind fun q => if ¬ q.2 = 0 then some (0, q.2) else if k = 6 then some (applyI o p.1 q.1) else some (q.1, 0)
theorem valX_u : ∀ (n : Nat) (e : Ex) (p : Int × Int), e.ok → valX n e = some p → u32R p.1
  | 0, _, _, _, h => by simp [valX] at h
  | n + 1, .mk k o m s l, p, he, h => by
    have z : u32R 0 := by simp [u32R]
    have hm : u32R m := he.num
    have hk : okE l := he.kids
    rw [valX] at h
    by_cases h1 : k = 1
    · rw [if_pos h1] at h; cases h; exact hm
    rw [if_neg h1] at h
    obtain ⟨a, ha, h⟩ := Option.bind_eq_some_iff.1 h
    obtain ⟨x, hx, h⟩ := Option.bind_eq_some_iff.1 h
    have ux := valX_u n a x (hk.all _ (List.mem_of_getElem? ha)) hx
    split at h
    · cases h; exact z
    split at h
    · cases h; dsimp only; split <;> simp [u32R]
    split at h
    · cases h; exact ux
    obtain ⟨b, hb, h⟩ := Option.bind_eq_some_iff.1 h
    obtain ⟨y, hy, h⟩ := Option.bind_eq_some_iff.1 h
    have uy := valX_u n b y (hk.all _ (List.mem_of_getElem? hb)) hy
    split at h
    · cases h; exact z
    split at h
    · cases h; exact applyI_u o ux uy
    · cases h; exact uy
def valV (e : Ex) (p : Int × Int) : Int × Int := if plX e then p else (0, 1)
end Go.Al
namespace Go.Proofs.Ytlokndnkpleegaa
open Go.Al
theorem mplain_con (n : Nat) : ∀ e : Ex, e.sz ≤ n → e.ok → PCon env 39 [.agg e.row] (.bool (plX e)) := by
  induction n using Nat.strongRecOn with
  | _ n ih =>
    intro e hn he
    have hz := e.sz_eq
    have hk := he.kids
    rw [e.row_eq]
    obtain ⟨k, o, m, s, l⟩ := e
    simp only [Ex.kind, Ex.op, Ex.num, Ex.name, Ex.kids] at *
    have hq := plX_eq k o m s l
    have hl := hk.fit
    simp only [fitL] at hl
    generalize plX (.mk k o m s l) = res at *
    refine con_of 23 [.tmp 2] Try.func39 rfl rfl rfl rfl ?_
    refine awp_seq_k fun K hK => ?_
    refine awp_region rfl ?_
    simp only [List.length_map, RR, seval]
    refine awpN_intro fun b1 hn1 => ?_
    simp only [List.length_map, RR, seval]
    refine hK _ _ ?_; clear hK K
    refine awp_seq ?_
    refine awp_seq_k fun K hK => ?_
    refine awp_region rfl ?_
    simp only [List.length_map, RR, seval]
    refine hK _ _ ?_; clear hK K
    refine awp_block ?_
    refine awp_seq ?_
    refine awp_seq_k fun K hK => ?_
    refine awp_region rfl ?_
    simp only [List.length_map, RR, seval]
    refine hK _ _ ?_; clear hK K
    refine awp_name fun F1 M1 hfr hH => ?_
    have g1 := hfr 1
    have g2 := hfr 2
    have g6 := hfr 6
    have g7 := hfr 7
    have gb1 := hH b1
    try simp only [List.length_map, RR, seval] at g1 g2 g6 g7 gb1
    have f1 := g1; clear g1
    have f2 := g2; clear g2
    have f6 := g6; clear g6
    have f7 := g7; clear g7
    have hb1 := gb1; clear gb1
    clear hfr hH
    refine awp_cutP (fun fr M => agree [1, 2] F1 fr ∧ M b1 = M1 b1 ∧ fr 7 = .bool (decide (k = 2) || decide (k = 3) || decide (k = 4) || decide (k = 5))) (fun KC2 hKC2 => ?_) ?_
    · have agC2 := agree.refl [1, 2] F1
      have eC2_b1 : M1 b1 = M1 b1 := rfl
      refine awp_if _ (by first | rfl | exact f7) (fun hc2 => ?_) (fun hc2 => ?_)
      · refine awp_skip ?_; try simp only [RR]
        refine hKC2 _ _ ⟨(by repeat (first | exact agC2 | refine agree.upd rfl ?_)), (by first | exact eC2_b1 | (simp only [upd_app, seval]; first | done | exact eC2_b1)), ?_⟩
        first | (rw [f7, hc2]; rfl) | (rw [f7]; simp [hc2]; done) | (simp only [upd_app, seval, f7]; simp [*]; done) | (simp [*]; done) | skip
      · refine awp_seq_k fun K hK => ?_
        refine awp_region rfl ?_
        simp only [f1, f2, f6, f7, hb1, List.length_map, RR, seval]
        refine hK _ _ ?_; clear hK K
        refine awp_if _ (by first | rfl | exact f7) (fun hc3 => ?_) (fun hc3 => ?_)
        · refine awp_skip ?_; try simp only [RR]
          refine hKC2 _ _ ⟨(by repeat (first | exact agC2 | refine agree.upd rfl ?_)), (by first | exact eC2_b1 | (simp only [upd_app, seval]; first | done | exact eC2_b1)), ?_⟩
          first | (rw [f7, hc2]; rfl) | (rw [f7]; simp [hc2]; done) | (simp only [upd_app, seval, f7]; simp [*]; done) | (simp [*]; done) | skip
        · refine awp_seq_k fun K hK => ?_
          refine awp_region rfl ?_
          simp only [f1, f2, f6, f7, hb1, List.length_map, RR, seval]
          refine hK _ _ ?_; clear hK K
          refine awp_if _ (by first | rfl | exact f7) (fun hc4 => ?_) (fun hc4 => ?_)
          · refine awp_skip ?_; try simp only [RR]
            refine hKC2 _ _ ⟨(by repeat (first | exact agC2 | refine agree.upd rfl ?_)), (by first | exact eC2_b1 | (simp only [upd_app, seval]; first | done | exact eC2_b1)), ?_⟩
            first | (rw [f7, hc2]; rfl) | (rw [f7]; simp [hc2]; done) | (simp only [upd_app, seval, f7]; simp [*]; done) | (simp [*]; done) | skip
          · refine awp_region rfl ?_
            simp only [f1, f2, f6, f7, hb1, List.length_map, RR, seval]
            refine hKC2 _ _ ⟨(by repeat (first | exact agC2 | refine agree.upd rfl ?_)), (by first | exact eC2_b1 | (simp only [upd_app, seval]; first | done | exact eC2_b1)), ?_⟩
            first | (rw [f7, hc2]; rfl) | (rw [f7]; simp [hc2]; done) | (simp only [upd_app, seval, f7]; simp [*]; done) | (simp [*]; done) | skip
    rintro F2 M2 ⟨agx, gb1, f7⟩
    have f1 := (agx 1 rfl).trans f1
    have f2 := (agx 2 rfl).trans f2
    have hb1 := gb1.trans hb1
    clear agx
    clear gb1
    simp only [RR, seval]
    generalize (decide (k = 2) || decide (k = 3) || decide (k = 4) || decide (k = 5)) = bk at *
    refine awp_if _ (by first | rfl | exact f7) (fun hc5 => ?_) (fun hc5 => ?_)
    · refine awp_seq_k fun K hK => ?_
      refine awp_region rfl ?_
      simp only [f1, f2, f7, hb1, List.length_map, RR, seval]
      refine hK _ _ ?_; clear hK K
      refine awp_ret ?_; simp only [bodyQ, aresult, ares, f1, f2, f7, hb1, List.length_map, RR, seval]
      refine Gives.pure ?_
      rw [hq, hc5]; rfl
    · refine awp_skip ?_; try simp only [RR]
      refine awp_seq ?_
      refine awp_seq_k fun K hK => ?_
      refine awp_region rfl ?_
      simp only [f1, f2, f7, hb1, List.length_map, RR, seval]
      refine hK _ _ ?_; clear hK K
      refine awp_name fun F3 M3 hfr hH => ?_
      have g2 := hfr 2
      have g13 := hfr 13
      have g14 := hfr 14
      have g15 := hfr 15
      have gb1 := hH b1
      try simp only [f1, f2, f7, hb1, List.length_map, RR, seval] at g2 g13 g14 g15 gb1
      have f2 := g2; clear g2
      have f13 := g13; clear g13
      have f14 := g14; clear g14
      have f15 := g15; clear g15
      have hb1 := gb1; clear gb1
      clear hfr hH
      refine awp_block ?_
      refine awp_each [13, 14] (l.length) (fun k1 fr M => fr 15 = .int .i64 (k1 : Nat) ∧ M b1 = M3 b1 ∧ l.all plX = (l.drop k1).all plX) ⟨f15, rfl, rfl⟩ ?_
      rintro k1 F4 M4 hk1 ⟨fx, gb1, hall⟩ agx K1 hK1
      have f13 := (agx 13 rfl).trans f13
      have f14 := (agx 14 rfl).trans f14
      have f15 := fx; clear fx
      have hb1 := gb1.trans hb1
      have ag1 := agree.refl [13, 14] F4
      have e1_b1 := gb1; clear gb1
      clear agx
      refine awp_seq_k fun K hK => ?_
      refine awp_region rfl ?_
      simp only [f13, f14, f15, hb1, List.length_map, RR, seval]
      refine hK _ _ ?_; clear hK K
      refine awp_seq ?_
      refine awp_if _ rfl (fun hc => ?_) (fun hc => ?_)
      · have hlt1 : k1 < l.length := by have := of_decide_eq_true hc; omega
        clear hc
        have hg := getE (List.getElem?_eq_getElem hlt1)
        have hsz := szE_mem (List.getElem_mem hlt1)
        have heo := hk.all _ (List.getElem_mem hlt1)
        rw [List.drop_eq_getElem_cons hlt1, List.all_cons] at hall
        generalize l[k1] = e at *
        have hih := ih e.sz (by omega) e (Nat.le_refl _) heo
        rw [e.row_eq] at hih
        refine awp_skip ?_; try simp only [RR]
        refine awp_seq ?_
        refine awp_block ?_
        refine awp_seq_k fun K hK => ?_
        refine awp_region rfl ?_
        simp only [f13, f14, f15, hb1, List.length_map, hg, RR, seval]
        refine awpN_intro fun b4 hn4 => ?_
        have nb4_b1 : b4 ≠ b1 := fun e => by rw [e] at hn4; simp only [f13, f14, f15, hb1, List.length_map, hg, RR, seval, reduceCtorEq] at hn4
        have nb1_b4 : b1 ≠ b4 := fun e => nb4_b1 e.symm
        simp only [f13, f14, f15, hb1, nb4_b1, nb1_b4, List.length_map, hg, RR, seval]
        refine hK _ _ ?_; clear hK K
        refine awp_seq_k fun K hK => ?_
        refine awp_region rfl ?_
        simp only [f13, f14, f15, hb1, nb4_b1, nb1_b4, List.length_map, hg, RR, seval]
        refine awpC_pure' (hih) ?_
        simp only [f13, f14, f15, hb1, nb4_b1, nb1_b4, List.length_map, hg, RR, seval]
        refine hK _ _ ?_; clear hK K
        refine awp_if _ rfl (fun hc10 => ?_) (fun hc10 => ?_)
        · refine awp_seq_k fun K hK => ?_
          refine awp_region rfl ?_
          simp only [f13, f14, f15, hb1, nb4_b1, nb1_b4, List.length_map, hg, RR, seval]
          refine hK _ _ ?_; clear hK K
          refine awp_ret ?_; simp only [bodyQ, aresult, ares, f13, f14, f15, hb1, nb4_b1, nb1_b4, List.length_map, hg, RR, seval]
          refine Gives.pure ?_
          simp_all
        · refine awp_skip ?_; try simp only [RR]
          refine awp_region rfl ?_
          simp only [f13, f14, f15, hb1, nb4_b1, nb1_b4, List.length_map, hg, RR, seval]
          try rw [IntWalk.i64_in _ (by omega)]
          refine hK1 _ _ hlt1 ⟨by first | rfl | (simp only [upd_app, seval]; rfl), (by first | exact e1_b1 | (simp only [nb4_b1, nb1_b4, upd_app, seval]; first | done | exact e1_b1)), by rw [hall]; simp_all⟩ (by repeat (first | exact ag1 | refine agree.upd rfl ?_))
      · have hkn1 : k1 = l.length := by have := of_decide_eq_false hc; omega
        clear hc
        rw [hkn1, List.drop_length, List.all_nil] at hall
        refine awp_exit ?_; simp only [RR, seval]
        refine awp_seq_k fun K hK => ?_
        refine awp_region rfl ?_
        simp only [f13, f14, f15, hb1, List.length_map, RR, seval]
        refine hK _ _ ?_; clear hK K
        refine awp_ret ?_; simp only [bodyQ, aresult, ares, f13, f14, f15, hb1, List.length_map, RR, seval]
        refine Gives.pure ?_
        simp_all
set_option maxHeartbeats 4000000 in
/-- one step, its kids' values known -/
theorem plainValue_con (n : Nat) : ∀ (e : Ex) (p : Int × Int), valX n e = some p → e.ok → PCon env 40 [.agg e.row] (.tup [.int .u32 p.1, .int .i64 p.2]) := by
  induction n with
  | zero => intro e p h; simp [valX] at h
  | succ n ih =>
    intro e p h he
    have hk := he.kids
    rw [e.row_eq]
    obtain ⟨k, o, m, s, l⟩ := e
    simp only [Ex.kind, Ex.op, Ex.num, Ex.name, Ex.kids] at *
    rw [valX] at h
    by_cases h1 : k = 1
    · rw [if_pos h1] at h
      cases h
      have d1 : decide (k = 1) = true := decide_eq_true h1
      refine con_of 73 [.tmp 2, .tmp 3] Try.func40 rfl rfl rfl rfl ?_
      refine awp_seq_k fun K hK => ?_
      refine awp_region rfl ?_
      simp only [d1, RR, seval]
      refine awpN_intro fun b1 hn1 => ?_
      simp only [d1, RR, seval]
      refine hK _ _ ?_; clear hK K
      refine awp_seq ?_
      refine awp_seq_k fun K hK => ?_
      refine awp_region rfl ?_
      simp only [d1, RR, seval]
      refine hK _ _ ?_; clear hK K
      refine awp_if true rfl (fun _ => ?_) (fun hc => by cases hc)
      refine awp_seq_k fun K hK => ?_
      refine awp_region rfl ?_
      simp only [d1, RR, seval]
      refine hK _ _ ?_; clear hK K
      refine awp_ret ?_; simp only [bodyQ, aresult, ares, d1, RR, seval]
      refine Gives.pure ?_
      rfl
    rw [if_neg h1] at h
    have d1 : decide (k = 1) = false := decide_eq_false h1
    obtain ⟨a, ha, h⟩ := Option.bind_eq_some_iff.1 h
    obtain ⟨⟨x, f⟩, hx, h⟩ := Option.bind_eq_some_iff.1 h
    have hca := ih a _ hx (hk.all _ (List.mem_of_getElem? ha))
    have hga := getE ha
    rw [a.row_eq] at hca
    have hl0 : ((0 : Nat) : Int) < (l.length : Int) := by have := (List.getElem?_eq_some_iff.1 ha).1; omega
    dsimp only at h hca
    by_cases h2 : ¬ f = 0
    · rw [if_pos h2] at h
      cases h
      have d2 : (!decide (f = 0)) = true := by simp [h2]
      refine con_of 73 [.tmp 2, .tmp 3] Try.func40 rfl rfl rfl rfl ?_
      refine awp_seq_k fun K hK => ?_
      refine awp_region rfl ?_
      simp only [d1, hga, d2, RR, seval]
      refine awpN_intro fun b1 hn1 => ?_
      simp only [d1, hga, d2, RR, seval]
      refine hK _ _ ?_; clear hK K
      refine awp_seq ?_
      refine awp_seq_k fun K hK => ?_
      refine awp_region rfl ?_
      simp only [d1, hga, d2, RR, seval]
      refine hK _ _ ?_; clear hK K
      refine awp_if false rfl (fun hc => by cases hc) (fun _ => ?_)
      refine awp_skip ?_; try simp only [RR]
      refine awp_seq_k fun K hK => ?_
      refine awp_region rfl ?_
      simp only [d1, hga, d2, RR, seval]
      refine awpC_pure' (hca) ?_
      simp only [d1, hga, d2, RR, seval]
      refine hK _ _ ?_; clear hK K
      refine awp_seq ?_
      refine awp_seq_k fun K hK => ?_
      refine awp_region rfl ?_
      simp only [d1, hga, d2, RR, seval]
      refine hK _ _ ?_; clear hK K
      refine awp_if true rfl (fun _ => ?_) (fun hc => by cases hc)
      refine awp_seq_k fun K hK => ?_
      refine awp_region rfl ?_
      simp only [d1, hga, d2, RR, seval]
      refine hK _ _ ?_; clear hK K
      refine awp_ret ?_; simp only [bodyQ, aresult, ares, d1, hga, d2, RR, seval]
      refine Gives.pure ?_
      rfl
    rw [if_neg h2] at h
    have h2' : f = 0 := by omega
    subst h2'
    have d2 : (!decide ((0 : Int) = 0)) = false := rfl
    by_cases h3 : k = 7
    · rw [if_pos h3] at h
      cases h
      subst h3
      by_cases h4 : x = 0
      · subst h4
        refine con_of 73 [.tmp 2, .tmp 3] Try.func40 rfl rfl rfl rfl ?_
        refine awp_seq_k fun K hK => ?_
        refine awp_region rfl ?_
        simp only [d1, hga, d2, RR, seval]
        refine awpN_intro fun b1 hn1 => ?_
        simp only [d1, hga, d2, RR, seval]
        refine hK _ _ ?_; clear hK K
        refine awp_seq ?_
        refine awp_seq_k fun K hK => ?_
        refine awp_region rfl ?_
        simp only [d1, hga, d2, RR, seval]
        refine hK _ _ ?_; clear hK K
        refine awp_if false rfl (fun hc => by cases hc) (fun _ => ?_)
        refine awp_skip ?_; try simp only [RR]
        refine awp_seq_k fun K hK => ?_
        refine awp_region rfl ?_
        simp only [d1, hga, d2, RR, seval]
        refine awpC_pure' (hca) ?_
        simp only [d1, hga, d2, RR, seval]
        refine hK _ _ ?_; clear hK K
        refine awp_seq ?_
        refine awp_seq_k fun K hK => ?_
        refine awp_region rfl ?_
        simp only [d1, hga, d2, RR, seval]
        refine hK _ _ ?_; clear hK K
        refine awp_if false rfl (fun hc => by cases hc) (fun _ => ?_)
        refine awp_skip ?_; try simp only [RR]
        refine awp_seq ?_
        refine awp_block ?_
        refine awp_seq_k fun K hK => ?_
        refine awp_region rfl ?_
        simp only [d1, hga, d2, RR, seval]
        repeat' ((first | refine awpG_splitN (fun h => ?_) (fun h => ?_) | refine awpG_split (fun h => ?_) (fun h => ?_)) <;> simp only [h, d1, hga, d2, RR, seval])
        all_goals
          refine hK _ _ ?_; clear hK K
          refine awp_if true rfl (fun _ => ?_) (fun hc => by cases hc)
          refine awp_seq_k fun K hK => ?_
          refine awp_region rfl ?_
          simp only [d1, hga, d2, RR, seval]
          refine hK _ _ ?_; clear hK K
          refine awp_ret ?_; simp only [bodyQ, aresult, ares, d1, hga, d2, RR, seval]
          refine Gives.pure ?_
          rfl
      · have d4 : decide (x = 0) = false := decide_eq_false h4
        rw [if_neg h4]
        refine con_of 73 [.tmp 2, .tmp 3] Try.func40 rfl rfl rfl rfl ?_
        refine awp_seq_k fun K hK => ?_
        refine awp_region rfl ?_
        simp only [d1, hga, d2, d4, RR, seval]
        refine awpN_intro fun b1 hn1 => ?_
        simp only [d1, hga, d2, d4, RR, seval]
        refine hK _ _ ?_; clear hK K
        refine awp_seq ?_
        refine awp_seq_k fun K hK => ?_
        refine awp_region rfl ?_
        simp only [d1, hga, d2, d4, RR, seval]
        refine hK _ _ ?_; clear hK K
        refine awp_if false rfl (fun hc => by cases hc) (fun _ => ?_)
        refine awp_skip ?_; try simp only [RR]
        refine awp_seq_k fun K hK => ?_
        refine awp_region rfl ?_
        simp only [d1, hga, d2, d4, RR, seval]
        refine awpC_pure' (hca) ?_
        simp only [d1, hga, d2, d4, RR, seval]
        refine hK _ _ ?_; clear hK K
        refine awp_seq ?_
        refine awp_seq_k fun K hK => ?_
        refine awp_region rfl ?_
        simp only [d1, hga, d2, d4, RR, seval]
        refine hK _ _ ?_; clear hK K
        refine awp_if false rfl (fun hc => by cases hc) (fun _ => ?_)
        refine awp_skip ?_; try simp only [RR]
        refine awp_seq ?_
        refine awp_block ?_
        refine awp_seq_k fun K hK => ?_
        refine awp_region rfl ?_
        simp only [d1, hga, d2, d4, RR, seval]
        repeat' ((first | refine awpG_splitN (fun h => ?_) (fun h => ?_) | refine awpG_split (fun h => ?_) (fun h => ?_)) <;> simp only [h, d1, hga, d2, d4, RR, seval])
        all_goals
          refine hK _ _ ?_; clear hK K
          refine awp_if false rfl (fun hc => by cases hc) (fun _ => ?_)
          refine awp_seq_k fun K hK => ?_
          refine awp_region rfl ?_
          simp only [d1, hga, d2, d4, RR, seval]
          refine hK _ _ ?_; clear hK K
          refine awp_if true rfl (fun _ => ?_) (fun hc => by cases hc)
          refine awp_seq_k fun K hK => ?_
          refine awp_region rfl ?_
          simp only [d1, hga, d2, d4, RR, seval]
          refine hK _ _ ?_; clear hK K
          refine awp_ret ?_; simp only [bodyQ, aresult, ares, d1, hga, d2, d4, RR, seval]
          refine Gives.pure ?_
          rfl
    rw [if_neg h3] at h
    have d3 : decide (k = 7) = false := decide_eq_false h3
    by_cases h4 : (k = 8 ∧ x = 0) ∨ (k = 9 ∧ ¬ x = 0)
    · rw [if_pos h4] at h
      cases h
      rcases h4 with ⟨rfl, rfl⟩ | ⟨rfl, h4⟩
      · skip
        refine con_of 73 [.tmp 2, .tmp 3] Try.func40 rfl rfl rfl rfl ?_
        refine awp_seq_k fun K hK => ?_
        refine awp_region rfl ?_
        simp only [d1, hga, d2, d3, RR, seval]
        refine awpN_intro fun b1 hn1 => ?_
        simp only [d1, hga, d2, d3, RR, seval]
        refine hK _ _ ?_; clear hK K
        refine awp_seq ?_
        refine awp_seq_k fun K hK => ?_
        refine awp_region rfl ?_
        simp only [d1, hga, d2, d3, RR, seval]
        refine hK _ _ ?_; clear hK K
        refine awp_if false rfl (fun hc => by cases hc) (fun _ => ?_)
        refine awp_skip ?_; try simp only [RR]
        refine awp_seq_k fun K hK => ?_
        refine awp_region rfl ?_
        simp only [d1, hga, d2, d3, RR, seval]
        refine awpC_pure' (hca) ?_
        simp only [d1, hga, d2, d3, RR, seval]
        refine hK _ _ ?_; clear hK K
        refine awp_seq ?_
        refine awp_seq_k fun K hK => ?_
        refine awp_region rfl ?_
        simp only [d1, hga, d2, d3, RR, seval]
        refine hK _ _ ?_; clear hK K
        refine awp_if false rfl (fun hc => by cases hc) (fun _ => ?_)
        refine awp_skip ?_; try simp only [RR]
        refine awp_seq ?_
        refine awp_block ?_
        refine awp_seq_k fun K hK => ?_
        refine awp_region rfl ?_
        simp only [d1, hga, d2, d3, RR, seval]
        repeat' ((first | refine awpG_splitN (fun h => ?_) (fun h => ?_) | refine awpG_split (fun h => ?_) (fun h => ?_)) <;> simp only [h, d1, hga, d2, d3, RR, seval])
        all_goals
          refine hK _ _ ?_; clear hK K
          refine awp_if false rfl (fun hc => by cases hc) (fun _ => ?_)
          refine awp_seq_k fun K hK => ?_
          refine awp_region rfl ?_
          simp only [d1, hga, d2, d3, RR, seval]
          refine hK _ _ ?_; clear hK K
          refine awp_if false rfl (fun hc => by cases hc) (fun _ => ?_)
          refine awp_seq ?_
          refine awp_seq_k fun K hK => ?_
          refine awp_region rfl ?_
          simp only [d1, hga, d2, d3, RR, seval]
          repeat' ((first | refine awpG_splitN (fun h => ?_) (fun h => ?_) | refine awpG_split (fun h => ?_) (fun h => ?_)) <;> simp only [h, d1, hga, d2, d3, RR, seval])
          all_goals
            refine hK _ _ ?_; clear hK K
            refine awp_if true rfl (fun _ => ?_) (fun hc => by cases hc)
            refine awp_skip ?_; try simp only [RR]
            refine awp_if true rfl (fun _ => ?_) (fun hc => by cases hc)
            refine awp_seq_k fun K hK => ?_
            refine awp_region rfl ?_
            simp only [d1, hga, d2, d3, RR, seval]
            refine hK _ _ ?_; clear hK K
            refine awp_ret ?_; simp only [bodyQ, aresult, ares, d1, hga, d2, d3, RR, seval]
            refine Gives.pure ?_
            rfl
      · have d4 : decide (x = 0) = false := decide_eq_false h4
        refine con_of 73 [.tmp 2, .tmp 3] Try.func40 rfl rfl rfl rfl ?_
        refine awp_seq_k fun K hK => ?_
        refine awp_region rfl ?_
        simp only [d1, hga, d2, d3, d4, RR, seval]
        refine awpN_intro fun b1 hn1 => ?_
        simp only [d1, hga, d2, d3, d4, RR, seval]
        refine hK _ _ ?_; clear hK K
        refine awp_seq ?_
        refine awp_seq_k fun K hK => ?_
        refine awp_region rfl ?_
        simp only [d1, hga, d2, d3, d4, RR, seval]
        refine hK _ _ ?_; clear hK K
        refine awp_if false rfl (fun hc => by cases hc) (fun _ => ?_)
        refine awp_skip ?_; try simp only [RR]
        refine awp_seq_k fun K hK => ?_
        refine awp_region rfl ?_
        simp only [d1, hga, d2, d3, d4, RR, seval]
        refine awpC_pure' (hca) ?_
        simp only [d1, hga, d2, d3, d4, RR, seval]
        refine hK _ _ ?_; clear hK K
        refine awp_seq ?_
        refine awp_seq_k fun K hK => ?_
        refine awp_region rfl ?_
        simp only [d1, hga, d2, d3, d4, RR, seval]
        refine hK _ _ ?_; clear hK K
        refine awp_if false rfl (fun hc => by cases hc) (fun _ => ?_)
        refine awp_skip ?_; try simp only [RR]
        refine awp_seq ?_
        refine awp_block ?_
        refine awp_seq_k fun K hK => ?_
        refine awp_region rfl ?_
        simp only [d1, hga, d2, d3, d4, RR, seval]
        repeat' ((first | refine awpG_splitN (fun h => ?_) (fun h => ?_) | refine awpG_split (fun h => ?_) (fun h => ?_)) <;> simp only [h, d1, hga, d2, d3, d4, RR, seval])
        all_goals
          refine hK _ _ ?_; clear hK K
          refine awp_if false rfl (fun hc => by cases hc) (fun _ => ?_)
          refine awp_seq_k fun K hK => ?_
          refine awp_region rfl ?_
          simp only [d1, hga, d2, d3, d4, RR, seval]
          refine hK _ _ ?_; clear hK K
          refine awp_if false rfl (fun hc => by cases hc) (fun _ => ?_)
          refine awp_seq ?_
          refine awp_seq_k fun K hK => ?_
          refine awp_region rfl ?_
          simp only [d1, hga, d2, d3, d4, RR, seval]
          repeat' ((first | refine awpG_splitN (fun h => ?_) (fun h => ?_) | refine awpG_split (fun h => ?_) (fun h => ?_)) <;> simp only [h, d1, hga, d2, d3, d4, RR, seval])
          all_goals
            refine hK _ _ ?_; clear hK K
            refine awp_if false rfl (fun hc => by cases hc) (fun _ => ?_)
            refine awp_region rfl ?_
            simp only [d1, hga, d2, d3, d4, RR, seval]
            repeat' ((first | refine awpG_splitN (fun h => ?_) (fun h => ?_) | refine awpG_split (fun h => ?_) (fun h => ?_)) <;> simp only [h, d1, hga, d2, d3, d4, RR, seval])
            all_goals
              refine awp_if true rfl (fun _ => ?_) (fun hc => by cases hc)
              refine awp_seq_k fun K hK => ?_
              refine awp_region rfl ?_
              simp only [d1, hga, d2, d3, d4, RR, seval]
              refine hK _ _ ?_; clear hK K
              refine awp_ret ?_; simp only [bodyQ, aresult, ares, d1, hga, d2, d3, d4, RR, seval]
              refine Gives.pure ?_
              rfl
    rw [if_neg h4] at h
    obtain ⟨b, hb, h⟩ := Option.bind_eq_some_iff.1 h
    obtain ⟨⟨y, g⟩, hy, h⟩ := Option.bind_eq_some_iff.1 h
    have hcb := ih b _ hy (hk.all _ (List.mem_of_getElem? hb))
    have uy := valX_u n b _ (hk.all _ (List.mem_of_getElem? hb)) hy
    have hgb := getE hb
    rw [b.row_eq] at hcb
    dsimp only at h hcb uy
    have d8 : (decide (k = 8) && decide (x = 0)) = false := by by_cases k = 8 <;> by_cases x = 0 <;> simp_all
    have d9 : (decide (k = 9) && !decide (x = 0)) = false := by by_cases k = 9 <;> by_cases x = 0 <;> simp_all
    clear h4
    obtain ⟨B8, b8⟩ : ∃ B, decide (k = 8) = B := ⟨_, rfl⟩
    obtain ⟨B9, b9⟩ : ∃ B, decide (k = 9) = B := ⟨_, rfl⟩
    obtain ⟨B0, b0⟩ : ∃ B, decide (x = 0) = B := ⟨_, rfl⟩
    rw [b8, b0] at d8
    rw [b9, b0] at d9
    cases B8 <;> cases B9 <;> cases B0 <;> (try (cases d8; done)) <;> (try (cases d9; done))
    all_goals
      by_cases h5 : ¬ g = 0
      · rw [if_pos h5] at h
        cases h
        have d5 : (!decide (g = 0)) = true := by simp [h5]
        refine con_of 73 [.tmp 2, .tmp 3] Try.func40 rfl rfl rfl rfl ?_
        refine awp_seq_k fun K hK => ?_
        refine awp_region rfl ?_
        simp only [d1, hga, d2, d3, b8, b9, b0, hgb, d5, RR, seval]
        refine awpN_intro fun b1 hn1 => ?_
        simp only [d1, hga, d2, d3, b8, b9, b0, hgb, d5, RR, seval]
        refine hK _ _ ?_; clear hK K
        refine awp_seq ?_
        refine awp_seq_k fun K hK => ?_
        refine awp_region rfl ?_
        simp only [d1, hga, d2, d3, b8, b9, b0, hgb, d5, RR, seval]
        refine hK _ _ ?_; clear hK K
        refine awp_if false rfl (fun hc => by cases hc) (fun _ => ?_)
        refine awp_skip ?_; try simp only [RR]
        refine awp_seq_k fun K hK => ?_
        refine awp_region rfl ?_
        simp only [d1, hga, d2, d3, b8, b9, b0, hgb, d5, RR, seval]
        refine awpC_pure' (hca) ?_
        simp only [d1, hga, d2, d3, b8, b9, b0, hgb, d5, RR, seval]
        refine hK _ _ ?_; clear hK K
        refine awp_seq ?_
        refine awp_seq_k fun K hK => ?_
        refine awp_region rfl ?_
        simp only [d1, hga, d2, d3, b8, b9, b0, hgb, d5, RR, seval]
        refine hK _ _ ?_; clear hK K
        refine awp_if false rfl (fun hc => by cases hc) (fun _ => ?_)
        refine awp_skip ?_; try simp only [RR]
        refine awp_seq ?_
        refine awp_block ?_
        refine awp_seq_k fun K hK => ?_
        refine awp_region rfl ?_
        simp only [d1, hga, d2, d3, b8, b9, b0, hgb, d5, RR, seval]
        repeat' ((first | refine awpG_splitN (fun h => ?_) (fun h => ?_) | refine awpG_split (fun h => ?_) (fun h => ?_)) <;> simp only [h, d1, hga, d2, d3, b8, b9, b0, hgb, d5, RR, seval])
        all_goals
          refine hK _ _ ?_; clear hK K
          refine awp_if false rfl (fun hc => by cases hc) (fun _ => ?_)
          refine awp_seq_k fun K hK => ?_
          refine awp_region rfl ?_
          simp only [d1, hga, d2, d3, b8, b9, b0, hgb, d5, RR, seval]
          refine hK _ _ ?_; clear hK K
          refine awp_if false rfl (fun hc => by cases hc) (fun _ => ?_)
          refine awp_seq ?_
          refine awp_seq_k fun K hK => ?_
          refine awp_region rfl ?_
          simp only [d1, hga, d2, d3, b8, b9, b0, hgb, d5, RR, seval]
          repeat' ((first | refine awpG_splitN (fun h => ?_) (fun h => ?_) | refine awpG_split (fun h => ?_) (fun h => ?_)) <;> simp only [h, d1, hga, d2, d3, b8, b9, b0, hgb, d5, RR, seval])
          all_goals
            refine hK _ _ ?_; clear hK K
            refine awp_if false rfl (fun hc => by cases hc) (fun _ => ?_)
            refine awp_region rfl ?_
            simp only [d1, hga, d2, d3, b8, b9, b0, hgb, d5, RR, seval]
            repeat' ((first | refine awpG_splitN (fun h => ?_) (fun h => ?_) | refine awpG_split (fun h => ?_) (fun h => ?_)) <;> simp only [h, d1, hga, d2, d3, b8, b9, b0, hgb, d5, RR, seval])
            all_goals
              refine awp_if false rfl (fun hc => by cases hc) (fun _ => ?_)
              refine awp_skip ?_; try simp only [RR]
              refine awp_seq_k fun K hK => ?_
              refine awp_region rfl ?_
              simp only [d1, hga, d2, d3, b8, b9, b0, hgb, d5, RR, seval]
              refine awpC_pure' (hcb) ?_
              simp only [d1, hga, d2, d3, b8, b9, b0, hgb, d5, RR, seval]
              refine hK _ _ ?_; clear hK K
              refine awp_seq ?_
              refine awp_seq_k fun K hK => ?_
              refine awp_region rfl ?_
              simp only [d1, hga, d2, d3, b8, b9, b0, hgb, d5, RR, seval]
              refine hK _ _ ?_; clear hK K
              refine awp_if true rfl (fun _ => ?_) (fun hc => by cases hc)
              refine awp_seq_k fun K hK => ?_
              refine awp_region rfl ?_
              simp only [d1, hga, d2, d3, b8, b9, b0, hgb, d5, RR, seval]
              refine hK _ _ ?_; clear hK K
              refine awp_ret ?_; simp only [bodyQ, aresult, ares, d1, hga, d2, d3, b8, b9, b0, hgb, d5, RR, seval]
              refine Gives.pure ?_
              rfl
      rw [if_neg h5] at h
      have h5' : g = 0 := by omega
      subst h5'
      by_cases h6 : k = 6
      · rw [if_pos h6] at h
        cases h
        have hap := Apply_con o x y uy
        have d6 : decide (k = 6) = true := decide_eq_true h6
        refine con_of 73 [.tmp 2, .tmp 3] Try.func40 rfl rfl rfl rfl ?_
        refine awp_seq_k fun K hK => ?_
        refine awp_region rfl ?_
        simp only [d1, hga, d2, d3, b8, b9, b0, hgb, d6, RR, seval]
        refine awpN_intro fun b1 hn1 => ?_
        simp only [d1, hga, d2, d3, b8, b9, b0, hgb, d6, RR, seval]
        refine hK _ _ ?_; clear hK K
        refine awp_seq ?_
        refine awp_seq_k fun K hK => ?_
        refine awp_region rfl ?_
        simp only [d1, hga, d2, d3, b8, b9, b0, hgb, d6, RR, seval]
        refine hK _ _ ?_; clear hK K
        refine awp_if false rfl (fun hc => by cases hc) (fun _ => ?_)
        refine awp_skip ?_; try simp only [RR]
        refine awp_seq_k fun K hK => ?_
        refine awp_region rfl ?_
        simp only [d1, hga, d2, d3, b8, b9, b0, hgb, d6, RR, seval]
        refine awpC_pure' (hca) ?_
        simp only [d1, hga, d2, d3, b8, b9, b0, hgb, d6, RR, seval]
        refine hK _ _ ?_; clear hK K
        refine awp_seq ?_
        refine awp_seq_k fun K hK => ?_
        refine awp_region rfl ?_
        simp only [d1, hga, d2, d3, b8, b9, b0, hgb, d6, RR, seval]
        refine hK _ _ ?_; clear hK K
        refine awp_if false rfl (fun hc => by cases hc) (fun _ => ?_)
        refine awp_skip ?_; try simp only [RR]
        refine awp_seq ?_
        refine awp_block ?_
        refine awp_seq_k fun K hK => ?_
        refine awp_region rfl ?_
        simp only [d1, hga, d2, d3, b8, b9, b0, hgb, d6, RR, seval]
        repeat' ((first | refine awpG_splitN (fun h => ?_) (fun h => ?_) | refine awpG_split (fun h => ?_) (fun h => ?_)) <;> simp only [h, d1, hga, d2, d3, b8, b9, b0, hgb, d6, RR, seval])
        all_goals
          refine hK _ _ ?_; clear hK K
          refine awp_if false rfl (fun hc => by cases hc) (fun _ => ?_)
          refine awp_seq_k fun K hK => ?_
          refine awp_region rfl ?_
          simp only [d1, hga, d2, d3, b8, b9, b0, hgb, d6, RR, seval]
          refine hK _ _ ?_; clear hK K
          refine awp_if false rfl (fun hc => by cases hc) (fun _ => ?_)
          refine awp_seq ?_
          refine awp_seq_k fun K hK => ?_
          refine awp_region rfl ?_
          simp only [d1, hga, d2, d3, b8, b9, b0, hgb, d6, RR, seval]
          repeat' ((first | refine awpG_splitN (fun h => ?_) (fun h => ?_) | refine awpG_split (fun h => ?_) (fun h => ?_)) <;> simp only [h, d1, hga, d2, d3, b8, b9, b0, hgb, d6, RR, seval])
          all_goals
            refine hK _ _ ?_; clear hK K
            refine awp_if false rfl (fun hc => by cases hc) (fun _ => ?_)
            refine awp_region rfl ?_
            simp only [d1, hga, d2, d3, b8, b9, b0, hgb, d6, RR, seval]
            repeat' ((first | refine awpG_splitN (fun h => ?_) (fun h => ?_) | refine awpG_split (fun h => ?_) (fun h => ?_)) <;> simp only [h, d1, hga, d2, d3, b8, b9, b0, hgb, d6, RR, seval])
            all_goals
              refine awp_if false rfl (fun hc => by cases hc) (fun _ => ?_)
              refine awp_skip ?_; try simp only [RR]
              refine awp_seq_k fun K hK => ?_
              refine awp_region rfl ?_
              simp only [d1, hga, d2, d3, b8, b9, b0, hgb, d6, RR, seval]
              refine awpC_pure' (hcb) ?_
              simp only [d1, hga, d2, d3, b8, b9, b0, hgb, d6, RR, seval]
              refine hK _ _ ?_; clear hK K
              refine awp_seq ?_
              refine awp_seq_k fun K hK => ?_
              refine awp_region rfl ?_
              simp only [d1, hga, d2, d3, b8, b9, b0, hgb, d6, RR, seval]
              refine hK _ _ ?_; clear hK K
              refine awp_if false rfl (fun hc => by cases hc) (fun _ => ?_)
              refine awp_skip ?_; try simp only [RR]
              refine awp_seq ?_
              refine awp_seq_k fun K hK => ?_
              refine awp_region rfl ?_
              simp only [d1, hga, d2, d3, b8, b9, b0, hgb, d6, RR, seval]
              refine hK _ _ ?_; clear hK K
              refine awp_if true rfl (fun _ => ?_) (fun hc => by cases hc)
              refine awp_seq_k fun K hK => ?_
              refine awp_region rfl ?_
              simp only [d1, hga, d2, d3, b8, b9, b0, hgb, d6, RR, seval]
              refine awpC_pure' (hap) ?_
              simp only [d1, hga, d2, d3, b8, b9, b0, hgb, d6, RR, seval]
              refine hK _ _ ?_; clear hK K
              refine awp_ret ?_; simp only [bodyQ, aresult, ares, d1, hga, d2, d3, b8, b9, b0, hgb, d6, RR, seval]
              refine Gives.pure ?_
              rfl
      · rw [if_neg h6] at h
        cases h
        have d6 : decide (k = 6) = false := decide_eq_false h6
        refine con_of 73 [.tmp 2, .tmp 3] Try.func40 rfl rfl rfl rfl ?_
        refine awp_seq_k fun K hK => ?_
        refine awp_region rfl ?_
        simp only [d1, hga, d2, d3, b8, b9, b0, hgb, d6, RR, seval]
        refine awpN_intro fun b1 hn1 => ?_
        simp only [d1, hga, d2, d3, b8, b9, b0, hgb, d6, RR, seval]
        refine hK _ _ ?_; clear hK K
        refine awp_seq ?_
        refine awp_seq_k fun K hK => ?_
        refine awp_region rfl ?_
        simp only [d1, hga, d2, d3, b8, b9, b0, hgb, d6, RR, seval]
        refine hK _ _ ?_; clear hK K
        refine awp_if false rfl (fun hc => by cases hc) (fun _ => ?_)
        refine awp_skip ?_; try simp only [RR]
        refine awp_seq_k fun K hK => ?_
        refine awp_region rfl ?_
        simp only [d1, hga, d2, d3, b8, b9, b0, hgb, d6, RR, seval]
        refine awpC_pure' (hca) ?_
        simp only [d1, hga, d2, d3, b8, b9, b0, hgb, d6, RR, seval]
        refine hK _ _ ?_; clear hK K
        refine awp_seq ?_
        refine awp_seq_k fun K hK => ?_
        refine awp_region rfl ?_
        simp only [d1, hga, d2, d3, b8, b9, b0, hgb, d6, RR, seval]
        refine hK _ _ ?_; clear hK K
        refine awp_if false rfl (fun hc => by cases hc) (fun _ => ?_)
        refine awp_skip ?_; try simp only [RR]
        refine awp_seq ?_
        refine awp_block ?_
        refine awp_seq_k fun K hK => ?_
        refine awp_region rfl ?_
        simp only [d1, hga, d2, d3, b8, b9, b0, hgb, d6, RR, seval]
        repeat' ((first | refine awpG_splitN (fun h => ?_) (fun h => ?_) | refine awpG_split (fun h => ?_) (fun h => ?_)) <;> simp only [h, d1, hga, d2, d3, b8, b9, b0, hgb, d6, RR, seval])
        all_goals
          refine hK _ _ ?_; clear hK K
          refine awp_if false rfl (fun hc => by cases hc) (fun _ => ?_)
          refine awp_seq_k fun K hK => ?_
          refine awp_region rfl ?_
          simp only [d1, hga, d2, d3, b8, b9, b0, hgb, d6, RR, seval]
          refine hK _ _ ?_; clear hK K
          refine awp_if false rfl (fun hc => by cases hc) (fun _ => ?_)
          refine awp_seq ?_
          refine awp_seq_k fun K hK => ?_
          refine awp_region rfl ?_
          simp only [d1, hga, d2, d3, b8, b9, b0, hgb, d6, RR, seval]
          repeat' ((first | refine awpG_splitN (fun h => ?_) (fun h => ?_) | refine awpG_split (fun h => ?_) (fun h => ?_)) <;> simp only [h, d1, hga, d2, d3, b8, b9, b0, hgb, d6, RR, seval])
          all_goals
            refine hK _ _ ?_; clear hK K
            refine awp_if false rfl (fun hc => by cases hc) (fun _ => ?_)
            refine awp_region rfl ?_
            simp only [d1, hga, d2, d3, b8, b9, b0, hgb, d6, RR, seval]
            repeat' ((first | refine awpG_splitN (fun h => ?_) (fun h => ?_) | refine awpG_split (fun h => ?_) (fun h => ?_)) <;> simp only [h, d1, hga, d2, d3, b8, b9, b0, hgb, d6, RR, seval])
            all_goals
              refine awp_if false rfl (fun hc => by cases hc) (fun _ => ?_)
              refine awp_skip ?_; try simp only [RR]
              refine awp_seq_k fun K hK => ?_
              refine awp_region rfl ?_
              simp only [d1, hga, d2, d3, b8, b9, b0, hgb, d6, RR, seval]
              refine awpC_pure' (hcb) ?_
              simp only [d1, hga, d2, d3, b8, b9, b0, hgb, d6, RR, seval]
              refine hK _ _ ?_; clear hK K
              refine awp_seq ?_
              refine awp_seq_k fun K hK => ?_
              refine awp_region rfl ?_
              simp only [d1, hga, d2, d3, b8, b9, b0, hgb, d6, RR, seval]
              refine hK _ _ ?_; clear hK K
              refine awp_if false rfl (fun hc => by cases hc) (fun _ => ?_)
              refine awp_skip ?_; try simp only [RR]
              refine awp_seq ?_
              refine awp_seq_k fun K hK => ?_
              refine awp_region rfl ?_
              simp only [d1, hga, d2, d3, b8, b9, b0, hgb, d6, RR, seval]
              refine hK _ _ ?_; clear hK K
              refine awp_if false rfl (fun hc => by cases hc) (fun _ => ?_)
              refine awp_skip ?_; try simp only [RR]
              refine awp_seq_k fun K hK => ?_
              refine awp_region rfl ?_
              simp only [d1, hga, d2, d3, b8, b9, b0, hgb, d6, RR, seval]
              refine hK _ _ ?_; clear hK K
              refine awp_ret ?_; simp only [bodyQ, aresult, ares, d1, hga, d2, d3, b8, b9, b0, hgb, d6, RR, seval]
              refine Gives.pure ?_
              rfl
theorem Value_con (n : Nat) (e : Ex) (p : Int × Int) (hp : plX e = true → valX n e = some p) (he : e.ok) : PCon env 25 [.agg e.row] (.tup [.int .u32 (if plX e then p.1 else 0), .int .i64 (if plX e then p.2 else 1)]) := by
  have h1 := mplain_con _ e (Nat.le_refl _) he
  have h2 := fun h => plainValue_con n e p (hp h) he
  rw [e.row_eq] at *
  cases hx : plX e with
  | false =>
    rw [hx] at h1
    refine con_of 11 [.tmp 2, .tmp 3] Try.func25 rfl rfl rfl rfl ?_
    refine awp_seq_k fun K hK => ?_
    refine awp_region rfl ?_
    simp only [RR, seval]
    refine awpN_intro fun b1 hn1 => ?_
    simp only [RR, seval]
    refine hK _ _ ?_; clear hK K
    refine awp_seq ?_
    refine awp_seq_k fun K hK => ?_
    refine awp_region rfl ?_
    simp only [RR, seval]
    refine awpC_pure' (h1) ?_
    simp only [RR, seval]
    refine hK _ _ ?_; clear hK K
    refine awp_if true rfl (fun _ => ?_) (fun hc => by cases hc)
    refine awp_seq_k fun K hK => ?_
    refine awp_region rfl ?_
    simp only [RR, seval]
    refine hK _ _ ?_; clear hK K
    refine awp_ret ?_; simp only [bodyQ, aresult, ares, RR, seval]
    refine Gives.pure ?_
    rfl
  | true =>
    rw [hx] at h1
    have h2 := h2 hx
    refine con_of 11 [.tmp 2, .tmp 3] Try.func25 rfl rfl rfl rfl ?_
    refine awp_seq_k fun K hK => ?_
    refine awp_region rfl ?_
    simp only [RR, seval]
    refine awpN_intro fun b1 hn1 => ?_
    simp only [RR, seval]
    refine hK _ _ ?_; clear hK K
    refine awp_seq ?_
    refine awp_seq_k fun K hK => ?_
    refine awp_region rfl ?_
    simp only [RR, seval]
    refine awpC_pure' (h1) ?_
    simp only [RR, seval]
    refine hK _ _ ?_; clear hK K
    refine awp_if false rfl (fun hc => by cases hc) (fun _ => ?_)
    refine awp_skip ?_; try simp only [RR]
    refine awp_seq_k fun K hK => ?_
    refine awp_region rfl ?_
    simp only [RR, seval]
    refine awpC_pure' (h2) ?_
    simp only [RR, seval]
    refine hK _ _ ?_; clear hK K
    refine awp_ret ?_; simp only [bodyQ, aresult, ares, RR, seval]
    refine Gives.pure ?_
    rfl
end Go.Proofs.Ytlokndnkpleegaa
