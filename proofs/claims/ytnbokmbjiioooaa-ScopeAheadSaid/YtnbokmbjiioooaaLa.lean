/- Chapter 16: ScopeAhead's contract. -/
import Derived.Test.YtnbokmbjiioooaaLt
set_option linter.unusedSimpArgs false
set_option linter.unusedVariables false
namespace Go.Proofs.Ytnbokmbjiioooaa
open Go.Al
theorem callsFrom_get (p : Pg) : ∀ (l : List Fu) (i j : Nat), (callsFrom p i l)[j]? = (l[j]?).map (callsRow p (i + j))
  | [], i, j => by simp [callsFrom]
  | f :: l, i, j => by
    simp only [callsFrom]
    cases j with
    | zero => simp
    | succ j => simp only [List.getElem?_cons_succ]; rw [callsFrom_get p l (i + 1) j, show i + 1 + j = i + (j + 1) by omega]
def natRow (n : Nat) : List AV := [.int .i64 n]
def natsRow (l : List Nat) : List AV := [.isl 1 (l.map natRow)]
theorem check_names (p : Pg) (h : checkI p ≠ 4) : namesB p = true := by
  cases hn : namesB p with
  | true => rfl
  | false => exact absurd (by simp [checkI, hn]) h
theorem callsRow_ahead (p : Pg) (hn : namesB p = true) (i : Nat) (f : Fu) (hf : p.funs[i]? = some f) : ∃ ns : List Nat, callsRow p i f = ns.map (fun (n : Nat) => (n : Int)) ∧ (∀ n ∈ ns, n < i) ∧ ns.Pairwise (· < ·) := by
  refine ⟨_, rfl, fun n h => ?_, List.Pairwise.filter _ List.pairwise_lt_range⟩
  rw [List.mem_filter, List.any_eq_true] at h
  obtain ⟨_, u, hu, h⟩ := h
  simp only [isCall, Bool.and_eq_true, decide_eq_true_eq] at h
  simp only [namesB, Bool.and_eq_true] at hn
  have h1 := List.all_eq_true.1 (namesFrom_get p p.funs 0 hn.2 i f hf).2 u hu
  rw [Nat.zero_add] at h1
  simp [okUse, h.1.1, h.1.2, h.2] at h1
  omega
theorem callsP_ahead (p : Pg) (hn : namesB p = true) : ∃ L : List (List Nat), (callsP p).map intsRow = L.map natsRow ∧ L.length = p.funs.length ∧ ∀ (i : Nat) r, L[i]? = some r → r.length ≤ p.funs.length ∧ (∀ n ∈ r, n < i) ∧ r.Pairwise (· < ·) := by
  have key : ∀ i, i < p.funs.length → ∃ ns : List Nat, (callsP p)[i]? = some (ns.map fun (n : Nat) => (n : Int)) ∧ ns.length ≤ p.funs.length ∧ (∀ n ∈ ns, n < i) ∧ ns.Pairwise (· < ·) := fun i hi => by
    have hg := List.getElem?_eq_getElem hi
    obtain ⟨ns, h1, h2, h3⟩ := callsRow_ahead p hn i _ hg
    have h4 : (callsP p)[i]? = some (callsRow p i p.funs[i]) := by rw [callsP, callsFrom_get, hg, Nat.zero_add]; rfl
    refine ⟨ns, by rw [h4, h1], ?_, h2, h3⟩
    have := callsFrom_row p p.funs 0 _ (List.mem_of_getElem? h4)
    rw [h1] at this
    simpa using this
  obtain ⟨L, h1, h2⟩ := list_of_each (Q := fun i (ns : List Nat) => (callsP p)[i]? = some (ns.map fun (n : Nat) => (n : Int)) ∧ ns.length ≤ p.funs.length ∧ (∀ n ∈ ns, n < i) ∧ ns.Pairwise (· < ·)) p.funs.length key
  refine ⟨L, ?_, h1, fun i r h => (h2 i r h).2⟩
  refine List.ext_getElem? fun i => ?_
  rw [List.getElem?_map, List.getElem?_map]
  cases hi : L[i]? with
  | none =>
    rw [List.getElem?_eq_none (by
      rw [callsP, callsFrom_len, ← h1]
      exact List.getElem?_eq_none_iff.1 hi)]
    rfl
  | some r =>
    rw [(h2 i r hi).1]
    simp only [Option.map_some, intsRow, natsRow, List.map_map]
    rfl
def boolsRow (l : List Bool) : List AV := [.isl 1 (l.map boolRow)]
theorem ScopeAhead_con (p : Pg) (hp : p.ok) : PCon env 4 [p.av] (.bool true) := by
  have hfew := few_con p hp
  have hall := few16_few p hp
  have hav : p.av = .agg p.row := rfl
  have hrow : p.row = [.isl 1 (p.vars.map strRow), .isl 2 (p.arrs.map Ar.row), .isl 5 (p.funs.map Fu.row)] := rfl
  rw [hav, hrow] at hfew ⊢
  cases hc : few16 p with
  | false =>
    rw [hc] at hfew
    refine con_of 108 [.tmp 2] Try.func4 rfl rfl rfl rfl ?_
    refine awp_seq_k fun K hK => ?_
    refine awp_region rfl ?_
    simp only [RR, seval]
    refine awpN_intro fun b1 hn1 => ?_
    simp only [RR, seval]
    refine hK _ _ ?_; clear hK K
    refine awp_seq ?_
    refine awp_seq_k fun K hK => ?_
    refine awp_region rfl ?_
    simp only [RR, seval]
    refine awpC_pure' (alive_con) ?_
    simp only [RR, seval]
    refine hK _ _ ?_; clear hK K
    refine awp_if false rfl (fun hc => by cases hc) (fun _ => ?_)
    refine awp_skip ?_; try simp only [RR]
    refine awp_seq ?_
    refine awp_seq_k fun K hK => ?_
    refine awp_region rfl ?_
    simp only [RR, seval]
    refine awpC_pure' (hfew) ?_
    simp only [RR, seval]
    refine hK _ _ ?_; clear hK K
    refine awp_if true rfl (fun _ => ?_) (fun hc => by cases hc)
    refine awp_seq_k fun K hK => ?_
    refine awp_region rfl ?_
    simp only [RR, seval]
    refine hK _ _ ?_; clear hK K
    refine awp_ret ?_; simp only [bodyQ, aresult, ares, RR, seval]
    refine Gives.pure ?_
    rfl
  | true =>
    rw [hc] at hfew
    obtain ⟨hf, h1⟩ := hall hc
    have c1 := Check_con p hf h1
    have hC := Calls_con p hf
    rw [hav, hrow] at c1 hC
    cases h0 : decide (checkI p = 4) with
    | true =>
      refine con_of 108 [.tmp 2] Try.func4 rfl rfl rfl rfl ?_
      refine awp_seq_k fun K hK => ?_
      refine awp_region rfl ?_
      simp only [h0, RR, seval]
      refine awpN_intro fun b1 hn1 => ?_
      simp only [h0, RR, seval]
      refine hK _ _ ?_; clear hK K
      refine awp_seq ?_
      refine awp_seq_k fun K hK => ?_
      refine awp_region rfl ?_
      simp only [h0, RR, seval]
      refine awpC_pure' (alive_con) ?_
      simp only [h0, RR, seval]
      refine hK _ _ ?_; clear hK K
      refine awp_if false rfl (fun hc => by cases hc) (fun _ => ?_)
      refine awp_skip ?_; try simp only [RR]
      refine awp_seq ?_
      refine awp_seq_k fun K hK => ?_
      refine awp_region rfl ?_
      simp only [h0, RR, seval]
      refine awpC_pure' (hfew) ?_
      simp only [h0, RR, seval]
      refine awpC_pure' (c1) ?_
      simp only [h0, RR, seval]
      refine hK _ _ ?_; clear hK K
      refine awp_if true rfl (fun _ => ?_) (fun hc => by cases hc)
      refine awp_seq_k fun K hK => ?_
      refine awp_region rfl ?_
      simp only [h0, RR, seval]
      refine hK _ _ ?_; clear hK K
      refine awp_ret ?_; simp only [bodyQ, aresult, ares, h0, RR, seval]
      refine Gives.pure ?_
      rfl
    | false =>
      obtain ⟨L, hL1, hL2, hL3⟩ := callsP_ahead p (check_names p (of_decide_eq_false h0))
      rw [hL1] at hC
      have ga := hf.f
      generalize hck : decide (checkI p = 4) = ck at h0
      subst h0
      generalize checkI p = ci at *
      have d1 : decide ((L.length : Int) = (p.funs.length : Int)) = true := decide_eq_true (by omega)
      have m1 : (0 : Int) ≤ (L.length : Int) := by omega
      have m2 : (1 : Int) * (L.length : Int) ≤ 281474976710656 := by omega
      have m3 : (L.length : Int) ≤ 281474976710656 := by omega
      refine con_of 108 [.tmp 2] Try.func4 rfl rfl rfl rfl ?_
      refine awp_seq_k fun K hK => ?_
      refine awp_region rfl ?_
      simp only [hck, List.length_map, d1, RR, seval]
      refine awpN_intro fun b1 hn1 => ?_
      simp only [hck, List.length_map, d1, RR, seval]
      refine hK _ _ ?_; clear hK K
      refine awp_seq ?_
      refine awp_seq_k fun K hK => ?_
      refine awp_region rfl ?_
      simp only [hck, List.length_map, d1, RR, seval]
      refine awpC_pure' (alive_con) ?_
      simp only [hck, List.length_map, d1, RR, seval]
      refine hK _ _ ?_; clear hK K
      refine awp_if false rfl (fun hc => by cases hc) (fun _ => ?_)
      refine awp_skip ?_; try simp only [RR]
      refine awp_seq ?_
      refine awp_seq_k fun K hK => ?_
      refine awp_region rfl ?_
      simp only [hck, List.length_map, d1, RR, seval]
      refine awpC_pure' (hfew) ?_
      simp only [hck, List.length_map, d1, RR, seval]
      refine awpC_pure' (c1) ?_
      simp only [hck, List.length_map, d1, RR, seval]
      refine hK _ _ ?_; clear hK K
      refine awp_if false rfl (fun hc => by cases hc) (fun _ => ?_)
      refine awp_skip ?_; try simp only [RR]
      refine awp_seq_k fun K hK => ?_
      refine awp_region rfl ?_
      simp only [hck, List.length_map, d1, RR, seval]
      refine awpC_pure' (hC) ?_
      simp only [hck, List.length_map, d1, RR, seval]
      refine hK _ _ ?_; clear hK K
      refine awp_seq ?_
      refine awp_seq_k fun K hK => ?_
      refine awp_region rfl ?_
      simp only [hck, List.length_map, d1, RR, seval]
      refine hK _ _ ?_; clear hK K
      refine awp_if false rfl (fun hc => by cases hc) (fun _ => ?_)
      refine awp_skip ?_; try simp only [RR]
      refine awp_seq_k fun K hK => ?_
      refine awp_region rfl ?_
      simp only [hck, List.length_map, d1, RR, seval]
      refine hK _ _ ?_; clear hK K
      refine awp_seq ?_
      refine awp_seq_k fun K hK => ?_
      refine awp_region rfl ?_
      simp only [hck, List.length_map, d1, RR, seval]
      refine hK _ _ ?_; clear hK K
      refine awp_name fun F1 M1 hfr hH => ?_
      have g2 := hfr 2
      have g3 := hfr 3
      have g4 := hfr 4
      have g5 := hfr 5
      have gb1 := hH b1
      try simp only [hck, List.length_map, d1, RR, seval] at g2 g3 g4 g5 gb1
      have f2 := g2; clear g2
      have f3 := g3; clear g3
      have f4 := g4; clear g4
      have f5 := g5; clear g5
      have hb1 := gb1; clear gb1
      clear hfr hH
      refine awp_block ?_
      refine awp_each [3] (L.length) (fun k fr M => fr 5 = .int .i64 (k : Nat) ∧ M b1 = M1 b1 ∧ ∃ rs : List (List Bool), rs.length = k ∧ (∀ r ∈ rs, r.length = L.length) ∧ OwnL 1 (fr 4) (rs.map boolsRow) M) ⟨f5, rfl, ⟨[], rfl, (fun r h => by cases h), .inl ⟨f4, rfl⟩⟩⟩ ?_
      rintro k F2 M2 hk0 ⟨fx, gb1, ⟨rs, hr1, hr2, hown⟩⟩ agx K0 hK0
      have f3 := (agx 3 rfl).trans f3
      have f5 := fx; clear fx
      have hb1 := gb1.trans hb1
      have ag0 := agree.refl [3] F2
      have e0_b1 := gb1; clear gb1
      clear agx
      refine awp_seq ?_
      refine awp_seq_k fun K hK => ?_
      refine awp_region rfl ?_
      simp only [f3, f5, hb1, hck, List.length_map, d1, RR, seval]
      refine hK _ _ ?_; clear hK K
      refine awp_if _ rfl (fun hc => ?_) (fun hc => ?_)
      · have hlt0 : k < L.length := by have := of_decide_eq_true hc; omega
        clear hc
        have hg0 := List.getElem?_eq_getElem hlt0
        obtain ⟨a1, a2, a3⟩ := hL3 k _ hg0
        have hg := getRow natsRow hg0
        simp only [natsRow] at hg
        generalize L[k] = r at hg a1 a2 a3
        obtain ⟨v4, f4⟩ : ∃ v, F2 4 = v := ⟨_, rfl⟩
        rw [f4] at hown
        refine awp_skip ?_; try simp only [RR]
        refine awp_seq ?_
        refine awp_block ?_
        refine awp_seq_k fun K hK => ?_
        refine awp_region rfl ?_
        simp only [f3, f5, f4, hb1, hck, List.length_map, d1, hg, m1, m2, m3, Int.one_mul, Int.natCast_one, Int.cast_ofNat_Int, RR, seval]
        refine awpN_intro fun b36 hn36 => ?_
        have nb36_b1 : b36 ≠ b1 := fun e => by rw [e] at hn36; simp only [f3, f5, f4, hb1, hck, List.length_map, d1, hg, m1, m2, m3, Int.one_mul, Int.natCast_one, Int.cast_ofNat_Int, RR, seval, reduceCtorEq] at hn36
        have nb1_b36 : b1 ≠ b36 := fun e => nb36_b1 e.symm
        simp only [f3, f5, f4, hb1, nb36_b1, nb1_b36, hck, List.length_map, d1, hg, m1, m2, m3, Int.one_mul, Int.natCast_one, Int.cast_ofNat_Int, RR, seval]
        refine hK _ _ ?_; clear hK K
        have hoff := hown.new hn36
        refine awp_seq ?_
        refine awp_seq_k fun K hK => ?_
        refine awp_region rfl ?_
        simp only [f3, f5, f4, hb1, nb36_b1, nb1_b36, hck, List.length_map, d1, hg, m1, m2, m3, Int.one_mul, Int.natCast_one, Int.cast_ofNat_Int, RR, seval]
        refine hK _ _ ?_; clear hK K
        refine awp_name fun F3 M3 hfr hH => ?_
        have g2 := hfr 2
        have g3 := hfr 3
        have g4 := hfr 4
        have g5 := hfr 5
        have g6 := hfr 6
        have g7 := hfr 7
        have gb1 := hH b1
        have gb36 := hH b36
        try simp only [f3, f5, f4, hb1, nb36_b1, nb1_b36, hck, List.length_map, d1, hg, m1, m2, m3, Int.one_mul, Int.natCast_one, Int.cast_ofNat_Int, RR, seval] at g2 g3 g4 g5 g6 g7 gb1 gb36
        have ag0 : agree [3] F2 F3 := agree.same hfr (by repeat (first | exact ag0 | refine agree.upd rfl ?_))
        have e0_b1 := (hH b1).trans (by first | exact e0_b1 | (simp only [nb36_b1, nb1_b36, upd_app, seval]; first | done | exact e0_b1))
        have hown := (hown.upd hn36 _).same hH
        have f2 := g2; clear g2
        have f3 := g3; clear g3
        have f4 := g4; clear g4
        have f5 := g5; clear g5
        have f6 := g6; clear g6
        have f7 := g7; clear g7
        have hb1 := gb1; clear gb1
        have hb36 := gb36; clear gb36
        clear hfr hH
        refine awp_block ?_
        refine awp_each [3, 4, 5, 6] (r.length) (fun j fr M => fr 7 = .int .i64 (j : Nat) ∧ M b1 = M3 b1 ∧ ∃ bs : List Bool, bs.length = L.length ∧ (∀ i, k ≤ i → bs[i]? ≠ some true) ∧ M b36 = some (.rows 1 (bs.map boolRow)) ∧ OwnL 1 v4 (rs.map boolsRow) M) ⟨f7, rfl, ⟨List.replicate L.length false, List.length_replicate, (fun i _ e => by rw [List.getElem?_replicate] at e; split at e <;> cases e), by rw [hb36, List.map_replicate]; rfl, hown⟩⟩ ?_
        rintro j F4 M4 hk2 ⟨fx, gb1, ⟨bs, q1, q2, hb36, hown⟩⟩ agx K2 hK2
        have f3 := (agx 3 rfl).trans f3
        have f4 := (agx 4 rfl).trans f4
        have f5 := (agx 5 rfl).trans f5
        have f6 := (agx 6 rfl).trans f6
        have f7 := fx; clear fx
        have hb1 := gb1.trans hb1
        have ag0 : agree [3] F2 F4 := agree.sub agx rfl ag0
        have e0_b1 := gb1.trans e0_b1
        have ag2 := agree.refl [3, 4, 5, 6] F4
        have e2_b1 := gb1; clear gb1
        clear agx
        refine awp_seq ?_
        refine awp_seq_k fun K hK => ?_
        refine awp_region rfl ?_
        simp only [f3, f4, f5, f6, f7, hb1, hb36, nb36_b1, nb1_b36, hck, List.length_map, d1, hg, m1, m2, m3, Int.one_mul, Int.natCast_one, Int.cast_ofNat_Int, RR, seval]
        refine hK _ _ ?_; clear hK K
        refine awp_if _ rfl (fun hc => ?_) (fun hc => ?_)
        · have hlt2 : j < r.length := by have := of_decide_eq_true hc; omega
          clear hc
          have hj0 := List.getElem?_eq_getElem hlt2
          have hgn := getRow natRow hj0
          simp only [natRow] at hgn
          have hnk : r[j] < k := a2 _ (List.getElem_mem hlt2)
          obtain ⟨m, w1, w2, w3⟩ : ∃ m : Nat, (decide ((0 : Int) < (j : Int)) = true → IntKind.wrap .i64 ((j : Int) - 1) = ((j - 1 : Nat) : Int)) ∧ (decide ((0 : Int) < (j : Int)) = true → (r.map natRow)[j - 1]? = some [.int .i64 (m : Int)]) ∧ (decide ((0 : Int) < (j : Int)) = true → decide ((r[j] : Int) ≤ (m : Int)) = false) := by
            refine ⟨r[j - 1], fun h => ?_, fun h => ?_, fun h => ?_⟩ <;> have h := of_decide_eq_true h
            · rw [IntWalk.i64_in _ (by omega)]; omega
            · exact getRow natRow (List.getElem?_eq_getElem (by omega))
            · have := List.pairwise_iff_getElem.1 a3 (j - 1) j (by omega) hlt2 (by omega)
              exact decide_eq_false (by omega)
          generalize r[j] = n at hgn hnk w3
          have z1 : decide ((n : Int) < 0) = false := decide_eq_false (by omega)
          have z2 : decide ((k : Int) ≤ (n : Int)) = false := decide_eq_false (by omega)
          have z3 : (n : Int) < (L.length : Int) := by omega
          have hbn := getRow boolRow (List.getElem?_eq_getElem (show n < bs.length by omega))
          simp only [boolRow] at hbn
          rcases hown with ⟨_, e4⟩ | ⟨b4, e4, hb4⟩
          · have := congrArg List.length e4
            simp only [List.length_map, List.length_nil] at this
            omega
          have nb4_b36 : b4 ≠ b36 := fun e => hoff _ _ (by rw [e4, e])
          have nb36_b4 : b36 ≠ b4 := fun e => nb4_b36 e.symm
          have nb4_b1 : b4 ≠ b1 := fun e => by rw [e, hb1] at hb4; cases hb4
          have nb1_b4 : b1 ≠ b4 := fun e => nb4_b1 e.symm
          rw [e4, List.length_map] at f4
          have hgr := getRow boolsRow (List.getElem?_eq_getElem (show n < rs.length by omega))
          simp only [boolsRow] at hgr
          have hrl := hr2 _ (List.getElem_mem (show n < rs.length by omega))
          generalize rs[n] = rn at hgr hrl
          have z4 : (n : Int) < (rs.length : Int) := by omega
          refine awp_skip ?_; try simp only [RR]
          refine awp_seq ?_
          refine awp_block ?_
          refine awp_seq_k fun K hK => ?_
          refine awp_region rfl ?_
          simp only [f3, f4, f5, f6, f7, hb1, hb36, hb4, nb36_b1, nb1_b36, nb4_b36, nb36_b4, nb4_b1, nb1_b4, hck, List.length_map, d1, hg, m1, m2, m3, Int.one_mul, Int.natCast_one, Int.cast_ofNat_Int, hgn, z1, z2, w1, w2, w3, z3, hbn, hgr, z4, RR, seval]
          refine hK _ _ ?_; clear hK K
          refine awp_seq ?_
          refine awp_seq_k fun K hK => ?_
          refine awp_region rfl ?_
          simp only [f3, f4, f5, f6, f7, hb1, hb36, hb4, nb36_b1, nb1_b36, nb4_b36, nb36_b4, nb4_b1, nb1_b4, hck, List.length_map, d1, hg, m1, m2, m3, Int.one_mul, Int.natCast_one, Int.cast_ofNat_Int, hgn, z1, z2, w1, w2, w3, z3, hbn, hgr, z4, RR, seval]
          repeat' ((first | refine awpG_splitN (fun h => ?_) (fun h => ?_) | refine awpG_split (fun h => ?_) (fun h => ?_)) <;> simp only [h, f3, f4, f5, f6, f7, hb1, hb36, hb4, nb36_b1, nb1_b36, nb4_b36, nb36_b4, nb4_b1, nb1_b4, hck, List.length_map, d1, hg, m1, m2, m3, Int.one_mul, Int.natCast_one, Int.cast_ofNat_Int, hgn, z1, z2, w1, w2, w3, z3, hbn, hgr, z4, RR, seval])
          all_goals
            refine hK _ _ ?_; clear hK K
            refine awp_if false rfl (fun hc => by cases hc) (fun _ => ?_)
            refine awp_skip ?_; try simp only [RR]
            refine awp_seq_k fun K hK => ?_
            refine awp_region rfl ?_
            simp only [f3, f4, f5, f6, f7, hb1, hb36, hb4, nb36_b1, nb1_b36, nb4_b36, nb36_b4, nb4_b1, nb1_b4, hck, List.length_map, d1, hg, m1, m2, m3, Int.one_mul, Int.natCast_one, Int.cast_ofNat_Int, hgn, z1, z2, w1, w2, w3, z3, hbn, hgr, z4, RR, seval]
            refine hK _ _ ?_; clear hK K
            refine awp_seq_k fun K hK => ?_
            refine awp_region rfl ?_
            simp only [f3, f4, f5, f6, f7, hb1, hb36, hb4, nb36_b1, nb1_b36, nb4_b36, nb36_b4, nb4_b1, nb1_b4, hck, List.length_map, d1, hg, m1, m2, m3, Int.one_mul, Int.natCast_one, Int.cast_ofNat_Int, hgn, z1, z2, w1, w2, w3, z3, hbn, hgr, z4, RR, seval]
            refine hK _ _ ?_; clear hK K
            refine awp_name fun F5 M5 hfr hH => ?_
            have g2 := hfr 2
            have g3 := hfr 3
            have g4 := hfr 4
            have g5 := hfr 5
            have g6 := hfr 6
            have g7 := hfr 7
            have g8 := hfr 8
            have g9 := hfr 9
            have gb1 := hH b1
            have gb36 := hH b36
            have gb4 := hH b4
            try simp only [f3, f4, f5, f6, f7, hb1, hb36, hb4, nb36_b1, nb1_b36, nb4_b36, nb36_b4, nb4_b1, nb1_b4, hck, List.length_map, d1, hg, m1, m2, m3, Int.one_mul, Int.natCast_one, Int.cast_ofNat_Int, hgn, z1, z2, w1, w2, w3, z3, hbn, hgr, z4, RR, seval] at g2 g3 g4 g5 g6 g7 g8 g9 gb1 gb36 gb4
            have ag0 : agree [3] F2 F5 := agree.same hfr (by repeat (first | exact ag0 | refine agree.upd rfl ?_))
            have e0_b1 := (hH b1).trans (by first | exact e0_b1 | (simp only [nb36_b1, nb1_b36, nb4_b36, nb36_b4, nb4_b1, nb1_b4, upd_app, seval]; first | done | exact e0_b1))
            have ag2 : agree [3, 4, 5, 6] F4 F5 := agree.same hfr (by repeat (first | exact ag2 | refine agree.upd rfl ?_))
            have e2_b1 := (hH b1).trans (by first | exact e2_b1 | (simp only [nb36_b1, nb1_b36, nb4_b36, nb36_b4, nb4_b1, nb1_b4, upd_app, seval]; first | done | exact e2_b1))
            have f2 := g2; clear g2
            have f3 := g3; clear g3
            have f4 := g4; clear g4
            have f5 := g5; clear g5
            have f6 := g6; clear g6
            have f7 := g7; clear g7
            have f8 := g8; clear g8
            have f9 := g9; clear g9
            have hb1 := gb1; clear gb1
            have hb36 := gb36; clear gb36
            have hb4 := gb4; clear gb4
            clear hfr hH
            refine awp_block ?_
            refine awp_each [2, 3, 4, 5, 6, 7, 8] (n) (fun i fr M => fr 9 = .int .i64 (i : Nat) ∧ M b1 = M5 b1 ∧ M b4 = M5 b4 ∧ ∃ bs : List Bool, bs.length = L.length ∧ (∀ i, k ≤ i → bs[i]? ≠ some true) ∧ M b36 = some (.rows 1 (bs.map boolRow))) ⟨f9, rfl, rfl, ⟨bs.set n true, (by rw [List.length_set]; exact q1), (fun i hi => by rw [List.getElem?_set_ne (by omega)]; exact q2 i hi), by rw [hb36, List.map_set]; rfl⟩⟩ ?_
            rintro i F6 M6 hk4 ⟨fx, gb1, gb4, ⟨bs2, q3, q4, hb36⟩⟩ agx K4 hK4
            have f2 := (agx 2 rfl).trans f2
            have f3 := (agx 3 rfl).trans f3
            have f4 := (agx 4 rfl).trans f4
            have f5 := (agx 5 rfl).trans f5
            have f6 := (agx 6 rfl).trans f6
            have f7 := (agx 7 rfl).trans f7
            have f8 := (agx 8 rfl).trans f8
            have f9 := fx; clear fx
            have hb1 := gb1.trans hb1
            have hb4 := gb4.trans hb4
            have ag0 : agree [3] F2 F6 := agree.sub agx rfl ag0
            have e0_b1 := gb1.trans e0_b1
            have ag2 : agree [3, 4, 5, 6] F4 F6 := agree.sub agx rfl ag2
            have e2_b1 := gb1.trans e2_b1
            have ag4 := agree.refl [2, 3, 4, 5, 6, 7, 8] F6
            have e4_b1 := gb1; clear gb1
            have e4_b4 := gb4; clear gb4
            clear agx
            refine awp_seq ?_
            refine awp_seq_k fun K hK => ?_
            refine awp_region rfl ?_
            simp only [f2, f3, f4, f5, f6, f7, f8, f9, hb1, hb4, hb36, nb36_b1, nb1_b36, nb4_b36, nb36_b4, nb4_b1, nb1_b4, hck, List.length_map, d1, hg, m1, m2, m3, Int.one_mul, Int.natCast_one, Int.cast_ofNat_Int, hgn, z1, z2, w1, w2, w3, z3, hbn, hgr, z4, RR, seval]
            refine hK _ _ ?_; clear hK K
            refine awp_if _ rfl (fun hc => ?_) (fun hc => ?_)
            · have hlt4 : i < n := by have := of_decide_eq_true hc; omega
              clear hc
              have hb2 := getRow boolRow (List.getElem?_eq_getElem (show i < bs2.length by omega))
              have hrn := getRow boolRow (List.getElem?_eq_getElem (show i < rn.length by omega))
              simp only [boolRow] at hb2 hrn
              have z5 : (i : Int) < (L.length : Int) := by omega
              generalize bs2[i] = c0 at hb2
              generalize rn[i] = c1 at hrn
              refine awp_skip ?_; try simp only [RR]
              refine awp_seq ?_
              refine awp_block ?_
              refine awp_region rfl ?_
              simp only [f2, f3, f4, f5, f6, f7, f8, f9, hb1, hb4, hb36, nb36_b1, nb1_b36, nb4_b36, nb36_b4, nb4_b1, nb1_b4, hck, List.length_map, d1, hg, m1, m2, m3, Int.one_mul, Int.natCast_one, Int.cast_ofNat_Int, hgn, z1, z2, w1, w2, w3, z3, hbn, hgr, z4, hb2, hrn, z5, RR, seval]
              repeat' ((first | refine awpG_splitN (fun h => ?_) (fun h => ?_) | refine awpG_split (fun h => ?_) (fun h => ?_)) <;> simp only [h, f2, f3, f4, f5, f6, f7, f8, f9, hb1, hb4, hb36, nb36_b1, nb1_b36, nb4_b36, nb36_b4, nb4_b1, nb1_b4, hck, List.length_map, d1, hg, m1, m2, m3, Int.one_mul, Int.natCast_one, Int.cast_ofNat_Int, hgn, z1, z2, w1, w2, w3, z3, hbn, hgr, z4, hb2, hrn, z5, RR, seval])
              all_goals
                refine awp_region rfl ?_
                simp only [f2, f3, f4, f5, f6, f7, f8, f9, hb1, hb4, hb36, nb36_b1, nb1_b36, nb4_b36, nb36_b4, nb4_b1, nb1_b4, hck, List.length_map, d1, hg, m1, m2, m3, Int.one_mul, Int.natCast_one, Int.cast_ofNat_Int, hgn, z1, z2, w1, w2, w3, z3, hbn, hgr, z4, hb2, hrn, z5, RR, seval]
                try rw [IntWalk.i64_in _ (by omega)]
                refine hK4 _ _ hlt4 ⟨by first | rfl | (simp only [upd_app, seval]; rfl), (by first | exact e4_b1 | (simp only [nb36_b1, nb1_b36, nb4_b36, nb36_b4, nb4_b1, nb1_b4, upd_app, seval]; first | done | exact e4_b1)), (by first | exact e4_b4 | (simp only [nb36_b1, nb1_b36, nb4_b36, nb36_b4, nb4_b1, nb1_b4, upd_app, seval]; first | done | exact e4_b4)), ⟨bs2.set i (c0 || c1), (by rw [List.length_set]; exact q3), (fun x hx => by rw [List.getElem?_set_ne (by omega)]; exact q4 x hx), by rw [upd_same, List.map_set]; simp only [boolRow, h, Bool.true_or, Bool.false_or]⟩⟩ (by repeat (first | exact ag4 | refine agree.upd rfl ?_))
            · have hkn4 : i = n := by have := of_decide_eq_false hc; omega
              clear hc
              refine awp_exit ?_; simp only [RR, seval]
              refine awp_region rfl ?_
              simp only [f2, f3, f4, f5, f6, f7, f8, f9, hb1, hb4, hb36, nb36_b1, nb1_b36, nb4_b36, nb36_b4, nb4_b1, nb1_b4, hck, List.length_map, d1, hg, m1, m2, m3, Int.one_mul, Int.natCast_one, Int.cast_ofNat_Int, hgn, z1, z2, w1, w2, w3, z3, hbn, hgr, z4, RR, seval]
              try rw [IntWalk.i64_in _ (by omega)]
              refine hK2 _ _ hlt2 ⟨by first | rfl | (simp only [upd_app, seval]; rfl), (by first | exact e2_b1 | (simp only [nb36_b1, nb1_b36, nb4_b36, nb36_b4, nb4_b1, nb1_b4, upd_app, seval]; first | done | exact e2_b1)), ⟨bs2, q3, q4, hb36, .inr ⟨b4, e4, hb4⟩⟩⟩ (by repeat (first | exact ag2 | refine agree.upd rfl ?_))
        · have hkn2 : j = r.length := by have := of_decide_eq_false hc; omega
          clear hc
          have hbk := getRow boolRow (List.getElem?_eq_getElem (show k < bs.length by omega))
          have hbf : bs[k] = false := by
            have := q2 k (Nat.le_refl _)
            rw [List.getElem?_eq_getElem (show k < bs.length by omega)] at this
            cases hh : bs[k] with
            | false => rfl
            | true => exact absurd (by rw [hh]) this
          simp only [boolRow, hbf] at hbk
          have z6 : (k : Int) < (L.length : Int) := by omega
          refine awp_exit ?_; simp only [RR, seval]
          refine awp_seq ?_
          refine awp_seq_k fun K hK => ?_
          refine awp_region rfl ?_
          simp only [f3, f4, f5, f6, f7, hb1, hb36, nb36_b1, nb1_b36, hck, List.length_map, d1, hg, m1, m2, m3, Int.one_mul, Int.natCast_one, Int.cast_ofNat_Int, hbk, z6, RR, seval]
          refine hK _ _ ?_; clear hK K
          refine awp_if false rfl (fun hc => by cases hc) (fun _ => ?_)
          refine awp_skip ?_; try simp only [RR]
          refine awp_name fun F7 M7 hfr hH => ?_
          have g2 := hfr 2
          have g3 := hfr 3
          have g4 := hfr 4
          have g5 := hfr 5
          have g6 := hfr 6
          have g7 := hfr 7
          have gb1 := hH b1
          have gb36 := hH b36
          try simp only [f3, f4, f5, f6, f7, hb1, hb36, nb36_b1, nb1_b36, hck, List.length_map, d1, hg, m1, m2, m3, Int.one_mul, Int.natCast_one, Int.cast_ofNat_Int, hbk, z6, RR, seval] at g2 g3 g4 g5 g6 g7 gb1 gb36
          have ag0 : agree [3] F2 F7 := agree.same hfr (by repeat (first | exact ag0 | refine agree.upd rfl ?_))
          have e0_b1 := (hH b1).trans (by first | exact e0_b1 | (simp only [nb36_b1, nb1_b36, upd_app, seval]; first | done | exact e0_b1))
          have hown := hown.same hH
          have f2 := g2; clear g2
          have f3 := g3; clear g3
          have f4 := g4; clear g4
          have f5 := g5; clear g5
          have f6 := g6; clear g6
          have f7 := g7; clear g7
          have hb1 := gb1; clear gb1
          have hb36 := gb36; clear gb36
          clear hfr hH
          refine awp_freeze hb36 ?_
          refine awp_name fun F8 M8 hfr hH => ?_
          have g2 := hfr 2
          have g3 := hfr 3
          have g4 := hfr 4
          have g5 := hfr 5
          have g6 := hfr 6
          have g7 := hfr 7
          have gb1 := hH b1
          try simp only [frz_osl, frz_isl, frz_int, frz_str, frz_bool, frz_ptr, frz_nsl, frz_self, and_self, hoff.frz, q1, f2, f3, f4, f5, f6, f7, hb1, nb36_b1, nb1_b36, hck, List.length_map, d1, hg, m1, m2, m3, Int.one_mul, Int.natCast_one, Int.cast_ofNat_Int, hbk, z6, RR, seval] at g2 g3 g4 g5 g6 g7 gb1
          have ag0 : agree [3] F2 F8 := agree.cons (g3.trans (f3.symm.trans (ag0 3 rfl))) <| agree.nil _ _
          have e0_b1 := (hH b1).trans (by first | exact e0_b1 | (simp only [nb36_b1, nb1_b36, upd_app, seval]; first | done | exact e0_b1))
          have hown := (hown.off hoff none).same hH
          have f2 := g2; clear g2
          have f3 := g3; clear g3
          have f4 := g4; clear g4
          have f5 := g5; clear g5
          have f6 := g6; clear g6
          have f7 := g7; clear g7
          have hb1 := gb1; clear gb1
          clear hfr hH
          refine awp_region rfl ?_
          simp only [f2, f3, f4, f5, f6, f7, hb1, nb36_b1, nb1_b36, hck, List.length_map, d1, hg, m1, m2, m3, Int.one_mul, Int.natCast_one, Int.cast_ofNat_Int, hbk, z6, RR, seval]
          refine awpB_sealed ?_
          simp only [f2, f3, f4, f5, f6, f7, hb1, nb36_b1, nb1_b36, hck, List.length_map, d1, hg, m1, m2, m3, Int.one_mul, Int.natCast_one, Int.cast_ofNat_Int, hbk, z6, RR, seval]
          refine awpA_own hown (by simp only [List.length_map, List.length_cons, List.length_nil]; omega) (fun _ => trivial) fun v26 M9 hown' hk' => ?_
          simp only [f2, f3, f4, f5, f6, f7, hb1, nb36_b1, nb1_b36, hck, List.length_map, d1, hg, m1, m2, m3, Int.one_mul, Int.natCast_one, Int.cast_ofNat_Int, hbk, z6, RR, seval]
          have gb1 := hk' b1 _ hb1 (by first | exact (hown).nb' hb1 (by decide) | exact ho1 _ _ | assumption | (intro e; simp_all))
          have e0_b1 := (gb1.trans hb1.symm).trans e0_b1
          have hb1 := gb1; clear gb1
          refine awp_region rfl ?_
          simp only [f2, f3, f4, f5, f6, f7, hb1, nb36_b1, nb1_b36, hck, List.length_map, d1, hg, m1, m2, m3, Int.one_mul, Int.natCast_one, Int.cast_ofNat_Int, hbk, z6, RR, seval]
          try rw [IntWalk.i64_in _ (by omega)]
          refine hK0 _ _ hlt0 ⟨by first | rfl | (simp only [upd_app, seval]; rfl), (by first | exact e0_b1 | (simp only [nb36_b1, nb1_b36, upd_app, seval]; first | done | exact e0_b1)), ⟨rs ++ [bs], (by simp [hr1]), (fun x hx => by rcases List.mem_append.1 hx with hx | hx; exact hr2 x hx; rw [List.mem_singleton] at hx; rw [hx]; exact q1), by rw [List.map_append]; exact hown'⟩⟩ (by repeat (first | exact ag0 | refine agree.upd rfl ?_))
      · have hkn0 : k = L.length := by have := of_decide_eq_false hc; omega
        clear hc
        refine awp_exit ?_; simp only [RR, seval]
        refine awp_seq_k fun K hK => ?_
        refine awp_region rfl ?_
        simp only [f3, f5, hb1, hck, List.length_map, d1, RR, seval]
        refine hK _ _ ?_; clear hK K
        refine awp_ret ?_; simp only [bodyQ, aresult, ares, f3, f5, hb1, hck, List.length_map, d1, RR, seval]
        refine Gives.pure ?_
        rfl
end Go.Proofs.Ytnbokmbjiioooaa
