/- Chapter 15: ParseFront: the law's contract. -/
import Derived.Test.YtlpeikljipknoaaDoorGLBk
import Derived.Test.YtlpeikljipknoaaDoorGBp
import Derived.Test.YtlpeikljipknoaaDoorGBs
set_option linter.unusedSimpArgs false
set_option linter.unusedVariables false
set_option maxRecDepth 10000
namespace Go.Proofs.YtlpeikljipknoaaDoor
open Go.Al
theorem lex_parse {p : Pg} (ho : p.ok) (hr : rightP p = true) (hl : (prP p).length ≤ 20000) {T : List Tok} (hT : lexS (prP p) = .ok T) : progP T 0 = .ok p T.length := by
  obtain ⟨U, h1, h2⟩ := lex_prog ho hr hl
  rw [h1] at hT
  cases hT
  have h3 := prog_drop (rp_of ho hr)
  rw [← h2, progP_z, List.length_map] at h3
  exact h3
theorem front_src {p : Pg} (ho : p.ok) (hr : rightP p = true) (hl : (prP p).length ≤ 20000) {T : List Tok} (hT : lexS (prP p) = .ok T) {k : Nat} {t : Tok} (hk : T[k]? = some t) :
    ∃ c : Nat, t.pos = (c : Nat) ∧ c ≤ (prP p).length ∧ (srcP ((prP p).take c) = (pgZ, (c : Int), 3) ∨ ∃ q : Pg, srcP ((prP p).take c) = (q, 0, 0) ∧ 0 < q.funs.length ∧ q.funs.length < p.funs.length) := by
  have hb := lexS_big hT
  have hp := lex_parse ho hr hl hT
  obtain ⟨c, h1, h2, h3⟩ := cut_lex hb T rfl k t hk
  have hkl := (List.getElem?_eq_some_iff.1 hk).1
  refine ⟨c, by rw [h1, Nat.zero_add], h2, ?_⟩
  have hlen : ((prP p).take c).length = c := by rw [List.length_take]; omega
  have hlx : lexS ((prP p).take c) = .ok (T.take k) := by
    unfold lexS
    rw [if_neg (by omega)]
    exact h3
  have hTk : (T.take k).length = k := by rw [List.length_take]; omega
  unfold srcP
  rw [hlx]
  simp only
  rcases cut_prog hkl hp with e | ⟨j, j1, j2, e⟩
  · rw [e]
    left
    simp only
    have : atI (T.take k) ((prP p).take c).length k = (c : Nat) := by
      unfold atI
      rw [List.getElem?_eq_none (by omega), hlen]
    rw [this]
  · rw [e]
    right
    simp only
    rw [if_neg (by omega)]
    have hq : rightP ⟨p.vars, p.arrs, p.funs.take j⟩ = true := by
      simp only [rightP, Bool.and_eq_true, decide_eq_true_eq, List.all_eq_true] at hr ⊢
      obtain ⟨⟨⟨⟨r1, r2⟩, r3⟩, r4⟩, r5⟩ := hr
      have : (p.funs.take j).length = j := by rw [List.length_take]; omega
      exact ⟨⟨⟨⟨r1, by omega⟩, by omega⟩, r4⟩, fun f hf => r5 f (List.mem_of_mem_take hf)⟩
    rw [if_pos hq]
    have : (p.funs.take j).length = j := by rw [List.length_take]; omega
    exact ⟨_, rfl, by simp only; omega, by simp only; omega⟩
theorem rLex_long {s : Str} (h : 20000 < s.length) {i : Nat} {e : Int} (hx : lexS s = .error (i, e)) : PCon env 20 [.str s] (.tup [.nsl, .int .i64 (i : Nat), .int .i64 e]) := by
  have hd : decide ((20000 : Int) < (s.length : Int)) = true := decide_eq_true (by omega)
  unfold lexS at hx
  rw [if_pos h] at hx
  cases hx
  refine con_of 40 [.tmp 2, .tmp 3, .tmp 4] Tryd.func20 rfl rfl rfl rfl ?_
  refine awp_seq_k fun K hK => ?_
  refine awp_region rfl ?_
  simp only [hd, RR, seval]
  refine hK _ _ ?_; clear hK K
  refine awp_seq ?_
  refine awp_seq_k fun K hK => ?_
  refine awp_region rfl ?_
  simp only [hd, RR, seval]
  refine hK _ _ ?_; clear hK K
  refine awp_if true rfl (fun _ => ?_) (fun hc => by cases hc)
  refine awp_seq_k fun K hK => ?_
  refine awp_region rfl ?_
  simp only [hd, RR, seval]
  refine hK _ _ ?_; clear hK K
  refine awp_ret ?_; simp only [bodyQ, aresult, ares, hd, RR, seval]
  refine Gives.pure ?_
  rfl
set_option maxHeartbeats 4000000 in
theorem ParseFront_con (p : Pg) (hp : p.ok) (hl : Lim p) (n : Int) (hn : 0 ≤ n ∧ n ≤ 65535) : PCon env 10 [p.av, .int .u16 n] (.bool true) := by
  obtain ⟨n, rfl⟩ : ∃ a : Nat, n = a := ⟨n.toNat, by omega⟩
  have c1 := small5_con p hp hl 200 (by omega)
  have hs := Sml.of (m := 200) hp
  cases hq : smallQ p 200 with
  | false =>
    rw [hq] at c1
    simp only [Pg.av, Pg.row] at c1 ⊢
    refine con_of 84 [.tmp 4] Tryd.func10 rfl rfl rfl rfl ?_
    refine awp_seq_k fun K hK => ?_
    refine awp_region rfl ?_
    simp only [RR, seval]
    refine awpN_intro fun b2 hn2 => ?_
    simp only [RR, seval]
    refine hK _ _ ?_; clear hK K
    refine awp_seq ?_
    refine awp_seq_k fun K hK => ?_
    refine awp_region rfl ?_
    simp only [RR, seval]
    refine awpC_pure' (c1) ?_
    simp only [RR, seval]
    refine hK _ _ ?_; clear hK K
    refine awp_if true rfl (fun _ => ?_) (fun hc => by cases hc)
    refine awp_seq_k fun K hK => ?_
    refine awp_region rfl ?_
    simp only [RR, seval]
    refine awpC_pure' (awake_con) ?_
    simp only [RR, seval]
    refine hK _ _ ?_; clear hK K
    refine awp_ret ?_; simp only [bodyQ, aresult, ares, RR, seval]
    refine Gives.pure ?_
    rfl
  | true =>
    have hsm := hs hq
    have hpr := hsm.print (by omega)
    have hsl := prP_len hp hsm.right 1000 (by omega) (by have := hsm.v; omega) (by have := hsm.a; omega) fun f hf => by have := hsm.fs f hf; omega
    rw [hq] at c1
    have hfs := front_src hp hsm.right
    have hok := fun s => srcP_ok s
    generalize prP p = s at *
    cases hL : lexS s with
    | error x =>
      obtain ⟨i, e⟩ := x
      have hlc : PCon env 20 [.str s] (.tup [.nsl, .int .i64 (i : Nat), .int .i64 e]) := by
        by_cases h20 : 20000 < s.length
        · exact rLex_long h20 hL
        · exact rLex_err (by omega) hL
      have he := lexS_err hL
      have hd2 : decide (e = 0) = false := decide_eq_false he
      simp only [Pg.av, Pg.row] at c1 hpr ⊢
      refine con_of 84 [.tmp 4] Tryd.func10 rfl rfl rfl rfl ?_
      refine awp_seq_k fun K hK => ?_
      refine awp_region rfl ?_
      simp only [hd2, RR, seval]
      refine awpN_intro fun b2 hn2 => ?_
      simp only [hd2, RR, seval]
      refine hK _ _ ?_; clear hK K
      refine awp_seq ?_
      refine awp_seq_k fun K hK => ?_
      refine awp_region rfl ?_
      simp only [hd2, RR, seval]
      refine awpC_pure' (c1) ?_
      simp only [hd2, RR, seval]
      refine hK _ _ ?_; clear hK K
      refine awp_if false rfl (fun hc => by cases hc) (fun _ => ?_)
      refine awp_skip ?_; try simp only [RR]
      refine awp_seq_k fun K hK => ?_
      refine awp_region rfl ?_
      simp only [hd2, RR, seval]
      refine awpC_pure' (hpr) ?_
      simp only [hd2, RR, seval]
      refine hK _ _ ?_; clear hK K
      refine awp_seq_k fun K hK => ?_
      refine awp_region rfl ?_
      simp only [hd2, RR, seval]
      refine awpC_pure' (hlc) ?_
      simp only [hd2, RR, seval]
      refine hK _ _ ?_; clear hK K
      refine awp_seq ?_
      refine awp_seq_k fun K hK => ?_
      refine awp_region rfl ?_
      simp only [hd2, RR, seval]
      repeat' ((first | refine awpG_splitN (fun h => ?_) (fun h => ?_) | refine awpG_split (fun h => ?_) (fun h => ?_)) <;> simp only [h, hd2, RR, seval])
      all_goals
        refine hK _ _ ?_; clear hK K
        refine awp_if true rfl (fun _ => ?_) (fun hc => by cases hc)
        refine awp_seq_k fun K hK => ?_
        refine awp_region rfl ?_
        simp only [hd2, RR, seval]
        refine awpC_pure' (awake_con) ?_
        simp only [hd2, RR, seval]
        refine hK _ _ ?_; clear hK K
        refine awp_ret ?_; simp only [bodyQ, aresult, ares, hd2, RR, seval]
        refine Gives.pure ?_
        rfl
    | ok T =>
      have hsl2 : s.length ≤ 20000 := by
        unfold lexS at hL
        split at hL
        · cases hL
        · omega
      have hlc := rLex_ok (s := s) (by omega) hL
      have hTl : T.length ≤ 1000000 := (lexS_sz hL).len
      by_cases hT0 : T.length = 0
      · obtain rfl : T = [] := List.eq_nil_of_length_eq_zero hT0
        simp only [Pg.av, Pg.row] at c1 hpr ⊢
        refine con_of 84 [.tmp 4] Tryd.func10 rfl rfl rfl rfl ?_
        refine awp_seq_k fun K hK => ?_
        refine awp_region rfl ?_
        simp only [List.map_nil, List.length_nil, RR, seval]
        refine awpN_intro fun b2 hn2 => ?_
        simp only [List.map_nil, List.length_nil, RR, seval]
        refine hK _ _ ?_; clear hK K
        refine awp_seq ?_
        refine awp_seq_k fun K hK => ?_
        refine awp_region rfl ?_
        simp only [List.map_nil, List.length_nil, RR, seval]
        refine awpC_pure' (c1) ?_
        simp only [List.map_nil, List.length_nil, RR, seval]
        refine hK _ _ ?_; clear hK K
        refine awp_if false rfl (fun hc => by cases hc) (fun _ => ?_)
        refine awp_skip ?_; try simp only [RR]
        refine awp_seq_k fun K hK => ?_
        refine awp_region rfl ?_
        simp only [List.map_nil, List.length_nil, RR, seval]
        refine awpC_pure' (hpr) ?_
        simp only [List.map_nil, List.length_nil, RR, seval]
        refine hK _ _ ?_; clear hK K
        refine awp_seq_k fun K hK => ?_
        refine awp_region rfl ?_
        simp only [List.map_nil, List.length_nil, RR, seval]
        refine awpC_pure' (hlc) ?_
        simp only [List.map_nil, List.length_nil, RR, seval]
        refine hK _ _ ?_; clear hK K
        refine awp_seq ?_
        refine awp_seq_k fun K hK => ?_
        refine awp_region rfl ?_
        simp only [List.map_nil, List.length_nil, RR, seval]
        repeat' ((first | refine awpG_splitN (fun h => ?_) (fun h => ?_) | refine awpG_split (fun h => ?_) (fun h => ?_)) <;> simp only [h, List.map_nil, List.length_nil, RR, seval])
        all_goals
          refine hK _ _ ?_; clear hK K
          refine awp_if true rfl (fun _ => ?_) (fun hc => by cases hc)
          refine awp_seq_k fun K hK => ?_
          refine awp_region rfl ?_
          simp only [List.map_nil, List.length_nil, RR, seval]
          refine awpC_pure' (awake_con) ?_
          simp only [List.map_nil, List.length_nil, RR, seval]
          refine hK _ _ ?_; clear hK K
          refine awp_ret ?_; simp only [bodyQ, aresult, ares, List.map_nil, List.length_nil, RR, seval]
          refine Gives.pure ?_
          rfl
      · have hd0 : decide ((T.length : Int) = 0) = false := decide_eq_false (by omega)
        by_cases h15 : 15000 < s.length
        · have hd : decide ((15000 : Int) < (s.length : Int)) = true := decide_eq_true (by omega)
          simp only [Pg.av, Pg.row] at c1 hpr ⊢
          refine con_of 84 [.tmp 4] Tryd.func10 rfl rfl rfl rfl ?_
          refine awp_seq_k fun K hK => ?_
          refine awp_region rfl ?_
          simp only [List.length_map, hd0, hd, RR, seval]
          refine awpN_intro fun b2 hn2 => ?_
          simp only [List.length_map, hd0, hd, RR, seval]
          refine hK _ _ ?_; clear hK K
          refine awp_seq ?_
          refine awp_seq_k fun K hK => ?_
          refine awp_region rfl ?_
          simp only [List.length_map, hd0, hd, RR, seval]
          refine awpC_pure' (c1) ?_
          simp only [List.length_map, hd0, hd, RR, seval]
          refine hK _ _ ?_; clear hK K
          refine awp_if false rfl (fun hc => by cases hc) (fun _ => ?_)
          refine awp_skip ?_; try simp only [RR]
          refine awp_seq_k fun K hK => ?_
          refine awp_region rfl ?_
          simp only [List.length_map, hd0, hd, RR, seval]
          refine awpC_pure' (hpr) ?_
          simp only [List.length_map, hd0, hd, RR, seval]
          refine hK _ _ ?_; clear hK K
          refine awp_seq_k fun K hK => ?_
          refine awp_region rfl ?_
          simp only [List.length_map, hd0, hd, RR, seval]
          refine awpC_pure' (hlc) ?_
          simp only [List.length_map, hd0, hd, RR, seval]
          refine hK _ _ ?_; clear hK K
          refine awp_seq ?_
          refine awp_seq_k fun K hK => ?_
          refine awp_region rfl ?_
          simp only [List.length_map, hd0, hd, RR, seval]
          repeat' ((first | refine awpG_splitN (fun h => ?_) (fun h => ?_) | refine awpG_split (fun h => ?_) (fun h => ?_)) <;> simp only [h, List.length_map, hd0, hd, RR, seval])
          all_goals
            refine hK _ _ ?_; clear hK K
            refine awp_if true rfl (fun _ => ?_) (fun hc => by cases hc)
            refine awp_seq_k fun K hK => ?_
            refine awp_region rfl ?_
            simp only [List.length_map, hd0, hd, RR, seval]
            refine awpC_pure' (awake_con) ?_
            simp only [List.length_map, hd0, hd, RR, seval]
            refine hK _ _ ?_; clear hK K
            refine awp_ret ?_; simp only [bodyQ, aresult, ares, List.length_map, hd0, hd, RR, seval]
            refine Gives.pure ?_
            rfl
        · have hd : decide ((15000 : Int) < (s.length : Int)) = false := decide_eq_false (by omega)
          have hlt : n % T.length < T.length := Nat.mod_lt _ (by omega)
          have hg := List.getElem?_eq_getElem hlt
          generalize T[n % T.length] = t at hg
          obtain ⟨c, hc1, hc2, hc3⟩ := hfs hsl2 hL hg
          have hgt := getT hg
          rw [hc1] at hgt
          have z1 : IntKind.wrap .i64 (n : Int) = (n : Int) := by rw [IntWalk.i64_in _ (by omega)]
          have z2 : (n : Int).tmod (T.length : Int) = ((n % T.length : Nat) : Int) := IntWalk.up_tmod rfl rfl
          have z3 : ¬ ((T.length : Int) = 0) := by omega
          have hcl : (s.take c).length = c := by rw [List.length_take]; omega
          have hcs : (c : Int) ≤ s.length := by omega
          have hsl0 : (s.drop 0).take (c - 0) = s.take c := rfl
          have c2 := pProg_con (s.take c) (by omega)
          have o2 := hok (s.take c)
          rcases hc3 with e | ⟨q, e, e1, e2⟩
          · rw [e] at c2
            simp only [resP, pgZ, Pg.av, Pg.row] at c1 c2 hpr ⊢
            refine con_of 84 [.tmp 4] Tryd.func10 rfl rfl rfl rfl ?_
            refine awp_seq_k fun K hK => ?_
            refine awp_region rfl ?_
            simp only [List.length_map, hd0, hd, z1, z2, z3, hgt, hcs, hcl, hsl0, RR, seval]
            refine awpN_intro fun b2 hn2 => ?_
            simp only [List.length_map, hd0, hd, z1, z2, z3, hgt, hcs, hcl, hsl0, RR, seval]
            refine hK _ _ ?_; clear hK K
            refine awp_seq ?_
            refine awp_seq_k fun K hK => ?_
            refine awp_region rfl ?_
            simp only [List.length_map, hd0, hd, z1, z2, z3, hgt, hcs, hcl, hsl0, RR, seval]
            refine awpC_pure' (c1) ?_
            simp only [List.length_map, hd0, hd, z1, z2, z3, hgt, hcs, hcl, hsl0, RR, seval]
            refine hK _ _ ?_; clear hK K
            refine awp_if false rfl (fun hc => by cases hc) (fun _ => ?_)
            refine awp_skip ?_; try simp only [RR]
            refine awp_seq_k fun K hK => ?_
            refine awp_region rfl ?_
            simp only [List.length_map, hd0, hd, z1, z2, z3, hgt, hcs, hcl, hsl0, RR, seval]
            refine awpC_pure' (hpr) ?_
            simp only [List.length_map, hd0, hd, z1, z2, z3, hgt, hcs, hcl, hsl0, RR, seval]
            refine hK _ _ ?_; clear hK K
            refine awp_seq_k fun K hK => ?_
            refine awp_region rfl ?_
            simp only [List.length_map, hd0, hd, z1, z2, z3, hgt, hcs, hcl, hsl0, RR, seval]
            refine awpC_pure' (hlc) ?_
            simp only [List.length_map, hd0, hd, z1, z2, z3, hgt, hcs, hcl, hsl0, RR, seval]
            refine hK _ _ ?_; clear hK K
            refine awp_seq ?_
            refine awp_seq_k fun K hK => ?_
            refine awp_region rfl ?_
            simp only [List.length_map, hd0, hd, z1, z2, z3, hgt, hcs, hcl, hsl0, RR, seval]
            repeat' ((first | refine awpG_splitN (fun h => ?_) (fun h => ?_) | refine awpG_split (fun h => ?_) (fun h => ?_)) <;> simp only [h, List.length_map, hd0, hd, z1, z2, z3, hgt, hcs, hcl, hsl0, RR, seval])
            all_goals
              refine hK _ _ ?_; clear hK K
              refine awp_if false rfl (fun hc => by cases hc) (fun _ => ?_)
              refine awp_skip ?_; try simp only [RR]
              refine awp_seq_k fun K hK => ?_
              refine awp_region rfl ?_
              simp only [List.length_map, hd0, hd, z1, z2, z3, hgt, hcs, hcl, hsl0, RR, seval]
              refine hK _ _ ?_; clear hK K
              refine awp_seq_k fun K hK => ?_
              refine awp_region rfl ?_
              simp only [List.length_map, hd0, hd, z1, z2, z3, hgt, hcs, hcl, hsl0, RR, seval]
              refine awpC_pure' (c2) ?_
              simp only [List.length_map, hd0, hd, z1, z2, z3, hgt, hcs, hcl, hsl0, RR, seval]
              refine awpN_intro fun b10 hn10 => ?_
              have nb10_b2 : b10 ≠ b2 := fun e => by rw [e] at hn10; simp only [RR, seval, reduceCtorEq] at hn10
              have nb2_b10 : b2 ≠ b10 := fun e => nb10_b2 e.symm
              simp only [nb10_b2, nb2_b10, List.length_map, hd0, hd, z1, z2, z3, hgt, hcs, hcl, hsl0, RR, seval]
              refine hK _ _ ?_; clear hK K
              refine awp_seq ?_
              refine awp_seq_k fun K hK => ?_
              refine awp_region rfl ?_
              simp only [List.length_map, hd0, hd, z1, z2, z3, hgt, hcs, hcl, hsl0, RR, seval]
              refine hK _ _ ?_; clear hK K
              refine awp_if false rfl (fun hc => by cases hc) (fun _ => ?_)
              refine awp_skip ?_; try simp only [RR]
              refine awp_seq_k fun K hK => ?_
              refine awp_region rfl ?_
              simp only [nb10_b2, nb2_b10, List.length_map, hd0, hd, z1, z2, z3, hgt, hcs, hcl, hsl0, RR, seval]
              refine awpC_pure' (awake_con) ?_
              simp only [nb10_b2, nb2_b10, List.length_map, hd0, hd, z1, z2, z3, hgt, hcs, hcl, hsl0, RR, seval]
              refine hK _ _ ?_; clear hK K
              refine awp_ret ?_; simp only [bodyQ, aresult, ares, List.length_map, hd0, hd, z1, z2, z3, hgt, hcs, hcl, hsl0, RR, seval]
              refine Gives.pure ?_
              first | rfl | (simp; omega) | simp
          · rw [e] at c2
            have k1 : decide ((0 : Int) < (q.funs.length : Int)) = true := decide_eq_true (by omega)
            have k2 : decide ((q.funs.length : Int) < (p.funs.length : Int)) = true := decide_eq_true (by omega)
            simp only [resP, Pg.av, Pg.row] at c1 c2 hpr ⊢
            refine con_of 84 [.tmp 4] Tryd.func10 rfl rfl rfl rfl ?_
            refine awp_seq_k fun K hK => ?_
            refine awp_region rfl ?_
            simp only [List.length_map, hd0, hd, z1, z2, z3, hgt, hcs, hcl, hsl0, k1, k2, RR, seval]
            refine awpN_intro fun b2 hn2 => ?_
            simp only [List.length_map, hd0, hd, z1, z2, z3, hgt, hcs, hcl, hsl0, k1, k2, RR, seval]
            refine hK _ _ ?_; clear hK K
            refine awp_seq ?_
            refine awp_seq_k fun K hK => ?_
            refine awp_region rfl ?_
            simp only [List.length_map, hd0, hd, z1, z2, z3, hgt, hcs, hcl, hsl0, k1, k2, RR, seval]
            refine awpC_pure' (c1) ?_
            simp only [List.length_map, hd0, hd, z1, z2, z3, hgt, hcs, hcl, hsl0, k1, k2, RR, seval]
            refine hK _ _ ?_; clear hK K
            refine awp_if false rfl (fun hc => by cases hc) (fun _ => ?_)
            refine awp_skip ?_; try simp only [RR]
            refine awp_seq_k fun K hK => ?_
            refine awp_region rfl ?_
            simp only [List.length_map, hd0, hd, z1, z2, z3, hgt, hcs, hcl, hsl0, k1, k2, RR, seval]
            refine awpC_pure' (hpr) ?_
            simp only [List.length_map, hd0, hd, z1, z2, z3, hgt, hcs, hcl, hsl0, k1, k2, RR, seval]
            refine hK _ _ ?_; clear hK K
            refine awp_seq_k fun K hK => ?_
            refine awp_region rfl ?_
            simp only [List.length_map, hd0, hd, z1, z2, z3, hgt, hcs, hcl, hsl0, k1, k2, RR, seval]
            refine awpC_pure' (hlc) ?_
            simp only [List.length_map, hd0, hd, z1, z2, z3, hgt, hcs, hcl, hsl0, k1, k2, RR, seval]
            refine hK _ _ ?_; clear hK K
            refine awp_seq ?_
            refine awp_seq_k fun K hK => ?_
            refine awp_region rfl ?_
            simp only [List.length_map, hd0, hd, z1, z2, z3, hgt, hcs, hcl, hsl0, k1, k2, RR, seval]
            repeat' ((first | refine awpG_splitN (fun h => ?_) (fun h => ?_) | refine awpG_split (fun h => ?_) (fun h => ?_)) <;> simp only [h, List.length_map, hd0, hd, z1, z2, z3, hgt, hcs, hcl, hsl0, k1, k2, RR, seval])
            all_goals
              refine hK _ _ ?_; clear hK K
              refine awp_if false rfl (fun hc => by cases hc) (fun _ => ?_)
              refine awp_skip ?_; try simp only [RR]
              refine awp_seq_k fun K hK => ?_
              refine awp_region rfl ?_
              simp only [List.length_map, hd0, hd, z1, z2, z3, hgt, hcs, hcl, hsl0, k1, k2, RR, seval]
              refine hK _ _ ?_; clear hK K
              refine awp_seq_k fun K hK => ?_
              refine awp_region rfl ?_
              simp only [List.length_map, hd0, hd, z1, z2, z3, hgt, hcs, hcl, hsl0, k1, k2, RR, seval]
              refine awpC_pure' (c2) ?_
              simp only [List.length_map, hd0, hd, z1, z2, z3, hgt, hcs, hcl, hsl0, k1, k2, RR, seval]
              refine awpN_intro fun b10 hn10 => ?_
              have nb10_b2 : b10 ≠ b2 := fun e => by rw [e] at hn10; simp only [RR, seval, reduceCtorEq] at hn10
              have nb2_b10 : b2 ≠ b10 := fun e => nb10_b2 e.symm
              simp only [nb10_b2, nb2_b10, List.length_map, hd0, hd, z1, z2, z3, hgt, hcs, hcl, hsl0, k1, k2, RR, seval]
              refine hK _ _ ?_; clear hK K
              refine awp_seq ?_
              refine awp_seq_k fun K hK => ?_
              refine awp_region rfl ?_
              simp only [List.length_map, hd0, hd, z1, z2, z3, hgt, hcs, hcl, hsl0, k1, k2, RR, seval]
              refine hK _ _ ?_; clear hK K
              refine awp_if true rfl (fun _ => ?_) (fun hc => by cases hc)
              refine awp_seq_k fun K hK => ?_
              refine awp_region rfl ?_
              simp only [nb10_b2, nb2_b10, List.length_map, hd0, hd, z1, z2, z3, hgt, hcs, hcl, hsl0, k1, k2, RR, seval]
              refine awpC_pure' (awake_con) ?_
              simp only [nb10_b2, nb2_b10, List.length_map, hd0, hd, z1, z2, z3, hgt, hcs, hcl, hsl0, k1, k2, RR, seval]
              refine hK _ _ ?_; clear hK K
              refine awp_ret ?_; simp only [bodyQ, aresult, ares, List.length_map, hd0, hd, z1, z2, z3, hgt, hcs, hcl, hsl0, k1, k2, RR, seval]
              refine Gives.pure ?_
              first | rfl | simp
end Go.Proofs.YtlpeikljipknoaaDoor
