/- Chapter 18: trees whose names have a letter more. Chapter 18: statements whose names have a letter more. Chapter 18: a program with other names, in plain Lean. Chapter 18: the other names, looked up. Chapter 18: the other names: both do the same. Chapter 18: THE PLAIN LAW OF NAMES. Chapter 18: the other names: sizes. Chapter 18: a sound program has short names; the other program is few. -/
import Derived.Test.YtlokndnkpleegaaMz
import Derived.Test.YtlokndnkpleegaaAlSf
import Derived.Test.YtlokndnkpleegaaMma
set_option linter.unusedSimpArgs false
set_option linter.unusedVariables false
set_option maxRecDepth 10000
namespace Go.Al
def qN (s : Str) : Str := s ++ [113]
def qNe (s : Str) : Str := if decide (s = []) = true then s else s ++ [113]
mutual
def qX : Ex → Ex
  | .mk k o n s l => .mk k o n (qNe s) (qE l)
def qE : List Ex → List Ex
  | [] => []
  | e :: l => qX e :: qE l
end
theorem qE_map : ∀ l : List Ex, qE l = l.map qX
  | [] => by simp only [qE, List.map_nil]
  | e :: l => by simp only [qE, List.map_cons, qE_map l]
theorem qX_row (e : Ex) : (qX e).row = [.int .i64 e.kind, .int .i64 e.op, .int .u32 e.num, .str (qNe e.name), .isl 5 ((e.kids.map qX).map Ex.row)] := by
  cases e; simp only [qX, Ex.row_eq, Ex.kind, Ex.op, Ex.num, Ex.name, Ex.kids, qE_map]
mutual
def qM : Sm → Sm
  | .mk k s l t u => .mk k (qNe s) (l.map qX) (qS t) (qS u)
def qS : List Sm → List Sm
  | [] => []
  | e :: l => qM e :: qS l
end
theorem qS_map : ∀ l : List Sm, qS l = l.map qM
  | [] => by simp only [qS, List.map_nil]
  | e :: l => by simp only [qS, List.map_cons, qS_map l]
theorem qM_row (e : Sm) : (qM e).row = [.int .i64 e.kind, .str (qNe e.name), .isl 5 ((e.es.map qX).map Ex.row), .isl 5 ((e.thn.map qM).map Sm.row), .isl 5 ((e.els.map qM).map Sm.row)] := by
  cases e; simp only [qM, Sm.row_eq, Sm.kind, Sm.name, Sm.es, Sm.thn, Sm.els, qS_map]
mutual
def nmlX : Ex → Prop
  | .mk _ _ _ s l => s.length ≤ 1000000 ∧ nmlE l
def nmlE : List Ex → Prop
  | [] => True
  | e :: l => nmlX e ∧ nmlE l
end
theorem nmlE_all : ∀ l : List Ex, nmlE l ↔ ∀ e ∈ l, nmlX e
  | [] => by simp [nmlE]
  | e :: l => by
    simp only [nmlE, nmlE_all l]
    constructor
    · rintro ⟨h1, h2⟩ x hx
      rcases List.mem_cons.1 hx with rfl | hx
      · exact h1
      · exact h2 x hx
    · exact fun h => ⟨h e List.mem_cons_self, fun x hx => h x (List.mem_cons_of_mem _ hx)⟩
theorem nmlX_eq (e : Ex) : nmlX e ↔ e.name.length ≤ 1000000 ∧ ∀ x ∈ e.kids, nmlX x := by
  cases e; simp only [nmlX, Ex.name, Ex.kids, nmlE_all]
theorem len_szE : ∀ l : List Ex, l.length ≤ szE l
  | [] => by simp [szE]
  | e :: l => by have := len_szE l; have := e.sz_eq; simp only [List.length_cons, szE]; omega
end Go.Al
namespace Go.Proofs.Ytlokndnkpleegaa
open Go.Al
theorem renamed_con (s : Str) (hs : s.length ≤ 1000000) : PCon env 29 [.str s] (.str (s ++ [113])) := by
  have hml : s.length + 1 ≤ maxLen := by simp only [maxLen]; omega
  refine con_of 5 [.tmp 2] Try.func29 rfl rfl rfl rfl ?_
  refine awp_seq_k fun K hK => ?_
  refine awp_region rfl ?_
  simp only [hml, RR, seval]
  refine hK _ _ ?_; clear hK K
  refine awp_seq_k fun K hK => ?_
  refine awp_region rfl ?_
  simp only [hml, RR, seval]
  refine hK _ _ ?_; clear hK K
  refine awp_ret ?_; simp only [bodyQ, aresult, ares, hml, RR, seval]
  refine Gives.pure ?_
  rfl
theorem qnames_con (l : List Str) (hl : l.length ≤ 1000000) (hn : ∀ s ∈ l, s.length ≤ 1000000) : PCon env 28 [.isl 1 (l.map strRow)] (.isl 1 ((l.map qN).map strRow)) := by
  refine con_of 20 [.tmp 2] Try.func28 rfl rfl rfl rfl ?_
  refine awp_seq_k fun K hK => ?_
  refine awp_region rfl ?_
  simp only [List.length_map, RR, seval]
  refine hK _ _ ?_; clear hK K
  refine awp_seq_k fun K hK => ?_
  refine awp_region rfl ?_
  simp only [List.length_map, RR, seval]
  refine hK _ _ ?_; clear hK K
  refine awp_seq ?_
  refine awp_seq_k fun K hK => ?_
  refine awp_region rfl ?_
  simp only [List.length_map, RR, seval]
  refine hK _ _ ?_; clear hK K
  refine awp_name fun F1 M1 hfr hH => ?_
  have g0 := hfr 0
  have g2 := hfr 2
  have g3 := hfr 3
  have g4 := hfr 4
  try simp only [List.length_map, RR, seval] at g0 g2 g3 g4
  have f0 := g0; clear g0
  have f2 := g2; clear g2
  have f3 := g3; clear g3
  have f4 := g4; clear g4
  clear hfr hH
  refine awp_block ?_
  refine awp_each [0, 2] (l.length) (fun k fr M => fr 4 = .int .i64 (k : Nat) ∧ OwnL 1 (fr 3) (((l.take k).map qN).map strRow) M) ⟨f4, .inl ⟨f3, rfl⟩⟩ ?_
  rintro k F2 M2 hk0 ⟨fx, hown⟩ agx K0 hK0
  have f0 := (agx 0 rfl).trans f0
  have f2 := (agx 2 rfl).trans f2
  have f4 := fx; clear fx
  have ag0 := agree.refl [0, 2] F2
  clear agx
  obtain ⟨v3, f3⟩ : ∃ v, F2 3 = v := ⟨_, rfl⟩
  rw [f3] at hown
  refine awp_seq ?_
  refine awp_seq_k fun K hK => ?_
  refine awp_region rfl ?_
  simp only [f0, f2, f4, f3, List.length_map, RR, seval]
  refine hK _ _ ?_; clear hK K
  refine awp_if _ rfl (fun hc => ?_) (fun hc => ?_)
  · have hlt0 : k < l.length := by have := of_decide_eq_true hc; omega
    clear hc
    have hg := getN (List.getElem?_eq_getElem hlt0)
    have htk : l.take (k + 1) = l.take k ++ [l[k]] := List.take_succ_eq_append_getElem hlt0
    have htl : (l.take k).length ≤ l.length := by rw [List.length_take]; omega
    have hr := renamed_con _ (hn _ (List.getElem_mem hlt0))
    generalize l[k] = e at hg htk hr
    refine awp_skip ?_; try simp only [RR]
    refine awp_seq ?_
    refine awp_block ?_
    refine awp_region rfl ?_
    simp only [f0, f2, f4, f3, List.length_map, hg, RR, seval]
    refine awpC_pure' (hr) ?_
    simp only [f0, f2, f4, f3, List.length_map, hg, RR, seval]
    refine awpB_sealed ?_
    simp only [f0, f2, f4, f3, List.length_map, hg, RR, seval]
    refine awpA_own hown (by simp only [List.length_map, List.length_cons, List.length_nil]; omega) (fun _ => trivial) fun v5 M3 hown' hk' => ?_
    simp only [f0, f2, f4, f3, List.length_map, hg, RR, seval]
    refine awp_region rfl ?_
    simp only [f0, f2, f4, f3, List.length_map, hg, RR, seval]
    try rw [IntWalk.i64_in _ (by omega)]
    refine hK0 _ _ hlt0 ⟨by first | rfl | (simp only [upd_app, seval]; rfl), by rw [htk, List.map_append, List.map_append, List.map_singleton, List.map_singleton]; exact hown'⟩ (by repeat (first | exact ag0 | refine agree.upd rfl ?_))
  · have hkn0 : k = l.length := by have := of_decide_eq_false hc; omega
    clear hc
    refine awp_exit ?_; simp only [RR, seval]
    refine awp_name fun F4 M4 hfr hH => ?_
    have g2 := hfr 2
    have g3 := hfr 3
    try simp only [f0, f2, f4, f3, List.length_map, RR, seval] at g2 g3
    have hown := hown.same hH
    have f2 := g2; clear g2
    have f3 := g3; clear g3
    clear hfr hH
    rw [hkn0, List.take_length] at hown
    refine awp_seal2 (i := 3) (by rw [f3]; exact hown) fun F5 M5 hs hf' hk' => ?_
    have g2 := (hf' 2 (by decide) (by rw [f2]; first | exact apart_ptr _ _ _ _ _ | exact apart_int _ _ _ | exact apart_str _ _ | exact apart_isl _ _ _ | exact apart_bool _ _ | exact apart_bool' _ | exact apart_undef _ | exact apart_tup _ _ | exact apart_mp _ _ | assumption)).trans f2
    have g3 := hs
    have f2 := g2; clear g2
    have f3 := g3; clear g3
    clear hs hf' hk'
    refine awp_seq_k fun K hK => ?_
    refine awp_region rfl ?_
    simp only [f2, f3, List.length_map, RR, seval]
    refine hK _ _ ?_; clear hK K
    refine awp_ret ?_; simp only [bodyQ, aresult, ares, f2, f3, List.length_map, RR, seval]
    refine Gives.pure ?_
    rfl
theorem qexprs_con (n : Nat) : ∀ l : List Ex, szE l ≤ n → n ≤ 1000000 → (∀ u : List Ex, szE u ≤ n → True) → (∀ e ∈ l, nmlX e) → PCon env 45 [.isl 5 (l.map Ex.row)] (.isl 5 ((l.map qX).map Ex.row)) := by
  induction n using Nat.strongRecOn with
  | _ n ih =>
    intro l hn hb _ hnm
    have hll := len_szE l
    refine con_of 32 [.tmp 2] Try.func45 rfl rfl rfl rfl ?_
    refine awp_seq_k fun K hK => ?_
    refine awp_region rfl ?_
    simp only [List.length_map, RR, seval]
    refine hK _ _ ?_; clear hK K
    refine awp_seq_k fun K hK => ?_
    refine awp_region rfl ?_
    simp only [List.length_map, RR, seval]
    refine hK _ _ ?_; clear hK K
    refine awp_seq ?_
    refine awp_seq_k fun K hK => ?_
    refine awp_region rfl ?_
    simp only [List.length_map, RR, seval]
    refine hK _ _ ?_; clear hK K
    refine awp_name fun F1 M1 hfr hH => ?_
    have g0 := hfr 0
    have g2 := hfr 2
    have g3 := hfr 3
    have g4 := hfr 4
    try simp only [List.length_map, RR, seval] at g0 g2 g3 g4
    have f0 := g0; clear g0
    have f2 := g2; clear g2
    have f3 := g3; clear g3
    have f4 := g4; clear g4
    clear hfr hH
    refine awp_block ?_
    refine awp_each [0, 2] (l.length) (fun k fr M => fr 4 = .int .i64 (k : Nat) ∧ OwnL 5 (fr 3) (((l.take k).map qX).map Ex.row) M) ⟨f4, .inl ⟨f3, rfl⟩⟩ ?_
    rintro k F2 M2 hk0 ⟨fx, hown⟩ agx K0 hK0
    have f0 := (agx 0 rfl).trans f0
    have f2 := (agx 2 rfl).trans f2
    have f4 := fx; clear fx
    have ag0 := agree.refl [0, 2] F2
    clear agx
    obtain ⟨v3, f3⟩ : ∃ v, F2 3 = v := ⟨_, rfl⟩
    rw [f3] at hown
    refine awp_seq ?_
    refine awp_seq_k fun K hK => ?_
    refine awp_region rfl ?_
    simp only [f0, f2, f4, f3, List.length_map, RR, seval]
    refine hK _ _ ?_; clear hK K
    refine awp_if _ rfl (fun hc => ?_) (fun hc => ?_)
    · have hlt0 : k < l.length := by have := of_decide_eq_true hc; omega
      clear hc
      have hg := getE (List.getElem?_eq_getElem hlt0)
      have hsz := szE_mem (List.getElem_mem hlt0)
      have htk : l.take (k + 1) = l.take k ++ [l[k]] := List.take_succ_eq_append_getElem hlt0
      have htl : (l.take k).length ≤ l.length := by rw [List.length_take]; omega
      have hnk := hnm _ (List.getElem_mem hlt0)
      generalize l[k] = e at hg hsz htk hnk
      have hr := qX_row e
      have hz := e.sz_eq
      rw [nmlX_eq] at hnk
      have hih := ih (szE e.kids) (by omega) e.kids (Nat.le_refl _) (by omega) (fun _ _ => trivial) hnk.2
      have hrn := renamed_con e.name hnk.1
      have hqn : qNe e.name = if decide (e.name = []) = true then e.name else e.name ++ [113] := rfl
      rw [hqn] at hr
      clear hqn
      generalize z1 : decide (e.name = []) = B1 at hr
      cases B1
      all_goals
        refine awp_skip ?_; try simp only [RR]
        refine awp_seq ?_
        refine awp_block ?_
        refine awp_seq_k fun K hK => ?_
        refine awp_region rfl ?_
        simp only [f0, f2, f4, f3, List.length_map, hg, z1, RR, seval]
        refine awpN_intro fun b5 hn5 => ?_
        simp only [f0, f2, f4, f3, List.length_map, hg, z1, RR, seval]
        refine hK _ _ ?_; clear hK K
        have ho5 := hown.new hn5
        refine awp_seq ?_
        refine awp_seq_k fun K hK => ?_
        refine awp_region rfl ?_
        simp only [f0, f2, f4, f3, List.length_map, hg, z1, RR, seval]
        refine hK _ _ ?_; clear hK K
        refine awp_if _ rfl (fun hc6 => ?_) (fun hc6 => ?_)
        · try (cases hc6; done)
          all_goals
            refine awp_region rfl ?_
            simp only [f0, f2, f4, f3, List.length_map, hg, z1, RR, seval]
            refine awpC_pure' (hrn) ?_
            simp only [f0, f2, f4, f3, List.length_map, hg, z1, RR, seval]
            refine awp_seq_k fun K hK => ?_
            refine awp_region rfl ?_
            simp only [f0, f2, f4, f3, List.length_map, hg, z1, RR, seval]
            refine awpC_pure' (hih) ?_
            simp only [f0, f2, f4, f3, List.length_map, hg, z1, RR, seval]
            refine hK _ _ ?_; clear hK K
            refine awp_name fun F3 M3 hfr hH => ?_
            have g0 := hfr 0
            have g2 := hfr 2
            have g3 := hfr 3
            have g4 := hfr 4
            have g5 := hfr 5
            have gb5 := hH b5
            try simp only [f0, f2, f4, f3, List.length_map, hg, z1, RR, seval] at g0 g2 g3 g4 g5 gb5
            have ag0 : agree [0, 2] F2 F3 := agree.same hfr (by repeat (first | exact ag0 | refine agree.upd rfl ?_))
            have hown := OwnL.same (sz := 5) (v := v3) (rows := ((l.take k).map qX).map Ex.row) (by repeat (first | exact hown | refine OwnL.off ?_ ho5 _)) hH
            have f0 := g0; clear g0
            have f2 := g2; clear g2
            have f3 := g3; clear g3
            have f4 := g4; clear g4
            have f5 := g5; clear g5
            have hb5 := gb5; clear gb5
            clear hfr hH
            refine awp_region rfl ?_
            simp only [f0, f2, f3, f4, f5, hb5, List.length_map, hg, z1, RR, seval]
            refine awpB_sealed ?_
            simp only [f0, f2, f3, f4, f5, hb5, List.length_map, hg, z1, RR, seval]
            refine awpA_own hown (by simp only [List.length_map, List.length_cons, List.length_nil]; omega) (fun _ => trivial) fun v9 M4 hown' hk' => ?_
            simp only [f0, f2, f3, f4, f5, hb5, List.length_map, hg, z1, RR, seval]
            have gb5 := hk' b5 _ hb5 (by first | exact (hown).nb' hb5 (by decide) | exact ho5 _ _ | assumption | (intro e; simp_all))
            have hb5 := gb5; clear gb5
            refine awp_region rfl ?_
            simp only [f0, f2, f3, f4, f5, hb5, List.length_map, hg, z1, RR, seval]
            try rw [IntWalk.i64_in _ (by omega)]
            refine hK0 _ _ hlt0 ⟨by first | rfl | (simp only [upd_app, seval]; rfl), by rw [htk, List.map_append, List.map_append, List.map_singleton, List.map_singleton, hr]; exact hown'⟩ (by repeat (first | exact ag0 | refine agree.upd rfl ?_))
        · try (cases hc6; done)
          all_goals
            refine awp_skip ?_; try simp only [RR]
            refine awp_seq_k fun K hK => ?_
            refine awp_region rfl ?_
            simp only [f0, f2, f4, f3, List.length_map, hg, z1, RR, seval]
            refine awpC_pure' (hih) ?_
            simp only [f0, f2, f4, f3, List.length_map, hg, z1, RR, seval]
            refine hK _ _ ?_; clear hK K
            refine awp_name fun F5 M5 hfr hH => ?_
            have g0 := hfr 0
            have g2 := hfr 2
            have g3 := hfr 3
            have g4 := hfr 4
            have g5 := hfr 5
            have gb5 := hH b5
            try simp only [f0, f2, f4, f3, List.length_map, hg, z1, RR, seval] at g0 g2 g3 g4 g5 gb5
            have ag0 : agree [0, 2] F2 F5 := agree.same hfr (by repeat (first | exact ag0 | refine agree.upd rfl ?_))
            have hown := OwnL.same (sz := 5) (v := v3) (rows := ((l.take k).map qX).map Ex.row) (by repeat (first | exact hown | refine OwnL.off ?_ ho5 _)) hH
            have f0 := g0; clear g0
            have f2 := g2; clear g2
            have f3 := g3; clear g3
            have f4 := g4; clear g4
            have f5 := g5; clear g5
            have hb5 := gb5; clear gb5
            clear hfr hH
            refine awp_region rfl ?_
            simp only [f0, f2, f3, f4, f5, hb5, List.length_map, hg, z1, RR, seval]
            refine awpB_sealed ?_
            simp only [f0, f2, f3, f4, f5, hb5, List.length_map, hg, z1, RR, seval]
            refine awpA_own hown (by simp only [List.length_map, List.length_cons, List.length_nil]; omega) (fun _ => trivial) fun v9 M6 hown' hk' => ?_
            simp only [f0, f2, f3, f4, f5, hb5, List.length_map, hg, z1, RR, seval]
            have gb5 := hk' b5 _ hb5 (by first | exact (hown).nb' hb5 (by decide) | exact ho5 _ _ | assumption | (intro e; simp_all))
            have hb5 := gb5; clear gb5
            refine awp_region rfl ?_
            simp only [f0, f2, f3, f4, f5, hb5, List.length_map, hg, z1, RR, seval]
            try rw [IntWalk.i64_in _ (by omega)]
            refine hK0 _ _ hlt0 ⟨by first | rfl | (simp only [upd_app, seval]; rfl), by rw [htk, List.map_append, List.map_append, List.map_singleton, List.map_singleton, hr]; exact hown'⟩ (by repeat (first | exact ag0 | refine agree.upd rfl ?_))
    · have hkn0 : k = l.length := by have := of_decide_eq_false hc; omega
      clear hc
      refine awp_exit ?_; simp only [RR, seval]
      refine awp_name fun F7 M7 hfr hH => ?_
      have g2 := hfr 2
      have g3 := hfr 3
      try simp only [f0, f2, f4, f3, List.length_map, RR, seval] at g2 g3
      have hown := hown.same hH
      have f2 := g2; clear g2
      have f3 := g3; clear g3
      clear hfr hH
      rw [hkn0, List.take_length] at hown
      refine awp_seal2 (i := 3) (by rw [f3]; exact hown) fun F8 M8 hs hf' hk' => ?_
      have g2 := (hf' 2 (by decide) (by rw [f2]; first | exact apart_ptr _ _ _ _ _ | exact apart_int _ _ _ | exact apart_str _ _ | exact apart_isl _ _ _ | exact apart_bool _ _ | exact apart_bool' _ | exact apart_undef _ | exact apart_tup _ _ | exact apart_mp _ _ | assumption)).trans f2
      have g3 := hs
      have f2 := g2; clear g2
      have f3 := g3; clear g3
      clear hs hf' hk'
      refine awp_seq_k fun K hK => ?_
      refine awp_region rfl ?_
      simp only [f2, f3, List.length_map, RR, seval]
      refine hK _ _ ?_; clear hK K
      refine awp_ret ?_; simp only [bodyQ, aresult, ares, f2, f3, List.length_map, RR, seval]
      refine Gives.pure ?_
      rfl
end Go.Proofs.Ytlokndnkpleegaa

namespace Go.Al
mutual
def nmlM : Sm → Prop
  | .mk _ s l t u => s.length ≤ 1000000 ∧ nmlE l ∧ nmlS t ∧ nmlS u
def nmlS : List Sm → Prop
  | [] => True
  | e :: l => nmlM e ∧ nmlS l
end
theorem nmlS_all : ∀ l : List Sm, nmlS l ↔ ∀ e ∈ l, nmlM e
  | [] => by simp [nmlS]
  | e :: l => by
    simp only [nmlS, nmlS_all l]
    constructor
    · rintro ⟨h1, h2⟩ x hx
      rcases List.mem_cons.1 hx with rfl | hx
      · exact h1
      · exact h2 x hx
    · exact fun h => ⟨h e List.mem_cons_self, fun x hx => h x (List.mem_cons_of_mem _ hx)⟩
theorem nmlM_eq (e : Sm) : nmlM e ↔ e.name.length ≤ 1000000 ∧ (∀ x ∈ e.es, nmlX x) ∧ (∀ x ∈ e.thn, nmlM x) ∧ ∀ x ∈ e.els, nmlM x := by
  cases e; simp only [nmlM, Sm.name, Sm.es, Sm.thn, Sm.els, nmlE_all, nmlS_all]
theorem len_szSq : ∀ l : List Sm, l.length ≤ szS l
  | [] => by simp [szS]
  | e :: l => by have := len_szSq l; have := e.sz_eq; simp only [List.length_cons, szS]; omega
end Go.Al
namespace Go.Proofs.Ytlokndnkpleegaa
open Go.Al
theorem qstmts_con (n : Nat) : ∀ l : List Sm, szS l ≤ n → n ≤ 1000000 → (∀ e ∈ l, nmlM e) → PCon env 30 [.isl 5 (l.map Sm.row)] (.isl 5 ((l.map qM).map Sm.row)) := by
  induction n using Nat.strongRecOn with
  | _ n ih =>
    intro l hn hb hnm
    have hll := len_szSq l
    refine con_of 40 [.tmp 2] Try.func30 rfl rfl rfl rfl ?_
    refine awp_seq_k fun K hK => ?_
    refine awp_region rfl ?_
    simp only [List.length_map, RR, seval]
    refine hK _ _ ?_; clear hK K
    refine awp_seq_k fun K hK => ?_
    refine awp_region rfl ?_
    simp only [List.length_map, RR, seval]
    refine hK _ _ ?_; clear hK K
    refine awp_seq ?_
    refine awp_seq_k fun K hK => ?_
    refine awp_region rfl ?_
    simp only [List.length_map, RR, seval]
    refine hK _ _ ?_; clear hK K
    refine awp_name fun F1 M1 hfr hH => ?_
    have g0 := hfr 0
    have g2 := hfr 2
    have g3 := hfr 3
    have g4 := hfr 4
    try simp only [List.length_map, RR, seval] at g0 g2 g3 g4
    have f0 := g0; clear g0
    have f2 := g2; clear g2
    have f3 := g3; clear g3
    have f4 := g4; clear g4
    clear hfr hH
    refine awp_block ?_
    refine awp_each [0, 2] (l.length) (fun k fr M => fr 4 = .int .i64 (k : Nat) ∧ OwnL 5 (fr 3) (((l.take k).map qM).map Sm.row) M) ⟨f4, .inl ⟨f3, rfl⟩⟩ ?_
    rintro k F2 M2 hk0 ⟨fx, hown⟩ agx K0 hK0
    have f0 := (agx 0 rfl).trans f0
    have f2 := (agx 2 rfl).trans f2
    have f4 := fx; clear fx
    have ag0 := agree.refl [0, 2] F2
    clear agx
    obtain ⟨v3, f3⟩ : ∃ v, F2 3 = v := ⟨_, rfl⟩
    rw [f3] at hown
    refine awp_seq ?_
    refine awp_seq_k fun K hK => ?_
    refine awp_region rfl ?_
    simp only [f0, f2, f4, f3, List.length_map, RR, seval]
    refine hK _ _ ?_; clear hK K
    refine awp_if _ rfl (fun hc => ?_) (fun hc => ?_)
    · have hlt0 : k < l.length := by have := of_decide_eq_true hc; omega
      clear hc
      have hg := getS (List.getElem?_eq_getElem hlt0)
      have hsz := szS_mem (List.getElem_mem hlt0)
      have htk : l.take (k + 1) = l.take k ++ [l[k]] := List.take_succ_eq_append_getElem hlt0
      have htl : (l.take k).length ≤ l.length := by rw [List.length_take]; omega
      have hnk := hnm _ (List.getElem_mem hlt0)
      generalize l[k] = e at hg hsz htk hnk
      have hr := qM_row e
      have hz := e.sz_eq
      rw [nmlM_eq] at hnk
      have hx := qexprs_con (szE e.es) e.es (Nat.le_refl _) (by omega) (fun _ _ => trivial) hnk.2.1
      have ht := ih (szS e.thn) (by omega) e.thn (Nat.le_refl _) (by omega) hnk.2.2.1
      have hu := ih (szS e.els) (by omega) e.els (Nat.le_refl _) (by omega) hnk.2.2.2
      have hrn := renamed_con e.name hnk.1
      have hqn : qNe e.name = if decide (e.name = []) = true then e.name else e.name ++ [113] := rfl
      rw [hqn] at hr
      clear hqn
      generalize z1 : decide (e.name = []) = B1 at hr
      cases B1
      all_goals
        refine awp_skip ?_; try simp only [RR]
        refine awp_seq ?_
        refine awp_block ?_
        refine awp_seq_k fun K hK => ?_
        refine awp_region rfl ?_
        simp only [f0, f2, f4, f3, List.length_map, hg, z1, RR, seval]
        refine awpN_intro fun b5 hn5 => ?_
        simp only [f0, f2, f4, f3, List.length_map, hg, z1, RR, seval]
        refine hK _ _ ?_; clear hK K
        have ho5 := hown.new hn5
        refine awp_seq ?_
        refine awp_seq_k fun K hK => ?_
        refine awp_region rfl ?_
        simp only [f0, f2, f4, f3, List.length_map, hg, z1, RR, seval]
        refine hK _ _ ?_; clear hK K
        refine awp_if _ rfl (fun hc6 => ?_) (fun hc6 => ?_)
        · try (cases hc6; done)
          all_goals
            refine awp_region rfl ?_
            simp only [f0, f2, f4, f3, List.length_map, hg, z1, RR, seval]
            refine awpC_pure' (hrn) ?_
            simp only [f0, f2, f4, f3, List.length_map, hg, z1, RR, seval]
            refine awp_seq_k fun K hK => ?_
            refine awp_region_draw2 (fun x => x ≠ b5) [(0, 3), (1, 1), (3, 3), (4, 0), (6, 3), (7, 0), (2, 1), (9, 3), (5, 1), (8, 1)] [(10, 1), (11, 3), (12, 1), (13, 3), (14, 1)] draws (by kernel_rfl) rfl rfl ?_
            simp only [emitF, markOf, touch_mp, touch_imp, touch_nmp, ne_eq, not_true_eq_false, and_false, false_and, not_false_eq_true, f0, f2, f4, f3, List.length_map, hg, z1, RR, seval]
            refine awpC_pure' (hx) ?_
            simp only [emitF, markOf, touch_mp, touch_imp, touch_nmp, ne_eq, not_true_eq_false, and_false, false_and, not_false_eq_true, f0, f2, f4, f3, List.length_map, hg, z1, RR, seval]
            refine awpC_pure' (ht) ?_
            simp only [emitF, markOf, touch_mp, touch_imp, touch_nmp, ne_eq, not_true_eq_false, and_false, false_and, not_false_eq_true, f0, f2, f4, f3, List.length_map, hg, z1, RR, seval]
            refine awpC_pure' (hu) ?_
            simp only [emitF, markOf, touch_mp, touch_imp, touch_nmp, ne_eq, not_true_eq_false, and_false, false_and, not_false_eq_true, f0, f2, f4, f3, List.length_map, hg, z1, RR, seval]
            refine hK _ _ ?_; clear hK K
            refine awp_name fun F3 M3 hfr hH => ?_
            have g0 := hfr 0
            have g2 := hfr 2
            have g3 := hfr 3
            have g4 := hfr 4
            have g5 := hfr 5
            have gb5 := hH b5
            try simp only [f0, f2, f4, f3, List.length_map, hg, z1, RR, seval] at g0 g2 g3 g4 g5 gb5
            have ag0 : agree [0, 2] F2 F3 := agree.same hfr (by repeat (first | exact ag0 | refine agree.upd rfl ?_))
            have hown := OwnL.same (sz := 5) (v := v3) (rows := ((l.take k).map qM).map Sm.row) (by repeat (first | exact hown | refine OwnL.off ?_ ho5 _)) hH
            have f0 := g0; clear g0
            have f2 := g2; clear g2
            have f3 := g3; clear g3
            have f4 := g4; clear g4
            have f5 := g5; clear g5
            have hb5 := gb5; clear gb5
            clear hfr hH
            refine awp_region rfl ?_
            simp only [f0, f2, f3, f4, f5, hb5, List.length_map, hg, z1, RR, seval]
            refine awpB_sealed ?_
            simp only [f0, f2, f3, f4, f5, hb5, List.length_map, hg, z1, RR, seval]
            refine awpA_own hown (by simp only [List.length_map, List.length_cons, List.length_nil]; omega) (fun _ => trivial) fun v9 M4 hown' hk' => ?_
            simp only [f0, f2, f3, f4, f5, hb5, List.length_map, hg, z1, RR, seval]
            have gb5 := hk' b5 _ hb5 (by first | exact (hown).nb' hb5 (by decide) | exact ho5 _ _ | assumption | (intro e; simp_all))
            have hb5 := gb5; clear gb5
            refine awp_region rfl ?_
            simp only [f0, f2, f3, f4, f5, hb5, List.length_map, hg, z1, RR, seval]
            try rw [IntWalk.i64_in _ (by omega)]
            refine hK0 _ _ hlt0 ⟨by first | rfl | (simp only [upd_app, seval]; rfl), by rw [htk, List.map_append, List.map_append, List.map_singleton, List.map_singleton, hr]; exact hown'⟩ (by repeat (first | exact ag0 | refine agree.upd rfl ?_))
        · try (cases hc6; done)
          all_goals
            refine awp_skip ?_; try simp only [RR]
            refine awp_seq_k fun K hK => ?_
            refine awp_region_draw2 (fun x => x ≠ b5) [(0, 3), (1, 1), (3, 3), (4, 0), (6, 3), (7, 0), (2, 1), (9, 3), (5, 1), (8, 1)] [(10, 1), (11, 3), (12, 1), (13, 3), (14, 1)] draws (by kernel_rfl) rfl rfl ?_
            simp only [emitF, markOf, touch_mp, touch_imp, touch_nmp, ne_eq, not_true_eq_false, and_false, false_and, not_false_eq_true, f0, f2, f4, f3, List.length_map, hg, z1, RR, seval]
            refine awpC_pure' (hx) ?_
            simp only [emitF, markOf, touch_mp, touch_imp, touch_nmp, ne_eq, not_true_eq_false, and_false, false_and, not_false_eq_true, f0, f2, f4, f3, List.length_map, hg, z1, RR, seval]
            refine awpC_pure' (ht) ?_
            simp only [emitF, markOf, touch_mp, touch_imp, touch_nmp, ne_eq, not_true_eq_false, and_false, false_and, not_false_eq_true, f0, f2, f4, f3, List.length_map, hg, z1, RR, seval]
            refine awpC_pure' (hu) ?_
            simp only [emitF, markOf, touch_mp, touch_imp, touch_nmp, ne_eq, not_true_eq_false, and_false, false_and, not_false_eq_true, f0, f2, f4, f3, List.length_map, hg, z1, RR, seval]
            refine hK _ _ ?_; clear hK K
            refine awp_name fun F5 M5 hfr hH => ?_
            have g0 := hfr 0
            have g2 := hfr 2
            have g3 := hfr 3
            have g4 := hfr 4
            have g5 := hfr 5
            have gb5 := hH b5
            try simp only [f0, f2, f4, f3, List.length_map, hg, z1, RR, seval] at g0 g2 g3 g4 g5 gb5
            have ag0 : agree [0, 2] F2 F5 := agree.same hfr (by repeat (first | exact ag0 | refine agree.upd rfl ?_))
            have hown := OwnL.same (sz := 5) (v := v3) (rows := ((l.take k).map qM).map Sm.row) (by repeat (first | exact hown | refine OwnL.off ?_ ho5 _)) hH
            have f0 := g0; clear g0
            have f2 := g2; clear g2
            have f3 := g3; clear g3
            have f4 := g4; clear g4
            have f5 := g5; clear g5
            have hb5 := gb5; clear gb5
            clear hfr hH
            refine awp_region rfl ?_
            simp only [f0, f2, f3, f4, f5, hb5, List.length_map, hg, z1, RR, seval]
            refine awpB_sealed ?_
            simp only [f0, f2, f3, f4, f5, hb5, List.length_map, hg, z1, RR, seval]
            refine awpA_own hown (by simp only [List.length_map, List.length_cons, List.length_nil]; omega) (fun _ => trivial) fun v9 M6 hown' hk' => ?_
            simp only [f0, f2, f3, f4, f5, hb5, List.length_map, hg, z1, RR, seval]
            have gb5 := hk' b5 _ hb5 (by first | exact (hown).nb' hb5 (by decide) | exact ho5 _ _ | assumption | (intro e; simp_all))
            have hb5 := gb5; clear gb5
            refine awp_region rfl ?_
            simp only [f0, f2, f3, f4, f5, hb5, List.length_map, hg, z1, RR, seval]
            try rw [IntWalk.i64_in _ (by omega)]
            refine hK0 _ _ hlt0 ⟨by first | rfl | (simp only [upd_app, seval]; rfl), by rw [htk, List.map_append, List.map_append, List.map_singleton, List.map_singleton, hr]; exact hown'⟩ (by repeat (first | exact ag0 | refine agree.upd rfl ?_))
    · have hkn0 : k = l.length := by have := of_decide_eq_false hc; omega
      clear hc
      refine awp_exit ?_; simp only [RR, seval]
      refine awp_name fun F7 M7 hfr hH => ?_
      have g2 := hfr 2
      have g3 := hfr 3
      try simp only [f0, f2, f4, f3, List.length_map, RR, seval] at g2 g3
      have hown := hown.same hH
      have f2 := g2; clear g2
      have f3 := g3; clear g3
      clear hfr hH
      rw [hkn0, List.take_length] at hown
      refine awp_seal2 (i := 3) (by rw [f3]; exact hown) fun F8 M8 hs hf' hk' => ?_
      have g2 := (hf' 2 (by decide) (by rw [f2]; first | exact apart_ptr _ _ _ _ _ | exact apart_int _ _ _ | exact apart_str _ _ | exact apart_isl _ _ _ | exact apart_bool _ _ | exact apart_bool' _ | exact apart_undef _ | exact apart_tup _ _ | exact apart_mp _ _ | assumption)).trans f2
      have g3 := hs
      have f2 := g2; clear g2
      have f3 := g3; clear g3
      clear hs hf' hk'
      refine awp_seq_k fun K hK => ?_
      refine awp_region rfl ?_
      simp only [f2, f3, List.length_map, RR, seval]
      refine hK _ _ ?_; clear hK K
      refine awp_ret ?_; simp only [bodyQ, aresult, ares, f2, f3, List.length_map, RR, seval]
      refine Gives.pure ?_
      rfl
end Go.Proofs.Ytlokndnkpleegaa

namespace Go.Al
theorem qN_inj {s t : Str} (h : qN s = qN t) : s = t := List.append_cancel_right h
theorem placeN_q (s : Str) : ∀ l : List Str, placeN (l.map qN) (qN s) = placeN l s
  | [] => rfl
  | x :: l => by
    simp only [List.map_cons, placeN, placeN_q s l]
    by_cases h : x = s
    · subst h; simp
    · rw [if_neg h, if_neg (fun e => h (qN_inj e))]
def qF (nm : Str) (f : Fu) : Fu := ⟨nm, f.params.map qN, f.locs.map qN, f.word, f.body.map qM⟩
def qFi (m : Nat) : Nat → List Fu → List Fu
  | _, [] => []
  | i, f :: l => qF (if i < m then qN f.name else f.name) f :: qFi m (i + 1) l
def qP (p : Pg) : Pg := ⟨p.vars.map qN, p.arrs.map (fun a => ⟨qN a.name, a.size⟩), qFi (p.funs.length - 1) 0 p.funs⟩
theorem qFi_len (m : Nat) : ∀ (l : List Fu) (i : Nat), (qFi m i l).length = l.length
  | [], _ => rfl
  | f :: l, i => by simp only [qFi, List.length_cons, qFi_len m l]
theorem qFi_get (m : Nat) : ∀ (l : List Fu) (i j : Nat) (f : Fu), l[j]? = some f → (qFi m i l)[j]? = some (qF (if i + j < m then qN f.name else f.name) f)
  | [], _, _, _, h => by simp at h
  | g :: l, i, 0, f, h => by
    simp only [List.getElem?_cons_zero, Option.some.injEq] at h
    subst h; simp [qFi]
  | g :: l, i, j + 1, f, h => by
    simp only [List.getElem?_cons_succ] at h
    have := qFi_get m l (i + 1) j f h
    simp only [qFi, List.getElem?_cons_succ, this]
    rw [show i + 1 + j = i + (j + 1) from by omega]
theorem qFi_take (m : Nat) : ∀ (l : List Fu) (i j : Nat) (f : Fu), l[j]? = some f → qFi m i (l.take (j + 1)) = qFi m i (l.take j) ++ [qF (if i + j < m then qN f.name else f.name) f]
  | [], _, _, _, h => by simp at h
  | g :: l, i, 0, f, h => by
    simp only [List.getElem?_cons_zero, Option.some.injEq] at h
    subst h; simp [qFi]
  | g :: l, i, j + 1, f, h => by
    simp only [List.getElem?_cons_succ] at h
    have := qFi_take m l (i + 1) j f h
    simp only [List.take_succ_cons, qFi, List.cons_append]
    rw [this, show i + 1 + j = i + (j + 1) from by omega]
/-- a name found below m stands at the same place -/
theorem placeN_qFi (m : Nat) (s : Str) : ∀ (l : List Fu) (i k : Nat), placeN (l.map Fu.name) s = some k → i + k < m → placeN ((qFi m i l).map Fu.name) (qN s) = some k
  | [], _, _, h, _ => by simp [placeN] at h
  | f :: l, i, k, h, hk => by
    simp only [List.map_cons, placeN] at h
    simp only [qFi, List.map_cons, placeN, qF]
    by_cases hs : f.name = s
    · rw [if_pos hs] at h
      cases h
      rw [if_pos (show i < m from by omega), hs]; simp
    · rw [if_neg hs, Option.map_eq_some_iff] at h
      obtain ⟨j, hj, rfl⟩ := h
      rw [if_pos (show i < m from by omega), if_neg (fun e => hs (qN_inj e)), placeN_qFi m s l (i + 1) j hj (by omega)]; rfl
mutual
theorem qX_sz : ∀ e : Ex, (qX e).sz = e.sz
  | .mk k o n s l => by simp only [qX, Ex.sz, qE_sz l]
theorem qE_sz : ∀ l : List Ex, szE (qE l) = szE l
  | [] => by simp only [qE]
  | e :: l => by simp only [qE, szE, qX_sz e, qE_sz l]
end
end Go.Al

namespace Go.Al
theorem q_rel {p : Pg} {i : Nat} {f : Fu} (hf : p.funs[i]? = some f) (nm : Str) {u : Us} (h1 : okUse p i u = true) (hk : u.kind = 1 ∨ u.kind = 3 ∨ u.kind = 4) : rsP (outP (qP p)) (inP (qF nm f)) (qN u.name) = rsP (outP p) (inP f) u.name := by
  have hi := (List.getElem?_eq_some_iff.1 hf).1
  have b := (rs_find hf u.name).2.2.2.2
  simp only [okUse, Bool.not_eq_true', Bool.or_eq_false_iff, Bool.and_eq_false_iff, decide_eq_false_iff_not, Bool.not_eq_false', decide_eq_true_eq] at h1
  obtain ⟨⟨k1, k3⟩, k4⟩ := h1
  have hI : lookP (inP f) u.name = (placeN (namesL f) u.name).map fun k => (true, ((0 + k : Nat) : Int)) := lookP_plK true u.name _ 0
  have hnl : namesL (qF nm f) = (namesL f).map qN := by simp only [namesL, qF, List.map_append]
  have hI' : lookP (inP (qF nm f)) (qN u.name) = (placeN (namesL f) u.name).map fun k => (true, ((0 + k : Nat) : Int)) := by
    have := lookP_plK true (qN u.name) (namesL (qF nm f)) 0
    rw [hnl, placeN_q] at this
    have e : inP (qF nm f) = plK true 0 (namesL (qF nm f)) := rfl
    rw [e, hnl]; exact this
  have hG := outP_look p u.name
  have hG' := outP_look (qP p) (qN u.name)
  have e1 : (qP p).vars = p.vars.map qN := rfl
  have e2 : (qP p).arrs.map Ar.name = (p.arrs.map Ar.name).map qN := by simp only [qP, List.map_map]; rfl
  have e3 : (qP p).funs = qFi (p.funs.length - 1) 0 p.funs := rfl
  rw [e1, e2, e3, placeN_q, placeN_q] at hG'
  unfold rsP
  rw [hI, hI']
  rcases Option.eq_none_or_eq_some (placeN (namesL f) u.name) with g1 | ⟨k, g1⟩
  rotate_left
  · rw [g1]; rfl
  · rw [g1]
    simp only [Option.map_none]
    rw [hG, hG']
    rcases Option.eq_none_or_eq_some (placeN p.vars u.name) with g2 | ⟨k, g2⟩
    rotate_left
    · rw [g2]
    · rw [g2]
      rcases Option.eq_none_or_eq_some (placeN (p.arrs.map Ar.name) u.name) with g3 | ⟨k, g3⟩
      rotate_left
      · rw [g3]
      · rw [g3]
        have hF : findF p i u.name = findG p u.name := by unfold findF; rw [hf]; simp only [Option.bind_some, g1]
        rw [hF] at k1 k3 k4
        unfold findG globL at k1 k3 k4
        rw [placeN_app, placeN_app, g2, g3] at k1 k3 k4
        rcases Option.eq_none_or_eq_some (placeN (p.funs.map Fu.name) u.name) with g4 | ⟨k, g4⟩
        · exfalso
          simp only [g4, Option.map_none] at k1 k3 k4
          rcases hk with e | e | e
          · rcases k1 with (h | h) | h
            · exact h e
            · exact absurd h (by simp)
            · exact absurd h (by simp)
          · rcases k3 with h | h
            · exact h e
            · exact absurd h (by simp)
          · rcases k4 with h | h
            · exact h e
            · exact absurd h.1 (by simp)
        · have hkl := (placeN_lt _ _ _ g4).1
          rw [List.length_map] at hkl
          simp only [g4, Option.map_some, Option.map_none, List.length_append, List.length_map] at k1 k3 k4
          rw [if_neg (show ¬ (k + (p.vars.length + p.arrs.length) < p.vars.length) from by omega), if_neg (show ¬ (k + (p.vars.length + p.arrs.length) - p.vars.length < p.arrs.length) from by omega)] at k1 k3 k4
          rcases hk with e | e | e
          · rcases k1 with (h | h) | h
            · exact absurd e h
            · exact absurd h (by simp)
            · exact absurd h (by simp)
          · rcases k3 with h | h
            · exact absurd e h
            · exact absurd h (by simp)
          · rcases k4 with h | ⟨_, h⟩
            · exact absurd e h
            · rw [placeN_qFi _ _ _ 0 k g4 (by simp only at h; omega), g4]
end Go.Al

namespace Go.Proofs.Ytlokndnkpleegaa
open Go.Al
theorem nameB_ne {s : Str} (h : nameB s = true) : qNe s = qN s := by
  unfold qNe qN
  by_cases e : s = []
  · subst e; exact absurd h (by decide)
  · rw [if_neg (by simpa using e)]
def relQ (rs rs' : Str → Bool × Int) (u : Us) : Prop := (u.kind = 1 ∨ u.kind = 3 ∨ u.kind = 4 → rs' (qN u.name) = rs u.name) ∧ (u.kind = 1 ∨ u.kind = 4 → 0 ≤ (rs u.name).2)
theorem q_simE {rs rs' : Str → Bool × Int} (n : Nat) : ∀ (l : List Ex) (level : Int), szE l ≤ n → rightE l level = true → (∀ u ∈ usesE l, relQ rs rs' u) → simEs 0 0 rs rs' l (l.map qX) := by
  induction n using Nat.strongRecOn with
  | _ n ih =>
    intro l level hn hr hu
    match l, hn, hr, hu with
    | [], _, _, _ => simp only [List.map_nil, simEs]
    | e :: l, hn, hr, hu =>
      rw [rightE_cons, rightX_eq] at hr
      simp only [Bool.and_eq_true] at hr
      obtain ⟨⟨⟨hh, _⟩, hkr⟩, hl⟩ := hr
      have hz := e.sz_eq
      simp only [szE] at hn
      have w1 := ih (szE e.kids) (by omega) e.kids (level + 1) (Nat.le_refl _) hkr fun u h => hu u (by rw [usesE_cons]; simp [h])
      have w2 := ih (szE l) (by omega) l level (Nat.le_refl _) hl fun u h => hu u (by rw [usesE_cons]; simp [h])
      have hux : ∀ u ∈ useX e, relQ rs rs' u := fun u h => hu u (by rw [usesE_cons]; simp [h])
      have hnm : e.kind = 2 ∨ e.kind = 3 ∨ e.kind = 4 → nameB e.name = true := fun hk => by
        simp only [headX, Bool.and_eq_true] at hh
        have := hh.2
        rwa [if_pos hk] at this
      obtain ⟨k, o, m, s, kids⟩ := e
      simp only [Ex.kind, Ex.kids, Ex.name, useX] at *
      simp only [List.map_cons, simEs, qX, simE, qE_map]
      refine ⟨⟨trivial, trivial, trivial, fun h => ?_, fun h => ?_, fun h => ?_, w1⟩, w2⟩
      · subst h
        have q := hux ⟨s, 1, 0⟩ (by simp)
        rw [nameB_ne (hnm (by omega)), q.1 (.inl rfl)]
        exact ⟨q.2 (.inl rfl), rfl, by split <;> simp⟩
      · subst h
        have q := hux ⟨s, 3, 0⟩ (by simp)
        rw [nameB_ne (hnm (by omega)), q.1 (.inr (.inl rfl))]
      · subst h
        have q := hux ⟨s, 4, kids.length⟩ (by simp)
        rw [nameB_ne (hnm (by omega)), q.1 (.inr (.inr rfl))]
        exact ⟨q.2 (.inr rfl), by simp⟩
theorem q_simS {rs rs' : Str → Bool × Int} (n : Nat) : ∀ (l : List Sm) (level : Int), szS l ≤ n → rightS l level = true → (∀ u ∈ usesS l, relQ rs rs' u) → simSs 0 0 rs rs' l (l.map qM) := by
  induction n using Nat.strongRecOn with
  | _ n ih =>
    intro l level hn hr hu
    match l, hn, hr, hu with
    | [], _, _, _ => simp only [List.map_nil, simSs]
    | e :: l, hn, hr, hu =>
      rw [rightS_cons] at hr
      simp only [rightM, Bool.and_eq_true] at hr
      obtain ⟨⟨⟨⟨⟨hh, _⟩, hxr⟩, htr⟩, hur⟩, hl⟩ := hr
      have hz := e.sz_eq
      simp only [szS] at hn
      have w0 := q_simE (rs := rs) (rs' := rs') _ e.es (level + 1) (Nat.le_refl _) hxr fun u h => hu u (by rw [usesS_cons]; simp [h])
      have w1 := ih (szS e.thn) (by omega) e.thn (level + 1) (Nat.le_refl _) htr fun u h => hu u (by rw [usesS_cons]; simp [h])
      have w3 := ih (szS e.els) (by omega) e.els (level + 1) (Nat.le_refl _) hur fun u h => hu u (by rw [usesS_cons]; simp [h])
      have w2 := ih (szS l) (by omega) l level (Nat.le_refl _) hl fun u h => hu u (by rw [usesS_cons]; simp [h])
      have hux : ∀ u ∈ useS e, relQ rs rs' u := fun u h => hu u (by rw [usesS_cons]; simp [h])
      have hnm : e.kind = 1 ∨ e.kind = 2 ∨ e.kind = 6 → nameB e.name = true := fun hk => by
        simp only [headS, Bool.and_eq_true] at hh
        have := hh.2
        rwa [if_pos hk] at this
      obtain ⟨k, s, es, t, u⟩ := e
      simp only [Sm.kind, Sm.name, Sm.es, Sm.thn, Sm.els, useS] at *
      simp only [List.map_cons, simSs, qM, simS, qS_map]
      refine ⟨⟨trivial, fun h => ?_, fun h => ?_, fun h => ?_, .inl ⟨w0, w1, w3⟩⟩, w2⟩
      · subst h
        have q := hux ⟨s, 1, 0⟩ (by simp)
        rw [nameB_ne (hnm (by omega)), q.1 (.inl rfl)]
        exact ⟨q.2 (.inl rfl), rfl, by split <;> simp⟩
      · subst h
        have q := hux ⟨s, 3, 0⟩ (by simp)
        rw [nameB_ne (hnm (by omega)), q.1 (.inr (.inl rfl))]
      · subst h
        have q := hux ⟨s, 4, es.length⟩ (by simp)
        rw [nameB_ne (hnm (by omega)), q.1 (.inr (.inr rfl))]
        exact ⟨q.2 (.inr rfl), by simp⟩
end Go.Proofs.Ytlokndnkpleegaa

namespace Go.Proofs.Ytlokndnkpleegaa
open Go.Al
theorem q_run {p : Pg} (h : soundT p = 0) (inp : Str) (fu : Int) {n : Nat} {r} (hr : runR (cxP p inp fu) n p.vars.length (p.arrs.map fun a => a.size.toNat) = some r) : runR (cxP (qP p) inp fu) (2 * n) (qP p).vars.length ((qP p).arrs.map fun a => a.size.toNat) = some r := by
  obtain ⟨hrp, hgl, hnb, hm⟩ := sound_all h
  simp only [rightP, Bool.and_eq_true, decide_eq_true_eq, List.all_eq_true] at hrp
  simp only [namesB, Bool.and_eq_true] at hnb
  simp only [numsB, Bool.and_eq_true] at hm
  have h0 := hrp.1.1.1.2
  have hlen : (qP p).funs.length = p.funs.length := qFi_len _ _ _
  have hx : SimX 0 0 (cxP p inp fu) (cxP (qP p) inp fu) := by
    refine ⟨rfl, rfl, fun i c hc => ?_⟩
    simp only [cxP, List.getElem?_map, Option.map_eq_some_iff] at hc
    obtain ⟨f, hf, rfl⟩ := hc
    have g1 := (namesFrom_get p p.funs 0 hnb.2 i f hf).2
    have g2 := nums_get p p.funs 0 hm.1 i f hf
    rw [Nat.zero_add, List.all_eq_true] at g1 g2
    have hrf := hrp.2 f (List.mem_of_getElem? hf)
    simp only [rightF, Bool.and_eq_true] at hrf
    have hc : ∀ (j : Nat) (g' : Fu), p.funs[j]? = some g' → ∃ c, (cxP p inp fu).funs[j]? = some c ∧ c.words = g'.params.length + g'.locs.length := fun j g' hg' => ⟨cfP (outP p) g', by simp [cxP, List.getElem?_map, hg'], rfl⟩
    have hq := qFi_get (p.funs.length - 1) p.funs 0 i f hf
    generalize (if 0 + i < p.funs.length - 1 then qN f.name else f.name) = nm at hq
    refine ⟨cfP (outP (qP p)) (qF nm f), ?_, ?_, ?_⟩
    · simp only [cxP, List.getElem?_map, Nat.add_zero]
      show ((qFi (p.funs.length - 1) 0 p.funs)[i]?).map _ = _
      rw [hq]; rfl
    · simp only [cfP, qF, List.length_map]
    · refine q_simS _ f.body 1 (Nat.le_refl _) hrf.2 fun u hu => ⟨fun hk => q_rel hf nm (g1 u hu) hk, fun hk => ?_⟩
      obtain ⟨k1, _, k4⟩ := use_ok hf hc (g1 u hu) (g2 u hu)
      rcases hk with e | e
      · exact (k1 e).1
      · obtain ⟨q, _⟩ := rs_find hf u.name
        have b4 := (rs_find hf u.name).2.2.2.2
        have o1 := g1 u hu
        simp only [okUse, Bool.not_eq_true', Bool.or_eq_false_iff, Bool.and_eq_false_iff, decide_eq_false_iff_not, Bool.not_eq_false', decide_eq_true_eq] at o1
        rcases o1.2 with o | ⟨o, _⟩
        · exact absurd e o
        · show 0 ≤ (rsP (outP p) (inP f) u.name).2
          rw [q]; simp only; rw [if_neg (by omega)]; exact (b4 o).1
  have := run_sim hx (by simp only [cxP, List.length_map, hlen, Nat.add_zero]) (by simp only [cxP, List.length_map]; omega) hr
  rw [Nat.zero_add] at this
  have e1 : (qP p).vars.length = p.vars.length := List.length_map _
  have e2 : ((qP p).arrs.map fun a => a.size.toNat) = p.arrs.map fun a => a.size.toNat := by simp only [qP, List.map_map]; rfl
  rw [e1, e2]
  exact this
end Go.Proofs.Ytlokndnkpleegaa

namespace Go.Al
theorem qNe_fit {s : Str} (h : s.length ≤ 1000000) : fitL (qNe s) := by
  unfold qNe
  split
  · simp only [fitL]; omega
  · simp only [fitL, List.length_append, List.length_singleton]; omega
theorem qX_ok (n : Nat) : ∀ e : Ex, e.sz ≤ n → e.ok → nmlX e → (qX e).ok := by
  induction n using Nat.strongRecOn with
  | _ n ih =>
    intro e hn he hm
    have hz := e.sz_eq
    rw [nmlX_eq] at hm
    have hk := he.kids
    have h1 := he.kind
    have h2 := he.op
    have h3 := he.num
    obtain ⟨k, o, m, s, l⟩ := e
    simp only [Ex.kids, Ex.name, Ex.kind, Ex.op, Ex.num] at *
    rw [show qX (.mk k o m s l) = .mk k o m (qNe s) (l.map qX) from by simp only [qX, qE_map]]
    refine .mk _ _ _ _ _ h1 h2 h3 (qNe_fit hm.1) (by simp only [fitL, List.length_map]; exact hk.fit) fun x hx => ?_
    obtain ⟨y, hy, rfl⟩ := List.mem_map.1 hx
    have := szE_mem hy
    exact ih y.sz (by omega) y (Nat.le_refl _) (hk.all y hy) (hm.2 y hy)
end Go.Al

namespace Go.Al
theorem qM_ok (n : Nat) : ∀ e : Sm, e.sz ≤ n → e.ok → nmlM e → (qM e).ok := by
  induction n using Nat.strongRecOn with
  | _ n ih =>
    intro e hn he hm
    have hz := e.sz_eq
    rw [nmlM_eq] at hm
    obtain ⟨m1, m2, m3, m4⟩ := hm
    have hx := he.es
    have ht := he.thn
    have hu := he.els
    have h1 := he.kind
    obtain ⟨k, s, l, t, u⟩ := e
    simp only [Sm.es, Sm.name, Sm.kind, Sm.thn, Sm.els] at *
    rw [show qM (.mk k s l t u) = .mk k (qNe s) (l.map qX) (t.map qM) (u.map qM) from by simp only [qM, qS_map]]
    refine .mk _ _ _ _ _ h1 (qNe_fit m1) ⟨by simp only [fitL, List.length_map]; exact hx.fit, fun x hx' => ?_⟩ (by simp only [fitL, List.length_map]; exact ht.fit) (fun x hx' => ?_) (by simp only [fitL, List.length_map]; exact hu.fit) fun x hx' => ?_
    · obtain ⟨y, hy, rfl⟩ := List.mem_map.1 hx'
      exact qX_ok y.sz y (Nat.le_refl _) (hx.all y hy) (m2 y hy)
    · obtain ⟨y, hy, rfl⟩ := List.mem_map.1 hx'
      have := szS_mem hy
      exact ih y.sz (by omega) y (Nat.le_refl _) (ht.all y hy) (m3 y hy)
    · obtain ⟨y, hy, rfl⟩ := List.mem_map.1 hx'
      have := szS_mem hy
      exact ih y.sz (by omega) y (Nat.le_refl _) (hu.all y hy) (m4 y hy)
end Go.Al
namespace Go.Proofs.Ytlokndnkpleegaa
open Go.Al
theorem nameB_len {s : Str} (h : nameB s = true) : s.length ≤ 20 := by
  match s, h with
  | c :: r, h => simp only [nameB, Bool.and_eq_true, decide_eq_true_eq] at h; exact h.1
theorem headName {b : Prop} [Decidable b] {s : Str} (h : (if b then nameB s else decide (s = [])) = true) : s.length ≤ 1000000 := by
  split at h
  · have := nameB_len h; omega
  · have := of_decide_eq_true h; subst this; simp
theorem right_nmlE (n : Nat) : ∀ (l : List Ex) (level : Int), szE l ≤ n → rightE l level = true → ∀ e ∈ l, nmlX e := by
  induction n using Nat.strongRecOn with
  | _ n ih =>
    intro l level hn hr x hx
    match l, hn, hr, hx with
    | e :: l, hn, hr, hx =>
      rw [rightE_cons, rightX_eq] at hr
      simp only [Bool.and_eq_true] at hr
      obtain ⟨⟨⟨hh, _⟩, hkr⟩, hl⟩ := hr
      have hz := e.sz_eq
      simp only [szE] at hn
      rcases List.mem_cons.1 hx with rfl | hx
      · rw [nmlX_eq]
        refine ⟨?_, ih (szE x.kids) (by omega) x.kids (level + 1) (Nat.le_refl _) hkr⟩
        simp only [headX, Bool.and_eq_true] at hh
        exact headName hh.2
      · exact ih (szE l) (by omega) l level (Nat.le_refl _) hl x hx
theorem right_nmlS (n : Nat) : ∀ (l : List Sm) (level : Int), szS l ≤ n → rightS l level = true → ∀ e ∈ l, nmlM e := by
  induction n using Nat.strongRecOn with
  | _ n ih =>
    intro l level hn hr x hx
    match l, hn, hr, hx with
    | e :: l, hn, hr, hx =>
      rw [rightS_cons] at hr
      simp only [rightM, Bool.and_eq_true] at hr
      obtain ⟨⟨⟨⟨⟨hh, _⟩, hxr⟩, htr⟩, hur⟩, hl⟩ := hr
      have hz := e.sz_eq
      simp only [szS] at hn
      rcases List.mem_cons.1 hx with rfl | hx
      · rw [nmlM_eq]
        refine ⟨?_, right_nmlE _ x.es (level + 1) (Nat.le_refl _) hxr, ih (szS x.thn) (by omega) x.thn (level + 1) (Nat.le_refl _) htr, ih (szS x.els) (by omega) x.els (level + 1) (Nat.le_refl _) hur⟩
        simp only [headS, Bool.and_eq_true] at hh
        exact headName hh.2
      · exact ih (szS l) (by omega) l level (Nat.le_refl _) hl x hx
/-- what the names of a sound program are -/
structure NmP (p : Pg) : Prop where
  v : ∀ s ∈ p.vars, s.length ≤ 1000000
  a : ∀ a ∈ p.arrs, a.name.length ≤ 1000000
  n : ∀ f ∈ p.funs, f.name.length ≤ 1000000
  pr : ∀ f ∈ p.funs, ∀ s ∈ f.params, s.length ≤ 1000000
  lo : ∀ f ∈ p.funs, ∀ s ∈ f.locs, s.length ≤ 1000000
  b : ∀ f ∈ p.funs, ∀ s ∈ f.body, nmlM s
theorem sound_nm {p : Pg} (h : soundT p = 0) : NmP p := by
  have hr := (sound_all h).1
  simp only [rightP, Bool.and_eq_true, decide_eq_true_eq, List.all_eq_true] at hr
  obtain ⟨⟨⟨⟨hv, _⟩, _⟩, ha⟩, hf⟩ := hr
  have w : ∀ {s : Str}, nameB s = true → s.length ≤ 1000000 := fun h => by have := nameB_len h; omega
  refine ⟨fun s hs => w (hv s hs), fun a h' => ?_, fun f h' => ?_, fun f h' s hs => ?_, fun f h' s hs => ?_, fun f h' => ?_⟩
  · have := ha a h'; simp only [rightA, Bool.and_eq_true] at this; exact w this.1.1
  all_goals
    have := hf f h'
    simp only [rightF, Bool.and_eq_true, List.all_eq_true] at this
  · exact w this.1.1.1.1
  · exact w (this.1.1.2 s hs)
  · exact w (this.1.2 s hs)
  · exact right_nmlS _ f.body 1 (Nat.le_refl _) this.2
theorem qFi_mem (m : Nat) {x : Fu} : ∀ (l : List Fu) (i : Nat), x ∈ qFi m i l → ∃ f ∈ l, ∃ nm, (nm = qN f.name ∨ nm = f.name) ∧ x = qF nm f
  | [], _, h => by simp [qFi] at h
  | f :: l, i, h => by
    simp only [qFi] at h
    rcases List.mem_cons.1 h with rfl | h
    · refine ⟨f, List.mem_cons_self, _, ?_, rfl⟩
      split
      · exact .inl rfl
      · exact .inr rfl
    · obtain ⟨g, hg, r⟩ := qFi_mem m l (i + 1) h
      exact ⟨g, List.mem_cons_of_mem _ hg, r⟩
theorem qN_fit {s : Str} (h : s.length ≤ 1000000) : fitL (qN s) := by simp only [fitL, qN, List.length_append, List.length_singleton]; omega
theorem qN_okN {l : List Str} (hl : fitL l) (h : ∀ s ∈ l, s.length ≤ 1000000) : okN (l.map qN) := ⟨by simp only [fitL, List.length_map]; exact hl, fun s hs => by
  obtain ⟨y, hy, rfl⟩ := List.mem_map.1 hs
  exact qN_fit (h y hy)⟩
theorem qS_sz2 (n : Nat) : ∀ l : List Sm, szS l ≤ n → szS (l.map qM) = szS l := by
  induction n using Nat.strongRecOn with
  | _ n ih =>
    intro l hn
    match l, hn with
    | [], _ => rfl
    | e :: l, hn =>
      have hz := e.sz_eq
      simp only [szS] at hn
      simp only [List.map_cons, szS]
      rw [ih (szS l) (by omega) l (Nat.le_refl _)]
      obtain ⟨k, s, es, t, u⟩ := e
      simp only [Sm.es, Sm.thn, Sm.els] at hz
      have h1 := ih (szS t) (by omega) t (Nat.le_refl _)
      have h2 := ih (szS u) (by omega) u (Nat.le_refl _)
      simp only [qM, Sm.sz, qS_map, h1, h2]
      rw [← qE_map, qE_sz]
theorem q_few {p : Pg} (h : p.few) (hn : NmP p) : (qP p).few := by
  have hmem : ∀ x ∈ (qP p).funs, ∃ f ∈ p.funs, ∃ nm, (nm = qN f.name ∨ nm = f.name) ∧ x = qF nm f := fun x hx => qFi_mem _ _ _ hx
  have hlen : (qP p).funs.length = p.funs.length := qFi_len _ _ _
  refine ⟨⟨qN_okN h.ok.vars.fit hn.v, by simp only [qP, fitL, List.length_map]; exact h.ok.afit, fun a ha => ?_, by simp only [fitL, hlen]; exact h.ok.ffit, fun x hx => ?_⟩, by simp only [qP, List.length_map]; exact h.v, by simp only [qP, List.length_map]; exact h.a, by rw [hlen]; exact h.f, fun x hx => ?_⟩
  · obtain ⟨y, hy, rfl⟩ := List.mem_map.1 (show a ∈ p.arrs.map (fun a => (⟨qN a.name, a.size⟩ : Ar)) from ha)
    exact ⟨qN_fit (hn.a y hy), (h.ok.arrs y hy).2⟩
  · obtain ⟨f, hf, nm, hnm, rfl⟩ := hmem x hx
    have hfo := h.ok.funs f hf
    refine ⟨?_, qN_okN hfo.params.fit (hn.pr f hf), qN_okN hfo.locs.fit (hn.lo f hf), ⟨by simp only [qF, fitL, List.length_map]; exact hfo.body.fit, fun s hs => ?_⟩⟩
    · simp only [qF]
      rcases hnm with e | e
      · rw [e]; exact qN_fit (hn.n f hf)
      · rw [e]; exact hfo.name
    · simp only [qF] at hs
      obtain ⟨y, hy, rfl⟩ := List.mem_map.1 hs
      exact qM_ok y.sz y (Nat.le_refl _) (hfo.body.all y hy) (hn.b f hf y hy)
  · obtain ⟨f, hf, nm, hnm, rfl⟩ := hmem x hx
    have hff := h.fs f hf
    simp only [qF, List.length_map]
    refine ⟨hff.1, hff.2.1, ?_⟩
    rw [qS_sz2 _ _ (Nat.le_refl _)]
    exact hff.2.2
end Go.Proofs.Ytlokndnkpleegaa
