/- Chapter 18, the program's: names are looked up. -/
import Derived.Test.YtlokndnkpleegaaM18n
set_option linter.unusedSimpArgs false
set_option linter.unusedVariables false
set_option maxRecDepth 10000
namespace Go.Al
/-- a name, whether it is a local, its number -/
structure Pl where
  name : Str
  loc : Bool
  num : Int
def entP (t : Pl) : AV × AV := (.str t.name, .agg [.bool t.loc, .int .i64 t.num])
def lookP : List Pl → Str → Option (Bool × Int)
  | [], _ => none
  | t :: l, s => if s = t.name then some (t.loc, t.num) else lookP l s
theorem afind_pl (s : Str) : ∀ (m : List Pl) (i : Nat), (lookP m s = none ∧ afind (.str s) (m.map entP) i = some none) ∨ (∃ j t, lookP m s = some t ∧ afind (.str s) (m.map entP) i = some (some (j, .agg [.bool t.1, .int .i64 t.2])))
  | [], i => .inl ⟨rfl, rfl⟩
  | t :: m, i => by
    simp only [List.map_cons, entP, afind, akey, lookP]
    by_cases h : s = t.name
    · right
      exact ⟨i, (t.loc, t.num), by rw [if_pos h], by rw [decide_eq_true h]⟩
    · rw [decide_eq_false h, if_neg h]
      exact afind_pl s m (i + 1)
theorem lookP_none (s : Str) : ∀ m : List Pl, s ∉ m.map Pl.name → lookP m s = none
  | [], _ => rfl
  | t :: m, h => by
    simp only [List.map_cons, List.mem_cons, not_or] at h
    simp only [lookP, if_neg h.1]
    exact lookP_none s m h.2
theorem put_pl (m : List Pl) (s : Str) (b : Bool) (n : Int) (h : s ∉ m.map Pl.name) : aput (m.map entP) (.str s) (.agg [.bool b, .int .i64 n]) = some ((m ++ [(⟨s, b, n⟩ : Pl)]).map entP) := by
  rcases afind_pl s m 0 with ⟨_, h2⟩ | ⟨j, t, h1, _⟩
  · simp only [aput, h2, List.map_append, List.map_cons, List.map_nil, entP]
  · rw [lookP_none s m h] at h1; cases h1
def plK (b : Bool) : Nat → List Str → List Pl
  | _, [] => []
  | i, s :: l => ⟨s, b, i⟩ :: plK b (i + 1) l
theorem plK_take (b : Bool) : ∀ (l : List Str) (i j : Nat) (s : Str), l[j]? = some s → plK b i (l.take (j + 1)) = plK b i (l.take j) ++ [⟨s, b, ((i + j : Nat) : Int)⟩]
  | [], i, j, s, h => by simp at h
  | x :: l, i, 0, s, h => by
    simp only [List.getElem?_cons_zero, Option.some.injEq] at h
    subst h; simp [plK]
  | x :: l, i, j + 1, s, h => by
    simp only [List.getElem?_cons_succ] at h
    have := plK_take b l (i + 1) j s h
    rw [List.take_succ_cons, List.take_succ_cons, plK, this, plK]
    simp only [List.cons_append]
    rw [show i + 1 + j = i + (j + 1) by omega]
theorem plK_app (b : Bool) : ∀ (l m : List Str) (i : Nat), plK b i (l ++ m) = plK b i l ++ plK b (i + l.length) m
  | [], m, i => by simp [plK]
  | s :: l, m, i => by
    simp only [List.cons_append, plK, plK_app b l m (i + 1), List.length_cons]
    rw [show i + 1 + l.length = i + (l.length + 1) by omega]
theorem plK_names (b : Bool) : ∀ (l : List Str) (i : Nat), (plK b i l).map Pl.name = l
  | [], _ => rfl
  | s :: l, i => by simp only [plK, List.map_cons, plK_names b l (i + 1)]
theorem nodup_mid {A B : List Str} (h : (A ++ B).Nodup) {k : Nat} {s : Str} (hs : B[k]? = some s) : s ∉ A ++ B.take k := by
  obtain ⟨hk, e⟩ := List.getElem?_eq_some_iff.1 hs
  have h2 : A ++ B = (A ++ B.take k) ++ s :: B.drop (k + 1) := by
    rw [List.append_assoc]
    congr 1
    rw [← e, ← List.drop_eq_getElem_cons hk, List.take_append_drop]
  rw [h2] at h
  have := (List.nodup_append.1 h).2.2
  exact fun hm => this s hm s List.mem_cons_self rfl
/-- what names stand for, outside of functions, and in one -/
def outP (p : Pg) : List Pl := plK false 0 p.vars ++ plK false 0 (p.arrs.map Ar.name) ++ plK false 0 (p.funs.map Fu.name)
def inP (f : Fu) : List Pl := plK true 0 (f.params ++ f.locs)
def rsP (G I : List Pl) (s : Str) : Bool × Int := match lookP I s with | some r => r | none => (lookP G s).getD (false, 0)
def imP (m : List Pl) : AV := .imp ((m.map entP).map (·.1)) ((m.map entP).map (·.2))
def nmV (G I : List Pl) : AV := .agg [imP G, imP I]
def zE : List AV := [.int .i64 0, .int .i64 0, .int .u32 0, .bool false, .int .i64 0, .nsl]
def zS : List AV := [.int .i64 0, .bool false, .int .i64 0, .nsl, .nsl, .nsl]
def zF : List AV := [.int .i64 0, .nsl]
theorem cE_len (rs : Str → Bool × Int) (e : Ex) : (cE rs e).length = 6 := by rw [cE_eq]; rfl
theorem cS_len (rs : Str → Bool × Int) (e : Sm) : (cS rs e).length = 6 := by rw [cS_eq]; rfl
theorem fill_get {α : Type} (f : α → List AV) (l : List α) (z : List AV) {k n : Nat} (hl : l.length = k) (h : k < n) : (l.map f ++ List.replicate (n - k) z)[k]? = some z := by
  rw [List.getElem?_append_right (by rw [List.length_map]; omega), List.length_map, hl, Nat.sub_self, show n - k = (n - (k + 1)) + 1 by omega]; rfl
theorem fill_set {α : Type} (f : α → List AV) (l : List α) (x : α) (z : List AV) {k n : Nat} (hl : l.length = k) (h : k < n) : (l.map f ++ List.replicate (n - k) z).set k (f x) = (l ++ [x]).map f ++ List.replicate (n - (k + 1)) z := by
  have := set_mid (l.map f) z (f x) (List.replicate (n - (k + 1)) z)
  rw [List.length_map, hl] at this
  rw [show List.replicate (n - k) z = z :: List.replicate (n - (k + 1)) z by rw [show n - k = (n - (k + 1)) + 1 by omega]; rfl, this]
  simp
end Go.Al
namespace Go.Proofs.Ytlokndnkpleegaa
open Go.Al
theorem find_conP (G I : List Pl) (s : Str) : PCon env 63 [nmV G I, .str s] (.agg [.bool (rsP G I s).1, .int .i64 (rsP G I s).2]) := by
  have hG := afind_pl s G 0
  have hI := afind_pl s I 0
  have zG := zip_pairs (G.map entP)
  have zI := zip_pairs (I.map entP)
  unfold rsP nmV imP
  rcases hI with ⟨h1, h2⟩ | ⟨j, t, h1, h2⟩
  · rcases hG with ⟨h3, h4⟩ | ⟨j', t', h3, h4⟩
    all_goals
      rw [h1, h3]
      refine con_of 20 [.cell 4 99] Try.func63 rfl rfl rfl rfl ?_
      refine awp_seq_k fun K hK => ?_
      refine awp_region rfl ?_
      simp only [zG, zI, h2, h4, Option.getD_some, Option.getD_none, Option.isSome_none, Option.isSome_some, RR, seval]
      refine awpN_intro fun b2 hn2 => ?_
      simp only [zG, zI, h2, h4, Option.getD_some, Option.getD_none, Option.isSome_none, Option.isSome_some, RR, seval]
      refine awpN_intro fun b4 hn4 => ?_
      have nb4_b2 : b4 ≠ b2 := fun e => by rw [e] at hn4; simp only [RR, seval, reduceCtorEq] at hn4
      have nb2_b4 : b2 ≠ b4 := fun e => nb4_b2 e.symm
      simp only [nb4_b2, nb2_b4, zG, zI, h2, h4, Option.getD_some, Option.getD_none, Option.isSome_none, Option.isSome_some, RR, seval]
      refine hK _ _ ?_; clear hK K
      refine awp_seq ?_
      refine awp_seq_k fun K hK => ?_
      refine awp_region rfl ?_
      simp only [nb4_b2, nb2_b4, zG, zI, h2, h4, Option.getD_some, Option.getD_none, Option.isSome_none, Option.isSome_some, RR, seval]
      refine awpN_intro fun b5 hn5 => ?_
      have nb5_b2 : b5 ≠ b2 := fun e => by rw [e] at hn5; simp only [nb4_b2, nb2_b4, RR, seval, reduceCtorEq] at hn5
      have nb2_b5 : b2 ≠ b5 := fun e => nb5_b2 e.symm
      have nb5_b4 : b5 ≠ b4 := fun e => by rw [e] at hn5; simp only [nb4_b2, nb2_b4, RR, seval, reduceCtorEq] at hn5
      have nb4_b5 : b4 ≠ b5 := fun e => nb5_b4 e.symm
      simp only [nb4_b2, nb2_b4, nb5_b2, nb2_b5, nb5_b4, nb4_b5, zG, zI, h2, h4, Option.getD_some, Option.getD_none, Option.isSome_none, Option.isSome_some, RR, seval]
      refine hK _ _ ?_; clear hK K
      refine awp_seq_k fun K hK => ?_
      refine awp_region rfl ?_
      simp only [zG, zI, h2, h4, Option.getD_some, Option.getD_none, Option.isSome_none, Option.isSome_some, RR, seval]
      refine hK _ _ ?_; clear hK K
      refine awp_if false rfl (fun hc => by cases hc) (fun _ => ?_)
      refine awp_skip ?_; try simp only [RR]
      refine awp_seq_k fun K hK => ?_
      refine awp_region rfl ?_
      simp only [nb4_b2, nb2_b4, nb5_b2, nb2_b5, nb5_b4, nb4_b5, zG, zI, h2, h4, Option.getD_some, Option.getD_none, Option.isSome_none, Option.isSome_some, RR, seval]
      refine hK _ _ ?_; clear hK K
      refine awp_ret ?_; simp only [bodyQ, aresult, ares, nb4_b2, nb2_b4, nb5_b2, nb2_b5, nb5_b4, nb4_b5, zG, zI, h2, h4, Option.getD_some, Option.getD_none, Option.isSome_none, Option.isSome_some, RR, seval]
      refine Gives.pure ?_
      rfl
  · rw [h1]
    refine con_of 20 [.cell 4 99] Try.func63 rfl rfl rfl rfl ?_
    refine awp_seq_k fun K hK => ?_
    refine awp_region rfl ?_
    simp only [zG, zI, h2, Option.getD_some, Option.getD_none, Option.isSome_none, Option.isSome_some, RR, seval]
    refine awpN_intro fun b2 hn2 => ?_
    simp only [zG, zI, h2, Option.getD_some, Option.getD_none, Option.isSome_none, Option.isSome_some, RR, seval]
    refine awpN_intro fun b4 hn4 => ?_
    have nb4_b2 : b4 ≠ b2 := fun e => by rw [e] at hn4; simp only [RR, seval, reduceCtorEq] at hn4
    have nb2_b4 : b2 ≠ b4 := fun e => nb4_b2 e.symm
    simp only [nb4_b2, nb2_b4, zG, zI, h2, Option.getD_some, Option.getD_none, Option.isSome_none, Option.isSome_some, RR, seval]
    refine hK _ _ ?_; clear hK K
    refine awp_seq ?_
    refine awp_seq_k fun K hK => ?_
    refine awp_region rfl ?_
    simp only [nb4_b2, nb2_b4, zG, zI, h2, Option.getD_some, Option.getD_none, Option.isSome_none, Option.isSome_some, RR, seval]
    refine awpN_intro fun b5 hn5 => ?_
    have nb5_b2 : b5 ≠ b2 := fun e => by rw [e] at hn5; simp only [nb4_b2, nb2_b4, RR, seval, reduceCtorEq] at hn5
    have nb2_b5 : b2 ≠ b5 := fun e => nb5_b2 e.symm
    have nb5_b4 : b5 ≠ b4 := fun e => by rw [e] at hn5; simp only [nb4_b2, nb2_b4, RR, seval, reduceCtorEq] at hn5
    have nb4_b5 : b4 ≠ b5 := fun e => nb5_b4 e.symm
    simp only [nb4_b2, nb2_b4, nb5_b2, nb2_b5, nb5_b4, nb4_b5, zG, zI, h2, Option.getD_some, Option.getD_none, Option.isSome_none, Option.isSome_some, RR, seval]
    refine hK _ _ ?_; clear hK K
    refine awp_seq_k fun K hK => ?_
    refine awp_region rfl ?_
    simp only [zG, zI, h2, Option.getD_some, Option.getD_none, Option.isSome_none, Option.isSome_some, RR, seval]
    refine hK _ _ ?_; clear hK K
    refine awp_if true rfl (fun _ => ?_) (fun hc => by cases hc)
    refine awp_seq_k fun K hK => ?_
    refine awp_region rfl ?_
    simp only [nb4_b2, nb2_b4, nb5_b2, nb2_b5, nb5_b4, nb4_b5, zG, zI, h2, Option.getD_some, Option.getD_none, Option.isSome_none, Option.isSome_some, RR, seval]
    refine hK _ _ ?_; clear hK K
    refine awp_ret ?_; simp only [bodyQ, aresult, ares, nb4_b2, nb2_b4, nb5_b2, nb2_b5, nb5_b4, nb4_b5, zG, zI, h2, Option.getD_some, Option.getD_none, Option.isSome_none, Option.isSome_some, RR, seval]
    refine Gives.pure ?_
    rfl
set_option maxHeartbeats 2000000 in
theorem exprs_conP (G I : List Pl) (n : Nat) : ∀ l : List Ex, szE l ≤ n → n ≤ 2000000 → PCon env 64 [nmV G I, .isl 5 (l.map Ex.row)] (.isl 6 (l.map (cE (rsP G I)))) := by
  induction n using Nat.strongRecOn with
  | _ n ih =>
    intro l hn hb
    have hlen : ∀ l : List Ex, l.length ≤ szE l := fun l => by
      induction l with
      | nil => simp [szE]
      | cons e l ih => have := e.sz_eq; simp only [List.length_cons, szE]; omega
    have hl := hlen l
    have hkid : ∀ e ∈ l, PCon env 64 [nmV G I, .isl 5 (e.kids.map Ex.row)] (.isl 6 (e.kids.map (cE (rsP G I)))) := fun e he => by
      have h1 := szE_mem he
      have h2 := e.sz_eq
      exact ih (szE e.kids) (by omega) e.kids (Nat.le_refl _) (by omega)
    have hfd := fun s => find_conP G I s
    have e1 : (56 : Int) * (l.length : Int) ≤ 281474976710656 := by omega
    clear ih
    unfold nmV at *
    generalize imP G = mG at *
    generalize imP I = mI at *
    generalize rsP G I = rs at *
    refine con_of 43 [.tmp 4] Try.func64 rfl rfl rfl rfl ?_
    refine awp_seq_k fun K hK => ?_
    refine awp_region rfl ?_
    simp only [e1, List.length_map, RR, seval]
    refine awpN_intro fun b2 hn2 => ?_
    simp only [e1, List.length_map, RR, seval]
    refine hK _ _ ?_; clear hK K
    refine awp_seq_k fun K hK => ?_
    refine awp_region rfl ?_
    simp only [e1, List.length_map, RR, seval]
    refine awpN_intro fun b11 hn11 => ?_
    have nb11_b2 : b11 ≠ b2 := fun e => by rw [e] at hn11; simp only [RR, seval, reduceCtorEq] at hn11
    have nb2_b11 : b2 ≠ b11 := fun e => nb11_b2 e.symm
    simp only [nb11_b2, nb2_b11, e1, List.length_map, RR, seval]
    refine hK _ _ ?_; clear hK K
    refine awp_seq ?_
    refine awp_seq_k fun K hK => ?_
    refine awp_region rfl ?_
    simp only [nb11_b2, nb2_b11, e1, List.length_map, RR, seval]
    refine hK _ _ ?_; clear hK K
    refine awp_name fun F1 M1 hfr hH => ?_
    have g2 := hfr 2
    have g4 := hfr 4
    have g5 := hfr 5
    have g12 := hfr 12
    have g13 := hfr 13
    have g14 := hfr 14
    have gb2 := hH b2
    have gb11 := hH b11
    try simp only [nb11_b2, nb2_b11, e1, List.length_map, RR, seval] at g2 g4 g5 g12 g13 g14 gb2 gb11
    have f2 := g2; clear g2
    have f4 := g4; clear g4
    have f5 := g5; clear g5
    have f12 := g12; clear g12
    have f13 := g13; clear g13
    have f14 := g14; clear g14
    have hb2 := gb2; clear gb2
    have hb11 := gb11; clear gb11
    clear hfr hH
    refine awp_block ?_
    refine awp_each [2, 4, 5, 12, 13] (l.length) (fun k fr M => fr 14 = .int .i64 (k : Nat) ∧ M b2 = M1 b2 ∧ M b11 = some (.rows 6 ((l.take k).map (cE rs) ++ List.replicate (l.length - k) zE))) ⟨f14, rfl, by rw [hb11]; rfl⟩ ?_
    rintro k F2 M2 hk0 ⟨fx, gb2, hb11⟩ agx K0 hK0
    have f2 := (agx 2 rfl).trans f2
    have f4 := (agx 4 rfl).trans f4
    have f5 := (agx 5 rfl).trans f5
    have f12 := (agx 12 rfl).trans f12
    have f13 := (agx 13 rfl).trans f13
    have f14 := fx; clear fx
    have hb2 := gb2.trans hb2
    have ag0 := agree.refl [2, 4, 5, 12, 13] F2
    have e0_b2 := gb2; clear gb2
    clear agx
    refine awp_seq_k fun K hK => ?_
    refine awp_region rfl ?_
    simp only [f13, f14, e1, List.length_map, RR, seval]
    refine hK _ _ ?_; clear hK K
    refine awp_seq ?_
    refine awp_if _ rfl (fun hc => ?_) (fun hc => ?_)
    · have hlt0 : k < l.length := by have := of_decide_eq_true hc; omega
      clear hc
      have hg0 := List.getElem?_eq_getElem hlt0
      have htk : l.take (k + 1) = l.take k ++ [l[k]] := List.take_succ_eq_append_getElem hlt0
      have hkd := hkid _ (List.getElem_mem hlt0)
      generalize l[k] = e at hg0 htk hkd
      have hg := getE hg0
      have hf := hfd e.name
      have hkl : (l.take k).length = k := by rw [List.length_take]; omega
      have zk : (k : Int) < (l.length : Int) := by omega
      have hz := fill_get (cE rs) (l.take k) zE hkl hlt0
      have hs := fill_set (cE rs) (l.take k) e zE hkl hlt0
      rw [← htk, cE_eq] at hs
      generalize (l.take k).map (cE rs) ++ List.replicate (l.length - k) zE = rows at hb11 hz hs
      unfold zE at hz
      refine awp_skip ?_; try simp only [RR]
      refine awp_seq ?_
      refine awp_block ?_
      refine awp_seq_k fun K hK => ?_
      refine awp_region rfl ?_
      simp only [f12, f14, hb2, hb11, nb11_b2, nb2_b11, e1, List.length_map, hg, hz, zk, RR, seval]
      refine awpN_intro fun b7 hn7 => ?_
      have nb7_b2 : b7 ≠ b2 := fun e => by rw [e] at hn7; simp only [hb2, nb11_b2, nb2_b11, RR, seval, reduceCtorEq] at hn7
      have nb2_b7 : b2 ≠ b7 := fun e => nb7_b2 e.symm
      have nb7_b11 : b7 ≠ b11 := fun e => by rw [e] at hn7; simp only [hb11, nb11_b2, nb2_b11, RR, seval, reduceCtorEq] at hn7
      have nb11_b7 : b11 ≠ b7 := fun e => nb7_b11 e.symm
      simp only [f12, f14, hb2, hb11, nb11_b2, nb2_b11, nb7_b2, nb2_b7, nb7_b11, nb11_b7, e1, List.length_map, hg, hz, zk, RR, seval]
      refine hK _ _ ?_; clear hK K
      refine awp_seq_k fun K hK => ?_
      refine awp_region rfl ?_
      simp only [f2, hb2, hb11, nb11_b2, nb2_b11, nb7_b2, nb2_b7, nb7_b11, nb11_b7, e1, List.length_map, hg, hz, zk, RR, seval]
      refine awpC_pure' (hf) ?_
      simp only [f2, hb2, hb11, nb11_b2, nb2_b11, nb7_b2, nb2_b7, nb7_b11, nb11_b7, e1, List.length_map, hg, hz, zk, RR, seval]
      refine awpN_intro fun b8 hn8 => ?_
      have nb8_b2 : b8 ≠ b2 := fun e => by rw [e] at hn8; simp only [hb2, nb11_b2, nb2_b11, nb7_b2, nb2_b7, RR, seval, reduceCtorEq] at hn8
      have nb2_b8 : b2 ≠ b8 := fun e => nb8_b2 e.symm
      have nb8_b11 : b8 ≠ b11 := fun e => by rw [e] at hn8; simp only [hb11, nb11_b2, nb2_b11, nb7_b11, nb11_b7, RR, seval, reduceCtorEq] at hn8
      have nb11_b8 : b11 ≠ b8 := fun e => nb8_b11 e.symm
      have nb8_b7 : b8 ≠ b7 := fun e => by rw [e] at hn8; simp only [nb7_b2, nb2_b7, nb7_b11, nb11_b7, RR, seval, reduceCtorEq] at hn8
      have nb7_b8 : b7 ≠ b8 := fun e => nb8_b7 e.symm
      simp only [f2, hb2, hb11, nb11_b2, nb2_b11, nb7_b2, nb2_b7, nb7_b11, nb11_b7, nb8_b2, nb2_b8, nb8_b11, nb11_b8, nb8_b7, nb7_b8, e1, List.length_map, hg, hz, zk, RR, seval]
      refine hK _ _ ?_; clear hK K
      refine awp_name fun F3 M3 hfr hH => ?_
      have g2 := hfr 2
      have g4 := hfr 4
      have g5 := hfr 5
      have g6 := hfr 6
      have g7 := hfr 7
      have g8 := hfr 8
      have g12 := hfr 12
      have g13 := hfr 13
      have g14 := hfr 14
      have gb2 := hH b2
      have gb11 := hH b11
      have gb7 := hH b7
      have gb8 := hH b8
      try simp only [f2, f4, f5, f12, f13, f14, hb2, hb11, nb11_b2, nb2_b11, nb7_b2, nb2_b7, nb7_b11, nb11_b7, nb8_b2, nb2_b8, nb8_b11, nb11_b8, nb8_b7, nb7_b8, e1, List.length_map, hg, hz, zk, RR, seval] at g2 g4 g5 g6 g7 g8 g12 g13 g14 gb2 gb11 gb7 gb8
      have ag0 : agree [2, 4, 5, 12, 13] F2 F3 := agree.same hfr (by repeat (first | exact ag0 | refine agree.upd rfl ?_))
      have e0_b2 := (hH b2).trans (by first | exact e0_b2 | (simp only [nb11_b2, nb2_b11, nb7_b2, nb2_b7, nb7_b11, nb11_b7, nb8_b2, nb2_b8, nb8_b11, nb11_b8, nb8_b7, nb7_b8, upd_app, seval]; first | done | exact e0_b2))
      have f2 := g2; clear g2
      have f4 := g4; clear g4
      have f5 := g5; clear g5
      have f6 := g6; clear g6
      have f7 := g7; clear g7
      have f8 := g8; clear g8
      have f12 := g12; clear g12
      have f13 := g13; clear g13
      have f14 := g14; clear g14
      have hb2 := gb2; clear gb2
      have hb11 := gb11; clear gb11
      have hb7 := gb7; clear gb7
      have hb8 := gb8; clear gb8
      clear hfr hH
      refine awp_region_draw2 (fun x => x ≠ b2 ∧ x ≠ b7 ∧ x ≠ b8) [(0, 3), (1, 3), (2, 3), (3, 0), (4, 3), (5, 0), (6, 3), (7, 0), (8, 3), (9, 0), (10, 3), (11, 0), (12, 1), (13, 3), (14, 1), (15, 1), (16, 3), (17, 3)] [(18, 1)] draws (by kernel_rfl) rfl rfl ?_
      simp only [emitF, markOf, EM, f2, f5, f6, f7, f8, hb2, hb11, hb7, hb8, nb11_b2, nb2_b11, nb7_b2, nb2_b7, nb7_b11, nb11_b7, nb8_b2, nb2_b8, nb8_b11, nb11_b8, nb8_b7, nb7_b8, e1, List.length_map, hg, hz, zk, RR, seval]
      refine awpC_pure' (hkd) ?_
      simp only [emitF, markOf, EM, f2, f5, f6, f7, f8, hb2, hb11, hb7, hb8, nb11_b2, nb2_b11, nb7_b2, nb2_b7, nb7_b11, nb11_b7, nb8_b2, nb2_b8, nb8_b11, nb11_b8, nb8_b7, nb7_b8, e1, List.length_map, hg, hz, zk, RR, seval]
      refine awp_region rfl ?_
      simp only [f14, e1, List.length_map, hg, hz, zk, RR, seval]
      try rw [IntWalk.i64_in _ (by omega)]
      refine hK0 _ _ hlt0 ⟨by first | rfl | (simp only [upd_app, seval]; rfl), (by first | exact e0_b2 | (simp only [nb11_b2, nb2_b11, nb7_b2, nb2_b7, nb7_b11, nb11_b7, nb8_b2, nb2_b8, nb8_b11, nb11_b8, nb8_b7, nb7_b8, upd_app, seval]; first | done | exact e0_b2)), by rw [← hs]; first | exact upd_same _ _ _ | (simp only [upd_app, seval]; rfl)⟩ (by repeat (first | exact ag0 | refine agree.upd rfl ?_))
    · have hkn0 : k = l.length := by have := of_decide_eq_false hc; omega
      clear hc
      rw [hkn0, List.take_length, Nat.sub_self, List.replicate_zero, List.append_nil] at hb11
      refine awp_exit ?_; simp only [RR, seval]
      refine awp_seq_k fun K hK => ?_
      refine awp_region rfl ?_
      simp only [f5, e1, List.length_map, RR, seval]
      refine hK _ _ ?_; clear hK K
      refine awp_ret ?_; simp only [bodyQ, aresult, ares, f4, e1, List.length_map, RR, seval]
      exact OwnL.gives1 (.inr ⟨b11, by rw [List.length_map], hb11⟩) rfl
      skip
end Go.Proofs.Ytlokndnkpleegaa
