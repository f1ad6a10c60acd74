/- Chapter 15: what stands between tokens, and parentheses, change nothing. -/
import Derived.Test.YtlpeikljipknoaaDoorBks
import Derived.Test.YtlpeikljipknoaaDoorBms
import Derived.Test.YtlpeikljipknoaaDoorGAw
set_option linter.unusedSimpArgs false
set_option linter.unusedVariables false
set_option maxRecDepth 10000
namespace Go.Proofs.YtlpeikljipknoaaDoor
open Go.Al
theorem back_z {c : UInt8} {q : Str} (hb : Bl false (c :: q)) (hc : wsI c.toNat = true) {s : Str} {i : Nat} {x : Except (Nat × Int) (List Tok)} (h : Big s i x) :
    ∀ l, x = .ok l → ∀ j : Nat, ∃ m, lexH (flat (c :: q) l) 0 j = .ok m ∧ m.map Tok.z = l.map Tok.z := by
  induction h with
  | done b i h => intro l e j; cases e; exact ⟨[], rfl, rfl⟩
  | bad => intro l e; cases e
  | tok b s' r t i x hbl ht hxx ih =>
    intro l e j
    obtain ⟨l', e1, rfl⟩ := map_ok e
    obtain ⟨m, h1, h2⟩ := ih l' e1 (j + t.text.length + (c :: q).length)
    refine ⟨{ t with pos := (j : Nat) } :: m, ?_, by rw [List.map_cons, List.map_cons, h2]; rfl⟩
    simp only [flat]
    rw [lexH_tok (ht.swap (r2 := c :: q ++ flat (c :: q) l') (lets_blank ht hc _)), hb.lex, h1]
    rfl
theorem flat_app (sep : Str) : ∀ l m : List Tok, flat sep (l ++ m) = flat sep l ++ flat sep m
  | [], m => rfl
  | t :: l, m => by simp only [List.cons_append, flat, flat_app sep l m, List.append_assoc]
theorem flat_len (sep : Str) {s : Str} {i : Nat} {x : Except (Nat × Int) (List Tok)} (h : Big s i x) : ∀ l, x = .ok l → (flat sep l).length ≤ s.length + sep.length * l.length := by
  induction h with
  | done b i h => intro l e; cases e; simp [flat]
  | bad => intro l e; cases e
  | tok b s' r t i x hbl ht hxx ih =>
    intro l e
    obtain ⟨l', e1, rfl⟩ := map_ok e
    have h1 := ih l' e1
    have hlen := congrArg List.length ht.split
    rw [List.length_append] at hlen
    simp only [flat, List.length_append, List.length_cons, Nat.mul_add, Nat.mul_one]
    omega
theorem lexS_big {s : Str} {T : List Tok} (h : lexS s = .ok T) : Big s 0 (.ok T) := by
  unfold lexS at h
  split at h
  · cases h
  · rw [← h]; exact big s 0
def noteS : Str := [32, 47, 47, 32, 97, 32, 110, 111, 116, 101, 59, 32, 125, 10, 9]
theorem note_bl : Bl false noteS := .ws 32 _ (by decide) (.com [47, 47, 32, 97, 32, 110, 111, 116, 101, 59, 32, 125] [9] (by decide) (by decide) (.ws 10 [9] (by decide) (.ws 9 [] (by decide) .nil)))
theorem note_lex {s : Str} {T : List Tok} (hs : s.length ≤ 500) (h : lexS s = .ok T) : (flat noteS T).length ≤ 8000 ∧ ∃ m, lexS (flat noteS T) = .ok m ∧ m.map Tok.z = T.map Tok.z := by
  have hb := lexS_big h
  have h1 := flat_len noteS hb T rfl
  have h2 : T.length ≤ s.length := by
    unfold lexS at h
    rw [if_neg (by omega)] at h
    exact (lexH_sz s.length s 0 0 T (Nat.le_refl _) h).1
  have h3 : noteS.length = 15 := rfl
  rw [h3] at h1
  have h4 : (flat noteS T).length ≤ 8000 := by omega
  refine ⟨h4, ?_⟩
  unfold lexS
  rw [if_neg (by omega)]
  exact back_z note_bl (by decide) hb T rfl 0
theorem len_z {l m : List Tok} (h : l.map Tok.z = m.map Tok.z) : l.length = m.length := by
  have := congrArg List.length h
  rwa [List.length_map, List.length_map] at this
theorem src_z {s t : Str} {T U : List Tok} (h1 : lexS s = .ok T) (h2 : lexS t = .ok U) (h : U.map Tok.z = T.map Tok.z) : (srcP t).1 = (srcP s).1 ∧ (srcP t).2.2 = (srcP s).2.2 := by
  have e : progP U 0 = progP T 0 := by rw [← progP_z U, h, progP_z]
  unfold srcP
  rw [h1, h2]
  simp only [e, len_z h]
  cases progP T 0 with
  | bad m => exact ⟨rfl, rfl⟩
  | ok p m =>
    simp only
    split
    · exact ⟨rfl, rfl⟩
    · split <;> exact ⟨rfl, rfl⟩
/-! ### parentheses -/
section
variable {L T D : List Tok} {o : Nat}
structure Fr (L T D : List Tok) (o : Nat) : Prop where
  drop : L.drop o = T ++ D
  stop : pk D = [41] ∨ pk D = []
theorem Fr.get (h : Fr L T D o) {n : Nat} (hn : n < T.length) : L[o + n]? = T[n]? := by
  have := List.getElem?_drop (xs := L) (i := o) (j := n)
  rw [← this, h.drop, List.getElem?_append_left hn]
theorem Fr.peek (h : Fr L T D o) {n : Nat} (hn : n < T.length) : peekI L (o + n) = peekI T n := by unfold peekI; rw [h.get hn]
theorem Fr.kind (h : Fr L T D o) {n : Nat} (hn : n < T.length) : kindI L (o + n) = kindI T n := by unfold kindI; rw [h.get hn]
theorem Fr.last (h : Fr L T D o) : peekI L (o + T.length) = pk D := peek_drop (pass_drop h.drop)
theorem peek_end (n : Nat) (h : T.length ≤ n) : peekI T n = [] := by unfold peekI; rw [List.getElem?_eq_none h]
theorem kind_end (n : Nat) (h : T.length ≤ n) : kindI T n = 0 := by unfold kindI; rw [List.getElem?_eq_none h]
theorem take_end (k : Int) (n : Nat) (h : T.length ≤ n) : takeI T k n = .bad n := by unfold takeI; rw [List.getElem?_eq_none h]
theorem Fr.must (h : Fr L T D o) {n m : Nat} {s : Str} (hs : s ≠ []) (hm : mustI T s n = .ok () m) : mustI L s (o + n) = .ok () (o + m) := by
  have := must_ok hm hs
  unfold mustI
  rw [h.peek this.2.1, if_pos this.2.2, this.1]; rfl
theorem Fr.take (h : Fr L T D o) {n m : Nat} {k : Int} {t : Tok} (hm : takeI T k n = .ok t m) : takeI L k (o + n) = .ok t (o + m) := by
  have := take_ok hm
  unfold takeI
  rw [h.get this.2.1, this.2.2.1]
  simp only [this.2.2.2, if_true, this.1]; rfl
theorem Fr.opn (h : Fr L T D o) {n : Nat} (hn : n ≤ T.length) {s : Str} (hs : s = [91] ∨ s = [40] ∨ s = [44]) (hp : ¬ peekI T n = s) : ¬ peekI L (o + n) = s := by
  by_cases hlt : n < T.length
  · rw [h.peek hlt]; exact hp
  · obtain rfl : n = T.length := by omega
    rw [h.last]
    rcases h.stop with e | e <;> rw [e] <;> rcases hs with rfl | rfl | rfl <;> decide
theorem Fr.sg (h : Fr L T D o) {n : Nat} (hn : n ≤ T.length) : (sgI (peekI L (o + n))) = (sgI (peekI T n)) := by
  by_cases hlt : n < T.length
  · rw [h.peek hlt]
  · obtain rfl : n = T.length := by omega
    rw [h.last, peek_end _ (Nat.le_refl _)]
    rcases h.stop with e | e <;> rw [e] <;> rfl
theorem Fr.sgp (h : Fr L T D o) {n : Nat} (hn : n < T.length) : peekI L (o + n) = peekI T n := h.peek hn
theorem Fr.all (h : Fr L T D o) (f : Nat) : (∀ n e m, atomI T f n = .ok e m → atomP L (o + n) = .ok e (o + m)) ∧ (∀ lo n e m, 1 ≤ lo → exprI T f lo n = .ok e m → exprP L lo (o + n) = .ok e (o + m)) ∧
    (∀ lo e0 n e m, 1 ≤ lo → n ≤ T.length → loopI T f lo e0 n = .ok e m → loopP L lo e0 (o + n) = .ok e (o + m)) ∧ (∀ n l m, argsI T f n = .ok l m → argsP L (o + n) = .ok l (o + m)) ∧
    (∀ acc n l m, n ≤ T.length → arglI T f acc n = .ok l m → arglP L acc (o + n) = .ok l (o + m)) := by
  induction f with
  | zero => exact ⟨fun _ _ _ h => by simp [atomI] at h, fun _ _ _ _ _ h => by simp [exprI] at h, fun _ _ _ _ _ _ _ h => by simp [loopI] at h, fun _ _ _ h => by simp [argsI] at h, fun _ _ _ _ _ h => by simp [arglI] at h⟩
  | succ f ih =>
    obtain ⟨i1, i2, i3, i4, i5⟩ := ih
    obtain ⟨g1, g2, g3, g4, g5⟩ := far (T := T) f
    refine ⟨fun n e m hx => ?_, fun lo n e m hl hx => ?_, fun lo e0 n e m hl hn hx => ?_, fun n l m hx => ?_, fun acc n l m hn hx => ?_⟩
    · rw [atomI] at hx
      have hlt : n < T.length := by
        rcases Nat.lt_or_ge n T.length with g | g
        · exact g
        · exfalso
          rw [kind_end n g, if_neg (by decide), peek_end n g, if_neg (by decide), if_neg (by decide), if_neg (by decide), take_end 1 n g] at hx
          cases hx
      rw [atomP_eq, h.kind hlt, h.peek hlt]
      split at hx
      · rename_i hc
        rw [if_pos hc]
        obtain ⟨t, a, h1, h2⟩ := PR.bind_eq_ok hx
        rw [h.take h1]; cases h2; rfl
      rename_i hc1
      rw [if_neg hc1]
      split at hx
      · rename_i hc
        rw [if_pos hc]
        obtain ⟨_, a, h1, h2⟩ := PR.bind_eq_ok hx
        obtain ⟨_, c, h3, h4⟩ := PR.bind_eq_ok h2
        rw [Nat.add_assoc, h.must (by decide) h1, PR.bind_ok, h.must (by decide) h3, PR.bind_ok]; cases h4; rfl
      rename_i hc2
      rw [if_neg hc2]
      split at hx
      · rename_i hc
        rw [if_pos hc]
        obtain ⟨x, a, h1, h2⟩ := PR.bind_eq_ok hx
        obtain ⟨_, c, h3, h4⟩ := PR.bind_eq_ok h2
        rw [Nat.add_assoc, i2 _ _ _ _ (Nat.le_refl 1) h1, PR.bind_ok, h.must (by decide) h3, PR.bind_ok]; cases h4; rfl
      rename_i hc3
      rw [if_neg hc3]
      split at hx
      · rename_i hc
        rw [if_pos hc]
        obtain ⟨x, a, h1, h2⟩ := PR.bind_eq_ok hx
        rw [Nat.add_assoc, i1 _ _ _ h1, PR.bind_ok]; cases h2; rfl
      rename_i hc4
      rw [if_neg hc4]
      obtain ⟨t, a, h1, h2⟩ := PR.bind_eq_ok hx
      have hta := take_ok h1
      rw [h.take h1, PR.bind_ok]
      split at h2
      · rename_i hc
        obtain ⟨x, c, h3, h4⟩ := PR.bind_eq_ok h2
        obtain ⟨_, d, h5, h6⟩ := PR.bind_eq_ok h4
        rw [h.peek (peek_lt hc (by decide)), if_pos hc, Nat.add_assoc, i2 _ _ _ _ (Nat.le_refl 1) h3, PR.bind_ok, h.must (by decide) h5, PR.bind_ok]; cases h6; rfl
      rename_i hc5
      rw [if_neg (h.opn (by omega) (.inl rfl) hc5)]
      split at h2
      · rename_i hc
        obtain ⟨x, c, h3, h4⟩ := PR.bind_eq_ok h2
        rw [h.peek (peek_lt hc (by decide)), if_pos hc, Nat.add_assoc, i4 _ _ _ h3, PR.bind_ok]; cases h4; rfl
      · rename_i hc6
        rw [if_neg (h.opn (by omega) (.inr (.inl rfl)) hc6)]; cases h2; rfl
    · rw [exprI] at hx
      obtain ⟨x, a, h1, h2⟩ := PR.bind_eq_ok hx
      have := g1 _ _ _ h1
      rw [exprP_eq L lo _ hl, i1 _ _ _ h1, PR.bind_ok]
      exact i3 _ _ _ _ _ hl this.2 h2
    · rw [loopI] at hx
      rw [loopP_eq L lo _ _ hl, h.sg hn]
      split at hx
      · rename_i hc
        rw [if_pos hc]; cases hx; rfl
      · rename_i hc
        rw [if_neg hc]
        have hlt := sg_lt hc hl
        obtain ⟨x, a, h1, h2⟩ := PR.bind_eq_ok hx
        have := g2 _ _ _ _ h1
        rw [Nat.add_assoc, i2 _ _ _ _ (by omega) h1, PR.bind_ok, h.peek hlt]
        exact i3 _ _ _ _ _ hl this.2 h2
    · rw [argsI] at hx
      rw [argsP_eq]
      split at hx
      · rename_i hc
        rw [h.peek (peek_lt hc (by decide)), if_pos hc]; cases hx; rfl
      · rename_i hc
        obtain ⟨x, a, h1, h2⟩ := PR.bind_eq_ok hx
        have := g2 _ _ _ _ h1
        rw [h.peek (by omega), if_neg hc, i2 _ _ _ _ (Nat.le_refl 1) h1, PR.bind_ok]
        exact i5 _ _ _ _ this.2 h2
    · rw [arglI] at hx
      rw [arglP_eq]
      split at hx
      · rename_i hc
        obtain ⟨x, a, h1, h2⟩ := PR.bind_eq_ok hx
        have := g2 _ _ _ _ h1
        rw [h.peek (peek_lt hc (by decide)), if_pos hc, Nat.add_assoc, i2 _ _ _ _ (Nat.le_refl 1) h1, PR.bind_ok]
        exact i5 _ _ _ _ this.2 h2
      · rename_i hc
        obtain ⟨_, a, h1, h2⟩ := PR.bind_eq_ok hx
        rw [if_neg (h.opn hn (.inr (.inr rfl)) hc), h.must (by decide) h1, PR.bind_ok]; cases h2; rfl
theorem Fr.expr (h : Fr L T D o) {lo n m : Nat} {e : Ex} (hl : 1 ≤ lo) (hx : exprP T lo n = .ok e m) : exprP L lo (o + n) = .ok e (o + m) := (h.all _).2.1 _ _ _ _ hl hx
end
def parT : Nat → List Tok → List Tok
  | 0, T => T
  | n + 1, T => [tS [40]] ++ (parT n T ++ [tS [41]])
def parS : Nat → Str → Str
  | 0, s => s
  | n + 1, s => [40] ++ (parS n s ++ [41])
theorem parS_len (s : Str) : ∀ n, (parS n s).length = s.length + 2 * n
  | 0 => rfl
  | n + 1 => by simp only [parS, List.length_append, parS_len s n, List.length_cons, List.length_nil]; omega
theorem par_drop {T : List Tok} {e : Ex} (hx : exprP T 1 0 = .ok e T.length) : ∀ (n : Nat) (L D : List Tok) (o : Nat), L.drop o = parT n T ++ D → pk D = [41] ∨ pk D = [] → exprP L 1 o = .ok e (o + (parT n T).length)
  | 0, L, D, o, hd, hs => by
    have := Fr.expr (L := L) (T := T) (D := D) (o := o) ⟨hd, hs⟩ (Nat.le_refl 1) hx
    exact this
  | n + 1, L, D, o, hd, hs => by
    simp only [parT, List.cons_append, List.nil_append, List.append_assoc] at hd
    have hd1 := next_drop hd
    have hd2 := pass_drop hd1
    have hd3 := next_drop hd2
    have hsg : (sgI (pk D)).2.2 = 0 := by rcases hs with e | e <;> rw [e] <;> rfl
    rw [exprP_eq L 1 o (Nat.le_refl 1), atomP_eq, kind_drop hd, if_neg (by simp [tS]), peek_drop hd, if_neg (by simp [pk, tS]), if_pos (by rfl), par_drop hx n L _ _ hd1 (.inl rfl), PR.bind_ok, must_drop hd2, PR.bind_ok, PR.bind_ok,
      loop_end (Nat.le_refl 1) hd3 hsg]
    simp only [parT, List.cons_append, List.nil_append, List.length_cons, List.length_append, List.length_nil]
    congr 1; omega
theorem shift_z {s : Str} {i : Nat} {x : Except (Nat × Int) (List Tok)} (h : Big s i x) : ∀ l, x = .ok l → ∀ j, ∃ m, lexH s 0 j = .ok m ∧ m.map Tok.z = l.map Tok.z := by
  induction h with
  | done b i h => intro l e j; cases e; exact ⟨[], h.lex_end j, rfl⟩
  | bad => intro l e; cases e
  | tok b s' r t i x hbl ht hxx ih =>
    intro l e j
    obtain ⟨l', e1, rfl⟩ := map_ok e
    obtain ⟨m, h1, h2⟩ := ih l' e1 (j + b.length + t.text.length)
    refine ⟨{ t with pos := ((j + b.length : Nat) : Int) } :: m, ?_, by rw [List.map_cons, List.map_cons, h2]; rfl⟩
    rw [hbl.lex, lexH_tok ht, h1]; rfl
theorem rd_line {s : Str} {T : List Tok} (h : lexS s = .ok T) : RdC (s ++ [10]) (T.map Tok.z) := by
  intro r i
  obtain ⟨m, h1, h2⟩ := shift_z (lexS_big h) T rfl i
  have hb : Big s i (.ok m) := by rw [← h1]; exact big s i
  rw [List.append_assoc, List.cons_append, List.nil_append, joins_ok hb r m rfl, List.length_append, ← h2]
  cases lexH r 0 (i + s.length + 1) with
  | error e => simp only [zz, pre, Except.map]
  | ok l => simp only [zz, pre, Except.map, List.map_append]
theorem rd_par {s : Str} {T : List Tok} (h : RdC s T) : ∀ n, RdC (parS n s) (parT n T)
  | 0 => h
  | n + 1 => cc40.app ((rd_par h n).app cc41)
theorem map_par (T : List Tok) : ∀ n, (parT n (T.map Tok.z)).map Tok.z = parT n (T.map Tok.z)
  | 0 => by simp [parT, Tok.z_z]
  | n + 1 => by rw [parT, List.map_append, List.map_append, map_par T n]; rfl
theorem srcE_inv {s : Str} {e : Ex} {i : Int} (h : srcE s = (e, i, 0)) : i = 0 ∧ ∃ T, lexS s = .ok T ∧ exprP T 1 0 = .ok e T.length ∧ rightP (aloneP e) = true := by
  unfold srcE at h
  cases hl : lexS s with
  | error x =>
    rw [hl] at h
    obtain ⟨a, b⟩ := x
    simp only [Prod.mk.injEq] at h
    exact absurd h.2.2 (lexS_err hl)
  | ok T =>
    rw [hl] at h
    simp only at h
    cases hp : exprP T 1 0 with
    | bad m => rw [hp] at h; simp at h
    | ok x m =>
      rw [hp] at h
      simp only at h
      have hfar := exprP_far hp
      split at h
      · simp at h
      · split at h
        · simp only [Prod.mk.injEq] at h
          obtain ⟨rfl, rfl, _⟩ := h
          refine ⟨rfl, T, rfl, ?_, by assumption⟩
          have : m = T.length := by omega
          rw [← this]; exact hp
        · simp at h
theorem src_par {s : Str} {e : Ex} (hs : s.length ≤ 300) (n : Nat) (hn : n ≤ 255) (h : srcE s = (e, 0, 0)) : srcE (parS n (s ++ [10])) = (e, 0, 0) := by
  obtain ⟨_, T, h1, h2, h3⟩ := srcE_inv h
  have hl := rd_par (rd_line h1) n [] 0
  rw [List.append_nil] at hl
  have hlen := parS_len (s ++ [10]) n
  rw [List.length_append, List.length_cons, List.length_nil] at hlen
  refine srcE_rd ?_ h3
  unfold rdE lexS
  rw [if_neg (by omega)]
  cases hx : lexH (parS n (s ++ [10])) 0 0 with
  | error y => rw [hx] at hl; cases hl
  | ok U =>
    rw [hx] at hl
    have hU : (Except.ok (U.map Tok.z) : Except (Nat × Int) (List Tok)) = .ok (parT n (T.map Tok.z) ++ []) := hl
    injection hU with hU
    rw [List.append_nil] at hU
    have h4 : exprP (T.map Tok.z) 1 0 = .ok e (T.map Tok.z).length := by rw [exprP_z, h2, List.length_map]
    have h5 := par_drop h4 n (parT n (T.map Tok.z)) [] 0 (by simp) (.inr rfl)
    rw [← hU, exprP_z, List.length_map, Nat.zero_add] at h5
    simp only [h5, Nat.lt_irrefl, if_false]
end Go.Proofs.YtlpeikljipknoaaDoor
