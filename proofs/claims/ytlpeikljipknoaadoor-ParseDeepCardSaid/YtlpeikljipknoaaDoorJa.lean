/- Chapter 15, the judge's: the reader in memory; what passes a token. Chapter 15, the judge's: tokens, names, signs. Chapter 15, the judge's: signs. -/
import Derived.Test.YtlpeikljipknoaaDoorRa
set_option linter.unusedSimpArgs false
set_option linter.unusedVariables false
set_option maxRecDepth 10000
namespace Go.Proofs.YtlpeikljipknoaaDoor
open Go.Al
def stW {α : Type} (w : Bool) (n : Nat) (r : PR α) : PR α := if w = true then .bad n else r
theorem stW_f {α : Type} (n : Nat) (r : PR α) : stW false n r = r := rfl
theorem stW_t {α : Type} (n : Nat) (r : PR α) : stW true n r = .bad n := rfl
theorem stW_bind {α β : Type} (w : Bool) (n : Nat) (r : PR α) (K : α → Nat → PR β) : stW w n (r.bind K) = (stW w n r).bind K := by cases w <;> rfl
theorem stW_step {α β : Type} {w w' : Bool} {n n' : Nat} {X : PR α} {K : α → Nat → PR β} {x : α} {res : PR β} (hres : stW w n (X.bind K) = res) (hj : stW w' n' (PR.ok x n') = stW w n X) : stW w' n' (K x n') = res := by
  rw [← hres, stW_bind, ← hj, ← stW_bind]; rfl
def isB (T : List Tok) (w : Bool) (n : Nat) (s : Str) : Bool := !w && decide (peekI T n = s)
def isK (T : List Tok) (w : Bool) (n : Nat) (k : Int) : Bool := !w && decide (kindI T n = k)
theorem isB_w {T : List Tok} {w : Bool} {n : Nat} {s : Str} (h : isB T w n s = true) : w = false ∧ peekI T n = s := by
  simpa [isB] using h
theorem isB_lt {T : List Tok} {w : Bool} {n : Nat} {s : Str} (h : isB T w n s = true) (hs : s ≠ []) : n < T.length := peek_lt (isB_w h).2 hs
theorem isK_w {T : List Tok} {w : Bool} {n : Nat} {k : Int} (h : isK T w n k = true) : w = false ∧ kindI T n = k := by
  simpa [isK] using h
theorem is_t {α : Type} {T : List Tok} {w : Bool} {n : Nat} {s : Str} {A B res : PR α} (h : isB T w n s = true) (hres : stW w n (if peekI T n = s then A else B) = res) : stW w (n + 1) A = res := by
  obtain ⟨h1, h2⟩ := isB_w h
  subst h1
  rw [if_pos h2] at hres
  exact hres
theorem is_f {α : Type} {T : List Tok} {w : Bool} {n : Nat} {s : Str} {A B res : PR α} (h : isB T w n s = false) (hres : stW w n (if peekI T n = s then A else B) = res) : stW w n B = res := by
  cases w with
  | true => exact hres
  | false =>
    have : ¬ peekI T n = s := by simpa [isB] using h
    rw [if_neg this] at hres
    exact hres
theorem ik_t {α : Type} {T : List Tok} {w : Bool} {n : Nat} {k : Int} {A B res : PR α} (h : isK T w n k = true) (hres : stW w n (if kindI T n = k then A else B) = res) : stW w n A = res := by
  obtain ⟨h1, h2⟩ := isK_w h
  subst h1
  rw [if_pos h2] at hres
  exact hres
theorem ik_f {α : Type} {T : List Tok} {w : Bool} {n : Nat} {k : Int} {A B res : PR α} (h : isK T w n k = false) (hres : stW w n (if kindI T n = k then A else B) = res) : stW w n B = res := by
  cases w with
  | true => exact hres
  | false =>
    have : ¬ kindI T n = k := by simpa [isK] using h
    rw [if_neg this] at hres
    exact hres
def jdH (b : Nat) (T : List Tok) (n : Nat) (w : Bool) : Hp := upd emp b (some (.rows 3 [[.isl 4 (T.map Tok.row), .int .i64 (n : Nat), .bool w]]))
theorem jdH_at (b : Nat) (T : List Tok) (n : Nat) (w : Bool) : jdH b T n w b = some (.rows 3 [[.isl 4 (T.map Tok.row), .int .i64 (n : Nat), .bool w]]) := upd_same _ _ _
theorem jdH_sub {b : Nat} {T : List Tok} {n : Nat} {w : Bool} {H : Hp} (h : H b = some (.rows 3 [[.isl 4 (T.map Tok.row), .int .i64 (n : Nat), .bool w]])) : hsub (jdH b T n w) H := fun x o hx => by
  by_cases c : x = b
  · subst c; rw [jdH_at] at hx; rw [h]; exact hx
  · rw [jdH, upd_ne _ _ c] at hx; cases hx
def JCon {α : Type} (g : FuncId) (args : List AV) (b : Nat) (T : List Tok) (n : Nat) (w : Bool) (f : α → AV) (r : PR α) : Prop :=
  Con env g (.ptr 3 b 0 0 :: args) (jdH b T n w) (fun ae H' => ∃ x n' w', ae = .ret (f x) ∧ H' = jdH b T n' w' ∧ stW w' n' (PR.ok x n') = r ∧ n ≤ n' ∧ n' ≤ T.length)
def JOne (g : FuncId) (args : List AV) (b : Nat) (T : List Tok) (n : Nat) (w : Bool) (v : AV) (n' : Nat) (w' : Bool) : Prop :=
  Con env g (.ptr 3 b 0 0 :: args) (jdH b T n w) (fun ae H' => ae = .ret v ∧ H' = jdH b T n' w')
theorem jgives {α : Type} {b : Nat} {T : List Tok} {n0 n : Nat} {w : Bool} {f : α → AV} {r : PR α} {v : AV} {H : Hp} {a : α} (hb : H b = some (.rows 3 [[.isl 4 (T.map Tok.row), .int .i64 (n : Nat), .bool w]])) (hr : stW w n (PR.ok a n) = r) (hs : Al.Sub v (f a)) (h1 : n0 ≤ n) (h2 : n ≤ T.length) :
    Gives (fun ae H' => ∃ x n' w', ae = .ret (f x) ∧ H' = jdH b T n' w' ∧ stW w' n' (PR.ok x n') = r ∧ n0 ≤ n' ∧ n' ≤ T.length) v H :=
  ⟨f a, jdH b T n w, (Turn.sub hs).trans (Turn.drop (jdH_sub hb)), a, n, w, rfl, rfl, hr, h1, h2⟩
theorem jgivesL {α : Type} {b : Nat} {T : List Tok} {n0 n : Nat} {w : Bool} {f : α → AV} {r : PR α} {v : AV} {H : Hp} {a : α} {sz : Nat} {rows : List (List AV)} (ho : OwnL sz v rows H) (hz : sz ≠ 3) (hb : H b = some (.rows 3 [[.isl 4 (T.map Tok.row), .int .i64 (n : Nat), .bool w]])) (hr : stW w n (PR.ok a n) = r) (hs : Al.Sub (.isl sz rows) (f a)) (h1 : n0 ≤ n) (h2 : n ≤ T.length) :
    Gives (fun ae H' => ∃ x n' w', ae = .ret (f x) ∧ H' = jdH b T n' w' ∧ stW w' n' (PR.ok x n') = r ∧ n0 ≤ n' ∧ n' ≤ T.length) v H := by
  rcases ho with ⟨rfl, rfl⟩ | ⟨c, rfl, hc⟩
  · exact jgives hb hr (fun S w x h => hs _ _ _ (Sub.nsl sz _ _ _ h)) h1 h2
  · have hne : b ≠ c := fun e => by subst e; rw [hb] at hc; cases hc; exact hz rfl
    refine Gives.turn (Turn.freeze hc (FSub.osl c sz rows)) (jgives (n := n) ?_ hr hs h1 h2)
    rw [upd_ne _ _ hne]; exact hb
theorem jogives {b : Nat} {T : List Tok} {n' : Nat} {w' : Bool} {v v' : AV} {H : Hp} (hb : H b = some (.rows 3 [[.isl 4 (T.map Tok.row), .int .i64 (n' : Nat), .bool w']])) (hs : v = v') : Gives (fun ae H' => ae = .ret v' ∧ H' = jdH b T n' w') v H := by
  subst hs
  exact ⟨v, _, Turn.drop (jdH_sub hb), rfl, rfl⟩
theorem jd_join (b : Nat) (T : List Tok) (n n' : Nat) (w w' : Bool) (H : Hp) : (hjoin (jdH b T n' w') (jdH b T n w) H) b = some (.rows 3 [[.isl 4 (T.map Tok.row), .int .i64 (n' : Nat), .bool w']]) ∧ ∀ x o, x ≠ b → H x = some o → hjoin (jdH b T n' w') (jdH b T n w) H x = some o := by
  refine ⟨by simp only [hjoin, jdH_at], fun x o hx h => ?_⟩
  simp only [hjoin, jdH, upd_ne _ _ hx, emp, h, Option.isSome_none, Bool.false_eq_true, if_false]
theorem awpC_jo {F : Nat → Prop} {ds : List (Option Nat)} {Q : APost} {d : Option Nat} {rest : List Oper} {fr : Fr} {H : Hp} {g : FuncId} {args : List AV} {b : Nat} {T : List Tok} {n n' : Nat} {w w' : Bool} {v : AV}
    (hc : JOne g args b T n w v n' w') (hb : H b = some (.rows 3 [[.isl 4 (T.map Tok.row), .int .i64 (n : Nat), .bool w]])) (hF : F b)
    (hok : ∀ H2, H2 b = some (.rows 3 [[.isl 4 (T.map Tok.row), .int .i64 (n' : Nat), .bool w']]) → (∀ x o, x ≠ b → H x = some o → H2 x = some o) → awpL env F ds Q rest (putF fr d v) H2) : awpC env F ds Q d rest fr H g (.ptr 3 b 0 0 :: args) := by
  refine awpC_con hc (SubL.refl _) (jdH_sub hb) (fun x hx => ?_) fun ae H' hr _ => ?_
  · by_cases c : x = b
    · subst c; exact hF
    · rw [jdH, upd_ne _ _ c] at hx; exact absurd rfl hx
  · obtain ⟨rfl, rfl⟩ := hr
    exact hok _ (jd_join b T n n' w w' H).1 (jd_join b T n n' w w' H).2
theorem awpC_jd {α : Type} {F : Nat → Prop} {ds : List (Option Nat)} {Q : APost} {d : Option Nat} {rest : List Oper} {fr : Fr} {H : Hp} {g : FuncId} {args : List AV} {b : Nat} {T : List Tok} {n : Nat} {w : Bool} {f : α → AV} {r : PR α}
    (hc : JCon g args b T n w f r) (hb : H b = some (.rows 3 [[.isl 4 (T.map Tok.row), .int .i64 (n : Nat), .bool w]])) (hF : F b)
    (hok : ∀ a n' w' H2, stW w' n' (PR.ok a n') = r → n ≤ n' → n' ≤ T.length → H2 b = some (.rows 3 [[.isl 4 (T.map Tok.row), .int .i64 (n' : Nat), .bool w']]) → (∀ x o, x ≠ b → H x = some o → H2 x = some o) → awpL env F ds Q rest (putF fr d (f a)) H2) : awpC env F ds Q d rest fr H g (.ptr 3 b 0 0 :: args) := by
  refine awpC_con hc (SubL.refl _) (jdH_sub hb) (fun x hx => ?_) fun ae H' hr _ => ?_
  · by_cases c : x = b
    · subst c; exact hF
    · rw [jdH, upd_ne _ _ c] at hx; exact absurd rfl hx
  · obtain ⟨x, n', w', rfl, rfl, h1, h2, h3⟩ := hr
    exact hok x n' w' _ h1 h2 h3 (jd_join b T n n' w w' H).1 (jd_join b T n n' w w' H).2
theorem here_con (r0 : Nat) (T : List Tok) (n : Nat) (w : Bool) (hn : n ≤ T.length) : JOne 66 [] r0 T n w (.str (peekI T n)) n w := by
  unfold JOne
  have hr0 := jdH_at r0 T n w
  by_cases hlt : n < T.length
  · have hg := List.getElem?_eq_getElem hlt
    generalize T[n] = t at hg
    have hp := peek_get hg
    have hgt := getT hg
    have hd : decide ((n : Int) < (T.length : Int)) = true := decide_eq_true (by omega)
    rw [hp]
    refine con_of 52 [.tmp 2] Tryd.func66 rfl rfl rfl rfl ?_
    refine awp_seq_k fun K hK => ?_
    refine awp_region rfl ?_
    simp only [List.length_map, hgt, hd, RR, seval]
    refine hK _ _ ?_; clear hK K
    refine awp_seq ?_
    refine awp_seq_k fun K hK => ?_
    refine awp_region_draw2 (fun x => x ≠ r0) [(0, 3), (1, 3), (2, 3), (3, 1), (4, 3), (5, 3), (6, 3), (7, 1), (8, 3), (9, 3), (10, 3), (11, 3), (12, 3), (13, 3), (14, 1), (15, 3), (16, 3), (17, 3), (18, 1), (19, 3), (20, 3), (21, 1), (22, 3), (23, 3), (24, 3), (25, 3), (26, 3), (27, 1), (28, 3), (29, 3), (30, 3), (31, 1), (32, 3), (33, 3), (34, 1), (35, 3), (36, 3), (37, 3)] [] draws (by kernel_rfl) rfl rfl ?_
    simp only [emitF, markOf, EM, hr0, List.length_map, hgt, hd, RR, seval]
    repeat' ((first | refine awpG_splitN (fun h => ?_) (fun h => ?_) | refine awpG_split (fun h => ?_) (fun h => ?_)) <;> simp only [h, hr0, List.length_map, hgt, hd, RR, seval])
    all_goals
      refine hK _ _ ?_; clear hK K
      refine awp_if _ rfl (fun hc1 => ?_) (fun hc1 => ?_)
      · try (cases hc1; done)
        all_goals
          refine awp_seq_k fun K hK => ?_
          refine awp_region_draw2 (fun x => x ≠ r0) [(0, 3), (1, 3), (2, 3), (3, 1), (4, 3), (5, 3), (6, 3), (7, 1), (8, 3), (9, 3), (10, 1), (11, 3)] [] draws (by kernel_rfl) rfl rfl ?_
          simp only [emitF, markOf, EM, hr0, List.length_map, hgt, hd, RR, seval]
          refine hK _ _ ?_; clear hK K
          refine awp_ret ?_; simp only [bodyQ, aresult, ares, List.length_map, hgt, hd, RR, seval]
          refine jogives (by first | exact hr0 | (simp only [hr0, List.length_map, hgt, hd, upd_app, RR, seval]; done)) ?_
          simp_all
      · try (cases hc1; done)
        all_goals
          refine awp_skip ?_; try simp only [RR]
          refine awp_seq_k fun K hK => ?_
          refine awp_region rfl ?_
          simp only [List.length_map, hgt, hd, RR, seval]
          refine hK _ _ ?_; clear hK K
          refine awp_ret ?_; simp only [bodyQ, aresult, ares, List.length_map, hgt, hd, RR, seval]
          refine jogives (by first | exact hr0 | (simp only [hr0, List.length_map, hgt, hd, upd_app, RR, seval]; done)) ?_
          simp_all
  · have hd : decide ((n : Int) < (T.length : Int)) = false := decide_eq_false (by omega)
    rw [peek_none hlt]
    refine con_of 52 [.tmp 2] Tryd.func66 rfl rfl rfl rfl ?_
    refine awp_seq_k fun K hK => ?_
    refine awp_region rfl ?_
    simp only [List.length_map, hd, RR, seval]
    refine hK _ _ ?_; clear hK K
    refine awp_seq ?_
    refine awp_seq_k fun K hK => ?_
    refine awp_region_draw2 (fun x => x ≠ r0) [(0, 3), (1, 3), (2, 3), (3, 1), (4, 3), (5, 3), (6, 3), (7, 1), (8, 3), (9, 3), (10, 3), (11, 3), (12, 3), (13, 3), (14, 1), (15, 3), (16, 3), (17, 3), (18, 1), (19, 3), (20, 3), (21, 1), (22, 3), (23, 3), (24, 3), (25, 3), (26, 3), (27, 1), (28, 3), (29, 3), (30, 3), (31, 1), (32, 3), (33, 3), (34, 1), (35, 3), (36, 3), (37, 3)] [] draws (by kernel_rfl) rfl rfl ?_
    simp only [emitF, markOf, EM, hr0, List.length_map, hd, RR, seval]
    repeat' ((first | refine awpG_splitN (fun h => ?_) (fun h => ?_) | refine awpG_split (fun h => ?_) (fun h => ?_)) <;> simp only [h, hr0, List.length_map, hd, RR, seval])
    all_goals
      refine hK _ _ ?_; clear hK K
      refine awp_if false rfl (fun hc => by cases hc) (fun _ => ?_)
      refine awp_skip ?_; try simp only [RR]
      refine awp_seq_k fun K hK => ?_
      refine awp_region rfl ?_
      simp only [List.length_map, hd, RR, seval]
      refine hK _ _ ?_; clear hK K
      refine awp_ret ?_; simp only [bodyQ, aresult, ares, List.length_map, hd, RR, seval]
      refine jogives (by first | exact hr0 | (simp only [hr0, List.length_map, hd, upd_app, RR, seval]; done)) ?_
      rfl
theorem is_con (r0 : Nat) {T : List Tok} (hT : Sz T) (n : Nat) (w : Bool) (hn : n ≤ T.length) (s : Str) (hs : s ≠ []) : JOne 53 [.str s] r0 T n w (.bool (isB T w n s)) (if isB T w n s = true then n + 1 else n) w := by
  have hh := here_con r0 T n w hn
  have hlen := hT.len
  unfold JOne
  have hr0 := jdH_at r0 T n w
  have hw1 := i64_inc (n := n) (by omega)
  by_cases hi : isB T w n s = true
  · obtain ⟨rfl, hp⟩ := isB_w hi
    rw [if_pos hi, hi]
    rw [hp] at hh
    refine con_of 23 [.tmp 4] Tryd.func53 rfl rfl rfl rfl ?_
    refine awp_seq_k fun K hK => ?_
    refine awp_region rfl ?_
    simp only [hw1, RR, seval]
    refine hK _ _ ?_; clear hK K
    refine awp_seq ?_
    refine awp_seq_k fun K hK => ?_
    refine awp_region rfl ?_
    simp only [hr0, hw1, RR, seval]
    refine awpC_jo (hh) (by first | exact hr0 | (simp only [hr0, hw1, upd_app, RR, seval]; done)) trivial fun M1 hn12x hk12x => ?_
    have hr0 := hn12x; clear hn12x hk12x
    simp only [hr0, hw1, RR, seval]
    refine hK _ _ ?_; clear hK K
    refine awp_if true rfl (fun _ => ?_) (fun hc => by cases hc)
    refine awp_seq_k fun K hK => ?_
    refine awp_region rfl ?_
    simp only [hr0, hw1, RR, seval]
    refine hK _ _ ?_; clear hK K
    refine awp_seq_k fun K hK => ?_
    refine awp_region rfl ?_
    simp only [hw1, RR, seval]
    refine hK _ _ ?_; clear hK K
    refine awp_ret ?_; simp only [bodyQ, aresult, ares, hw1, RR, seval]
    refine jogives (by first | exact hr0 | (simp only [hr0, hw1, upd_app, RR, seval]; done)) ?_
    rfl
  · have hi := Bool.eq_false_iff.2 hi
    rw [if_neg (Bool.eq_false_iff.1 hi), hi]
    cases w with
    | true =>
      refine con_of 23 [.tmp 4] Tryd.func53 rfl rfl rfl rfl ?_
      refine awp_seq_k fun K hK => ?_
      refine awp_region rfl ?_
      simp only [hw1, RR, seval]
      refine hK _ _ ?_; clear hK K
      refine awp_seq ?_
      refine awp_seq_k fun K hK => ?_
      refine awp_region rfl ?_
      simp only [hr0, hw1, RR, seval]
      refine hK _ _ ?_; clear hK K
      refine awp_if false rfl (fun hc => by cases hc) (fun _ => ?_)
      refine awp_skip ?_; try simp only [RR]
      refine awp_seq_k fun K hK => ?_
      refine awp_region rfl ?_
      simp only [hw1, RR, seval]
      refine hK _ _ ?_; clear hK K
      refine awp_ret ?_; simp only [bodyQ, aresult, ares, hw1, RR, seval]
      refine jogives (by first | exact hr0 | (simp only [hr0, hw1, upd_app, RR, seval]; done)) ?_
      rfl
    | false =>
      have hp : decide (peekI T n = s) = false := by simpa [isB] using hi
      refine con_of 23 [.tmp 4] Tryd.func53 rfl rfl rfl rfl ?_
      refine awp_seq_k fun K hK => ?_
      refine awp_region rfl ?_
      simp only [hw1, hp, RR, seval]
      refine hK _ _ ?_; clear hK K
      refine awp_seq ?_
      refine awp_seq_k fun K hK => ?_
      refine awp_region rfl ?_
      simp only [hr0, hw1, hp, RR, seval]
      refine awpC_jo (hh) (by first | exact hr0 | (simp only [hr0, hw1, hp, upd_app, RR, seval]; done)) trivial fun M1 hn12x hk12x => ?_
      have hr0 := hn12x; clear hn12x hk12x
      simp only [hr0, hw1, hp, RR, seval]
      refine hK _ _ ?_; clear hK K
      refine awp_if false rfl (fun hc => by cases hc) (fun _ => ?_)
      refine awp_skip ?_; try simp only [RR]
      refine awp_seq_k fun K hK => ?_
      refine awp_region rfl ?_
      simp only [hw1, hp, RR, seval]
      refine hK _ _ ?_; clear hK K
      refine awp_ret ?_; simp only [bodyQ, aresult, ares, hw1, hp, RR, seval]
      refine jogives (by first | exact hr0 | (simp only [hr0, hw1, hp, upd_app, RR, seval]; done)) ?_
      rfl
theorem jmust_con (r0 : Nat) {T : List Tok} (hT : Sz T) (n : Nat) (w : Bool) (hn : n ≤ T.length) (s : Str) (hs : s ≠ []) : JCon 55 [.str s] r0 T n w (fun _ => .tup []) (stW w n (mustI T s n)) := by
  have hh := is_con r0 hT n w hn s hs
  unfold JCon
  generalize hres : stW w n (mustI T s n) = res
  unfold mustI at hres
  have hr0 := jdH_at r0 T n w
  refine con_of 11 [] Tryd.func55 rfl rfl rfl rfl ?_
  refine awp_seq_k fun K hK => ?_
  refine awp_region rfl ?_
  simp only [hr0, RR, seval]
  refine awpC_jo (hh) (by first | exact hr0 | (simp only [hr0, upd_app, RR, seval]; done)) trivial fun M1 hn6x hk6x => ?_
  have hr0 := hn6x; clear hn6x hk6x
  simp only [hr0, RR, seval]
  refine hK _ _ ?_; clear hK K
  refine awp_if _ rfl (fun hc0 => ?_) (fun hc0 => ?_)
  · simp only [Bool.not_eq_true', Bool.not_eq_false', Bool.not_true, Bool.not_false] at hc0
    have hres := is_f hc0 hres
    rw [if_neg (Bool.eq_false_iff.1 hc0)] at hr0
    have hres : stW true n (PR.ok () n) = res := by
      rw [← hres]; cases w <;> rfl
    refine awp_region rfl ?_
    simp only [hr0, RR, seval]
    try simp only [bodyQ, aresult, ares, hr0, RR, seval]
    first | exact jgives (a := ()) (n := n + 1) (by first | exact hr0 | (simp only [hr0, upd_app, RR, seval]; done)) hres (Sub.refl _) (by omega) (by omega) | exact jgives (a := ()) (n := n) (by first | exact hr0 | (simp only [hr0, upd_app, RR, seval]; done)) hres (Sub.refl _) (Nat.le_refl _) hn
  · simp only [Bool.not_eq_true', Bool.not_eq_false', Bool.not_true, Bool.not_false] at hc0
    have hres := is_t hc0 hres
    rw [if_pos hc0] at hr0
    have hlt0 := isB_lt hc0 (by first | assumption | decide)
    have hltn := isB_lt hc0 hs
    refine awp_skip ?_; try simp only [RR]
    try simp only [bodyQ, aresult, ares, hr0, RR, seval]
    first | exact jgives (a := ()) (n := n + 1) (by first | exact hr0 | (simp only [hr0, upd_app, RR, seval]; done)) hres (Sub.refl _) (by omega) (by omega) | exact jgives (a := ()) (n := n) (by first | exact hr0 | (simp only [hr0, upd_app, RR, seval]; done)) hres (Sub.refl _) (Nat.le_refl _) hn
end Go.Proofs.YtlpeikljipknoaaDoor

namespace Go.Proofs.YtlpeikljipknoaaDoor
open Go.Al
def tokV (t : Tok) : AV := .agg [.int .i64 t.kind, .str t.text, .int .u32 t.num, .int .i64 t.pos]
theorem jkind_con (r0 : Nat) (T : List Tok) (n : Nat) (w : Bool) (hn : n ≤ T.length) (k : Int) (hk : k ≠ 0) : JOne 87 [.int .i64 k] r0 T n w (.bool (isK T w n k)) n w := by
  unfold JOne
  have hr0 := jdH_at r0 T n w
  cases w with
  | true =>
    have e : isK T true n k = false := rfl
    rw [e]
    refine con_of 37 [.tmp 4] Tryd.func87 rfl rfl rfl rfl ?_
    refine awp_seq_k fun K hK => ?_
    refine awp_region rfl ?_
    simp only [List.length_map, RR, seval]
    refine hK _ _ ?_; clear hK K
    refine awp_seq_k fun K hK => ?_
    refine awp_region_draw2 (fun x => x ≠ r0) [(0, 3), (1, 3), (2, 3), (3, 1), (4, 3), (5, 3), (6, 3), (7, 3), (8, 3), (9, 1), (10, 3), (11, 3), (12, 3), (13, 1), (14, 3), (15, 3), (16, 3), (17, 3), (18, 3), (19, 3), (20, 3), (21, 1), (22, 3), (23, 3), (24, 3), (25, 1), (26, 3), (27, 3), (28, 1), (29, 3), (30, 3), (31, 3), (32, 3)] [] draws (by kernel_rfl) rfl rfl ?_
    simp only [emitF, markOf, EM, hr0, List.length_map, RR, seval]
    refine hK _ _ ?_; clear hK K
    refine awp_ret ?_; simp only [bodyQ, aresult, ares, List.length_map, RR, seval]
    refine jogives (by first | exact hr0 | (simp only [hr0, List.length_map, upd_app, RR, seval]; done)) ?_
    rfl
  | false =>
    by_cases hlt : n < T.length
    · have hg := List.getElem?_eq_getElem hlt
      generalize T[n] = t at hg
      have hgt := getT hg
      have hd : decide ((n : Int) < (T.length : Int)) = true := decide_eq_true (by omega)
      have e : isK T false n k = decide (t.kind = k) := by simp [isK, kindI, hg]
      rw [e]
      refine con_of 37 [.tmp 4] Tryd.func87 rfl rfl rfl rfl ?_
      refine awp_seq_k fun K hK => ?_
      refine awp_region rfl ?_
      simp only [List.length_map, hgt, hd, RR, seval]
      refine hK _ _ ?_; clear hK K
      refine awp_seq_k fun K hK => ?_
      refine awp_region_draw2 (fun x => x ≠ r0) [(0, 3), (1, 3), (2, 3), (3, 1), (4, 3), (5, 3), (6, 3), (7, 3), (8, 3), (9, 1), (10, 3), (11, 3), (12, 3), (13, 1), (14, 3), (15, 3), (16, 3), (17, 3), (18, 3), (19, 3), (20, 3), (21, 1), (22, 3), (23, 3), (24, 3), (25, 1), (26, 3), (27, 3), (28, 1), (29, 3), (30, 3), (31, 3), (32, 3)] [] draws (by kernel_rfl) rfl rfl ?_
      simp only [emitF, markOf, EM, hr0, List.length_map, hgt, hd, RR, seval]
      refine hK _ _ ?_; clear hK K
      refine awp_ret ?_; simp only [bodyQ, aresult, ares, List.length_map, hgt, hd, RR, seval]
      refine jogives (by first | exact hr0 | (simp only [hr0, List.length_map, hgt, hd, upd_app, RR, seval]; done)) ?_
      rfl
    · have hd : decide ((n : Int) < (T.length : Int)) = false := decide_eq_false (by omega)
      have e : isK T false n k = false := by
        have : kindI T n = 0 := by rw [kindI, List.getElem?_eq_none (by omega)]
        simp [isK, this, Ne.symm hk]
      rw [e]
      refine con_of 37 [.tmp 4] Tryd.func87 rfl rfl rfl rfl ?_
      refine awp_seq_k fun K hK => ?_
      refine awp_region rfl ?_
      simp only [List.length_map, hd, RR, seval]
      refine hK _ _ ?_; clear hK K
      refine awp_seq_k fun K hK => ?_
      refine awp_region_draw2 (fun x => x ≠ r0) [(0, 3), (1, 3), (2, 3), (3, 1), (4, 3), (5, 3), (6, 3), (7, 3), (8, 3), (9, 1), (10, 3), (11, 3), (12, 3), (13, 1), (14, 3), (15, 3), (16, 3), (17, 3), (18, 3), (19, 3), (20, 3), (21, 1), (22, 3), (23, 3), (24, 3), (25, 1), (26, 3), (27, 3), (28, 1), (29, 3), (30, 3), (31, 3), (32, 3)] [] draws (by kernel_rfl) rfl rfl ?_
      simp only [emitF, markOf, EM, hr0, List.length_map, hd, RR, seval]
      refine hK _ _ ?_; clear hK K
      refine awp_ret ?_; simp only [bodyQ, aresult, ares, List.length_map, hd, RR, seval]
      refine jogives (by first | exact hr0 | (simp only [hr0, List.length_map, hd, upd_app, RR, seval]; done)) ?_
      rfl
theorem token_con (r0 : Nat) {T : List Tok} (hT : Sz T) (n : Nat) (w : Bool) (hn : n ≤ T.length) (k : Int) (hk : k ≠ 0) : JCon 56 [.int .i64 k] r0 T n w (fun t : Tok => .agg [.int .i64 t.kind, .str t.text, .int .u32 t.num, .int .i64 t.pos]) (stW w n (takeI T k n)) := by
  have hh := jkind_con r0 T n w hn k hk
  have hlen := hT.len
  unfold JCon
  have hr0 := jdH_at r0 T n w
  cases hik : isK T w n k with
  | false =>
    rw [hik] at hh
    have hres : stW true n (PR.ok tok0 n) = stW w n (takeI T k n) := by
      cases w with
      | true => rfl
      | false =>
        have hne : ¬ kindI T n = k := by simpa [isK] using hik
        show PR.bad n = takeI T k n
        rw [takeI]
        cases hg : T[n]? with
        | none => rfl
        | some t =>
          rw [kindI, hg] at hne
          exact (if_neg hne).symm
    refine con_of 31 [.cell 4 47] Tryd.func56 rfl rfl rfl rfl ?_
    refine awp_seq_k fun K hK => ?_
    refine awp_region rfl ?_
    simp only [hr0, List.length_map, RR, seval]
    refine awpN_intro fun b4 hn4 => ?_
    have nb4_r0 : b4 ≠ r0 := fun e => by rw [e] at hn4; simp only [hr0, RR, seval, reduceCtorEq] at hn4
    have nr0_b4 : r0 ≠ b4 := fun e => nb4_r0 e.symm
    simp only [hr0, nb4_r0, nr0_b4, List.length_map, RR, seval]
    refine hK _ _ ?_; clear hK K
    refine awp_seq ?_
    refine awp_seq_k fun K hK => ?_
    refine awp_region rfl ?_
    simp only [hr0, nb4_r0, nr0_b4, List.length_map, RR, seval]
    refine awpC_jo (hh) (by first | exact hr0 | (simp only [hr0, nb4_r0, nr0_b4, List.length_map, upd_app, RR, seval]; done)) trivial fun M1 hn7x hk7x => ?_
    have gb4 := hk7x b4 _ (by first | exact nb4_r0 | exact blk_ne hb4 hr0 (by decide) | (intro e; subst e; simp_all)) (by first | exact upd_same _ _ _ | (simp only [hr0, nb4_r0, nr0_b4, List.length_map, upd_app, RR, seval]; rfl))
    have hb4 := gb4; clear gb4
    have hr0 := hn7x; clear hn7x hk7x
    simp only [hr0, hb4, nb4_r0, nr0_b4, List.length_map, RR, seval]
    refine hK _ _ ?_; clear hK K
    refine awp_if true rfl (fun _ => ?_) (fun hc => by cases hc)
    refine awp_seq_k fun K hK => ?_
    refine awp_region rfl ?_
    simp only [hr0, hb4, nb4_r0, nr0_b4, List.length_map, RR, seval]
    refine hK _ _ ?_; clear hK K
    refine awp_seq_k fun K hK => ?_
    refine awp_region rfl ?_
    simp only [hr0, hb4, nb4_r0, nr0_b4, List.length_map, RR, seval]
    refine hK _ _ ?_; clear hK K
    refine awp_ret ?_; simp only [bodyQ, aresult, ares, hr0, hb4, nb4_r0, nr0_b4, List.length_map, RR, seval]
    refine jgives (a := tok0) (n := n) (by first | exact hr0 | (simp only [hr0, hb4, nb4_r0, nr0_b4, List.length_map, upd_app, RR, seval]; done)) hres ?_ (Nat.le_refl _) hn
    exact Sub.refl _
  | true =>
    obtain ⟨rfl, hke⟩ := isK_w hik
    rw [hik] at hh
    have hlt := kind_lt hke hk
    have hg := List.getElem?_eq_getElem hlt
    generalize T[n] = t at hg
    have hgt := getT hg
    have hres : stW false (n + 1) (PR.ok t (n + 1)) = stW false n (takeI T k n) := by
      show PR.ok t (n + 1) = takeI T k n
      rw [takeI, hg]
      rw [kindI, hg] at hke
      exact (if_pos hke).symm
    have hw := i64_inc (n := n) (by omega)
    have hw2 : IntKind.wrap .i64 (((n + 1 : Nat) : Int) - 1) = (n : Int) := by rw [IntWalk.i64_in _ (by omega)]; omega
    have hli : (n : Int) < (T.length : Int) := by omega
    refine con_of 31 [.cell 4 47] Tryd.func56 rfl rfl rfl rfl ?_
    refine awp_seq_k fun K hK => ?_
    refine awp_region rfl ?_
    simp only [hr0, List.length_map, hgt, hw, hw2, hli, RR, seval]
    refine awpN_intro fun b4 hn4 => ?_
    have nb4_r0 : b4 ≠ r0 := fun e => by rw [e] at hn4; simp only [hr0, RR, seval, reduceCtorEq] at hn4
    have nr0_b4 : r0 ≠ b4 := fun e => nb4_r0 e.symm
    simp only [hr0, nb4_r0, nr0_b4, List.length_map, hgt, hw, hw2, hli, RR, seval]
    refine hK _ _ ?_; clear hK K
    refine awp_seq ?_
    refine awp_seq_k fun K hK => ?_
    refine awp_region rfl ?_
    simp only [hr0, nb4_r0, nr0_b4, List.length_map, hgt, hw, hw2, hli, RR, seval]
    refine awpC_jo (hh) (by first | exact hr0 | (simp only [hr0, nb4_r0, nr0_b4, List.length_map, hgt, hw, hw2, hli, upd_app, RR, seval]; done)) trivial fun M1 hn7x hk7x => ?_
    have gb4 := hk7x b4 _ (by first | exact nb4_r0 | exact blk_ne hb4 hr0 (by decide) | (intro e; subst e; simp_all)) (by first | exact upd_same _ _ _ | (simp only [hr0, nb4_r0, nr0_b4, List.length_map, hgt, hw, hw2, hli, upd_app, RR, seval]; rfl))
    have hb4 := gb4; clear gb4
    have hr0 := hn7x; clear hn7x hk7x
    simp only [hr0, hb4, nb4_r0, nr0_b4, List.length_map, hgt, hw, hw2, hli, RR, seval]
    refine hK _ _ ?_; clear hK K
    refine awp_if false rfl (fun hc => by cases hc) (fun _ => ?_)
    refine awp_skip ?_; try simp only [RR]
    refine awp_seq_k fun K hK => ?_
    refine awp_region rfl ?_
    simp only [hr0, hb4, nb4_r0, nr0_b4, List.length_map, hgt, hw, hw2, hli, RR, seval]
    refine hK _ _ ?_; clear hK K
    refine awp_seq_k fun K hK => ?_
    refine awp_region_draw2 (fun x => x ≠ b4) [(0, 3), (1, 3), (2, 3), (3, 1), (4, 3), (5, 3), (6, 3), (7, 1), (8, 3), (9, 3), (10, 1)] [(11, 1)] draws (by kernel_rfl) rfl rfl ?_
    simp only [emitF, markOf, EM, hr0, hb4, nb4_r0, nr0_b4, List.length_map, hgt, hw, hw2, hli, RR, seval]
    refine hK _ _ ?_; clear hK K
    refine awp_ret ?_; simp only [bodyQ, aresult, ares, hr0, hb4, nb4_r0, nr0_b4, List.length_map, hgt, hw, hw2, hli, RR, seval]
    refine jgives (a := t) (n := n + 1) (by first | exact hr0 | (simp only [hr0, hb4, nb4_r0, nr0_b4, List.length_map, hgt, hw, hw2, hli, upd_app, RR, seval]; done)) hres ?_ (by omega) (by omega)
    exact Sub.refl _
def JConG {α : Type} (g : FuncId) (args : List AV) (b : Nat) (T : List Tok) (n : Nat) (w : Bool) (f : α → AV) (r : PR α) (G : α → Nat → Prop) : Prop :=
  Con env g (.ptr 3 b 0 0 :: args) (jdH b T n w) (fun ae H' => ∃ x n' w', ae = .ret (f x) ∧ H' = jdH b T n' w' ∧ stW w' n' (PR.ok x n') = r ∧ n ≤ n' ∧ n' ≤ T.length ∧ G x n')
theorem JConG.jcon {α : Type} {g : FuncId} {args : List AV} {b : Nat} {T : List Tok} {n : Nat} {w : Bool} {f : α → AV} {r : PR α} {G : α → Nat → Prop} (h : JConG g args b T n w f r G) : JCon g args b T n w f r :=
  Con.mono h fun _ _ ⟨x, n', w', h1, h2, h3, h4, h5, _⟩ => ⟨x, n', w', h1, h2, h3, h4, h5⟩
theorem awpC_jg {α : Type} {F : Nat → Prop} {ds : List (Option Nat)} {Q : APost} {d : Option Nat} {rest : List Oper} {fr : Fr} {H : Hp} {g : FuncId} {args : List AV} {b : Nat} {T : List Tok} {n : Nat} {w : Bool} {f : α → AV} {r : PR α} {G : α → Nat → Prop}
    (hc : JConG g args b T n w f r G) (hb : H b = some (.rows 3 [[.isl 4 (T.map Tok.row), .int .i64 (n : Nat), .bool w]])) (hF : F b)
    (hok : ∀ a n' w' H2, stW w' n' (PR.ok a n') = r → n ≤ n' → n' ≤ T.length → G a n' → H2 b = some (.rows 3 [[.isl 4 (T.map Tok.row), .int .i64 (n' : Nat), .bool w']]) → (∀ x o, x ≠ b → H x = some o → H2 x = some o) → awpL env F ds Q rest (putF fr d (f a)) H2) : awpC env F ds Q d rest fr H g (.ptr 3 b 0 0 :: args) := by
  refine awpC_con hc (SubL.refl _) (jdH_sub hb) (fun x hx => ?_) fun ae H' hr _ => ?_
  · by_cases c : x = b
    · subst c; exact hF
    · rw [jdH, upd_ne _ _ c] at hx; exact absurd rfl hx
  · obtain ⟨x, n', w', rfl, rfl, h1, h2, h3, h4⟩ := hr
    exact hok x n' w' _ h1 h2 h3 h4 (jd_join b T n n' w w' H).1 (jd_join b T n n' w w' H).2
theorem jgivesG {α : Type} {b : Nat} {T : List Tok} {n0 n : Nat} {w : Bool} {f : α → AV} {r : PR α} {v : AV} {H : Hp} {a : α} {sz : Nat} {rows : List (List AV)} {G : α → Nat → Prop} (ho : OwnL sz v rows H) (hz : sz ≠ 3) (hb : H b = some (.rows 3 [[.isl 4 (T.map Tok.row), .int .i64 (n : Nat), .bool w]])) (hr : stW w n (PR.ok a n) = r) (hs : Al.Sub (.isl sz rows) (f a)) (h1 : n0 ≤ n) (h2 : n ≤ T.length) (hG : G a n) :
    Gives (fun ae H' => ∃ x n' w', ae = .ret (f x) ∧ H' = jdH b T n' w' ∧ stW w' n' (PR.ok x n') = r ∧ n0 ≤ n' ∧ n' ≤ T.length ∧ G x n') v H := by
  rcases ho with ⟨rfl, rfl⟩ | ⟨c, rfl, hc⟩
  · exact ⟨f a, jdH b T n w, (Turn.sub (fun S w x h => hs _ _ _ (Sub.nsl sz _ _ _ h))).trans (Turn.drop (jdH_sub hb)), a, n, w, rfl, rfl, hr, h1, h2, hG⟩
  · have hne : b ≠ c := fun e => by subst e; rw [hb] at hc; cases hc; exact hz rfl
    refine Gives.turn (Turn.freeze hc (FSub.osl c sz rows)) ⟨f a, jdH b T n w, (Turn.sub hs).trans (Turn.drop (jdH_sub ?_)), a, n, w, rfl, rfl, hr, h1, h2, hG⟩
    rw [upd_ne _ _ hne]; exact hb
theorem jnames_conG (r0 : Nat) {T : List Tok} (hT : Sz T) (n : Nat) (w : Bool) (hn : n ≤ T.length) : JConG 54 [] r0 T n w strs (stW w n (namesP T n)) (fun l m => l.length ≤ m + 1) := by
  unfold JConG
  generalize hres : stW w n (namesP T n) = res
  have hlen := hT.len
  unfold namesP at hres
  have hr0 := jdH_at r0 T n w
  refine con_of 17 [.tmp 2] Tryd.func54 rfl rfl rfl rfl ?_
  refine awp_seq_k fun K hK => ?_
  refine awp_region rfl ?_
  simp only [List.length_map, RR, seval]
  refine hK _ _ ?_; clear hK K
  refine awp_seq_k fun K hK => ?_
  refine awp_region rfl ?_
  simp only [hr0, List.length_map, RR, seval]
  refine awpC_jd (token_con r0 hT n w hn 1 (by decide)) (by first | exact hr0 | (simp only [hr0, List.length_map, upd_app, RR, seval]; done)) trivial fun a5 m5 w5 M1 hj5 hle5 hlt5 hn5x hk5x => ?_
  have hres := stW_step hres hj5
  have hr0 := hn5x; clear hn5x hk5x
  simp only [hr0, List.length_map, RR, seval]
  refine awpB_own fun b7 hn7 => ?_
  have nb7_r0 : b7 ≠ r0 := fun e => by rw [e] at hn7; simp only [hr0, RR, seval, reduceCtorEq] at hn7
  have nr0_b7 : r0 ≠ b7 := fun e => nb7_r0 e.symm
  simp only [hr0, nb7_r0, nr0_b7, List.length_map, RR, seval]
  refine hK _ _ ?_; clear hK K
  refine awp_seq ?_
  refine awp_name fun F2 M2 hfr hH => ?_
  have g0 := hfr 0
  have g2 := hfr 2
  have g3 := hfr 3
  have gr0 := hH r0
  have gb7 := hH b7
  try simp only [hr0, nb7_r0, nr0_b7, List.length_map, RR, seval] at g0 g2 g3 gr0 gb7
  have f0 := g0; clear g0
  have f2 := g2; clear g2
  have f3 := g3; clear g3
  have hr0 := gr0; clear gr0
  have hb7 := gb7; clear gb7
  clear hfr hH
  have hown : OwnL 1 (F2 3) ([a5.text].map strRow) M2 := .inr ⟨b7, f3, hb7⟩
  refine awp_block ?_
  refine awp_while [0, 2] (T.length - m5) (fun k fr M => (∃ (m : Nat) (w : Bool) (acc : List Str), k = T.length - m ∧ n ≤ m ∧ m ≤ T.length ∧ acc.length ≤ m + 1 ∧ stW w m (nmP T acc m) = res ∧ OwnL 1 (fr 3) (acc.map strRow) M ∧ M r0 = some (.rows 3 [[.isl 4 (T.map Tok.row), .int .i64 (m : Nat), .bool w]]))) ⟨m5, w5, [a5.text], rfl, hle5, hlt5, by simp, hres, hown, hr0⟩ ?_
  rintro k F3 M3 ⟨m, w', acc, rfl, hnm, hm, hal, hres, hown, hr0⟩ agx K0 hK0
  have f0 := (agx 0 rfl).trans f0
  have f2 := (agx 2 rfl).trans f2
  have ag0 := agree.refl [0, 2] F3
  clear agx
  obtain ⟨v3, f3⟩ : ∃ v, F3 3 = v := ⟨_, rfl⟩
  rw [f3] at hown
  rw [nmP_eq] at hres
  refine awp_seq ?_
  refine awp_seq_k fun K hK => ?_
  refine awp_region rfl ?_
  simp only [f0, hr0, nb7_r0, nr0_b7, List.length_map, RR, seval]
  refine awpC_jo (is_con r0 hT m w' hm [44] (by decide)) (by first | exact hr0 | (simp only [f0, f2, f3, hr0, nb7_r0, nr0_b7, List.length_map, upd_app, RR, seval]; done)) trivial fun M4 hn9x hk9x => ?_
  have hown := OwnL.kp hown hr0 (by decide) hk9x
  have hr0 := hn9x; clear hn9x hk9x
  simp only [f0, hr0, nb7_r0, nr0_b7, List.length_map, RR, seval]
  refine hK _ _ ?_; clear hK K
  refine awp_if _ rfl (fun hc => ?_) (fun hc => ?_)
  · have hw0 := hc; clear hc
    have hres := is_t hw0 hres
    rw [if_pos hw0] at hr0
    have hlt := isB_lt hw0 (by decide)
    refine awp_skip ?_; try simp only [RR]
    refine awp_block ?_
    refine awp_region rfl ?_
    simp only [f0, f3, hr0, nb7_r0, nr0_b7, List.length_map, RR, seval]
    refine awpC_jd (token_con r0 hT (m + 1) w' (by omega) 1 (by decide)) (by first | exact hr0 | (simp only [f0, f2, f3, hr0, nb7_r0, nr0_b7, List.length_map, upd_app, RR, seval]; done)) trivial fun a12 m12 w12 M5 hj12 hle12 hlt12 hn12x hk12x => ?_
    have hres := stW_step hres hj12
    have hown := OwnL.kp hown hr0 (by decide) hk12x
    have hr0 := hn12x; clear hn12x hk12x
    simp only [f0, f3, hr0, nb7_r0, nr0_b7, List.length_map, RR, seval]
    refine awpB_sealed ?_
    simp only [f0, f3, hr0, nb7_r0, nr0_b7, List.length_map, RR, seval]
    refine awpA_own hown (by simp only [List.length_map, List.length_cons, List.length_nil]; omega) (fun _ => trivial) fun v3 M6 hown' hk' => ?_
    simp only [f0, f3, hr0, nb7_r0, nr0_b7, List.length_map, RR, seval]
    have gr0 := hk' r0 _ hr0 (by first | exact (hown).nb' hr0 (by decide) | exact ho0 _ _ | assumption | (intro e; simp_all))
    have hr0 := gr0; clear gr0
    try rw [IntWalk.i64_in _ (by omega)]
    refine hK0 (T.length - m12) _ _ (by omega) ⟨m12, w12, acc ++ [a12.text], rfl, by omega, hlt12, by simp only [List.length_append, List.length_cons, List.length_nil]; omega, hres, by rw [List.map_append]; exact hown', by first | exact hr0 | (simp only [f0, f2, f3, hr0, nb7_r0, nr0_b7, List.length_map, upd_app, RR, seval]; done)⟩ (by repeat (first | exact ag0 | refine agree.upd rfl ?_))
  · have hw0 := hc; clear hc
    have hres := is_f hw0 hres
    rw [if_neg (Bool.eq_false_iff.1 hw0)] at hr0
    refine awp_exit ?_; simp only [RR, seval]
    refine awp_seq_k fun K hK => ?_
    refine awp_region rfl ?_
    simp only [f3, List.length_map, RR, seval]
    refine hK _ _ ?_; clear hK K
    refine awp_ret ?_; simp only [bodyQ, aresult, ares, f2, List.length_map, RR, seval]
    refine jgivesG (a := acc) hown (by decide) (by first | exact hr0 | (simp only [f0, f2, f3, hr0, nb7_r0, nr0_b7, List.length_map, upd_app, RR, seval]; done)) hres ?_ hnm hm hal
    exact Sub.refl _
theorem jnames_con (r0 : Nat) {T : List Tok} (hT : Sz T) (n : Nat) (w : Bool) (hn : n ≤ T.length) : JCon 54 [] r0 T n w strs (stW w n (namesP T n)) := (jnames_conG r0 hT n w hn).jcon
end Go.Proofs.YtlpeikljipknoaaDoor

namespace Go.Proofs.YtlpeikljipknoaaDoor
open Go.Al
set_option maxHeartbeats 4000000 in
theorem strength_con (s : Str) : PCon env 22 [.str s] (.int .i64 ((sgI s).2.2 : Nat)) := by
  generalize hr : sgI s = r
  unfold sgI sgL at hr
  simp only [selI] at hr
  refine con_of 27 [.tmp 2] Tryd.func22 rfl rfl rfl rfl ?_
  refine awp_seq_k fun K hK => ?_
  refine awp_region rfl ?_
  simp only [RR, seval]
  refine hK _ _ ?_; clear hK K
  refine awp_seq ?_
  refine awp_seq_k fun K hK => ?_
  refine awp_region rfl ?_
  simp only [RR, seval]
  refine hK _ _ ?_; clear hK K
  refine awp_block ?_
  refine awp_seq_k fun K hK => ?_
  refine awp_region rfl ?_
  simp only [RR, seval]
  refine hK _ _ ?_; clear hK K
  refine awp_if _ rfl (fun hc2 => ?_) (fun hc2 => ?_)
  · rw [if_pos (of_decide_eq_true hc2)] at hr
    refine awp_seq_k fun K hK => ?_
    refine awp_region rfl ?_
    simp only [RR, seval]
    refine hK _ _ ?_; clear hK K
    refine awp_ret ?_; simp only [bodyQ, aresult, ares, RR, seval]
    refine Gives.pure ?_
    first | (subst hr; rfl) | (rcases hq with rfl | rfl <;> (simp at hr; subst hr; rfl)) | (rcases hq with rfl | rfl | rfl <;> (simp at hr; subst hr; rfl))
  · rw [if_neg (of_decide_eq_false hc2)] at hr
    refine awp_seq_k fun K hK => ?_
    refine awp_region rfl ?_
    simp only [RR, seval]
    refine hK _ _ ?_; clear hK K
    refine awp_if _ rfl (fun hc4 => ?_) (fun hc4 => ?_)
    · rw [if_pos (of_decide_eq_true hc4)] at hr
      refine awp_seq_k fun K hK => ?_
      refine awp_region rfl ?_
      simp only [RR, seval]
      refine hK _ _ ?_; clear hK K
      refine awp_ret ?_; simp only [bodyQ, aresult, ares, RR, seval]
      refine Gives.pure ?_
      first | (subst hr; rfl) | (rcases hq with rfl | rfl <;> (simp at hr; subst hr; rfl)) | (rcases hq with rfl | rfl | rfl <;> (simp at hr; subst hr; rfl))
    · rw [if_neg (of_decide_eq_false hc4)] at hr
      refine awp_seq_k fun K hK => ?_
      refine awp_region rfl ?_
      simp only [RR, seval]
      refine hK _ _ ?_; clear hK K
      refine awp_if _ rfl (fun hc6 => ?_) (fun hc6 => ?_)
      · rw [if_pos (of_decide_eq_true hc6)] at hr
        refine awp_seq_k fun K hK => ?_
        refine awp_region rfl ?_
        simp only [RR, seval]
        refine hK _ _ ?_; clear hK K
        refine awp_ret ?_; simp only [bodyQ, aresult, ares, RR, seval]
        refine Gives.pure ?_
        first | (subst hr; rfl) | (rcases hq with rfl | rfl <;> (simp at hr; subst hr; rfl)) | (rcases hq with rfl | rfl | rfl <;> (simp at hr; subst hr; rfl))
      · rw [if_neg (of_decide_eq_false hc6)] at hr
        refine awp_seq_k fun K hK => ?_
        refine awp_region rfl ?_
        simp only [RR, seval]
        refine hK _ _ ?_; clear hK K
        refine awp_if _ rfl (fun hc8 => ?_) (fun hc8 => ?_)
        · rw [if_pos (of_decide_eq_true hc8)] at hr
          refine awp_seq_k fun K hK => ?_
          refine awp_region rfl ?_
          simp only [RR, seval]
          refine hK _ _ ?_; clear hK K
          refine awp_ret ?_; simp only [bodyQ, aresult, ares, RR, seval]
          refine Gives.pure ?_
          first | (subst hr; rfl) | (rcases hq with rfl | rfl <;> (simp at hr; subst hr; rfl)) | (rcases hq with rfl | rfl | rfl <;> (simp at hr; subst hr; rfl))
        · rw [if_neg (of_decide_eq_false hc8)] at hr
          refine awp_seq ?_
          refine awp_seq_k fun K hK => ?_
          refine awp_region rfl ?_
          simp only [RR, seval]
          refine hK _ _ ?_; clear hK K
          refine awp_name fun F1 M1 hfr hH => ?_
          have g2 := hfr 2
          have g3 := hfr 3
          have g12 := hfr 12
          try simp only [RR, seval] at g2 g3 g12
          have f2 := g2; clear g2
          have f3 := g3; clear g3
          have f12 := g12; clear g12
          clear hfr hH
          refine awp_cutP (fun fr M => agree [2, 3] F1 fr ∧ fr 12 = .bool (decide (s = [124] ∨ s = [94]))) (fun KC10 hKC10 => ?_) ?_
          · have agC10 := agree.refl [2, 3] F1
            refine awp_if _ (by first | rfl | exact f12) (fun hc10 => ?_) (fun hc10 => ?_)
            · refine awp_skip ?_; try simp only [RR]
              refine hKC10 _ _ ⟨(by repeat (first | exact agC10 | refine agree.upd rfl ?_)), ?_⟩
              first | (simp only [upd_app, RR, seval]; simp_all; done) | simp_all
            · refine awp_region rfl ?_
              simp only [f3, RR, seval]
              refine hKC10 _ _ ⟨(by repeat (first | exact agC10 | refine agree.upd rfl ?_)), ?_⟩
              first | (simp only [upd_app, RR, seval]; simp_all; done) | simp_all
          rintro F2 M2 ⟨agx, f12⟩
          have f2 := (agx 2 rfl).trans f2
          have f3 := (agx 3 rfl).trans f3
          clear agx
          simp only [RR, seval]
          refine awp_if _ (by first | rfl | exact f12) (fun hc11 => ?_) (fun hc11 => ?_)
          · have hq := of_decide_eq_true hc11
            refine awp_seq_k fun K hK => ?_
            refine awp_region rfl ?_
            simp only [RR, seval]
            refine hK _ _ ?_; clear hK K
            refine awp_ret ?_; simp only [bodyQ, aresult, ares, f2, RR, seval]
            refine Gives.pure ?_
            first | (subst hr; rfl) | (rcases hq with rfl | rfl <;> (simp at hr; subst hr; rfl)) | (rcases hq with rfl | rfl | rfl <;> (simp at hr; subst hr; rfl))
          · have hq := of_decide_eq_false hc11
            simp only [not_or] at hq
            rw [if_neg hq.1, if_neg hq.2] at hr
            refine awp_seq_k fun K hK => ?_
            refine awp_region rfl ?_
            simp only [f3, RR, seval]
            refine hK _ _ ?_; clear hK K
            refine awp_if _ rfl (fun hc13 => ?_) (fun hc13 => ?_)
            · rw [if_pos (of_decide_eq_true hc13)] at hr
              refine awp_seq_k fun K hK => ?_
              refine awp_region rfl ?_
              simp only [RR, seval]
              refine hK _ _ ?_; clear hK K
              refine awp_ret ?_; simp only [bodyQ, aresult, ares, f2, RR, seval]
              refine Gives.pure ?_
              first | (subst hr; rfl) | (rcases hq with rfl | rfl <;> (simp at hr; subst hr; rfl)) | (rcases hq with rfl | rfl | rfl <;> (simp at hr; subst hr; rfl))
            · rw [if_neg (of_decide_eq_false hc13)] at hr
              refine awp_seq ?_
              refine awp_seq_k fun K hK => ?_
              refine awp_region rfl ?_
              simp only [f3, RR, seval]
              refine hK _ _ ?_; clear hK K
              refine awp_name fun F3 M3 hfr hH => ?_
              have g2 := hfr 2
              have g3 := hfr 3
              have g17 := hfr 17
              try simp only [f2, f3, f12, RR, seval] at g2 g3 g17
              have f2 := g2; clear g2
              have f3 := g3; clear g3
              have f17 := g17; clear g17
              clear hfr hH
              refine awp_cutP (fun fr M => agree [2, 3] F3 fr ∧ fr 17 = .bool (decide (s = [60, 60] ∨ s = [62, 62]))) (fun KC15 hKC15 => ?_) ?_
              · have agC15 := agree.refl [2, 3] F3
                refine awp_if _ (by first | rfl | exact f17) (fun hc15 => ?_) (fun hc15 => ?_)
                · refine awp_skip ?_; try simp only [RR]
                  refine hKC15 _ _ ⟨(by repeat (first | exact agC15 | refine agree.upd rfl ?_)), ?_⟩
                  first | (simp only [upd_app, RR, seval]; simp_all; done) | simp_all
                · refine awp_region rfl ?_
                  simp only [f3, RR, seval]
                  refine hKC15 _ _ ⟨(by repeat (first | exact agC15 | refine agree.upd rfl ?_)), ?_⟩
                  first | (simp only [upd_app, RR, seval]; simp_all; done) | simp_all
              rintro F4 M4 ⟨agx, f17⟩
              have f2 := (agx 2 rfl).trans f2
              have f3 := (agx 3 rfl).trans f3
              clear agx
              simp only [RR, seval]
              refine awp_if _ (by first | rfl | exact f17) (fun hc16 => ?_) (fun hc16 => ?_)
              · have hq := of_decide_eq_true hc16
                refine awp_seq_k fun K hK => ?_
                refine awp_region rfl ?_
                simp only [RR, seval]
                refine hK _ _ ?_; clear hK K
                refine awp_ret ?_; simp only [bodyQ, aresult, ares, f2, RR, seval]
                refine Gives.pure ?_
                first | (subst hr; rfl) | (rcases hq with rfl | rfl <;> (simp at hr; subst hr; rfl)) | (rcases hq with rfl | rfl | rfl <;> (simp at hr; subst hr; rfl))
              · have hq := of_decide_eq_false hc16
                simp only [not_or] at hq
                rw [if_neg hq.1, if_neg hq.2] at hr
                refine awp_seq ?_
                refine awp_seq_k fun K hK => ?_
                refine awp_region rfl ?_
                simp only [f3, RR, seval]
                refine hK _ _ ?_; clear hK K
                refine awp_name fun F5 M5 hfr hH => ?_
                have g2 := hfr 2
                have g3 := hfr 3
                have g20 := hfr 20
                try simp only [f2, f3, f17, RR, seval] at g2 g3 g20
                have f2 := g2; clear g2
                have f3 := g3; clear g3
                have f20 := g20; clear g20
                clear hfr hH
                refine awp_cutP (fun fr M => agree [2, 3] F5 fr ∧ fr 20 = .bool (decide (s = [43] ∨ s = [45]))) (fun KC18 hKC18 => ?_) ?_
                · have agC18 := agree.refl [2, 3] F5
                  refine awp_if _ (by first | rfl | exact f20) (fun hc18 => ?_) (fun hc18 => ?_)
                  · refine awp_skip ?_; try simp only [RR]
                    refine hKC18 _ _ ⟨(by repeat (first | exact agC18 | refine agree.upd rfl ?_)), ?_⟩
                    first | (simp only [upd_app, RR, seval]; simp_all; done) | simp_all
                  · refine awp_region rfl ?_
                    simp only [f3, RR, seval]
                    refine hKC18 _ _ ⟨(by repeat (first | exact agC18 | refine agree.upd rfl ?_)), ?_⟩
                    first | (simp only [upd_app, RR, seval]; simp_all; done) | simp_all
                rintro F6 M6 ⟨agx, f20⟩
                have f2 := (agx 2 rfl).trans f2
                have f3 := (agx 3 rfl).trans f3
                clear agx
                simp only [RR, seval]
                refine awp_if _ (by first | rfl | exact f20) (fun hc19 => ?_) (fun hc19 => ?_)
                · have hq := of_decide_eq_true hc19
                  refine awp_seq_k fun K hK => ?_
                  refine awp_region rfl ?_
                  simp only [RR, seval]
                  refine hK _ _ ?_; clear hK K
                  refine awp_ret ?_; simp only [bodyQ, aresult, ares, f2, RR, seval]
                  refine Gives.pure ?_
                  first | (subst hr; rfl) | (rcases hq with rfl | rfl <;> (simp at hr; subst hr; rfl)) | (rcases hq with rfl | rfl | rfl <;> (simp at hr; subst hr; rfl))
                · have hq := of_decide_eq_false hc19
                  simp only [not_or] at hq
                  rw [if_neg hq.1, if_neg hq.2] at hr
                  refine awp_seq ?_
                  refine awp_seq_k fun K hK => ?_
                  refine awp_region rfl ?_
                  simp only [f3, RR, seval]
                  refine hK _ _ ?_; clear hK K
                  refine awp_name fun F7 M7 hfr hH => ?_
                  have g2 := hfr 2
                  have g3 := hfr 3
                  have g23 := hfr 23
                  try simp only [f2, f3, f20, RR, seval] at g2 g3 g23
                  have f2 := g2; clear g2
                  have f3 := g3; clear g3
                  have f23 := g23; clear g23
                  clear hfr hH
                  refine awp_cutP (fun fr M => agree [2] F7 fr ∧ fr 23 = .bool (decide (s = [42] ∨ s = [47] ∨ s = [37]))) (fun KC21 hKC21 => ?_) ?_
                  · have agC21 := agree.refl [2] F7
                    refine awp_if _ (by first | rfl | exact f23) (fun hc21 => ?_) (fun hc21 => ?_)
                    · refine awp_skip ?_; try simp only [RR]
                      refine hKC21 _ _ ⟨(by repeat (first | exact agC21 | refine agree.upd rfl ?_)), ?_⟩
                      first | (simp only [upd_app, RR, seval]; simp_all; done) | simp_all
                    · refine awp_seq_k fun K hK => ?_
                      refine awp_region rfl ?_
                      simp only [f3, RR, seval]
                      refine hK _ _ ?_; clear hK K
                      refine awp_if _ (by first | rfl | exact f23) (fun hc22 => ?_) (fun hc22 => ?_)
                      · refine awp_skip ?_; try simp only [RR]
                        refine hKC21 _ _ ⟨(by repeat (first | exact agC21 | refine agree.upd rfl ?_)), ?_⟩
                        first | (simp only [upd_app, RR, seval]; simp_all; done) | simp_all
                      · refine awp_region rfl ?_
                        simp only [f3, RR, seval]
                        refine hKC21 _ _ ⟨(by repeat (first | exact agC21 | refine agree.upd rfl ?_)), ?_⟩
                        first | (simp only [upd_app, RR, seval]; simp_all; done) | simp_all
                  rintro F8 M8 ⟨agx, f23⟩
                  have f2 := (agx 2 rfl).trans f2
                  clear agx
                  simp only [RR, seval]
                  refine awp_if _ (by first | rfl | exact f23) (fun hc23 => ?_) (fun hc23 => ?_)
                  · have hq := of_decide_eq_true hc23
                    refine awp_seq_k fun K hK => ?_
                    refine awp_region rfl ?_
                    simp only [RR, seval]
                    refine hK _ _ ?_; clear hK K
                    refine awp_ret ?_; simp only [bodyQ, aresult, ares, f2, RR, seval]
                    refine Gives.pure ?_
                    first | (subst hr; rfl) | (rcases hq with rfl | rfl <;> (simp at hr; subst hr; rfl)) | (rcases hq with rfl | rfl | rfl <;> (simp at hr; subst hr; rfl))
                  · have hq := of_decide_eq_false hc23
                    simp only [not_or] at hq
                    rw [if_neg hq.1, if_neg hq.2.1, if_neg hq.2.2] at hr
                    refine awp_skip ?_; try simp only [RR]
                    refine awp_seq_k fun K hK => ?_
                    refine awp_region rfl ?_
                    simp only [RR, seval]
                    refine hK _ _ ?_; clear hK K
                    refine awp_ret ?_; simp only [bodyQ, aresult, ares, f2, RR, seval]
                    refine Gives.pure ?_
                    first | (subst hr; rfl) | (rcases hq with rfl | rfl <;> (simp at hr; subst hr; rfl)) | (rcases hq with rfl | rfl | rfl <;> (simp at hr; subst hr; rfl))
set_option maxHeartbeats 4000000 in
theorem join_con (s : Str) (a b : Ex) (hs : (sgI s).2.2 ≠ 0) : PCon env 67 [.str s, exV a, exV b] (exV (joinI s a b)) := by
  have hj : exV (joinI s a b) = .agg [.int .i64 (sgI s).1, .int .i64 (sgI s).2.1, .int .u32 0, .str [], .isl 5 [[.int .i64 a.kind, .int .i64 a.op, .int .u32 a.num, .str a.name, .isl 5 (a.kids.map Ex.row)], [.int .i64 b.kind, .int .i64 b.op, .int .u32 b.num, .str b.name, .isl 5 (b.kids.map Ex.row)]]] := by
    simp only [exV, joinI, Ex.kind, Ex.op, Ex.num, Ex.name, Ex.kids, List.map_cons, List.map_nil, Ex.row_eq]
  rw [hj]
  generalize hr : sgI s = r at hs ⊢
  unfold sgI sgL at hr
  simp only [selI] at hr
  simp only [exV]
  refine con_of 54 [.cell 6 36] Tryd.func67 rfl rfl rfl rfl ?_
  refine awp_seq_k fun K hK => ?_
  refine awp_region rfl ?_
  simp only [RR, seval]
  refine awpN_intro fun b4 hn4 => ?_
  simp only [RR, seval]
  refine awpN_intro fun b5 hn5 => ?_
  have nb5_b4 : b5 ≠ b4 := fun e => by rw [e] at hn5; simp only [RR, seval, reduceCtorEq] at hn5
  have nb4_b5 : b4 ≠ b5 := fun e => nb5_b4 e.symm
  simp only [nb5_b4, nb4_b5, RR, seval]
  refine awpN_intro fun b6 hn6 => ?_
  have nb6_b4 : b6 ≠ b4 := fun e => by rw [e] at hn6; simp only [nb5_b4, nb4_b5, RR, seval, reduceCtorEq] at hn6
  have nb4_b6 : b4 ≠ b6 := fun e => nb6_b4 e.symm
  have nb6_b5 : b6 ≠ b5 := fun e => by rw [e] at hn6; simp only [nb5_b4, nb4_b5, RR, seval, reduceCtorEq] at hn6
  have nb5_b6 : b5 ≠ b6 := fun e => nb6_b5 e.symm
  simp only [nb5_b4, nb4_b5, nb6_b4, nb4_b6, nb6_b5, nb5_b6, RR, seval]
  refine hK _ _ ?_; clear hK K
  refine awp_seq_k fun K hK => ?_
  refine awp_region rfl ?_
  simp only [nb5_b4, nb4_b5, nb6_b4, nb4_b6, nb6_b5, nb5_b6, RR, seval]
  refine awpB_sealed ?_
  simp only [nb5_b4, nb4_b5, nb6_b4, nb4_b6, nb6_b5, nb5_b6, RR, seval]
  refine awpN_intro fun b7 hn7 => ?_
  have nb7_b4 : b7 ≠ b4 := fun e => by rw [e] at hn7; simp only [nb5_b4, nb4_b5, nb6_b4, nb4_b6, RR, seval, reduceCtorEq] at hn7
  have nb4_b7 : b4 ≠ b7 := fun e => nb7_b4 e.symm
  have nb7_b5 : b7 ≠ b5 := fun e => by rw [e] at hn7; simp only [nb5_b4, nb4_b5, nb6_b5, nb5_b6, RR, seval, reduceCtorEq] at hn7
  have nb5_b7 : b5 ≠ b7 := fun e => nb7_b5 e.symm
  have nb7_b6 : b7 ≠ b6 := fun e => by rw [e] at hn7; simp only [nb6_b4, nb4_b6, nb6_b5, nb5_b6, RR, seval, reduceCtorEq] at hn7
  have nb6_b7 : b6 ≠ b7 := fun e => nb7_b6 e.symm
  simp only [nb5_b4, nb4_b5, nb6_b4, nb4_b6, nb6_b5, nb5_b6, nb7_b4, nb4_b7, nb7_b5, nb5_b7, nb7_b6, nb6_b7, RR, seval]
  refine hK _ _ ?_; clear hK K
  refine awp_seq ?_
  refine awp_seq_k fun K hK => ?_
  refine awp_region rfl ?_
  simp only [RR, seval]
  refine hK _ _ ?_; clear hK K
  refine awp_name fun F1 M1 hfr hH => ?_
  have g6 := hfr 6
  have g7 := hfr 7
  have g12 := hfr 12
  have gb4 := hH b4
  have gb5 := hH b5
  have gb6 := hH b6
  have gb7 := hH b7
  try simp only [nb5_b4, nb4_b5, nb6_b4, nb4_b6, nb6_b5, nb5_b6, nb7_b4, nb4_b7, nb7_b5, nb5_b7, nb7_b6, nb6_b7, RR, seval] at g6 g7 g12 gb4 gb5 gb6 gb7
  have f6 := g6; clear g6
  have f7 := g7; clear g7
  have f12 := g12; clear g12
  have hb4 := gb4; clear gb4
  have hb5 := gb5; clear gb5
  have hb6 := gb6; clear gb6
  have hb7 := gb7; clear gb7
  clear hfr hH
  refine awp_cutP (fun fr M => agree [6, 7] F1 fr ∧ M b4 = M1 b4 ∧ M b5 = M1 b5 ∧ M b6 = M1 b6 ∧ M b7 = some (.rows 5 [[.int .i64 r.1, .int .i64 r.2.1, .int .u32 0, .str [], .isl 5 [[.int .i64 a.kind, .int .i64 a.op, .int .u32 a.num, .str a.name, .isl 5 (a.kids.map Ex.row)], [.int .i64 b.kind, .int .i64 b.op, .int .u32 b.num, .str b.name, .isl 5 (b.kids.map Ex.row)]]]])) (fun KB0 hKB0 => ?_) ?_
  · have agB0 := agree.refl [6, 7] F1
    have eB0_b4 : M1 b4 = M1 b4 := rfl
    have eB0_b5 : M1 b5 = M1 b5 := rfl
    have eB0_b6 : M1 b6 = M1 b6 := rfl
    refine awp_block ?_
    refine awp_seq_k fun K hK => ?_
    refine awp_region rfl ?_
    simp only [f12, RR, seval]
    refine hK _ _ ?_; clear hK K
    refine awp_if _ rfl (fun hc4 => ?_) (fun hc4 => ?_)
    · rw [if_pos (of_decide_eq_true hc4)] at hr
      refine awp_region rfl ?_
      simp only [f7, hb4, hb5, hb6, hb7, nb5_b4, nb4_b5, nb6_b4, nb4_b6, nb6_b5, nb5_b6, nb7_b4, nb4_b7, nb7_b5, nb5_b7, nb7_b6, nb6_b7, RR, seval]
      refine hKB0 _ _ ⟨(by repeat (first | exact agB0 | refine agree.upd rfl ?_)), (by first | exact eB0_b4 | (simp only [nb5_b4, nb4_b5, nb6_b4, nb4_b6, nb6_b5, nb5_b6, nb7_b4, nb4_b7, nb7_b5, nb5_b7, nb7_b6, nb6_b7, upd_app, seval]; first | done | exact eB0_b4)), (by first | exact eB0_b5 | (simp only [nb5_b4, nb4_b5, nb6_b4, nb4_b6, nb6_b5, nb5_b6, nb7_b4, nb4_b7, nb7_b5, nb5_b7, nb7_b6, nb6_b7, upd_app, seval]; first | done | exact eB0_b5)), (by first | exact eB0_b6 | (simp only [nb5_b4, nb4_b5, nb6_b4, nb4_b6, nb6_b5, nb5_b6, nb7_b4, nb4_b7, nb7_b5, nb5_b7, nb7_b6, nb6_b7, upd_app, seval]; first | done | exact eB0_b6)), ?_⟩
      subst hr
      first | exact upd_same _ _ _ | (simp only [f6, f7, f12, hb4, hb5, hb6, hb7, nb5_b4, nb4_b5, nb6_b4, nb4_b6, nb6_b5, nb5_b6, nb7_b4, nb4_b7, nb7_b5, nb5_b7, nb7_b6, nb6_b7, upd_app, RR, seval]; done) | (simp only [f6, f7, f12, hb4, hb5, hb6, hb7, nb5_b4, nb4_b5, nb6_b4, nb4_b6, nb6_b5, nb5_b6, nb7_b4, nb4_b7, nb7_b5, nb5_b7, nb7_b6, nb6_b7, upd_app, RR, seval]; rfl)
    · rw [if_neg (of_decide_eq_false hc4)] at hr
      refine awp_seq_k fun K hK => ?_
      refine awp_region rfl ?_
      simp only [f12, RR, seval]
      refine hK _ _ ?_; clear hK K
      refine awp_if _ rfl (fun hc6 => ?_) (fun hc6 => ?_)
      · rw [if_pos (of_decide_eq_true hc6)] at hr
        refine awp_region rfl ?_
        simp only [f7, hb4, hb5, hb6, hb7, nb5_b4, nb4_b5, nb6_b4, nb4_b6, nb6_b5, nb5_b6, nb7_b4, nb4_b7, nb7_b5, nb5_b7, nb7_b6, nb6_b7, RR, seval]
        refine hKB0 _ _ ⟨(by repeat (first | exact agB0 | refine agree.upd rfl ?_)), (by first | exact eB0_b4 | (simp only [nb5_b4, nb4_b5, nb6_b4, nb4_b6, nb6_b5, nb5_b6, nb7_b4, nb4_b7, nb7_b5, nb5_b7, nb7_b6, nb6_b7, upd_app, seval]; first | done | exact eB0_b4)), (by first | exact eB0_b5 | (simp only [nb5_b4, nb4_b5, nb6_b4, nb4_b6, nb6_b5, nb5_b6, nb7_b4, nb4_b7, nb7_b5, nb5_b7, nb7_b6, nb6_b7, upd_app, seval]; first | done | exact eB0_b5)), (by first | exact eB0_b6 | (simp only [nb5_b4, nb4_b5, nb6_b4, nb4_b6, nb6_b5, nb5_b6, nb7_b4, nb4_b7, nb7_b5, nb5_b7, nb7_b6, nb6_b7, upd_app, seval]; first | done | exact eB0_b6)), ?_⟩
        subst hr
        first | exact upd_same _ _ _ | (simp only [f6, f7, f12, hb4, hb5, hb6, hb7, nb5_b4, nb4_b5, nb6_b4, nb4_b6, nb6_b5, nb5_b6, nb7_b4, nb4_b7, nb7_b5, nb5_b7, nb7_b6, nb6_b7, upd_app, RR, seval]; done) | (simp only [f6, f7, f12, hb4, hb5, hb6, hb7, nb5_b4, nb4_b5, nb6_b4, nb4_b6, nb6_b5, nb5_b6, nb7_b4, nb4_b7, nb7_b5, nb5_b7, nb7_b6, nb6_b7, upd_app, RR, seval]; rfl)
      · rw [if_neg (of_decide_eq_false hc6)] at hr
        refine awp_seq_k fun K hK => ?_
        refine awp_region rfl ?_
        simp only [f12, RR, seval]
        refine hK _ _ ?_; clear hK K
        refine awp_if _ rfl (fun hc8 => ?_) (fun hc8 => ?_)
        · rw [if_pos (of_decide_eq_true hc8)] at hr
          refine awp_region rfl ?_
          simp only [f7, hb4, hb5, hb6, hb7, nb5_b4, nb4_b5, nb6_b4, nb4_b6, nb6_b5, nb5_b6, nb7_b4, nb4_b7, nb7_b5, nb5_b7, nb7_b6, nb6_b7, RR, seval]
          refine hKB0 _ _ ⟨(by repeat (first | exact agB0 | refine agree.upd rfl ?_)), (by first | exact eB0_b4 | (simp only [nb5_b4, nb4_b5, nb6_b4, nb4_b6, nb6_b5, nb5_b6, nb7_b4, nb4_b7, nb7_b5, nb5_b7, nb7_b6, nb6_b7, upd_app, seval]; first | done | exact eB0_b4)), (by first | exact eB0_b5 | (simp only [nb5_b4, nb4_b5, nb6_b4, nb4_b6, nb6_b5, nb5_b6, nb7_b4, nb4_b7, nb7_b5, nb5_b7, nb7_b6, nb6_b7, upd_app, seval]; first | done | exact eB0_b5)), (by first | exact eB0_b6 | (simp only [nb5_b4, nb4_b5, nb6_b4, nb4_b6, nb6_b5, nb5_b6, nb7_b4, nb4_b7, nb7_b5, nb5_b7, nb7_b6, nb6_b7, upd_app, seval]; first | done | exact eB0_b6)), ?_⟩
          subst hr
          first | exact upd_same _ _ _ | (simp only [f6, f7, f12, hb4, hb5, hb6, hb7, nb5_b4, nb4_b5, nb6_b4, nb4_b6, nb6_b5, nb5_b6, nb7_b4, nb4_b7, nb7_b5, nb5_b7, nb7_b6, nb6_b7, upd_app, RR, seval]; done) | (simp only [f6, f7, f12, hb4, hb5, hb6, hb7, nb5_b4, nb4_b5, nb6_b4, nb4_b6, nb6_b5, nb5_b6, nb7_b4, nb4_b7, nb7_b5, nb5_b7, nb7_b6, nb6_b7, upd_app, RR, seval]; rfl)
        · rw [if_neg (of_decide_eq_false hc8)] at hr
          refine awp_seq_k fun K hK => ?_
          refine awp_region rfl ?_
          simp only [f12, RR, seval]
          refine hK _ _ ?_; clear hK K
          refine awp_if _ rfl (fun hc10 => ?_) (fun hc10 => ?_)
          · rw [if_pos (of_decide_eq_true hc10)] at hr
            refine awp_region rfl ?_
            simp only [f7, hb4, hb5, hb6, hb7, nb5_b4, nb4_b5, nb6_b4, nb4_b6, nb6_b5, nb5_b6, nb7_b4, nb4_b7, nb7_b5, nb5_b7, nb7_b6, nb6_b7, RR, seval]
            refine hKB0 _ _ ⟨(by repeat (first | exact agB0 | refine agree.upd rfl ?_)), (by first | exact eB0_b4 | (simp only [nb5_b4, nb4_b5, nb6_b4, nb4_b6, nb6_b5, nb5_b6, nb7_b4, nb4_b7, nb7_b5, nb5_b7, nb7_b6, nb6_b7, upd_app, seval]; first | done | exact eB0_b4)), (by first | exact eB0_b5 | (simp only [nb5_b4, nb4_b5, nb6_b4, nb4_b6, nb6_b5, nb5_b6, nb7_b4, nb4_b7, nb7_b5, nb5_b7, nb7_b6, nb6_b7, upd_app, seval]; first | done | exact eB0_b5)), (by first | exact eB0_b6 | (simp only [nb5_b4, nb4_b5, nb6_b4, nb4_b6, nb6_b5, nb5_b6, nb7_b4, nb4_b7, nb7_b5, nb5_b7, nb7_b6, nb6_b7, upd_app, seval]; first | done | exact eB0_b6)), ?_⟩
            subst hr
            first | exact upd_same _ _ _ | (simp only [f6, f7, f12, hb4, hb5, hb6, hb7, nb5_b4, nb4_b5, nb6_b4, nb4_b6, nb6_b5, nb5_b6, nb7_b4, nb4_b7, nb7_b5, nb5_b7, nb7_b6, nb6_b7, upd_app, RR, seval]; done) | (simp only [f6, f7, f12, hb4, hb5, hb6, hb7, nb5_b4, nb4_b5, nb6_b4, nb4_b6, nb6_b5, nb5_b6, nb7_b4, nb4_b7, nb7_b5, nb5_b7, nb7_b6, nb6_b7, upd_app, RR, seval]; rfl)
          · rw [if_neg (of_decide_eq_false hc10)] at hr
            refine awp_seq_k fun K hK => ?_
            refine awp_region rfl ?_
            simp only [f12, RR, seval]
            refine hK _ _ ?_; clear hK K
            refine awp_if _ rfl (fun hc12 => ?_) (fun hc12 => ?_)
            · rw [if_pos (of_decide_eq_true hc12)] at hr
              refine awp_region rfl ?_
              simp only [f7, hb4, hb5, hb6, hb7, nb5_b4, nb4_b5, nb6_b4, nb4_b6, nb6_b5, nb5_b6, nb7_b4, nb4_b7, nb7_b5, nb5_b7, nb7_b6, nb6_b7, RR, seval]
              refine hKB0 _ _ ⟨(by repeat (first | exact agB0 | refine agree.upd rfl ?_)), (by first | exact eB0_b4 | (simp only [nb5_b4, nb4_b5, nb6_b4, nb4_b6, nb6_b5, nb5_b6, nb7_b4, nb4_b7, nb7_b5, nb5_b7, nb7_b6, nb6_b7, upd_app, seval]; first | done | exact eB0_b4)), (by first | exact eB0_b5 | (simp only [nb5_b4, nb4_b5, nb6_b4, nb4_b6, nb6_b5, nb5_b6, nb7_b4, nb4_b7, nb7_b5, nb5_b7, nb7_b6, nb6_b7, upd_app, seval]; first | done | exact eB0_b5)), (by first | exact eB0_b6 | (simp only [nb5_b4, nb4_b5, nb6_b4, nb4_b6, nb6_b5, nb5_b6, nb7_b4, nb4_b7, nb7_b5, nb5_b7, nb7_b6, nb6_b7, upd_app, seval]; first | done | exact eB0_b6)), ?_⟩
              subst hr
              first | exact upd_same _ _ _ | (simp only [f6, f7, f12, hb4, hb5, hb6, hb7, nb5_b4, nb4_b5, nb6_b4, nb4_b6, nb6_b5, nb5_b6, nb7_b4, nb4_b7, nb7_b5, nb5_b7, nb7_b6, nb6_b7, upd_app, RR, seval]; done) | (simp only [f6, f7, f12, hb4, hb5, hb6, hb7, nb5_b4, nb4_b5, nb6_b4, nb4_b6, nb6_b5, nb5_b6, nb7_b4, nb4_b7, nb7_b5, nb5_b7, nb7_b6, nb6_b7, upd_app, RR, seval]; rfl)
            · rw [if_neg (of_decide_eq_false hc12)] at hr
              refine awp_seq_k fun K hK => ?_
              refine awp_region rfl ?_
              simp only [f12, RR, seval]
              refine hK _ _ ?_; clear hK K
              refine awp_if _ rfl (fun hc14 => ?_) (fun hc14 => ?_)
              · rw [if_pos (of_decide_eq_true hc14)] at hr
                refine awp_region rfl ?_
                simp only [f7, hb4, hb5, hb6, hb7, nb5_b4, nb4_b5, nb6_b4, nb4_b6, nb6_b5, nb5_b6, nb7_b4, nb4_b7, nb7_b5, nb5_b7, nb7_b6, nb6_b7, RR, seval]
                refine hKB0 _ _ ⟨(by repeat (first | exact agB0 | refine agree.upd rfl ?_)), (by first | exact eB0_b4 | (simp only [nb5_b4, nb4_b5, nb6_b4, nb4_b6, nb6_b5, nb5_b6, nb7_b4, nb4_b7, nb7_b5, nb5_b7, nb7_b6, nb6_b7, upd_app, seval]; first | done | exact eB0_b4)), (by first | exact eB0_b5 | (simp only [nb5_b4, nb4_b5, nb6_b4, nb4_b6, nb6_b5, nb5_b6, nb7_b4, nb4_b7, nb7_b5, nb5_b7, nb7_b6, nb6_b7, upd_app, seval]; first | done | exact eB0_b5)), (by first | exact eB0_b6 | (simp only [nb5_b4, nb4_b5, nb6_b4, nb4_b6, nb6_b5, nb5_b6, nb7_b4, nb4_b7, nb7_b5, nb5_b7, nb7_b6, nb6_b7, upd_app, seval]; first | done | exact eB0_b6)), ?_⟩
                subst hr
                first | exact upd_same _ _ _ | (simp only [f6, f7, f12, hb4, hb5, hb6, hb7, nb5_b4, nb4_b5, nb6_b4, nb4_b6, nb6_b5, nb5_b6, nb7_b4, nb4_b7, nb7_b5, nb5_b7, nb7_b6, nb6_b7, upd_app, RR, seval]; done) | (simp only [f6, f7, f12, hb4, hb5, hb6, hb7, nb5_b4, nb4_b5, nb6_b4, nb4_b6, nb6_b5, nb5_b6, nb7_b4, nb4_b7, nb7_b5, nb5_b7, nb7_b6, nb6_b7, upd_app, RR, seval]; rfl)
              · rw [if_neg (of_decide_eq_false hc14)] at hr
                refine awp_seq_k fun K hK => ?_
                refine awp_region rfl ?_
                simp only [f12, RR, seval]
                refine hK _ _ ?_; clear hK K
                refine awp_if _ rfl (fun hc16 => ?_) (fun hc16 => ?_)
                · rw [if_pos (of_decide_eq_true hc16)] at hr
                  refine awp_region rfl ?_
                  simp only [f7, hb4, hb5, hb6, hb7, nb5_b4, nb4_b5, nb6_b4, nb4_b6, nb6_b5, nb5_b6, nb7_b4, nb4_b7, nb7_b5, nb5_b7, nb7_b6, nb6_b7, RR, seval]
                  refine hKB0 _ _ ⟨(by repeat (first | exact agB0 | refine agree.upd rfl ?_)), (by first | exact eB0_b4 | (simp only [nb5_b4, nb4_b5, nb6_b4, nb4_b6, nb6_b5, nb5_b6, nb7_b4, nb4_b7, nb7_b5, nb5_b7, nb7_b6, nb6_b7, upd_app, seval]; first | done | exact eB0_b4)), (by first | exact eB0_b5 | (simp only [nb5_b4, nb4_b5, nb6_b4, nb4_b6, nb6_b5, nb5_b6, nb7_b4, nb4_b7, nb7_b5, nb5_b7, nb7_b6, nb6_b7, upd_app, seval]; first | done | exact eB0_b5)), (by first | exact eB0_b6 | (simp only [nb5_b4, nb4_b5, nb6_b4, nb4_b6, nb6_b5, nb5_b6, nb7_b4, nb4_b7, nb7_b5, nb5_b7, nb7_b6, nb6_b7, upd_app, seval]; first | done | exact eB0_b6)), ?_⟩
                  subst hr
                  first | exact upd_same _ _ _ | (simp only [f6, f7, f12, hb4, hb5, hb6, hb7, nb5_b4, nb4_b5, nb6_b4, nb4_b6, nb6_b5, nb5_b6, nb7_b4, nb4_b7, nb7_b5, nb5_b7, nb7_b6, nb6_b7, upd_app, RR, seval]; done) | (simp only [f6, f7, f12, hb4, hb5, hb6, hb7, nb5_b4, nb4_b5, nb6_b4, nb4_b6, nb6_b5, nb5_b6, nb7_b4, nb4_b7, nb7_b5, nb5_b7, nb7_b6, nb6_b7, upd_app, RR, seval]; rfl)
                · rw [if_neg (of_decide_eq_false hc16)] at hr
                  refine awp_seq_k fun K hK => ?_
                  refine awp_region rfl ?_
                  simp only [f12, RR, seval]
                  refine hK _ _ ?_; clear hK K
                  refine awp_if _ rfl (fun hc18 => ?_) (fun hc18 => ?_)
                  · rw [if_pos (of_decide_eq_true hc18)] at hr
                    refine awp_region rfl ?_
                    simp only [f7, hb4, hb5, hb6, hb7, nb5_b4, nb4_b5, nb6_b4, nb4_b6, nb6_b5, nb5_b6, nb7_b4, nb4_b7, nb7_b5, nb5_b7, nb7_b6, nb6_b7, RR, seval]
                    refine hKB0 _ _ ⟨(by repeat (first | exact agB0 | refine agree.upd rfl ?_)), (by first | exact eB0_b4 | (simp only [nb5_b4, nb4_b5, nb6_b4, nb4_b6, nb6_b5, nb5_b6, nb7_b4, nb4_b7, nb7_b5, nb5_b7, nb7_b6, nb6_b7, upd_app, seval]; first | done | exact eB0_b4)), (by first | exact eB0_b5 | (simp only [nb5_b4, nb4_b5, nb6_b4, nb4_b6, nb6_b5, nb5_b6, nb7_b4, nb4_b7, nb7_b5, nb5_b7, nb7_b6, nb6_b7, upd_app, seval]; first | done | exact eB0_b5)), (by first | exact eB0_b6 | (simp only [nb5_b4, nb4_b5, nb6_b4, nb4_b6, nb6_b5, nb5_b6, nb7_b4, nb4_b7, nb7_b5, nb5_b7, nb7_b6, nb6_b7, upd_app, seval]; first | done | exact eB0_b6)), ?_⟩
                    subst hr
                    first | exact upd_same _ _ _ | (simp only [f6, f7, f12, hb4, hb5, hb6, hb7, nb5_b4, nb4_b5, nb6_b4, nb4_b6, nb6_b5, nb5_b6, nb7_b4, nb4_b7, nb7_b5, nb5_b7, nb7_b6, nb6_b7, upd_app, RR, seval]; done) | (simp only [f6, f7, f12, hb4, hb5, hb6, hb7, nb5_b4, nb4_b5, nb6_b4, nb4_b6, nb6_b5, nb5_b6, nb7_b4, nb4_b7, nb7_b5, nb5_b7, nb7_b6, nb6_b7, upd_app, RR, seval]; rfl)
                  · rw [if_neg (of_decide_eq_false hc18)] at hr
                    refine awp_seq_k fun K hK => ?_
                    refine awp_region rfl ?_
                    simp only [f12, RR, seval]
                    refine hK _ _ ?_; clear hK K
                    refine awp_if _ rfl (fun hc20 => ?_) (fun hc20 => ?_)
                    · rw [if_pos (of_decide_eq_true hc20)] at hr
                      refine awp_region rfl ?_
                      simp only [f7, hb4, hb5, hb6, hb7, nb5_b4, nb4_b5, nb6_b4, nb4_b6, nb6_b5, nb5_b6, nb7_b4, nb4_b7, nb7_b5, nb5_b7, nb7_b6, nb6_b7, RR, seval]
                      refine hKB0 _ _ ⟨(by repeat (first | exact agB0 | refine agree.upd rfl ?_)), (by first | exact eB0_b4 | (simp only [nb5_b4, nb4_b5, nb6_b4, nb4_b6, nb6_b5, nb5_b6, nb7_b4, nb4_b7, nb7_b5, nb5_b7, nb7_b6, nb6_b7, upd_app, seval]; first | done | exact eB0_b4)), (by first | exact eB0_b5 | (simp only [nb5_b4, nb4_b5, nb6_b4, nb4_b6, nb6_b5, nb5_b6, nb7_b4, nb4_b7, nb7_b5, nb5_b7, nb7_b6, nb6_b7, upd_app, seval]; first | done | exact eB0_b5)), (by first | exact eB0_b6 | (simp only [nb5_b4, nb4_b5, nb6_b4, nb4_b6, nb6_b5, nb5_b6, nb7_b4, nb4_b7, nb7_b5, nb5_b7, nb7_b6, nb6_b7, upd_app, seval]; first | done | exact eB0_b6)), ?_⟩
                      subst hr
                      first | exact upd_same _ _ _ | (simp only [f6, f7, f12, hb4, hb5, hb6, hb7, nb5_b4, nb4_b5, nb6_b4, nb4_b6, nb6_b5, nb5_b6, nb7_b4, nb4_b7, nb7_b5, nb5_b7, nb7_b6, nb6_b7, upd_app, RR, seval]; done) | (simp only [f6, f7, f12, hb4, hb5, hb6, hb7, nb5_b4, nb4_b5, nb6_b4, nb4_b6, nb6_b5, nb5_b6, nb7_b4, nb4_b7, nb7_b5, nb5_b7, nb7_b6, nb6_b7, upd_app, RR, seval]; rfl)
                    · rw [if_neg (of_decide_eq_false hc20)] at hr
                      refine awp_seq_k fun K hK => ?_
                      refine awp_region rfl ?_
                      simp only [f12, RR, seval]
                      refine hK _ _ ?_; clear hK K
                      refine awp_if _ rfl (fun hc22 => ?_) (fun hc22 => ?_)
                      · rw [if_pos (of_decide_eq_true hc22)] at hr
                        refine awp_region rfl ?_
                        simp only [f7, hb4, hb5, hb6, hb7, nb5_b4, nb4_b5, nb6_b4, nb4_b6, nb6_b5, nb5_b6, nb7_b4, nb4_b7, nb7_b5, nb5_b7, nb7_b6, nb6_b7, RR, seval]
                        refine hKB0 _ _ ⟨(by repeat (first | exact agB0 | refine agree.upd rfl ?_)), (by first | exact eB0_b4 | (simp only [nb5_b4, nb4_b5, nb6_b4, nb4_b6, nb6_b5, nb5_b6, nb7_b4, nb4_b7, nb7_b5, nb5_b7, nb7_b6, nb6_b7, upd_app, seval]; first | done | exact eB0_b4)), (by first | exact eB0_b5 | (simp only [nb5_b4, nb4_b5, nb6_b4, nb4_b6, nb6_b5, nb5_b6, nb7_b4, nb4_b7, nb7_b5, nb5_b7, nb7_b6, nb6_b7, upd_app, seval]; first | done | exact eB0_b5)), (by first | exact eB0_b6 | (simp only [nb5_b4, nb4_b5, nb6_b4, nb4_b6, nb6_b5, nb5_b6, nb7_b4, nb4_b7, nb7_b5, nb5_b7, nb7_b6, nb6_b7, upd_app, seval]; first | done | exact eB0_b6)), ?_⟩
                        subst hr
                        first | exact upd_same _ _ _ | (simp only [f6, f7, f12, hb4, hb5, hb6, hb7, nb5_b4, nb4_b5, nb6_b4, nb4_b6, nb6_b5, nb5_b6, nb7_b4, nb4_b7, nb7_b5, nb5_b7, nb7_b6, nb6_b7, upd_app, RR, seval]; done) | (simp only [f6, f7, f12, hb4, hb5, hb6, hb7, nb5_b4, nb4_b5, nb6_b4, nb4_b6, nb6_b5, nb5_b6, nb7_b4, nb4_b7, nb7_b5, nb5_b7, nb7_b6, nb6_b7, upd_app, RR, seval]; rfl)
                      · rw [if_neg (of_decide_eq_false hc22)] at hr
                        refine awp_seq_k fun K hK => ?_
                        refine awp_region rfl ?_
                        simp only [f12, RR, seval]
                        refine hK _ _ ?_; clear hK K
                        refine awp_if _ rfl (fun hc24 => ?_) (fun hc24 => ?_)
                        · rw [if_pos (of_decide_eq_true hc24)] at hr
                          refine awp_region rfl ?_
                          simp only [f7, hb4, hb5, hb6, hb7, nb5_b4, nb4_b5, nb6_b4, nb4_b6, nb6_b5, nb5_b6, nb7_b4, nb4_b7, nb7_b5, nb5_b7, nb7_b6, nb6_b7, RR, seval]
                          refine hKB0 _ _ ⟨(by repeat (first | exact agB0 | refine agree.upd rfl ?_)), (by first | exact eB0_b4 | (simp only [nb5_b4, nb4_b5, nb6_b4, nb4_b6, nb6_b5, nb5_b6, nb7_b4, nb4_b7, nb7_b5, nb5_b7, nb7_b6, nb6_b7, upd_app, seval]; first | done | exact eB0_b4)), (by first | exact eB0_b5 | (simp only [nb5_b4, nb4_b5, nb6_b4, nb4_b6, nb6_b5, nb5_b6, nb7_b4, nb4_b7, nb7_b5, nb5_b7, nb7_b6, nb6_b7, upd_app, seval]; first | done | exact eB0_b5)), (by first | exact eB0_b6 | (simp only [nb5_b4, nb4_b5, nb6_b4, nb4_b6, nb6_b5, nb5_b6, nb7_b4, nb4_b7, nb7_b5, nb5_b7, nb7_b6, nb6_b7, upd_app, seval]; first | done | exact eB0_b6)), ?_⟩
                          subst hr
                          first | exact upd_same _ _ _ | (simp only [f6, f7, f12, hb4, hb5, hb6, hb7, nb5_b4, nb4_b5, nb6_b4, nb4_b6, nb6_b5, nb5_b6, nb7_b4, nb4_b7, nb7_b5, nb5_b7, nb7_b6, nb6_b7, upd_app, RR, seval]; done) | (simp only [f6, f7, f12, hb4, hb5, hb6, hb7, nb5_b4, nb4_b5, nb6_b4, nb4_b6, nb6_b5, nb5_b6, nb7_b4, nb4_b7, nb7_b5, nb5_b7, nb7_b6, nb6_b7, upd_app, RR, seval]; rfl)
                        · rw [if_neg (of_decide_eq_false hc24)] at hr
                          refine awp_seq_k fun K hK => ?_
                          refine awp_region rfl ?_
                          simp only [f12, RR, seval]
                          refine hK _ _ ?_; clear hK K
                          refine awp_if _ rfl (fun hc26 => ?_) (fun hc26 => ?_)
                          · rw [if_pos (of_decide_eq_true hc26)] at hr
                            refine awp_region rfl ?_
                            simp only [f7, hb4, hb5, hb6, hb7, nb5_b4, nb4_b5, nb6_b4, nb4_b6, nb6_b5, nb5_b6, nb7_b4, nb4_b7, nb7_b5, nb5_b7, nb7_b6, nb6_b7, RR, seval]
                            refine hKB0 _ _ ⟨(by repeat (first | exact agB0 | refine agree.upd rfl ?_)), (by first | exact eB0_b4 | (simp only [nb5_b4, nb4_b5, nb6_b4, nb4_b6, nb6_b5, nb5_b6, nb7_b4, nb4_b7, nb7_b5, nb5_b7, nb7_b6, nb6_b7, upd_app, seval]; first | done | exact eB0_b4)), (by first | exact eB0_b5 | (simp only [nb5_b4, nb4_b5, nb6_b4, nb4_b6, nb6_b5, nb5_b6, nb7_b4, nb4_b7, nb7_b5, nb5_b7, nb7_b6, nb6_b7, upd_app, seval]; first | done | exact eB0_b5)), (by first | exact eB0_b6 | (simp only [nb5_b4, nb4_b5, nb6_b4, nb4_b6, nb6_b5, nb5_b6, nb7_b4, nb4_b7, nb7_b5, nb5_b7, nb7_b6, nb6_b7, upd_app, seval]; first | done | exact eB0_b6)), ?_⟩
                            subst hr
                            first | exact upd_same _ _ _ | (simp only [f6, f7, f12, hb4, hb5, hb6, hb7, nb5_b4, nb4_b5, nb6_b4, nb4_b6, nb6_b5, nb5_b6, nb7_b4, nb4_b7, nb7_b5, nb5_b7, nb7_b6, nb6_b7, upd_app, RR, seval]; done) | (simp only [f6, f7, f12, hb4, hb5, hb6, hb7, nb5_b4, nb4_b5, nb6_b4, nb4_b6, nb6_b5, nb5_b6, nb7_b4, nb4_b7, nb7_b5, nb5_b7, nb7_b6, nb6_b7, upd_app, RR, seval]; rfl)
                          · rw [if_neg (of_decide_eq_false hc26)] at hr
                            refine awp_seq_k fun K hK => ?_
                            refine awp_region rfl ?_
                            simp only [f12, RR, seval]
                            refine hK _ _ ?_; clear hK K
                            refine awp_if _ rfl (fun hc28 => ?_) (fun hc28 => ?_)
                            · rw [if_pos (of_decide_eq_true hc28)] at hr
                              refine awp_region rfl ?_
                              simp only [f7, hb4, hb5, hb6, hb7, nb5_b4, nb4_b5, nb6_b4, nb4_b6, nb6_b5, nb5_b6, nb7_b4, nb4_b7, nb7_b5, nb5_b7, nb7_b6, nb6_b7, RR, seval]
                              refine hKB0 _ _ ⟨(by repeat (first | exact agB0 | refine agree.upd rfl ?_)), (by first | exact eB0_b4 | (simp only [nb5_b4, nb4_b5, nb6_b4, nb4_b6, nb6_b5, nb5_b6, nb7_b4, nb4_b7, nb7_b5, nb5_b7, nb7_b6, nb6_b7, upd_app, seval]; first | done | exact eB0_b4)), (by first | exact eB0_b5 | (simp only [nb5_b4, nb4_b5, nb6_b4, nb4_b6, nb6_b5, nb5_b6, nb7_b4, nb4_b7, nb7_b5, nb5_b7, nb7_b6, nb6_b7, upd_app, seval]; first | done | exact eB0_b5)), (by first | exact eB0_b6 | (simp only [nb5_b4, nb4_b5, nb6_b4, nb4_b6, nb6_b5, nb5_b6, nb7_b4, nb4_b7, nb7_b5, nb5_b7, nb7_b6, nb6_b7, upd_app, seval]; first | done | exact eB0_b6)), ?_⟩
                              subst hr
                              first | exact upd_same _ _ _ | (simp only [f6, f7, f12, hb4, hb5, hb6, hb7, nb5_b4, nb4_b5, nb6_b4, nb4_b6, nb6_b5, nb5_b6, nb7_b4, nb4_b7, nb7_b5, nb5_b7, nb7_b6, nb6_b7, upd_app, RR, seval]; done) | (simp only [f6, f7, f12, hb4, hb5, hb6, hb7, nb5_b4, nb4_b5, nb6_b4, nb4_b6, nb6_b5, nb5_b6, nb7_b4, nb4_b7, nb7_b5, nb5_b7, nb7_b6, nb6_b7, upd_app, RR, seval]; rfl)
                            · rw [if_neg (of_decide_eq_false hc28)] at hr
                              have h37 : s = [37] := by
                                by_cases c : s = [37]
                                · exact c
                                · rw [if_neg c] at hr; subst hr; exact absurd rfl hs
                              rw [if_pos h37] at hr
                              refine awp_region rfl ?_
                              simp only [f7, hb4, hb5, hb6, hb7, nb5_b4, nb4_b5, nb6_b4, nb4_b6, nb6_b5, nb5_b6, nb7_b4, nb4_b7, nb7_b5, nb5_b7, nb7_b6, nb6_b7, RR, seval]
                              refine hKB0 _ _ ⟨(by repeat (first | exact agB0 | refine agree.upd rfl ?_)), (by first | exact eB0_b4 | (simp only [nb5_b4, nb4_b5, nb6_b4, nb4_b6, nb6_b5, nb5_b6, nb7_b4, nb4_b7, nb7_b5, nb5_b7, nb7_b6, nb6_b7, upd_app, seval]; first | done | exact eB0_b4)), (by first | exact eB0_b5 | (simp only [nb5_b4, nb4_b5, nb6_b4, nb4_b6, nb6_b5, nb5_b6, nb7_b4, nb4_b7, nb7_b5, nb5_b7, nb7_b6, nb6_b7, upd_app, seval]; first | done | exact eB0_b5)), (by first | exact eB0_b6 | (simp only [nb5_b4, nb4_b5, nb6_b4, nb4_b6, nb6_b5, nb5_b6, nb7_b4, nb4_b7, nb7_b5, nb5_b7, nb7_b6, nb6_b7, upd_app, seval]; first | done | exact eB0_b6)), ?_⟩
                              subst hr
                              first | exact upd_same _ _ _ | (simp only [f6, f7, f12, hb4, hb5, hb6, hb7, nb5_b4, nb4_b5, nb6_b4, nb4_b6, nb6_b5, nb5_b6, nb7_b4, nb4_b7, nb7_b5, nb5_b7, nb7_b6, nb6_b7, upd_app, RR, seval]; done) | (simp only [f6, f7, f12, hb4, hb5, hb6, hb7, nb5_b4, nb4_b5, nb6_b4, nb4_b6, nb6_b5, nb5_b6, nb7_b4, nb4_b7, nb7_b5, nb5_b7, nb7_b6, nb6_b7, upd_app, RR, seval]; rfl)
  rintro F2 M2 ⟨agx, gb4, gb5, gb6, hb7⟩
  have f6 := (agx 6 rfl).trans f6
  have f7 := (agx 7 rfl).trans f7
  have hb4 := gb4.trans hb4
  have hb5 := gb5.trans hb5
  have hb6 := gb6.trans hb6
  clear agx
  clear gb4
  clear gb5
  clear gb6
  simp only [RR, seval]
  refine awp_seq_k fun K hK => ?_
  refine awp_region rfl ?_
  simp only [f6, f7, hb4, hb5, hb6, hb7, nb5_b4, nb4_b5, nb6_b4, nb4_b6, nb6_b5, nb5_b6, nb7_b4, nb4_b7, nb7_b5, nb5_b7, nb7_b6, nb6_b7, RR, seval]
  refine hK _ _ ?_; clear hK K
  refine awp_ret ?_; simp only [bodyQ, aresult, ares, f6, f7, hb4, hb5, hb6, hb7, nb5_b4, nb4_b5, nb6_b4, nb4_b6, nb6_b5, nb5_b6, nb7_b4, nb4_b7, nb7_b5, nb5_b7, nb7_b6, nb6_b7, RR, seval]
  refine Gives.pure ?_
  rfl
end Go.Proofs.YtlpeikljipknoaaDoor
