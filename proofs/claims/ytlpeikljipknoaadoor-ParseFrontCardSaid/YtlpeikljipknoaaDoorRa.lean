/- Chapter 15: the reader in memory; contracts of what reads. Chapter 15, the program's: what passes a token. Chapter 15, the program's: several texts passed; names; signs. Chapter 15, the program's: expressions. Chapter 15, the program's: expressions, from their parts. Chapter 15, the program's: arguments; expressions of any size. -/
import Derived.Test.YtlpeikljipknoaaDoorGra
import Derived.Test.YtlpeikljipknoaaDoorLx
import Derived.Test.YtlpeikljipknoaaDoorGDf
import Derived.Test.YtlpeikljipknoaaDoorAl4
import Derived.Test.YtlpeikljipknoaaDoorSy1
import Derived.Test.YtlpeikljipknoaaDoorGSf
set_option linter.unusedSimpArgs false
set_option linter.unusedVariables false
set_option maxRecDepth 10000
namespace Go.Proofs.YtlpeikljipknoaaDoor
open Go.Al
def rdO (T : List Tok) (n e : Nat) : AObj := .rows 3 [[.isl 4 (T.map Tok.row), .int .i64 (n : Nat), .int .i64 (e : Nat)]]
def rdH (b : Nat) (T : List Tok) (n e : Nat) : Hp := upd emp b (some (rdO T n e))
theorem rdH_at (b : Nat) (T : List Tok) (n e : Nat) : rdH b T n e b = some (.rows 3 [[.isl 4 (T.map Tok.row), .int .i64 (n : Nat), .int .i64 (e : Nat)]]) := upd_same _ _ _
theorem rdH_sub {b : Nat} {T : List Tok} {n e : Nat} {H : Hp} (h : H b = some (.rows 3 [[.isl 4 (T.map Tok.row), .int .i64 (n : Nat), .int .i64 (e : Nat)]])) : hsub (rdH b T n e) H := fun x o hx => by
  by_cases c : x = b
  · subst c; rw [rdH_at] at hx; rw [h]; exact hx
  · rw [rdH, upd_ne _ _ c] at hx; cases hx
def wrongV (i : Int) : AV := .ifc 81 (.agg [.int .i64 i])
def rpost {α : Type} (b : Nat) (T : List Tok) (e : Nat) (f : α → AV) (r : PR α) : AEnd → Hp → Prop := fun ae H' =>
  match r with
  | .ok a n => ae = .ret (f a) ∧ H' = rdH b T n e
  | .bad n => ae = .pan (wrongV (atI T e n))
def RCon {α : Type} (g : FuncId) (args : List AV) (b : Nat) (T : List Tok) (n e : Nat) (f : α → AV) (r : PR α) : Prop :=
  Con env g (.ptr 3 b 0 0 :: args) (rdH b T n e) (rpost b T e f r)
theorem rgives {α : Type} {b : Nat} {T : List Tok} {e n : Nat} {f : α → AV} {r : PR α} {v : AV} {H : Hp} {a : α} (hb : H b = some (.rows 3 [[.isl 4 (T.map Tok.row), .int .i64 (n : Nat), .int .i64 (e : Nat)]])) (hr : r = .ok a n) (hs : Sub v (f a)) : Gives (rpost b T e f r) v H := by
  subst hr
  exact ⟨f a, rdH b T n e, (Turn.sub hs).trans (Turn.drop (rdH_sub hb)), rfl, rfl⟩
theorem rgivesL {α : Type} {b : Nat} {T : List Tok} {e n : Nat} {f : α → AV} {r : PR α} {v : AV} {H : Hp} {a : α} {sz : Nat} {rows : List (List AV)} (ho : OwnL sz v rows H) (hz : sz ≠ 3 ∨ ∀ k, v ≠ .osl sz b k) (hb : H b = some (.rows 3 [[.isl 4 (T.map Tok.row), .int .i64 (n : Nat), .int .i64 (e : Nat)]])) (hr : r = .ok a n) (hs : Sub (.isl sz rows) (f a)) : Gives (rpost b T e f r) v H := by
  rcases ho with ⟨rfl, rfl⟩ | ⟨c, rfl, hc⟩
  · exact rgives hb hr (fun S w x h => hs _ _ _ (Sub.nsl sz _ _ _ h))
  · have hne : b ≠ c := fun e => by
      subst e
      rcases hz with hz | hz
      · rw [hb] at hc; cases hc; exact hz rfl
      · exact hz _ rfl
    refine Gives.turn (Turn.freeze hc (FSub.osl c sz rows)) (rgives (n := n) ?_ hr hs)
    rw [upd_ne _ _ hne]; exact hb
theorem awpC_rdk {α : Type} {F : Nat → Prop} {ds : List (Option Nat)} {Q : APost} {d : Option Nat} {rest : List Oper} {fr : Fr} {H : Hp} {g : FuncId} {args : List AV} {b : Nat} {T : List Tok} {n e : Nat} {f : α → AV} {a : α}
    (hc : RCon g args b T n e f (.ok a n)) (hb : H b = some (.rows 3 [[.isl 4 (T.map Tok.row), .int .i64 (n : Nat), .int .i64 (e : Nat)]])) (hF : F b) (hok : awpL env F ds Q rest (putF fr d (f a)) H) : awpC env F ds Q d rest fr H g (.ptr 3 b 0 0 :: args) := by
  refine awpC_con hc (SubL.refl _) (rdH_sub hb) (fun x hx => ?_) fun ae H' hr _ => ?_
  · by_cases c : x = b
    · subst c; exact hF
    · rw [rdH, upd_ne _ _ c] at hx; exact absurd rfl hx
  · obtain ⟨rfl, rfl⟩ := hr
    have : hjoin (rdH b T n e) (rdH b T n e) H = H := hjoin_sub (rdH_sub hb)
    simp only [this]
    exact hok
theorem awpC_rd {α : Type} {F : Nat → Prop} {ds : List (Option Nat)} {Q : APost} {d : Option Nat} {rest : List Oper} {fr : Fr} {H : Hp} {g : FuncId} {args : List AV} {b : Nat} {T : List Tok} {n e : Nat} {f : α → AV} {r : PR α}
    (hc : RCon g args b T n e f r) (hb : H b = some (.rows 3 [[.isl 4 (T.map Tok.row), .int .i64 (n : Nat), .int .i64 (e : Nat)]])) (hF : F b) (hbad : ∀ n' H', r = .bad n' → Q (.pan (wrongV (atI T e n'))) frU H')
    (hok : ∀ a n' H2, r = .ok a n' → H2 b = some (.rows 3 [[.isl 4 (T.map Tok.row), .int .i64 (n' : Nat), .int .i64 (e : Nat)]]) → (∀ x o, x ≠ b → H x = some o → H2 x = some o) → awpL env F ds Q rest (putF fr d (f a)) H2) : awpC env F ds Q d rest fr H g (.ptr 3 b 0 0 :: args) := by
  refine awpC_con hc (SubL.refl _) (rdH_sub hb) (fun x hx => ?_) fun ae H' hr _ => ?_
  · by_cases c : x = b
    · subst c; exact hF
    · rw [rdH, upd_ne _ _ c] at hx; exact absurd rfl hx
  · cases r with
    | ok a n' =>
      obtain ⟨rfl, rfl⟩ := hr
      have : hjoin (rdH b T n' e) (rdH b T n e) H = upd H b (some (.rows 3 [[.isl 4 (T.map Tok.row), .int .i64 (n' : Nat), .int .i64 (e : Nat)]])) := by
        funext x
        by_cases c : x = b
        · subst c
          simp only [hjoin, rdH_at, upd_same]
        · simp only [hjoin, rdH, upd_ne _ _ c]
          rfl
      simp only [this]
      exact hok a n' _ rfl (upd_same _ _ _) fun x o hx h => by rw [upd_ne _ _ hx]; exact h
    | bad n' =>
      obtain rfl := hr
      exact hbad n' _ rfl
theorem awpC_rdo {α : Type} {F : Nat → Prop} {ds : List (Option Nat)} {Q : APost} {d : Option Nat} {rest : List Oper} {fr : Fr} {H : Hp} {g : FuncId} {args : List AV} {b : Nat} {T : List Tok} {n n' e : Nat} {f : α → AV} {a : α}
    (hc : RCon g args b T n e f (.ok a n')) (hb : H b = some (.rows 3 [[.isl 4 (T.map Tok.row), .int .i64 (n : Nat), .int .i64 (e : Nat)]])) (hF : F b)
    (hok : ∀ H2, H2 b = some (.rows 3 [[.isl 4 (T.map Tok.row), .int .i64 (n' : Nat), .int .i64 (e : Nat)]]) → (∀ x o, x ≠ b → H x = some o → H2 x = some o) → awpL env F ds Q rest (putF fr d (f a)) H2) : awpC env F ds Q d rest fr H g (.ptr 3 b 0 0 :: args) :=
  awpC_rd hc hb hF (fun _ _ h => by cases h) fun a' n'' H2 h => by cases h; exact hok H2
theorem blk_ne {H : Hp} {b c sz sz' : Nat} {l l' : List (List AV)} (h : H b = some (.rows sz l)) (h' : H c = some (.rows sz' l')) (hs : sz ≠ sz') : b ≠ c := fun e => by subst e; rw [h] at h'; cases h'; exact hs rfl
theorem OwnL.kp {sz sz' : Nat} {v : AV} {rows r : List (List AV)} {H H2 : Hp} {b : Nat} (h : OwnL sz v rows H) (hb : H b = some (.rows sz' r)) (hs : sz' ≠ sz) (hk : ∀ x o, x ≠ b → H x = some o → H2 x = some o) : OwnL sz v rows H2 := by
  rcases h with h | ⟨c, e, hc⟩
  · exact .inl h
  · exact .inr ⟨c, e, hk c _ (fun e => blk_ne hb hc hs e.symm) hc⟩
theorem Sub.of_eq {x y : AV} (h : x = y) : Al.Sub x y := h ▸ Sub.refl x
theorem getT {T : List Tok} {n : Nat} {t : Tok} (h : T[n]? = some t) : (T.map Tok.row)[n]? = some [.int .i64 t.kind, .str t.text, .int .u32 t.num, .int .i64 t.pos] := getRow _ h
theorem peek_get {T : List Tok} {n : Nat} {t : Tok} (h : T[n]? = some t) : peekI T n = if t.kind = 3 ∨ t.kind = 4 then t.text else [] := by rw [peekI, h]
theorem peek_none {T : List Tok} {n : Nat} (h : ¬ n < T.length) : peekI T n = [] := by rw [peekI, List.getElem?_eq_none (by omega)]
theorem fail_con (r0 : Nat) (T : List Tok) (n e : Nat) (hn : n ≤ T.length) {α : Type} (f : α → AV) : RCon 44 [] r0 T n e f (.bad n) := by
  unfold RCon
  generalize hH0 : rdH r0 T n e = H0
  have hr0 : H0 r0 = some (.rows 3 [[.isl 4 (T.map Tok.row), .int .i64 (n : Nat), .int .i64 (e : Nat)]]) := by rw [← hH0]; exact rdH_at _ _ _ _
  clear hH0
  refine con_of 31 [] Tryd.func44 rfl rfl rfl rfl ?_
  refine awp_seq ?_
  refine awp_seq_k fun K hK => ?_
  refine awp_region_draw2 (fun x => x ≠ r0) [(0, 3), (1, 3), (2, 3), (3, 1), (4, 3), (5, 3), (6, 3), (7, 1), (8, 3), (9, 3)] [] draws (by kernel_rfl) rfl rfl ?_
  simp only [emitF, markOf, EM, hr0, List.length_map, RR, seval]
  refine hK _ _ ?_; clear hK K
  refine awp_if _ rfl (fun hc0 => ?_) (fun hc0 => ?_)
  · have hlt : n < T.length := by have := of_decide_eq_true hc0; omega
    have hg := List.getElem?_eq_getElem hlt
    generalize T[n] = t at hg
    have ha : atI T e n = t.pos := by rw [atI, hg]
    have hgt := getT hg
    refine awp_region_draw2 (fun x => x ≠ r0) [(0, 3), (1, 3), (2, 3), (3, 1), (4, 3), (5, 3), (6, 3), (7, 1), (8, 3), (9, 3), (10, 1), (11, 3), (12, 3), (13, 1)] [] draws (by kernel_rfl) rfl rfl ?_
    simp only [emitF, markOf, EM, hr0, List.length_map, hgt, RR, seval]
    simp only [thenQ_pan, bodyQ_pan, rpost, ha]
    rfl
  · have hnlt : ¬ n < T.length := by have := of_decide_eq_false hc0; omega
    have ha : atI T e n = (e : Nat) := by rw [atI, List.getElem?_eq_none (by omega)]
    refine awp_skip ?_; try simp only [RR]
    refine awp_region rfl ?_
    simp only [hr0, List.length_map, RR, seval]
    simp only [thenQ_pan, bodyQ_pan, rpost, ha]
    rfl
theorem peek_con (r0 : Nat) (T : List Tok) (n e : Nat) (hn : n ≤ T.length) : RCon 64 [] r0 T n e (fun s => .str s) (.ok (peekI T n) n) := by
  unfold RCon
  generalize hH0 : rdH r0 T n e = H0
  have hr0 : H0 r0 = some (.rows 3 [[.isl 4 (T.map Tok.row), .int .i64 (n : Nat), .int .i64 (e : Nat)]]) := by rw [← hH0]; exact rdH_at _ _ _ _
  clear hH0
  refine con_of 34 [.tmp 2] Tryd.func64 rfl rfl rfl rfl ?_
  refine awp_seq_k fun K hK => ?_
  refine awp_region rfl ?_
  simp only [List.length_map, RR, seval]
  refine hK _ _ ?_; clear hK K
  refine awp_seq ?_
  refine awp_seq_k fun K hK => ?_
  refine awp_region_draw2 (fun x => x ≠ r0) [(0, 3), (1, 3), (2, 3), (3, 1), (4, 3), (5, 3), (6, 3), (7, 1), (8, 3), (9, 3)] [] draws (by kernel_rfl) rfl rfl ?_
  simp only [emitF, markOf, EM, hr0, List.length_map, RR, seval]
  refine hK _ _ ?_; clear hK K
  refine awp_if _ rfl (fun hc1 => ?_) (fun hc1 => ?_)
  · have hlt : n < T.length := by have := of_decide_eq_true hc1; omega
    have hg := List.getElem?_eq_getElem hlt
    generalize T[n] = t at hg
    have hp := peek_get hg
    have hgt := getT hg
    refine awp_seq_k fun K hK => ?_
    refine awp_region_draw2 (fun x => x ≠ r0) [(0, 3), (1, 3), (2, 3), (3, 0), (4, 3), (5, 3), (6, 3), (7, 0), (8, 3), (9, 0), (10, 1)] [(11, 1)] draws (by kernel_rfl) rfl rfl ?_
    simp only [emitF, markOf, EM, hr0, List.length_map, hgt, RR, seval]
    refine awpN_intro fun b3 hn3 => ?_
    have nb3_r0 : b3 ≠ r0 := fun e => by rw [e] at hn3; simp only [hr0, RR, seval, reduceCtorEq] at hn3
    have nr0_b3 : r0 ≠ b3 := fun e => nb3_r0 e.symm
    simp only [emitF, markOf, EM, hr0, nb3_r0, nr0_b3, List.length_map, hgt, RR, seval]
    refine hK _ _ ?_; clear hK K
    refine awp_seq_k fun K hK => ?_
    refine awp_region rfl ?_
    simp only [hr0, nb3_r0, nr0_b3, List.length_map, hgt, RR, seval]
    repeat' ((first | refine awpG_splitN (fun h => ?_) (fun h => ?_) | refine awpG_split (fun h => ?_) (fun h => ?_)) <;> simp only [h, hr0, nb3_r0, nr0_b3, List.length_map, hgt, RR, seval])
    all_goals
      refine hK _ _ ?_; clear hK K
      refine awp_if _ rfl (fun hc3 => ?_) (fun hc3 => ?_)
      · try (cases hc3; done)
        all_goals
          refine awp_seq_k fun K hK => ?_
          refine awp_region rfl ?_
          simp only [hr0, nb3_r0, nr0_b3, List.length_map, hgt, RR, seval]
          refine hK _ _ ?_; clear hK K
          refine awp_ret ?_; simp only [bodyQ, aresult, ares, List.length_map, hgt, RR, seval]
          refine rgives (n := n) (by first | exact hr0 | (simp only [hr0, nb3_r0, nr0_b3, List.length_map, hgt, upd_app, RR, seval]; done)) rfl ?_
          first | exact Sub.of_eq (by rw [peek_none hnlt]) | exact Sub.of_eq (by rw [hp]; simp_all)
      · try (cases hc3; done)
        all_goals
          refine awp_skip ?_; try simp only [RR]
          refine awp_seq_k fun K hK => ?_
          refine awp_region rfl ?_
          simp only [List.length_map, hgt, RR, seval]
          refine hK _ _ ?_; clear hK K
          refine awp_ret ?_; simp only [bodyQ, aresult, ares, List.length_map, hgt, RR, seval]
          refine rgives (n := n) (by first | exact hr0 | (simp only [hr0, nb3_r0, nr0_b3, List.length_map, hgt, upd_app, RR, seval]; done)) rfl ?_
          first | exact Sub.of_eq (by rw [peek_none hnlt]) | exact Sub.of_eq (by rw [hp]; simp_all)
  · have hnlt : ¬ n < T.length := by have := of_decide_eq_false hc1; omega
    refine awp_skip ?_; try simp only [RR]
    refine awp_seq_k fun K hK => ?_
    refine awp_region rfl ?_
    simp only [List.length_map, RR, seval]
    refine hK _ _ ?_; clear hK K
    refine awp_ret ?_; simp only [bodyQ, aresult, ares, List.length_map, RR, seval]
    refine rgives (n := n) (by first | exact hr0 | (simp only [hr0, List.length_map, upd_app, RR, seval]; done)) rfl ?_
    first | exact Sub.of_eq (by rw [peek_none hnlt]) | exact Sub.of_eq (by rw [hp]; simp_all)
end Go.Proofs.YtlpeikljipknoaaDoor

namespace Go.Proofs.YtlpeikljipknoaaDoor
open Go.Al
theorem kind_con (r0 : Nat) (T : List Tok) (n e : Nat) (hn : n ≤ T.length) : RCon 82 [] r0 T n e (fun s => .int .i64 s) (.ok (kindI T n) n) := by
  unfold RCon
  generalize hH0 : rdH r0 T n e = H0
  have hr0 : H0 r0 = some (.rows 3 [[.isl 4 (T.map Tok.row), .int .i64 (n : Nat), .int .i64 (e : Nat)]]) := by rw [← hH0]; exact rdH_at _ _ _ _
  clear hH0
  refine con_of 24 [.tmp 2] Tryd.func82 rfl rfl rfl rfl ?_
  refine awp_seq_k fun K hK => ?_
  refine awp_region rfl ?_
  simp only [List.length_map, RR, seval]
  refine hK _ _ ?_; clear hK K
  refine awp_seq ?_
  refine awp_seq_k fun K hK => ?_
  refine awp_region_draw2 (fun x => x ≠ r0) [(0, 3), (1, 3), (2, 3), (3, 1), (4, 3), (5, 3), (6, 3), (7, 1), (8, 3), (9, 3)] [] draws (by kernel_rfl) rfl rfl ?_
  simp only [emitF, markOf, EM, hr0, List.length_map, RR, seval]
  refine hK _ _ ?_; clear hK K
  refine awp_if _ rfl (fun hc1 => ?_) (fun hc1 => ?_)
  · have hlt : n < T.length := by have := of_decide_eq_true hc1; omega
    have hg := List.getElem?_eq_getElem hlt
    generalize T[n] = t at hg
    have hgt := getT hg
    refine awp_seq_k fun K hK => ?_
    refine awp_region_draw2 (fun x => x ≠ r0) [(0, 3), (1, 3), (2, 3), (3, 1), (4, 3), (5, 3), (6, 3), (7, 1), (8, 3), (9, 3), (10, 1), (11, 3)] [] draws (by kernel_rfl) rfl rfl ?_
    simp only [emitF, markOf, EM, hr0, List.length_map, hgt, RR, seval]
    refine hK _ _ ?_; clear hK K
    refine awp_ret ?_; simp only [bodyQ, aresult, ares, List.length_map, hgt, RR, seval]
    refine rgives (n := n) (by first | exact hr0 | (simp only [hr0, List.length_map, hgt, upd_app, RR, seval]; done)) rfl ?_
    exact Sub.of_eq (by rw [kindI, hg])
  · have hnlt : ¬ n < T.length := by have := of_decide_eq_false hc1; omega
    refine awp_skip ?_; try simp only [RR]
    refine awp_seq_k fun K hK => ?_
    refine awp_region rfl ?_
    simp only [List.length_map, RR, seval]
    refine hK _ _ ?_; clear hK K
    refine awp_ret ?_; simp only [bodyQ, aresult, ares, List.length_map, RR, seval]
    refine rgives (n := n) (by first | exact hr0 | (simp only [hr0, List.length_map, upd_app, RR, seval]; done)) rfl ?_
    exact Sub.of_eq (by rw [kindI, List.getElem?_eq_none (by omega)])
theorem i64_inc {n : Nat} (h : n ≤ 1000000) : IntKind.wrap .i64 ((n : Int) + 1) = ((n + 1 : Nat) : Int) := by rw [IntWalk.i64_in _ (by omega)]; omega
theorem take_con (r0 : Nat) {T : List Tok} (hT : Sz T) (n e : Nat) (hn : n ≤ T.length) (k : Int) (hk : k ≠ 0) : RCon 47 [.int .i64 k] r0 T n e (fun t => .agg [.int .i64 t.kind, .str t.text, .int .u32 t.num, .int .i64 t.pos]) (takeI T k n) := by
  have hkc := kind_con r0 T n e hn
  unfold RCon
  generalize hres : takeI T k n = res
  generalize hH0 : rdH r0 T n e = H0
  have hr0 : H0 r0 = some (.rows 3 [[.isl 4 (T.map Tok.row), .int .i64 (n : Nat), .int .i64 (e : Nat)]]) := by rw [← hH0]; exact rdH_at _ _ _ _
  clear hH0
  have hlen := hT.len
  refine con_of 30 [.cell 4 47] Tryd.func47 rfl rfl rfl rfl ?_
  refine awp_seq_k fun K hK => ?_
  refine awp_region rfl ?_
  simp only [hr0, List.length_map, RR, seval]
  refine awpN_intro fun b4 hn4 => ?_
  have nb4_r0 : b4 ≠ r0 := fun e => by rw [e] at hn4; simp only [hr0, RR, seval, reduceCtorEq] at hn4
  have nr0_b4 : r0 ≠ b4 := fun e => nb4_r0 e.symm
  simp only [hr0, nb4_r0, nr0_b4, List.length_map, RR, seval]
  refine hK _ _ ?_; clear hK K
  refine awp_seq ?_
  refine awp_seq_k fun K hK => ?_
  refine awp_region rfl ?_
  simp only [hr0, nb4_r0, nr0_b4, List.length_map, RR, seval]
  refine awpC_rdk (hkc) (by first | exact hr0 | (simp only [hr0, nb4_r0, nr0_b4, List.length_map, upd_app, RR, seval]; done)) trivial ?_
  simp only [hr0, nb4_r0, nr0_b4, List.length_map, RR, seval]
  refine hK _ _ ?_; clear hK K
  refine awp_if _ rfl (fun hc1 => ?_) (fun hc1 => ?_)
  · have hb : takeI T k n = .bad n := by
      have hne : ¬ kindI T n = k := by simpa using hc1
      rw [takeI]
      cases hg : T[n]? with
      | none => rfl
      | some t =>
        rw [kindI, hg] at hne
        exact if_neg hne
    rw [hb] at hres
    refine awp_region rfl ?_
    simp only [hr0, nb4_r0, nr0_b4, List.length_map, RR, seval]
    refine awpC_rd (fail_con r0 T n e hn (fun _ : Unit => .tup [])) (by first | exact hr0 | (simp only [hr0, nb4_r0, nr0_b4, List.length_map, upd_app, RR, seval]; done)) trivial ?_ (fun a n' _ hk => by cases hk)
    intro n1 H1 hbd
    cases hbd
    subst hres
    simp only [thenQ_pan, blockQ_pan, bodyQ_pan, rpost]
  · have hke : kindI T n = k := by simpa using hc1
    have hlt := kind_lt hke hk
    have hg := List.getElem?_eq_getElem hlt
    generalize T[n] = t at hg
    have hgt := getT hg
    have hok : takeI T k n = .ok t (n + 1) := by
      rw [takeI, hg]
      rw [kindI, hg] at hke
      exact if_pos hke
    rw [hok] at hres
    have hw := i64_inc (n := n) (by omega)
    have hli : (n : Int) < (T.length : Int) := by omega
    refine awp_skip ?_; try simp only [RR]
    refine awp_seq_k fun K hK => ?_
    refine awp_region_draw2 (fun x => x ≠ r0 ∧ x ≠ b4) [(0, 3), (1, 3), (2, 3), (3, 0), (4, 3), (5, 3), (6, 3), (7, 0), (8, 3), (9, 0), (10, 1)] [(11, 1)] draws (by kernel_rfl) rfl rfl ?_
    simp only [emitF, markOf, EM, hr0, nb4_r0, nr0_b4, List.length_map, hgt, hw, hli, RR, seval]
    refine awpN_intro fun b5 hn5 => ?_
    have nb5_r0 : b5 ≠ r0 := fun e => by rw [e] at hn5; simp only [hr0, nb4_r0, nr0_b4, RR, seval, reduceCtorEq] at hn5
    have nr0_b5 : r0 ≠ b5 := fun e => nb5_r0 e.symm
    have nb5_b4 : b5 ≠ b4 := fun e => by rw [e] at hn5; simp only [nb4_r0, nr0_b4, RR, seval, reduceCtorEq] at hn5
    have nb4_b5 : b4 ≠ b5 := fun e => nb5_b4 e.symm
    simp only [emitF, markOf, EM, hr0, nb4_r0, nr0_b4, nb5_r0, nr0_b5, nb5_b4, nb4_b5, List.length_map, hgt, hw, hli, RR, seval]
    refine hK _ _ ?_; clear hK K
    refine awp_seq_k fun K hK => ?_
    refine awp_region rfl ?_
    simp only [hr0, nb4_r0, nr0_b4, nb5_r0, nr0_b5, nb5_b4, nb4_b5, List.length_map, hgt, hw, hli, RR, seval]
    refine hK _ _ ?_; clear hK K
    refine awp_seq_k fun K hK => ?_
    refine awp_region rfl ?_
    simp only [hr0, nb4_r0, nr0_b4, nb5_r0, nr0_b5, nb5_b4, nb4_b5, List.length_map, hgt, hw, hli, RR, seval]
    refine hK _ _ ?_; clear hK K
    refine awp_ret ?_; simp only [bodyQ, aresult, ares, hr0, nb4_r0, nr0_b4, nb5_r0, nr0_b5, nb5_b4, nb4_b5, List.length_map, hgt, hw, hli, RR, seval]
    refine rgives (n := n + 1) (by first | exact hr0 | (simp only [hr0, nb4_r0, nr0_b4, nb5_r0, nr0_b5, nb5_b4, nb4_b5, List.length_map, hgt, hw, hli, upd_app, RR, seval]; done)) hres.symm ?_
    exact Sub.of_eq rfl
theorem may_con (r0 : Nat) {T : List Tok} (hT : Sz T) (n e : Nat) (hn : n ≤ T.length) (s : Str) (hs : s ≠ []) : RCon 45 [.str s] r0 T n e (fun t => .bool t) (.ok (decide (peekI T n = s)) (if peekI T n = s then n + 1 else n)) := by
  have hkc := peek_con r0 T n e hn
  unfold RCon
  generalize hres : (PR.ok (decide (peekI T n = s)) (if peekI T n = s then n + 1 else n) : PR Bool) = res
  generalize hH0 : rdH r0 T n e = H0
  have hr0 : H0 r0 = some (.rows 3 [[.isl 4 (T.map Tok.row), .int .i64 (n : Nat), .int .i64 (e : Nat)]]) := by rw [← hH0]; exact rdH_at _ _ _ _
  clear hH0
  have hlen := hT.len
  refine con_of 16 [.tmp 4] Tryd.func45 rfl rfl rfl rfl ?_
  refine awp_seq_k fun K hK => ?_
  refine awp_region rfl ?_
  simp only [List.length_map, RR, seval]
  refine hK _ _ ?_; clear hK K
  refine awp_seq ?_
  refine awp_seq_k fun K hK => ?_
  refine awp_region rfl ?_
  simp only [hr0, List.length_map, RR, seval]
  refine awpC_rdk (hkc) (by first | exact hr0 | (simp only [hr0, List.length_map, upd_app, RR, seval]; done)) trivial ?_
  simp only [hr0, List.length_map, RR, seval]
  refine hK _ _ ?_; clear hK K
  refine awp_if _ rfl (fun hc1 => ?_) (fun hc1 => ?_)
  · have hne : ¬ peekI T n = s := by simpa using hc1
    rw [if_neg hne, decide_eq_false hne] at hres
    refine awp_seq_k fun K hK => ?_
    refine awp_region rfl ?_
    simp only [List.length_map, RR, seval]
    refine hK _ _ ?_; clear hK K
    refine awp_ret ?_; simp only [bodyQ, aresult, ares, List.length_map, RR, seval]
    exact rgives (n := n) (by first | exact hr0 | (simp only [hr0, List.length_map, upd_app, RR, seval]; done)) hres.symm (Sub.of_eq rfl)
  · have hne : peekI T n = s := by simpa using hc1
    rw [if_pos hne, decide_eq_true hne] at hres
    have hlt := peek_lt hne hs
    have hw := i64_inc (n := n) (by omega)
    refine awp_skip ?_; try simp only [RR]
    refine awp_seq_k fun K hK => ?_
    refine awp_region rfl ?_
    simp only [hr0, List.length_map, hw, RR, seval]
    refine hK _ _ ?_; clear hK K
    refine awp_seq_k fun K hK => ?_
    refine awp_region rfl ?_
    simp only [List.length_map, hw, RR, seval]
    refine hK _ _ ?_; clear hK K
    refine awp_ret ?_; simp only [bodyQ, aresult, ares, List.length_map, hw, RR, seval]
    refine rgives (n := n + 1) (by first | exact hr0 | (simp only [hr0, List.length_map, hw, upd_app, RR, seval]; done)) hres.symm ?_
    exact Sub.of_eq rfl
theorem must_con (r0 : Nat) {T : List Tok} (hT : Sz T) (n e : Nat) (hn : n ≤ T.length) (s : Str) (hs : s ≠ []) : RCon 48 [.isl 1 [[.str s]]] r0 T n e (fun _ => .tup []) (mustI T s n) := by
  have hkc := peek_con r0 T n e hn
  unfold RCon
  generalize hres : mustI T s n = res
  generalize hH0 : rdH r0 T n e = H0
  have hr0 : H0 r0 = some (.rows 3 [[.isl 4 (T.map Tok.row), .int .i64 (n : Nat), .int .i64 (e : Nat)]]) := by rw [← hH0]; exact rdH_at _ _ _ _
  clear hH0
  have hlen := hT.len
  unfold mustI at hres
  refine con_of 26 [] Tryd.func48 rfl rfl rfl rfl ?_
  refine awp_seq_k fun K hK => ?_
  refine awp_region rfl ?_
  simp only [hr0, List.length_map, RR, seval]
  refine hK _ _ ?_; clear hK K
  refine awp_name fun F1 M1 hfr hH => ?_
  have g0 := hfr 0
  have g6 := hfr 6
  have g7 := hfr 7
  have g8 := hfr 8
  have gr0 := hH r0
  try simp only [hr0, List.length_map, RR, seval] at g0 g6 g7 g8 gr0
  have f0 := g0; clear g0
  have f6 := g6; clear g6
  have f7 := g7; clear g7
  have f8 := g8; clear g8
  have hr0 := gr0; clear gr0
  clear hfr hH
  refine awp_block ?_
  refine awp_each [0, 6, 7] (1) (fun k fr M => fr 8 = .int .i64 (k : Nat) ∧ ((k = 0 ∧ M r0 = some (.rows 3 [[.isl 4 (T.map Tok.row), .int .i64 (n : Nat), .int .i64 (e : Nat)]])) ∨ (k = 1 ∧ res = .ok () (n + 1) ∧ M r0 = some (.rows 3 [[.isl 4 (T.map Tok.row), .int .i64 ((n + 1 : Nat) : Int), .int .i64 (e : Nat)]])))) ⟨f8, (.inl ⟨rfl, hr0⟩)⟩ ?_
  rintro k F2 M2 hk0 ⟨fx, hI⟩ agx K0 hK0
  have f0 := (agx 0 rfl).trans f0
  have f6 := (agx 6 rfl).trans f6
  have f7 := (agx 7 rfl).trans f7
  have f8 := fx; clear fx
  have ag0 := agree.refl [0, 6, 7] F2
  clear agx
  refine awp_seq_k fun K hK => ?_
  refine awp_region rfl ?_
  simp only [f7, f8, List.length_map, RR, seval]
  refine hK _ _ ?_; clear hK K
  refine awp_seq ?_
  refine awp_if _ rfl (fun hc => ?_) (fun hc => ?_)
  · have hlt0 : k < 1 := by have := of_decide_eq_true hc; omega
    clear hc
    obtain ⟨rfl, hr0⟩ : k = 0 ∧ _ := by rcases hI with h | h; exact h; omega
    refine awp_skip ?_; try simp only [RR]
    refine awp_seq ?_
    refine awp_block ?_
    refine awp_seq_k fun K hK => ?_
    refine awp_region rfl ?_
    simp only [f6, f8, hr0, List.length_map, RR, seval]
    refine hK _ _ ?_; clear hK K
    refine awp_seq ?_
    refine awp_seq_k fun K hK => ?_
    refine awp_region rfl ?_
    simp only [f0, hr0, List.length_map, RR, seval]
    refine awpC_rdk (hkc) (by first | exact hr0 | (simp only [f0, f6, f7, f8, hr0, List.length_map, upd_app, RR, seval]; done)) trivial ?_
    simp only [f0, hr0, List.length_map, RR, seval]
    refine hK _ _ ?_; clear hK K
    refine awp_if _ rfl (fun hc3 => ?_) (fun hc3 => ?_)
    · have hne : ¬ peekI T n = s := by simpa using hc3
      rw [if_neg hne] at hres
      refine awp_region rfl ?_
      simp only [f0, hr0, List.length_map, RR, seval]
      refine awpC_rd (fail_con r0 T n e hn (fun _ : Unit => .tup [])) (by first | exact hr0 | (simp only [f0, f6, f7, f8, hr0, List.length_map, upd_app, RR, seval]; done)) trivial ?_ (fun a n' _ hk => by cases hk)
      intro n1 H1 hbd
      cases hbd
      subst hres
      simp only [thenQ_pan, blockQ_pan, bodyQ_pan, rpost]
    · have hne : peekI T n = s := by simpa using hc3
      rw [if_pos hne] at hres
      have hlt := peek_lt hne hs
      have hw := i64_inc (n := n) (by omega)
      refine awp_skip ?_; try simp only [RR]
      refine awp_region rfl ?_
      simp only [f0, hr0, List.length_map, hw, RR, seval]
      refine awp_region rfl ?_
      simp only [f8, List.length_map, hw, RR, seval]
      try rw [IntWalk.i64_in _ (by omega)]
      refine hK0 _ _ hlt0 ⟨by first | rfl | (simp only [upd_app, seval]; rfl), (.inr ⟨rfl, hres.symm, by first | exact hr0 | (simp only [f0, f6, f7, f8, hr0, List.length_map, hw, upd_app, RR, seval]; done)⟩)⟩ (by repeat (first | exact ag0 | refine agree.upd rfl ?_))
  · have hkn0 : k = 1 := by have := of_decide_eq_false hc; omega
    clear hc
    obtain ⟨_, hre, hr0⟩ : k = 1 ∧ _ := by rcases hI with h | h; omega; exact h
    refine awp_exit ?_; simp only [RR, seval]
    try simp only [bodyQ, aresult, ares, f0, f6, f7, f8, List.length_map, RR, seval]
    exact rgives (n := n + 1) hr0 hre (Sub.refl _)
end Go.Proofs.YtlpeikljipknoaaDoor

namespace Go.Proofs.YtlpeikljipknoaaDoor
open Go.Al
theorem bind2 {α β γ : Type} (x : PR α) (f : α → Nat → PR β) (g : β → Nat → PR γ) : (x.bind fun a m => (f a m).bind g) = (x.bind f).bind g := by cases x <;> rfl
def mustL (T : List Tok) : List Str → Nat → PR Unit
  | [], n => .ok () n
  | s :: l, n => (mustI T s n).bind fun _ m => mustL T l m
theorem mustL_con (r0 : Nat) {T : List Tok} (hT : Sz T) (n e : Nat) (hn : n ≤ T.length) (ts : List Str) (hts : ∀ s ∈ ts, s ≠ []) (hl : ts.length ≤ 1000) : RCon 48 [.isl 1 (ts.map strRow)] r0 T n e (fun _ => .tup []) (mustL T ts n) := by
  unfold RCon
  generalize hres : mustL T ts n = res
  generalize hH0 : rdH r0 T n e = H0
  have hr0 : H0 r0 = some (.rows 3 [[.isl 4 (T.map Tok.row), .int .i64 (n : Nat), .int .i64 (e : Nat)]]) := by rw [← hH0]; exact rdH_at _ _ _ _
  clear hH0
  have hlen := hT.len
  refine con_of 26 [] Tryd.func48 rfl rfl rfl rfl ?_
  refine awp_seq_k fun K hK => ?_
  refine awp_region rfl ?_
  simp only [hr0, List.length_map, RR, seval]
  refine hK _ _ ?_; clear hK K
  refine awp_name fun F1 M1 hfr hH => ?_
  have g0 := hfr 0
  have g6 := hfr 6
  have g7 := hfr 7
  have g8 := hfr 8
  have gr0 := hH r0
  try simp only [hr0, List.length_map, RR, seval] at g0 g6 g7 g8 gr0
  have f0 := g0; clear g0
  have f6 := g6; clear g6
  have f7 := g7; clear g7
  have f8 := g8; clear g8
  have hr0 := gr0; clear gr0
  clear hfr hH
  refine awp_block ?_
  refine awp_each [0, 6, 7] (ts.length) (fun k fr M => fr 8 = .int .i64 (k : Nat) ∧ (∃ m : Nat, m ≤ T.length ∧ mustL T (ts.drop k) m = res ∧ M r0 = some (.rows 3 [[.isl 4 (T.map Tok.row), .int .i64 (m : Nat), .int .i64 (e : Nat)]]))) ⟨f8, ⟨n, hn, hres, hr0⟩⟩ ?_
  rintro k F2 M2 hk0 ⟨fx, m, hm, hres, hr0⟩ agx K0 hK0
  have f0 := (agx 0 rfl).trans f0
  have f6 := (agx 6 rfl).trans f6
  have f7 := (agx 7 rfl).trans f7
  have f8 := fx; clear fx
  have ag0 := agree.refl [0, 6, 7] F2
  clear agx
  refine awp_seq_k fun K hK => ?_
  refine awp_region rfl ?_
  simp only [f7, f8, List.length_map, RR, seval]
  refine hK _ _ ?_; clear hK K
  refine awp_seq ?_
  refine awp_if _ rfl (fun hc => ?_) (fun hc => ?_)
  · have hlt0 : k < ts.length := by have := of_decide_eq_true hc; omega
    clear hc
    have hg := getN (List.getElem?_eq_getElem hlt0)
    have hs := hts _ (List.getElem_mem hlt0)
    rw [List.drop_eq_getElem_cons hlt0, mustL] at hres
    generalize ts[k] = s at hg hs hres
    unfold mustI at hres
    have hkc := peek_con r0 T m e hm
    refine awp_skip ?_; try simp only [RR]
    refine awp_seq ?_
    refine awp_block ?_
    refine awp_seq_k fun K hK => ?_
    refine awp_region rfl ?_
    simp only [f6, f8, hr0, List.length_map, hg, RR, seval]
    refine hK _ _ ?_; clear hK K
    refine awp_seq ?_
    refine awp_seq_k fun K hK => ?_
    refine awp_region rfl ?_
    simp only [f0, hr0, List.length_map, hg, RR, seval]
    refine awpC_rdk (hkc) (by first | exact hr0 | (simp only [f0, f6, f7, f8, hr0, List.length_map, hg, upd_app, RR, seval]; done)) trivial ?_
    simp only [f0, hr0, List.length_map, hg, RR, seval]
    refine hK _ _ ?_; clear hK K
    refine awp_if _ rfl (fun hc3 => ?_) (fun hc3 => ?_)
    · have hne : ¬ peekI T m = s := by simpa using hc3
      rw [if_neg hne, PR.bind_bad] at hres
      refine awp_region rfl ?_
      simp only [f0, hr0, List.length_map, hg, RR, seval]
      refine awpC_rd (fail_con r0 T m e hm (fun _ : Unit => .tup [])) (by first | exact hr0 | (simp only [f0, f6, f7, f8, hr0, List.length_map, hg, upd_app, RR, seval]; done)) trivial ?_ (fun a n' _ hk => by cases hk)
      intro n1 H1 hbd
      cases hbd
      subst hres
      simp only [thenQ_pan, blockQ_pan, bodyQ_pan, rpost]
    · have hne : peekI T m = s := by simpa using hc3
      rw [if_pos hne, PR.bind_ok] at hres
      have hlt := peek_lt hne hs
      have hw := i64_inc (n := m) (by omega)
      refine awp_skip ?_; try simp only [RR]
      refine awp_region rfl ?_
      simp only [f0, hr0, List.length_map, hg, hw, RR, seval]
      refine awp_region rfl ?_
      simp only [f8, List.length_map, hg, hw, RR, seval]
      try rw [IntWalk.i64_in _ (by omega)]
      refine hK0 _ _ hlt0 ⟨by first | rfl | (simp only [upd_app, seval]; rfl), ⟨m + 1, by omega, hres, by first | exact hr0 | (simp only [f0, f6, f7, f8, hr0, List.length_map, hg, hw, upd_app, RR, seval]; done)⟩⟩ (by repeat (first | exact ag0 | refine agree.upd rfl ?_))
  · have hkn0 : k = ts.length := by have := of_decide_eq_false hc; omega
    clear hc
    rw [hkn0, List.drop_length, mustL] at hres
    refine awp_exit ?_; simp only [RR, seval]
    try simp only [bodyQ, aresult, ares, f0, f6, f7, f8, hr0, List.length_map, RR, seval]
    exact rgives (n := m) hr0 hres.symm (Sub.refl _)
theorem must2_con (r0 : Nat) {T : List Tok} (hT : Sz T) (n e : Nat) (hn : n ≤ T.length) (s t : Str) (hs : s ≠ []) (ht : t ≠ []) : RCon 48 [.isl 1 [[.str s], [.str t]]] r0 T n e (fun _ => .tup []) ((mustI T s n).bind fun _ m => mustI T t m) := by
  have h := mustL_con r0 hT n e hn [s, t] (fun x hx => by simp only [List.mem_cons, List.not_mem_nil, or_false] at hx; rcases hx with rfl | rfl <;> assumption) (by simp)
  have e : mustL T [s, t] n = (mustI T s n).bind fun _ m => mustI T t m := by
    rw [mustL]
    refine PR.bind_congr rfl fun _ m _ => ?_
    rw [mustL]
    cases mustI T t m with
    | ok a k => rfl
    | bad k => rfl
  rw [e] at h
  exact h
theorem op_con (k : Int) : PCon env 93 [.int .i64 k] (.agg [.int .i64 6, .int .i64 k, .int .u32 0, .str [], .nsl]) := by
  refine con_of 5 [.cell 2 36] Tryd.func93 rfl rfl rfl rfl ?_
  refine awp_seq_k fun K hK => ?_
  refine awp_region rfl ?_
  simp only [RR, seval]
  refine awpN_intro fun b2 hn2 => ?_
  simp only [RR, seval]
  refine hK _ _ ?_; clear hK K
  refine awp_seq_k fun K hK => ?_
  refine awp_region rfl ?_
  simp only [RR, seval]
  refine hK _ _ ?_; clear hK K
  refine awp_ret ?_; simp only [bodyQ, aresult, ares, RR, seval]
  refine Gives.pure ?_
  rfl
set_option maxHeartbeats 4000000 in
theorem sign_con (s : Str) : PCon env 63 [.str s] (.tup [.agg [.int .i64 (sgI s).1, .int .i64 (sgI s).2.1, .int .u32 0, .str [], .nsl], .int .i64 ((sgI s).2.2 : Nat)]) := by
  generalize hr : sgI s = r
  unfold sgI sgL at hr
  simp only [selI] at hr
  refine con_of 61 [.cell 2 36, .tmp 3] Tryd.func63 rfl rfl rfl rfl ?_
  refine awp_seq_k fun K hK => ?_
  refine awp_region rfl ?_
  simp only [RR, seval]
  refine awpN_intro fun b2 hn2 => ?_
  simp only [RR, seval]
  refine hK _ _ ?_; clear hK K
  refine awp_seq_k fun K hK => ?_
  refine awp_region rfl ?_
  simp only [RR, seval]
  refine hK _ _ ?_; clear hK K
  refine awp_seq ?_
  refine awp_seq_k fun K hK => ?_
  refine awp_region rfl ?_
  simp only [RR, seval]
  refine hK _ _ ?_; clear hK K
  refine awp_block ?_
  refine awp_seq_k fun K hK => ?_
  refine awp_region rfl ?_
  simp only [RR, seval]
  refine hK _ _ ?_; clear hK K
  refine awp_if _ rfl (fun hc3 => ?_) (fun hc3 => ?_)
  · rw [if_pos (of_decide_eq_true hc3)] at hr
    refine awp_seq_k fun K hK => ?_
    refine awp_region rfl ?_
    simp only [RR, seval]
    refine hK _ _ ?_; clear hK K
    refine awp_ret ?_; simp only [bodyQ, aresult, ares, RR, seval]
    refine Gives.pure ?_
    subst hr; rfl
  · rw [if_neg (of_decide_eq_false hc3)] at hr
    refine awp_seq_k fun K hK => ?_
    refine awp_region rfl ?_
    simp only [RR, seval]
    refine hK _ _ ?_; clear hK K
    refine awp_if _ rfl (fun hc5 => ?_) (fun hc5 => ?_)
    · rw [if_pos (of_decide_eq_true hc5)] at hr
      refine awp_seq_k fun K hK => ?_
      refine awp_region rfl ?_
      simp only [RR, seval]
      refine hK _ _ ?_; clear hK K
      refine awp_ret ?_; simp only [bodyQ, aresult, ares, RR, seval]
      refine Gives.pure ?_
      subst hr; rfl
    · rw [if_neg (of_decide_eq_false hc5)] at hr
      refine awp_seq_k fun K hK => ?_
      refine awp_region rfl ?_
      simp only [RR, seval]
      refine hK _ _ ?_; clear hK K
      refine awp_if _ rfl (fun hc7 => ?_) (fun hc7 => ?_)
      · rw [if_pos (of_decide_eq_true hc7)] at hr
        refine awp_seq_k fun K hK => ?_
        refine awp_region rfl ?_
        simp only [RR, seval]
        refine awpC_pure' (op_con 15) ?_
        simp only [RR, seval]
        refine hK _ _ ?_; clear hK K
        refine awp_ret ?_; simp only [bodyQ, aresult, ares, RR, seval]
        refine Gives.pure ?_
        subst hr; rfl
      · rw [if_neg (of_decide_eq_false hc7)] at hr
        refine awp_seq_k fun K hK => ?_
        refine awp_region rfl ?_
        simp only [RR, seval]
        refine hK _ _ ?_; clear hK K
        refine awp_if _ rfl (fun hc9 => ?_) (fun hc9 => ?_)
        · rw [if_pos (of_decide_eq_true hc9)] at hr
          refine awp_seq_k fun K hK => ?_
          refine awp_region rfl ?_
          simp only [RR, seval]
          refine awpC_pure' (op_con 14) ?_
          simp only [RR, seval]
          refine hK _ _ ?_; clear hK K
          refine awp_ret ?_; simp only [bodyQ, aresult, ares, RR, seval]
          refine Gives.pure ?_
          subst hr; rfl
        · rw [if_neg (of_decide_eq_false hc9)] at hr
          refine awp_seq_k fun K hK => ?_
          refine awp_region rfl ?_
          simp only [RR, seval]
          refine hK _ _ ?_; clear hK K
          refine awp_if _ rfl (fun hc11 => ?_) (fun hc11 => ?_)
          · rw [if_pos (of_decide_eq_true hc11)] at hr
            refine awp_seq_k fun K hK => ?_
            refine awp_region rfl ?_
            simp only [RR, seval]
            refine awpC_pure' (op_con 10) ?_
            simp only [RR, seval]
            refine hK _ _ ?_; clear hK K
            refine awp_ret ?_; simp only [bodyQ, aresult, ares, RR, seval]
            refine Gives.pure ?_
            subst hr; rfl
          · rw [if_neg (of_decide_eq_false hc11)] at hr
            refine awp_seq_k fun K hK => ?_
            refine awp_region rfl ?_
            simp only [RR, seval]
            refine hK _ _ ?_; clear hK K
            refine awp_if _ rfl (fun hc13 => ?_) (fun hc13 => ?_)
            · rw [if_pos (of_decide_eq_true hc13)] at hr
              refine awp_seq_k fun K hK => ?_
              refine awp_region rfl ?_
              simp only [RR, seval]
              refine awpC_pure' (op_con 11) ?_
              simp only [RR, seval]
              refine hK _ _ ?_; clear hK K
              refine awp_ret ?_; simp only [bodyQ, aresult, ares, RR, seval]
              refine Gives.pure ?_
              subst hr; rfl
            · rw [if_neg (of_decide_eq_false hc13)] at hr
              refine awp_seq_k fun K hK => ?_
              refine awp_region rfl ?_
              simp only [RR, seval]
              refine hK _ _ ?_; clear hK K
              refine awp_if _ rfl (fun hc15 => ?_) (fun hc15 => ?_)
              · rw [if_pos (of_decide_eq_true hc15)] at hr
                refine awp_seq_k fun K hK => ?_
                refine awp_region rfl ?_
                simp only [RR, seval]
                refine awpC_pure' (op_con 9) ?_
                simp only [RR, seval]
                refine hK _ _ ?_; clear hK K
                refine awp_ret ?_; simp only [bodyQ, aresult, ares, RR, seval]
                refine Gives.pure ?_
                subst hr; rfl
              · rw [if_neg (of_decide_eq_false hc15)] at hr
                refine awp_seq_k fun K hK => ?_
                refine awp_region rfl ?_
                simp only [RR, seval]
                refine hK _ _ ?_; clear hK K
                refine awp_if _ rfl (fun hc17 => ?_) (fun hc17 => ?_)
                · rw [if_pos (of_decide_eq_true hc17)] at hr
                  refine awp_seq_k fun K hK => ?_
                  refine awp_region rfl ?_
                  simp only [RR, seval]
                  refine awpC_pure' (op_con 12) ?_
                  simp only [RR, seval]
                  refine hK _ _ ?_; clear hK K
                  refine awp_ret ?_; simp only [bodyQ, aresult, ares, RR, seval]
                  refine Gives.pure ?_
                  subst hr; rfl
                · rw [if_neg (of_decide_eq_false hc17)] at hr
                  refine awp_seq_k fun K hK => ?_
                  refine awp_region rfl ?_
                  simp only [RR, seval]
                  refine hK _ _ ?_; clear hK K
                  refine awp_if _ rfl (fun hc19 => ?_) (fun hc19 => ?_)
                  · rw [if_pos (of_decide_eq_true hc19)] at hr
                    refine awp_seq_k fun K hK => ?_
                    refine awp_region rfl ?_
                    simp only [RR, seval]
                    refine awpC_pure' (op_con 13) ?_
                    simp only [RR, seval]
                    refine hK _ _ ?_; clear hK K
                    refine awp_ret ?_; simp only [bodyQ, aresult, ares, RR, seval]
                    refine Gives.pure ?_
                    subst hr; rfl
                  · rw [if_neg (of_decide_eq_false hc19)] at hr
                    refine awp_seq_k fun K hK => ?_
                    refine awp_region rfl ?_
                    simp only [RR, seval]
                    refine hK _ _ ?_; clear hK K
                    refine awp_if _ rfl (fun hc21 => ?_) (fun hc21 => ?_)
                    · rw [if_pos (of_decide_eq_true hc21)] at hr
                      refine awp_seq_k fun K hK => ?_
                      refine awp_region rfl ?_
                      simp only [RR, seval]
                      refine awpC_pure' (op_con 4) ?_
                      simp only [RR, seval]
                      refine hK _ _ ?_; clear hK K
                      refine awp_ret ?_; simp only [bodyQ, aresult, ares, RR, seval]
                      refine Gives.pure ?_
                      subst hr; rfl
                    · rw [if_neg (of_decide_eq_false hc21)] at hr
                      refine awp_seq_k fun K hK => ?_
                      refine awp_region rfl ?_
                      simp only [RR, seval]
                      refine hK _ _ ?_; clear hK K
                      refine awp_if _ rfl (fun hc23 => ?_) (fun hc23 => ?_)
                      · rw [if_pos (of_decide_eq_true hc23)] at hr
                        refine awp_seq_k fun K hK => ?_
                        refine awp_region rfl ?_
                        simp only [RR, seval]
                        refine awpC_pure' (op_con 5) ?_
                        simp only [RR, seval]
                        refine hK _ _ ?_; clear hK K
                        refine awp_ret ?_; simp only [bodyQ, aresult, ares, RR, seval]
                        refine Gives.pure ?_
                        subst hr; rfl
                      · rw [if_neg (of_decide_eq_false hc23)] at hr
                        refine awp_seq_k fun K hK => ?_
                        refine awp_region rfl ?_
                        simp only [RR, seval]
                        refine hK _ _ ?_; clear hK K
                        refine awp_if _ rfl (fun hc25 => ?_) (fun hc25 => ?_)
                        · rw [if_pos (of_decide_eq_true hc25)] at hr
                          refine awp_seq_k fun K hK => ?_
                          refine awp_region rfl ?_
                          simp only [RR, seval]
                          refine awpC_pure' (op_con 6) ?_
                          simp only [RR, seval]
                          refine hK _ _ ?_; clear hK K
                          refine awp_ret ?_; simp only [bodyQ, aresult, ares, RR, seval]
                          refine Gives.pure ?_
                          subst hr; rfl
                        · rw [if_neg (of_decide_eq_false hc25)] at hr
                          refine awp_seq_k fun K hK => ?_
                          refine awp_region rfl ?_
                          simp only [RR, seval]
                          refine hK _ _ ?_; clear hK K
                          refine awp_if _ rfl (fun hc27 => ?_) (fun hc27 => ?_)
                          · rw [if_pos (of_decide_eq_true hc27)] at hr
                            refine awp_seq_k fun K hK => ?_
                            refine awp_region rfl ?_
                            simp only [RR, seval]
                            refine awpC_pure' (op_con 7) ?_
                            simp only [RR, seval]
                            refine hK _ _ ?_; clear hK K
                            refine awp_ret ?_; simp only [bodyQ, aresult, ares, RR, seval]
                            refine Gives.pure ?_
                            subst hr; rfl
                          · rw [if_neg (of_decide_eq_false hc27)] at hr
                            refine awp_seq_k fun K hK => ?_
                            refine awp_region rfl ?_
                            simp only [RR, seval]
                            refine hK _ _ ?_; clear hK K
                            refine awp_if _ rfl (fun hc29 => ?_) (fun hc29 => ?_)
                            · rw [if_pos (of_decide_eq_true hc29)] at hr
                              refine awp_seq_k fun K hK => ?_
                              refine awp_region rfl ?_
                              simp only [RR, seval]
                              refine awpC_pure' (op_con 8) ?_
                              simp only [RR, seval]
                              refine hK _ _ ?_; clear hK K
                              refine awp_ret ?_; simp only [bodyQ, aresult, ares, RR, seval]
                              refine Gives.pure ?_
                              subst hr; rfl
                            · rw [if_neg (of_decide_eq_false hc29)] at hr
                              refine awp_skip ?_; try simp only [RR]
                              refine awp_seq_k fun K hK => ?_
                              refine awp_region rfl ?_
                              simp only [RR, seval]
                              refine hK _ _ ?_; clear hK K
                              refine awp_ret ?_; simp only [bodyQ, aresult, ares, RR, seval]
                              refine Gives.pure ?_
                              subst hr; rfl
theorem names_con (r0 : Nat) {T : List Tok} (hT : Sz T) (n e : Nat) (hn : n ≤ T.length) : RCon 46 [] r0 T n e strs (namesP T n) := by
  unfold RCon
  generalize hres : namesP T n = res
  generalize hH0 : rdH r0 T n e = H0
  have hr0 : H0 r0 = some (.rows 3 [[.isl 4 (T.map Tok.row), .int .i64 (n : Nat), .int .i64 (e : Nat)]]) := by rw [← hH0]; exact rdH_at _ _ _ _
  clear hH0
  have hlen := hT.len
  unfold namesP at hres
  refine con_of 17 [.tmp 2] Tryd.func46 rfl rfl rfl rfl ?_
  refine awp_seq_k fun K hK => ?_
  refine awp_region rfl ?_
  simp only [List.length_map, RR, seval]
  refine hK _ _ ?_; clear hK K
  refine awp_seq_k fun K hK => ?_
  refine awp_region rfl ?_
  simp only [hr0, List.length_map, RR, seval]
  refine awpC_rd (take_con r0 hT n e hn 1 (by decide)) (by first | exact hr0 | (simp only [hr0, List.length_map, upd_app, RR, seval]; done)) trivial ?_ ?_
  · intro n5x H5x hbd
    simp only [hbd, PR.bind_bad] at hres
    subst hres
    simp only [thenQ_pan, blockQ_pan, bodyQ_pan, rpost]
  intro a5 m5 M1 ho5 hn5x hk5x
  simp only [ho5, PR.bind_ok] at hres
  have hr0 := hn5x; clear hn5x hk5x
  simp only [hr0, List.length_map, RR, seval]
  refine awpB_own fun b7 hn7 => ?_
  have nb7_r0 : b7 ≠ r0 := fun e => by rw [e] at hn7; simp only [hr0, RR, seval, reduceCtorEq] at hn7
  have nr0_b7 : r0 ≠ b7 := fun e => nb7_r0 e.symm
  simp only [hr0, nb7_r0, nr0_b7, List.length_map, RR, seval]
  refine hK _ _ ?_; clear hK K
  have hm5 := take_ok ho5
  refine awp_seq ?_
  refine awp_name fun F2 M2 hfr hH => ?_
  have g0 := hfr 0
  have g2 := hfr 2
  have g3 := hfr 3
  have gr0 := hH r0
  have gb7 := hH b7
  try simp only [hr0, nb7_r0, nr0_b7, List.length_map, RR, seval] at g0 g2 g3 gr0 gb7
  have f0 := g0; clear g0
  have f2 := g2; clear g2
  have f3 := g3; clear g3
  have hr0 := gr0; clear gr0
  have hb7 := gb7; clear gb7
  clear hfr hH
  have hown : OwnL 1 (F2 3) ([a5.text].map strRow) M2 := .inr ⟨b7, f3, hb7⟩
  refine awp_block ?_
  refine awp_while [0, 2] (T.length - m5) (fun k fr M => (∃ (m : Nat) (acc : List Str), k = T.length - m ∧ m ≤ T.length ∧ acc.length ≤ m ∧ nmP T acc m = res ∧ OwnL 1 (fr 3) (acc.map strRow) M ∧ M r0 = some (.rows 3 [[.isl 4 (T.map Tok.row), .int .i64 (m : Nat), .int .i64 (e : Nat)]]))) ⟨m5, [a5.text], rfl, by omega, by simp; omega, hres, hown, hr0⟩ ?_
  rintro k F3 M3 ⟨m, acc, rfl, hm, hal, hres, hown, hr0⟩ agx K0 hK0
  have f0 := (agx 0 rfl).trans f0
  have f2 := (agx 2 rfl).trans f2
  have ag0 := agree.refl [0, 2] F3
  clear agx
  obtain ⟨v3, f3⟩ : ∃ v, F3 3 = v := ⟨_, rfl⟩
  rw [f3] at hown
  refine awp_seq ?_
  refine awp_seq_k fun K hK => ?_
  refine awp_region rfl ?_
  simp only [f0, hr0, nb7_r0, nr0_b7, List.length_map, RR, seval]
  refine awpC_rdo (may_con r0 hT m e hm [44] (by decide)) (by first | exact hr0 | (simp only [f0, f2, f3, hr0, nb7_r0, nr0_b7, List.length_map, upd_app, RR, seval]; done)) trivial fun M4 hn9x hk9x => ?_
  have hown := OwnL.kp hown hr0 (by decide) hk9x
  have hr0 := hn9x; clear hn9x hk9x
  simp only [f0, hr0, nb7_r0, nr0_b7, List.length_map, RR, seval]
  refine hK _ _ ?_; clear hK K
  refine awp_if _ rfl (fun hc => ?_) (fun hc => ?_)
  · have hw0 := hc; clear hc
    simp only [decide_eq_true_eq] at hw0
    rw [nmP_eq, if_pos hw0] at hres
    rw [if_pos hw0] at hr0
    have hlt := peek_lt hw0 (by decide)
    refine awp_skip ?_; try simp only [RR]
    refine awp_block ?_
    refine awp_region rfl ?_
    simp only [f0, f3, hr0, nb7_r0, nr0_b7, List.length_map, RR, seval]
    refine awpC_rd (take_con r0 hT (m + 1) e (by omega) 1 (by decide)) (by first | exact hr0 | (simp only [f0, f2, f3, hr0, nb7_r0, nr0_b7, List.length_map, upd_app, RR, seval]; done)) trivial ?_ ?_
    · intro n12x H12x hbd
      simp only [hbd, PR.bind_bad] at hres
      subst hres
      simp only [thenQ_pan, blockQ_pan, bodyQ_pan, rpost]
    intro a12 m12 M5 ho12 hn12x hk12x
    simp only [ho12, PR.bind_ok] at hres
    have hown := OwnL.kp hown hr0 (by decide) hk12x
    have hr0 := hn12x; clear hn12x hk12x
    simp only [f0, f3, hr0, nb7_r0, nr0_b7, List.length_map, RR, seval]
    refine awpB_sealed ?_
    simp only [f0, f3, hr0, nb7_r0, nr0_b7, List.length_map, RR, seval]
    refine awpA_own hown (by simp only [List.length_map, List.length_cons, List.length_nil]; omega) (fun _ => trivial) fun v3 M6 hown' hk' => ?_
    simp only [f0, f3, hr0, nb7_r0, nr0_b7, List.length_map, RR, seval]
    have gr0 := hk' r0 _ hr0 (by first | exact (hown).nb' hr0 (by decide) | exact ho0 _ _ | assumption | (intro e; simp_all))
    have hr0 := gr0; clear gr0
    have hm12 := take_ok ho12
    try rw [IntWalk.i64_in _ (by omega)]
    refine hK0 (T.length - m12) _ _ (by omega) ⟨m12, acc ++ [a12.text], rfl, by have := take_ok ho12; omega, by have := take_ok ho12; simp only [List.length_append, List.length_cons, List.length_nil]; omega, hres, by rw [List.map_append]; exact hown', by first | exact hr0 | (simp only [f0, f2, f3, hr0, nb7_r0, nr0_b7, List.length_map, upd_app, RR, seval]; done)⟩ (by repeat (first | exact ag0 | refine agree.upd rfl ?_))
  · have hw0 := hc; clear hc
    simp only [decide_eq_false_iff_not] at hw0
    rw [nmP_eq, if_neg hw0] at hres
    rw [if_neg hw0] at hr0
    refine awp_exit ?_; simp only [RR, seval]
    refine awp_seq_k fun K hK => ?_
    refine awp_region rfl ?_
    simp only [f3, List.length_map, RR, seval]
    refine hK _ _ ?_; clear hK K
    refine awp_ret ?_; simp only [bodyQ, aresult, ares, f2, List.length_map, RR, seval]
    refine rgivesL (n := m) (a := acc) hown (.inl (by decide)) (by first | exact hr0 | (simp only [f0, f2, f3, hr0, nb7_r0, nr0_b7, List.length_map, upd_app, RR, seval]; done)) hres.symm ?_
    exact Sub.refl _
end Go.Proofs.YtlpeikljipknoaaDoor

namespace Go.Proofs.YtlpeikljipknoaaDoor
open Go.Al
def exV (x : Ex) : AV := .agg [.int .i64 x.kind, .int .i64 x.op, .int .u32 x.num, .str x.name, .isl 5 (x.kids.map Ex.row)]
def exL (l : List Ex) : AV := .isl 5 (l.map Ex.row)
def atomC (r0 : Nat) (T : List Tok) (e n : Nat) : Prop := RCon 62 [] r0 T n e exV (atomP T n)
def exprC (r0 : Nat) (T : List Tok) (e lo n : Nat) : Prop := RCon 33 [.int .i64 (lo : Nat)] r0 T n e exV (exprP T lo n)
def argsC (r0 : Nat) (T : List Tok) (e n : Nat) : Prop := RCon 92 [] r0 T n e exL (argsP T n)
structure Beh (r0 : Nat) (T : List Tok) (e n : Nat) : Prop where
  atom : ∀ m, n < m → m ≤ T.length → atomC r0 T e m
  expr : ∀ lo m, 1 ≤ lo → lo ≤ 10 → n < m → m ≤ T.length → exprC r0 T e lo m
  args : ∀ m, n < m → m ≤ T.length → argsC r0 T e m
set_option maxHeartbeats 4000000 in
theorem atom_step (r0 : Nat) {T : List Tok} (hT : Sz T) (n e : Nat) (hn : n ≤ T.length) (ih : Beh r0 T e n) : atomC r0 T e n := by
  have hkc := kind_con r0 T n e hn
  unfold atomC RCon
  generalize hres : atomP T n = res
  rw [atomP_eq] at hres
  generalize hH0 : rdH r0 T n e = H0
  have hr0 : H0 r0 = some (.rows 3 [[.isl 4 (T.map Tok.row), .int .i64 (n : Nat), .int .i64 (e : Nat)]]) := by rw [← hH0]; exact rdH_at _ _ _ _
  clear hH0
  have hlen := hT.len
  refine con_of 57 [.cell 2 36] Tryd.func62 rfl rfl rfl rfl ?_
  refine awp_seq_k fun K hK => ?_
  refine awp_region rfl ?_
  simp only [hr0, List.length_map, exV, exL, RR, seval]
  refine awpN_intro fun b2 hn2 => ?_
  have nb2_r0 : b2 ≠ r0 := fun e => by rw [e] at hn2; simp only [hr0, RR, seval, reduceCtorEq] at hn2
  have nr0_b2 : r0 ≠ b2 := fun e => nb2_r0 e.symm
  simp only [hr0, nb2_r0, nr0_b2, List.length_map, exV, exL, RR, seval]
  refine hK _ _ ?_; clear hK K
  refine awp_seq ?_
  refine awp_block ?_
  refine awp_seq_k fun K hK => ?_
  refine awp_region rfl ?_
  simp only [hr0, nb2_r0, nr0_b2, List.length_map, exV, exL, RR, seval]
  refine awpC_rdk (hkc) (by first | exact hr0 | (simp only [hr0, nb2_r0, nr0_b2, List.length_map, exV, exL, upd_app, RR, seval]; done)) trivial ?_
  simp only [hr0, nb2_r0, nr0_b2, List.length_map, exV, exL, RR, seval]
  refine hK _ _ ?_; clear hK K
  refine awp_if _ rfl (fun hc1 => ?_) (fun hc1 => ?_)
  · have hk := of_decide_eq_true hc1
    rw [if_pos hk] at hres
    refine awp_seq_k fun K hK => ?_
    refine awp_region rfl ?_
    simp only [hr0, nb2_r0, nr0_b2, List.length_map, exV, exL, RR, seval]
    refine awpC_rd (take_con r0 hT n e hn 2 (by decide)) (by first | exact hr0 | (simp only [hr0, nb2_r0, nr0_b2, List.length_map, exV, exL, upd_app, RR, seval]; done)) trivial ?_ ?_
    · intro n10x H10x hbd
      simp only [hbd, PR.bind_bad] at hres
      subst hres
      simp only [thenQ_pan, blockQ_pan, bodyQ_pan, rpost]
    intro a10 m10 M1 ho10 hn10x hk10x
    simp only [ho10, PR.bind_ok] at hres
    have gb2 := hk10x b2 _ (by first | exact nb2_r0 | exact blk_ne hb2 hr0 (by decide) | (intro e; subst e; simp_all)) (by first | exact upd_same _ _ _ | (simp only [hr0, nb2_r0, nr0_b2, List.length_map, exV, exL, upd_app, RR, seval]; rfl))
    have hb2 := gb2; clear gb2
    have hr0 := hn10x; clear hn10x hk10x
    simp only [hr0, hb2, nb2_r0, nr0_b2, List.length_map, exV, exL, RR, seval]
    refine hK _ _ ?_; clear hK K
    refine awp_ret ?_; simp only [bodyQ, aresult, ares, hr0, hb2, nb2_r0, nr0_b2, List.length_map, exV, exL, RR, seval]
    refine rgives (by first | exact hr0 | (simp only [hr0, hb2, nb2_r0, nr0_b2, List.length_map, exV, exL, upd_app, RR, seval]; done)) hres.symm ?_
    simp only [exV, Ex.row_eq, Ex.kind, Ex.op, Ex.num, Ex.name, Ex.kids, List.map_cons, List.map_nil]
    exact Sub.aggR (by repeat' (first | exact SubR.nil | exact SubRs.nil | exact Sub.refl _ | exact Sub.nsl _ | refine SubR.cons ?_ ?_ | refine SubRs.cons ?_ ?_ | refine Sub.isl ?_ | refine Sub.aggR ?_))
  · have hk := of_decide_eq_false hc1
    rw [if_neg hk] at hres
    refine awp_seq_k fun K hK => ?_
    refine awp_region rfl ?_
    simp only [hr0, nb2_r0, nr0_b2, List.length_map, exV, exL, RR, seval]
    refine awpC_rdo (may_con r0 hT n e hn [103, 101, 116] (by decide)) (by first | exact hr0 | (simp only [hr0, nb2_r0, nr0_b2, List.length_map, exV, exL, upd_app, RR, seval]; done)) trivial fun M2 hn15x hk15x => ?_
    have gb2 := hk15x b2 _ (by first | exact nb2_r0 | exact blk_ne hb2 hr0 (by decide) | (intro e; subst e; simp_all)) (by first | exact upd_same _ _ _ | (simp only [hr0, nb2_r0, nr0_b2, List.length_map, exV, exL, upd_app, RR, seval]; rfl))
    have hb2 := gb2; clear gb2
    have hr0 := hn15x; clear hn15x hk15x
    simp only [hr0, hb2, nb2_r0, nr0_b2, List.length_map, exV, exL, RR, seval]
    refine hK _ _ ?_; clear hK K
    refine awp_if _ rfl (fun hc3 => ?_) (fun hc3 => ?_)
    · simp only [decide_eq_true_eq, decide_eq_false_iff_not, Bool.not_eq_true', Bool.not_eq_false', Bool.not_true, Bool.not_false] at hc3
      simp only [if_pos hc3] at hres hr0 ⊢
      refine awp_seq_k fun K hK => ?_
      refine awp_region rfl ?_
      simp only [hr0, hb2, nb2_r0, nr0_b2, List.length_map, exV, exL, RR, seval]
      refine awpB_sealed ?_
      simp only [hr0, hb2, nb2_r0, nr0_b2, List.length_map, exV, exL, RR, seval]
      refine awpC_rd (must2_con r0 hT (n + 1) e (by have := peek_lt hc3 (by decide); omega) [40] [41] (by decide) (by decide)) (by first | exact hr0 | (simp only [hr0, hb2, nb2_r0, nr0_b2, List.length_map, exV, exL, upd_app, RR, seval]; done)) trivial ?_ ?_
      · intro n18x H18x hbd
        rw [bind2, hbd, PR.bind_bad] at hres
        subst hres
        simp only [thenQ_pan, blockQ_pan, bodyQ_pan, rpost]
      intro a18 m18 M3 ho18 hn18x hk18x
      rw [bind2, ho18, PR.bind_ok] at hres
      have gb2 := hk18x b2 _ (by first | exact nb2_r0 | exact blk_ne hb2 hr0 (by decide) | (intro e; subst e; simp_all)) (by first | exact hb2 | exact upd_same _ _ _ | (simp only [hr0, hb2, nb2_r0, nr0_b2, List.length_map, exV, exL, upd_app, RR, seval]; rfl))
      have hb2 := gb2; clear gb2
      have hr0 := hn18x; clear hn18x hk18x
      simp only [hr0, hb2, nb2_r0, nr0_b2, List.length_map, exV, exL, RR, seval]
      refine hK _ _ ?_; clear hK K
      refine awp_seq_k fun K hK => ?_
      refine awp_region rfl ?_
      simp only [hr0, hb2, nb2_r0, nr0_b2, List.length_map, exV, exL, RR, seval]
      refine hK _ _ ?_; clear hK K
      refine awp_ret ?_; simp only [bodyQ, aresult, ares, hr0, hb2, nb2_r0, nr0_b2, List.length_map, exV, exL, RR, seval]
      refine rgives (by first | exact hr0 | (simp only [hr0, hb2, nb2_r0, nr0_b2, List.length_map, exV, exL, upd_app, RR, seval]; done)) hres.symm ?_
      simp only [exV, Ex.row_eq, Ex.kind, Ex.op, Ex.num, Ex.name, Ex.kids, List.map_cons, List.map_nil]
      exact Sub.aggR (by repeat' (first | exact SubR.nil | exact SubRs.nil | exact Sub.refl _ | exact Sub.nsl _ | refine SubR.cons ?_ ?_ | refine SubRs.cons ?_ ?_ | refine Sub.isl ?_ | refine Sub.aggR ?_))
    · simp only [decide_eq_true_eq, decide_eq_false_iff_not, Bool.not_eq_true', Bool.not_eq_false', Bool.not_true, Bool.not_false] at hc3
      simp only [if_neg hc3] at hres hr0 ⊢
      refine awp_seq_k fun K hK => ?_
      refine awp_region rfl ?_
      simp only [hr0, hb2, nb2_r0, nr0_b2, List.length_map, exV, exL, RR, seval]
      refine awpC_rdo (may_con r0 hT n e hn [40] (by decide)) (by first | exact hr0 | (simp only [hr0, hb2, nb2_r0, nr0_b2, List.length_map, exV, exL, upd_app, RR, seval]; done)) trivial fun M4 hn22x hk22x => ?_
      have gb2 := hk22x b2 _ (by first | exact nb2_r0 | exact blk_ne hb2 hr0 (by decide) | (intro e; subst e; simp_all)) (by first | exact hb2 | exact upd_same _ _ _ | (simp only [hr0, hb2, nb2_r0, nr0_b2, List.length_map, exV, exL, upd_app, RR, seval]; rfl))
      have hb2 := gb2; clear gb2
      have hr0 := hn22x; clear hn22x hk22x
      simp only [hr0, hb2, nb2_r0, nr0_b2, List.length_map, exV, exL, RR, seval]
      refine hK _ _ ?_; clear hK K
      refine awp_if _ rfl (fun hc6 => ?_) (fun hc6 => ?_)
      · simp only [decide_eq_true_eq, decide_eq_false_iff_not, Bool.not_eq_true', Bool.not_eq_false', Bool.not_true, Bool.not_false] at hc6
        simp only [if_pos hc6] at hres hr0 ⊢
        refine awp_seq_k fun K hK => ?_
        refine awp_region rfl ?_
        simp only [hr0, hb2, nb2_r0, nr0_b2, List.length_map, exV, exL, RR, seval]
        refine awpC_rd (ih.expr 1 (n + 1) (by decide) (by decide) (by omega) (by have := peek_lt hc6 (by decide); omega)) (by first | exact hr0 | (simp only [hr0, hb2, nb2_r0, nr0_b2, List.length_map, exV, exL, upd_app, RR, seval]; done)) trivial ?_ ?_
        · intro n24x H24x hbd
          simp only [hbd, PR.bind_bad] at hres
          subst hres
          simp only [thenQ_pan, blockQ_pan, bodyQ_pan, rpost]
        intro a24 m24 M5 ho24 hn24x hk24x
        simp only [ho24, PR.bind_ok] at hres
        have gb2 := hk24x b2 _ (by first | exact nb2_r0 | exact blk_ne hb2 hr0 (by decide) | (intro e; subst e; simp_all)) (by first | exact hb2 | exact upd_same _ _ _ | (simp only [hr0, hb2, nb2_r0, nr0_b2, List.length_map, exV, exL, upd_app, RR, seval]; rfl))
        have hb2 := gb2; clear gb2
        have hr0 := hn24x; clear hn24x hk24x
        simp only [hr0, hb2, nb2_r0, nr0_b2, List.length_map, exV, exL, RR, seval]
        refine awpN_intro fun b3 hn3 => ?_
        have nb3_r0 : b3 ≠ r0 := fun e => by rw [e] at hn3; simp only [hr0, nb2_r0, nr0_b2, RR, seval, reduceCtorEq] at hn3
        have nr0_b3 : r0 ≠ b3 := fun e => nb3_r0 e.symm
        have nb3_b2 : b3 ≠ b2 := fun e => by rw [e] at hn3; simp only [hb2, nb2_r0, nr0_b2, RR, seval, reduceCtorEq] at hn3
        have nb2_b3 : b2 ≠ b3 := fun e => nb3_b2 e.symm
        simp only [hr0, hb2, nb2_r0, nr0_b2, nb3_r0, nr0_b3, nb3_b2, nb2_b3, List.length_map, exV, exL, RR, seval]
        refine hK _ _ ?_; clear hK K
        have hm24 := exprP_far ho24
        refine awp_seq_k fun K hK => ?_
        refine awp_region rfl ?_
        simp only [hr0, hb2, nb2_r0, nr0_b2, nb3_r0, nr0_b3, nb3_b2, nb2_b3, List.length_map, exV, exL, RR, seval]
        refine awpB_sealed ?_
        simp only [hr0, hb2, nb2_r0, nr0_b2, nb3_r0, nr0_b3, nb3_b2, nb2_b3, List.length_map, exV, exL, RR, seval]
        refine awpC_rd (must_con r0 hT m24 e (by omega) [41] (by decide)) (by first | exact hr0 | (simp only [hr0, hb2, nb2_r0, nr0_b2, nb3_r0, nr0_b3, nb3_b2, nb2_b3, List.length_map, exV, exL, upd_app, RR, seval]; done)) trivial ?_ ?_
        · intro n27x H27x hbd
          simp only [hbd, PR.bind_bad] at hres
          subst hres
          simp only [thenQ_pan, blockQ_pan, bodyQ_pan, rpost]
        intro a27 m27 M6 ho27 hn27x hk27x
        simp only [ho27, PR.bind_ok] at hres
        have gb2 := hk27x b2 _ (by first | exact nb2_r0 | exact blk_ne hb2 hr0 (by decide) | (intro e; subst e; simp_all)) (by first | exact hb2 | exact upd_same _ _ _ | (simp only [hr0, hb2, nb2_r0, nr0_b2, nb3_r0, nr0_b3, nb3_b2, nb2_b3, List.length_map, exV, exL, upd_app, RR, seval]; rfl))
        have gb3 := hk27x b3 _ (by first | exact nb3_r0 | exact blk_ne hb3 hr0 (by decide) | (intro e; subst e; simp_all)) (by first | exact upd_same _ _ _ | (simp only [hr0, hb2, nb2_r0, nr0_b2, nb3_r0, nr0_b3, nb3_b2, nb2_b3, List.length_map, exV, exL, upd_app, RR, seval]; rfl))
        have hb2 := gb2; clear gb2
        have hb3 := gb3; clear gb3
        have hr0 := hn27x; clear hn27x hk27x
        simp only [hr0, hb2, hb3, nb2_r0, nr0_b2, nb3_r0, nr0_b3, nb3_b2, nb2_b3, List.length_map, exV, exL, RR, seval]
        refine hK _ _ ?_; clear hK K
        refine awp_seq_k fun K hK => ?_
        refine awp_region rfl ?_
        simp only [hr0, hb2, hb3, nb2_r0, nr0_b2, nb3_r0, nr0_b3, nb3_b2, nb2_b3, List.length_map, exV, exL, RR, seval]
        refine hK _ _ ?_; clear hK K
        refine awp_ret ?_; simp only [bodyQ, aresult, ares, hr0, hb2, hb3, nb2_r0, nr0_b2, nb3_r0, nr0_b3, nb3_b2, nb2_b3, List.length_map, exV, exL, RR, seval]
        refine rgives (by first | exact hr0 | (simp only [hr0, hb2, hb3, nb2_r0, nr0_b2, nb3_r0, nr0_b3, nb3_b2, nb2_b3, List.length_map, exV, exL, upd_app, RR, seval]; done)) hres.symm ?_
        simp only [exV, Ex.row_eq, Ex.kind, Ex.op, Ex.num, Ex.name, Ex.kids, List.map_cons, List.map_nil]
        exact Sub.aggR (by repeat' (first | exact SubR.nil | exact SubRs.nil | exact Sub.refl _ | exact Sub.nsl _ | refine SubR.cons ?_ ?_ | refine SubRs.cons ?_ ?_ | refine Sub.isl ?_ | refine Sub.aggR ?_))
      · simp only [decide_eq_true_eq, decide_eq_false_iff_not, Bool.not_eq_true', Bool.not_eq_false', Bool.not_true, Bool.not_false] at hc6
        simp only [if_neg hc6] at hres hr0 ⊢
        refine awp_seq_k fun K hK => ?_
        refine awp_region rfl ?_
        simp only [hr0, hb2, nb2_r0, nr0_b2, List.length_map, exV, exL, RR, seval]
        refine awpC_rdo (may_con r0 hT n e hn [33] (by decide)) (by first | exact hr0 | (simp only [hr0, hb2, nb2_r0, nr0_b2, List.length_map, exV, exL, upd_app, RR, seval]; done)) trivial fun M7 hn31x hk31x => ?_
        have gb2 := hk31x b2 _ (by first | exact nb2_r0 | exact blk_ne hb2 hr0 (by decide) | (intro e; subst e; simp_all)) (by first | exact hb2 | exact upd_same _ _ _ | (simp only [hr0, hb2, nb2_r0, nr0_b2, List.length_map, exV, exL, upd_app, RR, seval]; rfl))
        have hb2 := gb2; clear gb2
        have hr0 := hn31x; clear hn31x hk31x
        simp only [hr0, hb2, nb2_r0, nr0_b2, List.length_map, exV, exL, RR, seval]
        refine hK _ _ ?_; clear hK K
        refine awp_if _ rfl (fun hc10 => ?_) (fun hc10 => ?_)
        · simp only [decide_eq_true_eq, decide_eq_false_iff_not, Bool.not_eq_true', Bool.not_eq_false', Bool.not_true, Bool.not_false] at hc10
          simp only [if_pos hc10] at hres hr0 ⊢
          refine awp_seq_k fun K hK => ?_
          refine awp_region rfl ?_
          simp only [hr0, hb2, nb2_r0, nr0_b2, List.length_map, exV, exL, RR, seval]
          refine awpC_rd (ih.atom (n + 1) (by omega) (by have := peek_lt hc10 (by decide); omega)) (by first | exact hr0 | (simp only [hr0, hb2, nb2_r0, nr0_b2, List.length_map, exV, exL, upd_app, RR, seval]; done)) trivial ?_ ?_
          · intro n33x H33x hbd
            simp only [hbd, PR.bind_bad] at hres
            subst hres
            simp only [thenQ_pan, blockQ_pan, bodyQ_pan, rpost]
          intro a33 m33 M8 ho33 hn33x hk33x
          simp only [ho33, PR.bind_ok] at hres
          have gb2 := hk33x b2 _ (by first | exact nb2_r0 | exact blk_ne hb2 hr0 (by decide) | (intro e; subst e; simp_all)) (by first | exact hb2 | exact upd_same _ _ _ | (simp only [hr0, hb2, nb2_r0, nr0_b2, List.length_map, exV, exL, upd_app, RR, seval]; rfl))
          have hb2 := gb2; clear gb2
          have hr0 := hn33x; clear hn33x hk33x
          simp only [hr0, hb2, nb2_r0, nr0_b2, List.length_map, exV, exL, RR, seval]
          refine awpB_sealed ?_
          simp only [hr0, hb2, nb2_r0, nr0_b2, List.length_map, exV, exL, RR, seval]
          refine hK _ _ ?_; clear hK K
          refine awp_ret ?_; simp only [bodyQ, aresult, ares, hr0, hb2, nb2_r0, nr0_b2, List.length_map, exV, exL, RR, seval]
          refine rgives (by first | exact hr0 | (simp only [hr0, hb2, nb2_r0, nr0_b2, List.length_map, exV, exL, upd_app, RR, seval]; done)) hres.symm ?_
          simp only [exV, Ex.row_eq, Ex.kind, Ex.op, Ex.num, Ex.name, Ex.kids, List.map_cons, List.map_nil]
          exact Sub.aggR (by repeat' (first | exact SubR.nil | exact SubRs.nil | exact Sub.refl _ | exact Sub.nsl _ | refine SubR.cons ?_ ?_ | refine SubRs.cons ?_ ?_ | refine Sub.isl ?_ | refine Sub.aggR ?_))
        · simp only [decide_eq_true_eq, decide_eq_false_iff_not, Bool.not_eq_true', Bool.not_eq_false', Bool.not_true, Bool.not_false] at hc10
          simp only [if_neg hc10] at hres hr0 ⊢
          refine awp_skip ?_; try simp only [RR]
          refine awp_seq_k fun K hK => ?_
          refine awp_region rfl ?_
          simp only [hr0, hb2, nb2_r0, nr0_b2, List.length_map, exV, exL, RR, seval]
          refine awpC_rd (take_con r0 hT n e hn 1 (by decide)) (by first | exact hr0 | (simp only [hr0, hb2, nb2_r0, nr0_b2, List.length_map, exV, exL, upd_app, RR, seval]; done)) trivial ?_ ?_
          · intro n37x H37x hbd
            simp only [hbd, PR.bind_bad] at hres
            subst hres
            simp only [thenQ_pan, blockQ_pan, bodyQ_pan, rpost]
          intro a37 m37 M9 ho37 hn37x hk37x
          simp only [ho37, PR.bind_ok] at hres
          have gb2 := hk37x b2 _ (by first | exact nb2_r0 | exact blk_ne hb2 hr0 (by decide) | (intro e; subst e; simp_all)) (by first | exact hb2 | exact upd_same _ _ _ | (simp only [hr0, hb2, nb2_r0, nr0_b2, List.length_map, exV, exL, upd_app, RR, seval]; rfl))
          have hb2 := gb2; clear gb2
          have hr0 := hn37x; clear hn37x hk37x
          simp only [hr0, hb2, nb2_r0, nr0_b2, List.length_map, exV, exL, RR, seval]
          refine awpN_intro fun b4 hn4 => ?_
          have nb4_r0 : b4 ≠ r0 := fun e => by rw [e] at hn4; simp only [hr0, nb2_r0, nr0_b2, RR, seval, reduceCtorEq] at hn4
          have nr0_b4 : r0 ≠ b4 := fun e => nb4_r0 e.symm
          have nb4_b2 : b4 ≠ b2 := fun e => by rw [e] at hn4; simp only [hb2, nb2_r0, nr0_b2, RR, seval, reduceCtorEq] at hn4
          have nb2_b4 : b2 ≠ b4 := fun e => nb4_b2 e.symm
          simp only [hr0, hb2, nb2_r0, nr0_b2, nb4_r0, nr0_b4, nb4_b2, nb2_b4, List.length_map, exV, exL, RR, seval]
          refine hK _ _ ?_; clear hK K
          have hm37 := take_ok ho37
          refine awp_seq ?_
          refine awp_seq_k fun K hK => ?_
          refine awp_region rfl ?_
          simp only [hr0, hb2, nb2_r0, nr0_b2, nb4_r0, nr0_b4, nb4_b2, nb2_b4, List.length_map, exV, exL, RR, seval]
          refine awpC_rdo (may_con r0 hT m37 e (by omega) [91] (by decide)) (by first | exact hr0 | (simp only [hr0, hb2, nb2_r0, nr0_b2, nb4_r0, nr0_b4, nb4_b2, nb2_b4, List.length_map, exV, exL, upd_app, RR, seval]; done)) trivial fun M10 hn41x hk41x => ?_
          have gb2 := hk41x b2 _ (by first | exact nb2_r0 | exact blk_ne hb2 hr0 (by decide) | (intro e; subst e; simp_all)) (by first | exact hb2 | exact upd_same _ _ _ | (simp only [hr0, hb2, nb2_r0, nr0_b2, nb4_r0, nr0_b4, nb4_b2, nb2_b4, List.length_map, exV, exL, upd_app, RR, seval]; rfl))
          have gb4 := hk41x b4 _ (by first | exact nb4_r0 | exact blk_ne hb4 hr0 (by decide) | (intro e; subst e; simp_all)) (by first | exact upd_same _ _ _ | (simp only [hr0, hb2, nb2_r0, nr0_b2, nb4_r0, nr0_b4, nb4_b2, nb2_b4, List.length_map, exV, exL, upd_app, RR, seval]; rfl))
          have hb2 := gb2; clear gb2
          have hb4 := gb4; clear gb4
          have hr0 := hn41x; clear hn41x hk41x
          simp only [hr0, hb2, hb4, nb2_r0, nr0_b2, nb4_r0, nr0_b4, nb4_b2, nb2_b4, List.length_map, exV, exL, RR, seval]
          refine hK _ _ ?_; clear hK K
          refine awp_if _ rfl (fun hc13 => ?_) (fun hc13 => ?_)
          · simp only [decide_eq_true_eq, decide_eq_false_iff_not, Bool.not_eq_true', Bool.not_eq_false', Bool.not_true, Bool.not_false] at hc13
            simp only [if_pos hc13] at hres hr0 ⊢
            refine awp_seq_k fun K hK => ?_
            refine awp_region rfl ?_
            simp only [hr0, hb2, hb4, nb2_r0, nr0_b2, nb4_r0, nr0_b4, nb4_b2, nb2_b4, List.length_map, exV, exL, RR, seval]
            refine hK _ _ ?_; clear hK K
            refine awp_seq_k fun K hK => ?_
            refine awp_region rfl ?_
            simp only [hr0, hb2, hb4, nb2_r0, nr0_b2, nb4_r0, nr0_b4, nb4_b2, nb2_b4, List.length_map, exV, exL, RR, seval]
            refine awpC_rd (ih.expr 1 (m37 + 1) (by decide) (by decide) (by omega) (by have := peek_lt hc13 (by decide); omega)) (by first | exact hr0 | (simp only [hr0, hb2, hb4, nb2_r0, nr0_b2, nb4_r0, nr0_b4, nb4_b2, nb2_b4, List.length_map, exV, exL, upd_app, RR, seval]; done)) trivial ?_ ?_
            · intro n44x H44x hbd
              simp only [hbd, PR.bind_bad] at hres
              subst hres
              simp only [thenQ_pan, blockQ_pan, bodyQ_pan, rpost]
            intro a44 m44 M11 ho44 hn44x hk44x
            simp only [ho44, PR.bind_ok] at hres
            have gb2 := hk44x b2 _ (by first | exact nb2_r0 | exact blk_ne hb2 hr0 (by decide) | (intro e; subst e; simp_all)) (by first | exact hb2 | exact upd_same _ _ _ | (simp only [hr0, hb2, hb4, nb2_r0, nr0_b2, nb4_r0, nr0_b4, nb4_b2, nb2_b4, List.length_map, exV, exL, upd_app, RR, seval]; rfl))
            have gb4 := hk44x b4 _ (by first | exact nb4_r0 | exact blk_ne hb4 hr0 (by decide) | (intro e; subst e; simp_all)) (by first | exact hb4 | exact upd_same _ _ _ | (simp only [hr0, hb2, hb4, nb2_r0, nr0_b2, nb4_r0, nr0_b4, nb4_b2, nb2_b4, List.length_map, exV, exL, upd_app, RR, seval]; rfl))
            have hb2 := gb2; clear gb2
            have hb4 := gb4; clear gb4
            have hr0 := hn44x; clear hn44x hk44x
            simp only [hr0, hb2, hb4, nb2_r0, nr0_b2, nb4_r0, nr0_b4, nb4_b2, nb2_b4, List.length_map, exV, exL, RR, seval]
            refine awpB_sealed ?_
            simp only [hr0, hb2, hb4, nb2_r0, nr0_b2, nb4_r0, nr0_b4, nb4_b2, nb2_b4, List.length_map, exV, exL, RR, seval]
            refine hK _ _ ?_; clear hK K
            have hm44 := exprP_far ho44
            refine awp_region rfl ?_
            simp only [hr0, hb2, hb4, nb2_r0, nr0_b2, nb4_r0, nr0_b4, nb4_b2, nb2_b4, List.length_map, exV, exL, RR, seval]
            refine awpB_sealed ?_
            simp only [hr0, hb2, hb4, nb2_r0, nr0_b2, nb4_r0, nr0_b4, nb4_b2, nb2_b4, List.length_map, exV, exL, RR, seval]
            refine awpC_rd (must_con r0 hT m44 e (by omega) [93] (by decide)) (by first | exact hr0 | (simp only [hr0, hb2, hb4, nb2_r0, nr0_b2, nb4_r0, nr0_b4, nb4_b2, nb2_b4, List.length_map, exV, exL, upd_app, RR, seval]; done)) trivial ?_ ?_
            · intro n49x H49x hbd
              simp only [hbd, PR.bind_bad] at hres
              subst hres
              simp only [thenQ_pan, blockQ_pan, bodyQ_pan, rpost]
            intro a49 m49 M12 ho49 hn49x hk49x
            simp only [ho49, PR.bind_ok] at hres
            have gb2 := hk49x b2 _ (by first | exact nb2_r0 | exact blk_ne hb2 hr0 (by decide) | (intro e; subst e; simp_all)) (by first | exact hb2 | exact upd_same _ _ _ | (simp only [hr0, hb2, hb4, nb2_r0, nr0_b2, nb4_r0, nr0_b4, nb4_b2, nb2_b4, List.length_map, exV, exL, upd_app, RR, seval]; rfl))
            have gb4 := hk49x b4 _ (by first | exact nb4_r0 | exact blk_ne hb4 hr0 (by decide) | (intro e; subst e; simp_all)) (by first | exact hb4 | exact upd_same _ _ _ | (simp only [hr0, hb2, hb4, nb2_r0, nr0_b2, nb4_r0, nr0_b4, nb4_b2, nb2_b4, List.length_map, exV, exL, upd_app, RR, seval]; rfl))
            have hb2 := gb2; clear gb2
            have hb4 := gb4; clear gb4
            have hr0 := hn49x; clear hn49x hk49x
            simp only [hr0, hb2, hb4, nb2_r0, nr0_b2, nb4_r0, nr0_b4, nb4_b2, nb2_b4, List.length_map, exV, exL, RR, seval]
            refine awp_seq_k fun K hK => ?_
            refine awp_region rfl ?_
            simp only [hr0, hb2, hb4, nb2_r0, nr0_b2, nb4_r0, nr0_b4, nb4_b2, nb2_b4, List.length_map, exV, exL, RR, seval]
            refine hK _ _ ?_; clear hK K
            refine awp_ret ?_; simp only [bodyQ, aresult, ares, hr0, hb2, hb4, nb2_r0, nr0_b2, nb4_r0, nr0_b4, nb4_b2, nb2_b4, List.length_map, exV, exL, RR, seval]
            refine rgives (by first | exact hr0 | (simp only [hr0, hb2, hb4, nb2_r0, nr0_b2, nb4_r0, nr0_b4, nb4_b2, nb2_b4, List.length_map, exV, exL, upd_app, RR, seval]; done)) hres.symm ?_
            simp only [exV, Ex.row_eq, Ex.kind, Ex.op, Ex.num, Ex.name, Ex.kids, List.map_cons, List.map_nil]
            exact Sub.aggR (by repeat' (first | exact SubR.nil | exact SubRs.nil | exact Sub.refl _ | exact Sub.nsl _ | refine SubR.cons ?_ ?_ | refine SubRs.cons ?_ ?_ | refine Sub.isl ?_ | refine Sub.aggR ?_))
          · simp only [decide_eq_true_eq, decide_eq_false_iff_not, Bool.not_eq_true', Bool.not_eq_false', Bool.not_true, Bool.not_false] at hc13
            simp only [if_neg hc13] at hres hr0 ⊢
            refine awp_seq_k fun K hK => ?_
            refine awp_region rfl ?_
            simp only [hr0, hb2, hb4, nb2_r0, nr0_b2, nb4_r0, nr0_b4, nb4_b2, nb2_b4, List.length_map, exV, exL, RR, seval]
            refine awpC_rdo (may_con r0 hT m37 e (by omega) [40] (by decide)) (by first | exact hr0 | (simp only [hr0, hb2, hb4, nb2_r0, nr0_b2, nb4_r0, nr0_b4, nb4_b2, nb2_b4, List.length_map, exV, exL, upd_app, RR, seval]; done)) trivial fun M13 hn51x hk51x => ?_
            have gb2 := hk51x b2 _ (by first | exact nb2_r0 | exact blk_ne hb2 hr0 (by decide) | (intro e; subst e; simp_all)) (by first | exact hb2 | exact upd_same _ _ _ | (simp only [hr0, hb2, hb4, nb2_r0, nr0_b2, nb4_r0, nr0_b4, nb4_b2, nb2_b4, List.length_map, exV, exL, upd_app, RR, seval]; rfl))
            have gb4 := hk51x b4 _ (by first | exact nb4_r0 | exact blk_ne hb4 hr0 (by decide) | (intro e; subst e; simp_all)) (by first | exact hb4 | exact upd_same _ _ _ | (simp only [hr0, hb2, hb4, nb2_r0, nr0_b2, nb4_r0, nr0_b4, nb4_b2, nb2_b4, List.length_map, exV, exL, upd_app, RR, seval]; rfl))
            have hb2 := gb2; clear gb2
            have hb4 := gb4; clear gb4
            have hr0 := hn51x; clear hn51x hk51x
            simp only [hr0, hb2, hb4, nb2_r0, nr0_b2, nb4_r0, nr0_b4, nb4_b2, nb2_b4, List.length_map, exV, exL, RR, seval]
            refine hK _ _ ?_; clear hK K
            refine awp_if _ rfl (fun hc17 => ?_) (fun hc17 => ?_)
            · simp only [decide_eq_true_eq, decide_eq_false_iff_not, Bool.not_eq_true', Bool.not_eq_false', Bool.not_true, Bool.not_false] at hc17
              simp only [if_pos hc17] at hres hr0 ⊢
              refine awp_seq_k fun K hK => ?_
              refine awp_region rfl ?_
              simp only [hr0, hb2, hb4, nb2_r0, nr0_b2, nb4_r0, nr0_b4, nb4_b2, nb2_b4, List.length_map, exV, exL, RR, seval]
              refine hK _ _ ?_; clear hK K
              refine awp_region rfl ?_
              simp only [hr0, hb2, hb4, nb2_r0, nr0_b2, nb4_r0, nr0_b4, nb4_b2, nb2_b4, List.length_map, exV, exL, RR, seval]
              refine awpC_rd (ih.args (m37 + 1) (by omega) (by have := peek_lt hc17 (by decide); omega)) (by first | exact hr0 | (simp only [hr0, hb2, hb4, nb2_r0, nr0_b2, nb4_r0, nr0_b4, nb4_b2, nb2_b4, List.length_map, exV, exL, upd_app, RR, seval]; done)) trivial ?_ ?_
              · intro n54x H54x hbd
                simp only [hbd, PR.bind_bad] at hres
                subst hres
                simp only [thenQ_pan, blockQ_pan, bodyQ_pan, rpost]
              intro a54 m54 M14 ho54 hn54x hk54x
              simp only [ho54, PR.bind_ok] at hres
              have gb2 := hk54x b2 _ (by first | exact nb2_r0 | exact blk_ne hb2 hr0 (by decide) | (intro e; subst e; simp_all)) (by first | exact hb2 | exact upd_same _ _ _ | (simp only [hr0, hb2, hb4, nb2_r0, nr0_b2, nb4_r0, nr0_b4, nb4_b2, nb2_b4, List.length_map, exV, exL, upd_app, RR, seval]; rfl))
              have gb4 := hk54x b4 _ (by first | exact nb4_r0 | exact blk_ne hb4 hr0 (by decide) | (intro e; subst e; simp_all)) (by first | exact hb4 | exact upd_same _ _ _ | (simp only [hr0, hb2, hb4, nb2_r0, nr0_b2, nb4_r0, nr0_b4, nb4_b2, nb2_b4, List.length_map, exV, exL, upd_app, RR, seval]; rfl))
              have hb2 := gb2; clear gb2
              have hb4 := gb4; clear gb4
              have hr0 := hn54x; clear hn54x hk54x
              simp only [hr0, hb2, hb4, nb2_r0, nr0_b2, nb4_r0, nr0_b4, nb4_b2, nb2_b4, List.length_map, exV, exL, RR, seval]
              refine awp_seq_k fun K hK => ?_
              refine awp_region rfl ?_
              simp only [hr0, hb2, hb4, nb2_r0, nr0_b2, nb4_r0, nr0_b4, nb4_b2, nb2_b4, List.length_map, exV, exL, RR, seval]
              refine hK _ _ ?_; clear hK K
              refine awp_ret ?_; simp only [bodyQ, aresult, ares, hr0, hb2, hb4, nb2_r0, nr0_b2, nb4_r0, nr0_b4, nb4_b2, nb2_b4, List.length_map, exV, exL, RR, seval]
              refine rgives (by first | exact hr0 | (simp only [hr0, hb2, hb4, nb2_r0, nr0_b2, nb4_r0, nr0_b4, nb4_b2, nb2_b4, List.length_map, exV, exL, upd_app, RR, seval]; done)) hres.symm ?_
              simp only [exV, Ex.row_eq, Ex.kind, Ex.op, Ex.num, Ex.name, Ex.kids, List.map_cons, List.map_nil]
              exact Sub.aggR (by repeat' (first | exact SubR.nil | exact SubRs.nil | exact Sub.refl _ | exact Sub.nsl _ | refine SubR.cons ?_ ?_ | refine SubRs.cons ?_ ?_ | refine Sub.isl ?_ | refine Sub.aggR ?_))
            · simp only [decide_eq_true_eq, decide_eq_false_iff_not, Bool.not_eq_true', Bool.not_eq_false', Bool.not_true, Bool.not_false] at hc17
              simp only [if_neg hc17] at hres hr0 ⊢
              refine awp_skip ?_; try simp only [RR]
              refine awp_seq_k fun K hK => ?_
              refine awp_region rfl ?_
              simp only [hr0, hb2, hb4, nb2_r0, nr0_b2, nb4_r0, nr0_b4, nb4_b2, nb2_b4, List.length_map, exV, exL, RR, seval]
              refine hK _ _ ?_; clear hK K
              refine awp_ret ?_; simp only [bodyQ, aresult, ares, hr0, hb2, hb4, nb2_r0, nr0_b2, nb4_r0, nr0_b4, nb4_b2, nb2_b4, List.length_map, exV, exL, RR, seval]
              refine rgives (by first | exact hr0 | (simp only [hr0, hb2, hb4, nb2_r0, nr0_b2, nb4_r0, nr0_b4, nb4_b2, nb2_b4, List.length_map, exV, exL, upd_app, RR, seval]; done)) hres.symm ?_
              simp only [exV, Ex.row_eq, Ex.kind, Ex.op, Ex.num, Ex.name, Ex.kids, List.map_cons, List.map_nil]
              exact Sub.aggR (by repeat' (first | exact SubR.nil | exact SubRs.nil | exact Sub.refl _ | exact Sub.nsl _ | refine SubR.cons ?_ ?_ | refine SubRs.cons ?_ ?_ | refine Sub.isl ?_ | refine Sub.aggR ?_))
end Go.Proofs.YtlpeikljipknoaaDoor

namespace Go.Proofs.YtlpeikljipknoaaDoor
open Go.Al
theorem loop_lo {T : List Tok} {lo : Nat} {x y : Ex} {n m : Nat} (hn : n ≤ T.length) (h : loopP T lo x n = .ok y m) : n ≤ m ∧ m ≤ T.length := loopP_far hn h
set_option maxHeartbeats 4000000 in
theorem expr_step (r0 : Nat) {T : List Tok} (hT : Sz T) (lo n e : Nat) (hl : 1 ≤ lo) (hl2 : lo ≤ 10) (hn : n ≤ T.length) (ha : atomC r0 T e n) (ih : Beh r0 T e n) : exprC r0 T e lo n := by
  unfold exprC RCon
  generalize hres : exprP T lo n = res
  rw [exprP_eq T lo n hl] at hres
  generalize hH0 : rdH r0 T n e = H0
  have hr0 : H0 r0 = some (.rows 3 [[.isl 4 (T.map Tok.row), .int .i64 (n : Nat), .int .i64 (e : Nat)]]) := by rw [← hH0]; exact rdH_at _ _ _ _
  clear hH0
  have hlen := hT.len
  refine con_of 35 [.cell 4 36] Tryd.func33 rfl rfl rfl rfl ?_
  refine awp_seq_k fun K hK => ?_
  refine awp_region rfl ?_
  simp only [hr0, List.length_map, exV, exL, RR, seval]
  refine awpN_intro fun b4 hn4 => ?_
  have nb4_r0 : b4 ≠ r0 := fun e => by rw [e] at hn4; simp only [hr0, RR, seval, reduceCtorEq] at hn4
  have nr0_b4 : r0 ≠ b4 := fun e => nb4_r0 e.symm
  simp only [hr0, nb4_r0, nr0_b4, List.length_map, exV, exL, RR, seval]
  refine hK _ _ ?_; clear hK K
  refine awp_seq_k fun K hK => ?_
  refine awp_region rfl ?_
  simp only [hr0, nb4_r0, nr0_b4, List.length_map, exV, exL, RR, seval]
  refine awpC_rd (ha) (by first | exact hr0 | (simp only [hr0, nb4_r0, nr0_b4, List.length_map, exV, exL, upd_app, RR, seval]; done)) trivial ?_ ?_
  · intro n9x H9x hbd
    simp only [hbd, PR.bind_bad] at hres
    subst hres
    simp only [thenQ_pan, blockQ_pan, bodyQ_pan, rpost]
  intro a9 m9 M1 ho9 hn9x hk9x
  simp only [ho9, PR.bind_ok] at hres
  have gb4 := hk9x b4 _ (by first | exact nb4_r0 | exact blk_ne hb4 hr0 (by decide) | (intro e; subst e; simp_all)) (by first | exact upd_same _ _ _ | (simp only [hr0, nb4_r0, nr0_b4, List.length_map, exV, exL, upd_app, RR, seval]; rfl))
  have hb4 := gb4; clear gb4
  have hr0 := hn9x; clear hn9x hk9x
  simp only [hr0, hb4, nb4_r0, nr0_b4, List.length_map, exV, exL, RR, seval]
  refine awpN_intro fun b5 hn5 => ?_
  have nb5_r0 : b5 ≠ r0 := fun e => by rw [e] at hn5; simp only [hr0, nb4_r0, nr0_b4, RR, seval, reduceCtorEq] at hn5
  have nr0_b5 : r0 ≠ b5 := fun e => nb5_r0 e.symm
  have nb5_b4 : b5 ≠ b4 := fun e => by rw [e] at hn5; simp only [hb4, nb4_r0, nr0_b4, RR, seval, reduceCtorEq] at hn5
  have nb4_b5 : b4 ≠ b5 := fun e => nb5_b4 e.symm
  simp only [hr0, hb4, nb4_r0, nr0_b4, nb5_r0, nr0_b5, nb5_b4, nb4_b5, List.length_map, exV, exL, RR, seval]
  refine hK _ _ ?_; clear hK K
  have hm9 := atomP_far ho9
  refine awp_name fun F2 M2 hfr hH => ?_
  have g0 := hfr 0
  have g1 := hfr 1
  have g4 := hfr 4
  have g5 := hfr 5
  have gr0 := hH r0
  have gb4 := hH b4
  have gb5 := hH b5
  try simp only [hr0, hb4, nb4_r0, nr0_b4, nb5_r0, nr0_b5, nb5_b4, nb4_b5, List.length_map, exV, exL, RR, seval] at g0 g1 g4 g5 gr0 gb4 gb5
  have f0 := g0; clear g0
  have f1 := g1; clear g1
  have f4 := g4; clear g4
  have f5 := g5; clear g5
  have hr0 := gr0; clear gr0
  have hb4 := gb4; clear gb4
  have hb5 := gb5; clear gb5
  clear hfr hH
  refine awp_block ?_
  refine awp_while [0, 1, 4, 5] (T.length - m9) (fun k fr M => M b4 = M2 b4 ∧ (∃ (m : Nat) (x : Ex), k = T.length - m ∧ n < m ∧ m ≤ T.length ∧ loopP T lo x m = res ∧ M b5 = some (.rows 5 [[.int .i64 x.kind, .int .i64 x.op, .int .u32 x.num, .str x.name, .isl 5 (x.kids.map Ex.row)]]) ∧ M r0 = some (.rows 3 [[.isl 4 (T.map Tok.row), .int .i64 (m : Nat), .int .i64 (e : Nat)]]))) ⟨rfl, m9, a9, rfl, by omega, by omega, hres, hb5, hr0⟩ ?_
  rintro k F3 M3 ⟨gb4, m, x, rfl, hnm, hm, hres, hb5, hr0⟩ agx K0 hK0
  have f0 := (agx 0 rfl).trans f0
  have f1 := (agx 1 rfl).trans f1
  have f4 := (agx 4 rfl).trans f4
  have f5 := (agx 5 rfl).trans f5
  have hb4 := gb4.trans hb4
  have ag0 := agree.refl [0, 1, 4, 5] F3
  have e0_b4 := gb4; clear gb4
  clear agx
  rw [loopP_eq T lo x m hl] at hres
  have hst := sg_le (peekI T m)
  have hpk := peek_con r0 T m e hm
  have hsg := sign_con (peekI T m)
  have hjr : (joinI (peekI T m) x x).kind = (sgI (peekI T m)).1 := rfl
  generalize hsI : sgI (peekI T m) = sg at hsg hst hres
  have hw1 := i64_inc (n := m)
  have hw2 := i64_inc (n := sg.2.2) (by omega)
  refine awp_block ?_
  refine awp_seq_k fun K hK => ?_
  refine awp_region rfl ?_
  simp only [f0, hb4, hr0, hb5, nb4_r0, nr0_b4, nb5_r0, nr0_b5, nb5_b4, nb4_b5, List.length_map, exV, exL, RR, seval]
  refine awpC_rdk (hpk) (by first | exact hr0 | (simp only [f0, f1, f4, f5, hb4, hr0, hb5, nb4_r0, nr0_b4, nb5_r0, nr0_b5, nb5_b4, nb4_b5, List.length_map, exV, exL, upd_app, RR, seval]; done)) trivial ?_
  simp only [f0, hb4, hr0, hb5, nb4_r0, nr0_b4, nb5_r0, nr0_b5, nb5_b4, nb4_b5, List.length_map, exV, exL, RR, seval]
  refine awpC_pure' (hsg) ?_
  simp only [f0, hb4, hr0, hb5, nb4_r0, nr0_b4, nb5_r0, nr0_b5, nb5_b4, nb4_b5, List.length_map, exV, exL, RR, seval]
  refine awpN_intro fun b6 hn6 => ?_
  have nb6_b4 : b6 ≠ b4 := fun e => by rw [e] at hn6; simp only [hb4, nb4_r0, nr0_b4, nb5_r0, nr0_b5, nb5_b4, nb4_b5, RR, seval, reduceCtorEq] at hn6
  have nb4_b6 : b4 ≠ b6 := fun e => nb6_b4 e.symm
  have nb6_r0 : b6 ≠ r0 := fun e => by rw [e] at hn6; simp only [hr0, nb4_r0, nr0_b4, nb5_r0, nr0_b5, RR, seval, reduceCtorEq] at hn6
  have nr0_b6 : r0 ≠ b6 := fun e => nb6_r0 e.symm
  have nb6_b5 : b6 ≠ b5 := fun e => by rw [e] at hn6; simp only [hb5, nb4_r0, nr0_b4, nb5_r0, nr0_b5, nb5_b4, nb4_b5, RR, seval, reduceCtorEq] at hn6
  have nb5_b6 : b5 ≠ b6 := fun e => nb6_b5 e.symm
  simp only [f0, hb4, hr0, hb5, nb4_r0, nr0_b4, nb5_r0, nr0_b5, nb5_b4, nb4_b5, nb6_b4, nb4_b6, nb6_r0, nr0_b6, nb6_b5, nb5_b6, List.length_map, exV, exL, RR, seval]
  refine hK _ _ ?_; clear hK K
  refine awp_seq ?_
  refine awp_seq_k fun K hK => ?_
  refine awp_region rfl ?_
  simp only [f1, List.length_map, exV, exL, RR, seval]
  refine hK _ _ ?_; clear hK K
  refine awp_if _ rfl (fun hc3 => ?_) (fun hc3 => ?_)
  · have hlt : sg.2.2 < lo := by have := of_decide_eq_true hc3; omega
    rw [if_pos hlt] at hres
    refine awp_seq_k fun K hK => ?_
    refine awp_region rfl ?_
    simp only [f4, f5, hb4, hr0, hb5, nb4_r0, nr0_b4, nb5_r0, nr0_b5, nb5_b4, nb4_b5, nb6_b4, nb4_b6, nb6_r0, nr0_b6, nb6_b5, nb5_b6, List.length_map, exV, exL, RR, seval]
    refine hK _ _ ?_; clear hK K
    refine awp_ret ?_; simp only [bodyQ, aresult, ares, f0, f1, f4, f5, hb4, hr0, hb5, nb4_r0, nr0_b4, nb5_r0, nr0_b5, nb5_b4, nb4_b5, nb6_b4, nb4_b6, nb6_r0, nr0_b6, nb6_b5, nb5_b6, List.length_map, exV, exL, RR, seval]
    refine rgives (by first | exact hr0 | (simp only [f0, f1, f4, f5, hb4, hr0, hb5, nb4_r0, nr0_b4, nb5_r0, nr0_b5, nb5_b4, nb4_b5, nb6_b4, nb4_b6, nb6_r0, nr0_b6, nb6_b5, nb5_b6, List.length_map, exV, exL, upd_app, RR, seval]; done)) hres.symm ?_
    exact Sub.refl _
  · have hlt : ¬ sg.2.2 < lo := by have := of_decide_eq_false hc3; omega
    rw [if_neg hlt] at hres
    have hml : m < T.length := sg_lt (by rw [hsI]; exact hlt) hl
    have hw1 := hw1 (by omega)
    refine awp_skip ?_; try simp only [RR]
    refine awp_seq_k fun K hK => ?_
    refine awp_region rfl ?_
    simp only [f0, hb4, hr0, hb5, nb4_r0, nr0_b4, nb5_r0, nr0_b5, nb5_b4, nb4_b5, nb6_b4, nb4_b6, nb6_r0, nr0_b6, nb6_b5, nb5_b6, List.length_map, exV, exL, hw1, hw2, RR, seval]
    refine hK _ _ ?_; clear hK K
    refine awp_name fun F4 M4 hfr hH => ?_
    have g0 := hfr 0
    have g1 := hfr 1
    have g4 := hfr 4
    have g5 := hfr 5
    have g6 := hfr 6
    have g7 := hfr 7
    have gb4 := hH b4
    have gr0 := hH r0
    have gb5 := hH b5
    have gb6 := hH b6
    try simp only [f0, f1, f4, f5, hb4, hr0, hb5, nb4_r0, nr0_b4, nb5_r0, nr0_b5, nb5_b4, nb4_b5, nb6_b4, nb4_b6, nb6_r0, nr0_b6, nb6_b5, nb5_b6, List.length_map, exV, exL, hw1, hw2, RR, seval] at g0 g1 g4 g5 g6 g7 gb4 gr0 gb5 gb6
    have ag0 : agree [0, 1, 4, 5] F3 F4 := agree.same hfr (by repeat (first | exact ag0 | refine agree.upd rfl ?_))
    have e0_b4 := (hH b4).trans (by first | exact e0_b4 | (simp only [nb4_r0, nr0_b4, nb5_r0, nr0_b5, nb5_b4, nb4_b5, nb6_b4, nb4_b6, nb6_r0, nr0_b6, nb6_b5, nb5_b6, upd_app, seval]; first | done | exact e0_b4))
    have f0 := g0; clear g0
    have f1 := g1; clear g1
    have f4 := g4; clear g4
    have f5 := g5; clear g5
    have f6 := g6; clear g6
    have f7 := g7; clear g7
    have hb4 := gb4; clear gb4
    have hr0 := gr0; clear gr0
    have hb5 := gb5; clear gb5
    have hb6 := gb6; clear gb6
    clear hfr hH
    refine awp_seq_k fun K hK => ?_
    refine awp_region_draw2 (fun x => x ≠ b4 ∧ x ≠ b5 ∧ x ≠ b6) [(0, 0), (1, 3), (2, 3), (3, 3), (4, 1), (5, 2), (6, 3)] [(7, 1)] draws (by kernel_rfl) rfl rfl ?_
    simp only [emitF, markOf, EM, f0, f5, f6, f7, hb4, hr0, hb5, hb6, nb4_r0, nr0_b4, nb5_r0, nr0_b5, nb5_b4, nb4_b5, nb6_b4, nb4_b6, nb6_r0, nr0_b6, nb6_b5, nb5_b6, List.length_map, exV, exL, hw1, hw2, RR, seval]
    refine awpC_rd (ih.expr (sg.2.2 + 1) (m + 1) (by omega) (by omega) (by omega) (by omega)) (by first | exact hr0 | (simp only [f0, f1, f4, f5, f6, f7, hb4, hr0, hb5, hb6, nb4_r0, nr0_b4, nb5_r0, nr0_b5, nb5_b4, nb4_b5, nb6_b4, nb4_b6, nb6_r0, nr0_b6, nb6_b5, nb5_b6, List.length_map, exV, exL, hw1, hw2, upd_app, RR, seval]; done)) (by first | trivial | (repeat' apply And.intro) <;> assumption) ?_ ?_
    · intro n31x H31x hbd
      simp only [hbd, PR.bind_bad] at hres
      subst hres
      simp only [thenQ_pan, blockQ_pan, bodyQ_pan, rpost]
    intro a31 m31 M5 ho31 hn31x hk31x
    simp only [ho31, PR.bind_ok] at hres
    have gb4 := hk31x b4 _ (by first | exact nb4_r0 | exact blk_ne hb4 hr0 (by decide) | (intro e; subst e; simp_all)) (by first | exact hb4 | exact upd_same _ _ _ | (simp only [f0, f1, f4, f5, f6, f7, hb4, hr0, hb5, hb6, nb4_r0, nr0_b4, nb5_r0, nr0_b5, nb5_b4, nb4_b5, nb6_b4, nb4_b6, nb6_r0, nr0_b6, nb6_b5, nb5_b6, List.length_map, exV, exL, hw1, hw2, upd_app, RR, seval]; rfl))
    have e0_b4 := (gb4.trans hb4.symm).trans e0_b4
    have gb5 := hk31x b5 _ (by first | exact nb5_r0 | exact blk_ne hb5 hr0 (by decide) | (intro e; subst e; simp_all)) (by first | exact hb5 | exact upd_same _ _ _ | (simp only [f0, f1, f4, f5, f6, f7, hb4, hr0, hb5, hb6, nb4_r0, nr0_b4, nb5_r0, nr0_b5, nb5_b4, nb4_b5, nb6_b4, nb4_b6, nb6_r0, nr0_b6, nb6_b5, nb5_b6, List.length_map, exV, exL, hw1, hw2, upd_app, RR, seval]; rfl))
    have gb6 := hk31x b6 _ (by first | exact nb6_r0 | exact blk_ne hb6 hr0 (by decide) | (intro e; subst e; simp_all)) (by first | exact hb6 | exact upd_same _ _ _ | (simp only [f0, f1, f4, f5, f6, f7, hb4, hr0, hb5, hb6, nb4_r0, nr0_b4, nb5_r0, nr0_b5, nb5_b4, nb4_b5, nb6_b4, nb4_b6, nb6_r0, nr0_b6, nb6_b5, nb5_b6, List.length_map, exV, exL, hw1, hw2, upd_app, RR, seval]; rfl))
    have hb4 := gb4; clear gb4
    have hb5 := gb5; clear gb5
    have hb6 := gb6; clear gb6
    have hr0 := hn31x; clear hn31x hk31x
    simp only [emitF, markOf, EM, f0, f5, f6, f7, hb4, hr0, hb5, hb6, nb4_r0, nr0_b4, nb5_r0, nr0_b5, nb5_b4, nb4_b5, nb6_b4, nb4_b6, nb6_r0, nr0_b6, nb6_b5, nb5_b6, List.length_map, exV, exL, hw1, hw2, RR, seval]
    refine hK _ _ ?_; clear hK K
    refine awp_region rfl ?_
    simp only [f5, f6, hb4, hr0, hb5, hb6, nb4_r0, nr0_b4, nb5_r0, nr0_b5, nb5_b4, nb4_b5, nb6_b4, nb4_b6, nb6_r0, nr0_b6, nb6_b5, nb5_b6, List.length_map, exV, exL, hw1, hw2, RR, seval]
    have hm31 := exprP_far ho31
    try rw [IntWalk.i64_in _ (by omega)]
    refine hK0 (T.length - m31) _ _ (by omega) ⟨(by first | exact e0_b4 | (simp only [nb4_r0, nr0_b4, nb5_r0, nr0_b5, nb5_b4, nb4_b5, nb6_b4, nb4_b6, nb6_r0, nr0_b6, nb6_b5, nb5_b6, upd_app, seval]; first | done | exact e0_b4)), m31, joinI (peekI T m) x a31, rfl, by have := exprP_far ho31; omega, by have := exprP_far ho31; omega, hres, by first | (simp only [f0, f1, f4, f5, f6, f7, hb4, hr0, hb5, hb6, nb4_r0, nr0_b4, nb5_r0, nr0_b5, nb5_b4, nb4_b5, nb6_b4, nb4_b6, nb6_r0, nr0_b6, nb6_b5, nb5_b6, List.length_map, exV, exL, hw1, hw2, upd_app, RR, seval, joinI, hsI, Ex.kind, Ex.op, Ex.num, Ex.name, Ex.kids, List.map_cons, List.map_nil, Ex.row_eq]; done) | (simp only [f0, f1, f4, f5, f6, f7, hb4, hr0, hb5, hb6, nb4_r0, nr0_b4, nb5_r0, nr0_b5, nb5_b4, nb4_b5, nb6_b4, nb4_b6, nb6_r0, nr0_b6, nb6_b5, nb5_b6, List.length_map, exV, exL, hw1, hw2, upd_app, RR, seval, joinI, hsI, Ex.kind, Ex.op, Ex.num, Ex.name, Ex.kids, List.map_cons, List.map_nil, Ex.row_eq]; rfl), by first | exact hr0 | (simp only [f0, f1, f4, f5, f6, f7, hb4, hr0, hb5, hb6, nb4_r0, nr0_b4, nb5_r0, nr0_b5, nb5_b4, nb4_b5, nb6_b4, nb4_b6, nb6_r0, nr0_b6, nb6_b5, nb5_b6, List.length_map, exV, exL, hw1, hw2, upd_app, RR, seval]; done)⟩ (by repeat (first | exact ag0 | refine agree.upd rfl ?_))
end Go.Proofs.YtlpeikljipknoaaDoor

namespace Go.Proofs.YtlpeikljipknoaaDoor
open Go.Al
theorem exL_snoc (acc : List Ex) (a : Ex) : (acc ++ [a]).map Ex.row = acc.map Ex.row ++ [[.int .i64 a.kind, .int .i64 a.op, .int .u32 a.num, .str a.name, .isl 5 (a.kids.map Ex.row)]] := by
  rw [List.map_append, List.map_cons, List.map_nil, Ex.row_eq]
set_option maxHeartbeats 4000000 in
theorem args_step (r0 : Nat) {T : List Tok} (hT : Sz T) (n e : Nat) (hn : n ≤ T.length) (hx : exprC r0 T e 1 n) (ih : Beh r0 T e n) : argsC r0 T e n := by
  unfold argsC RCon
  generalize hres : argsP T n = res
  rw [argsP_eq] at hres
  generalize hH0 : rdH r0 T n e = H0
  have hr0 : H0 r0 = some (.rows 3 [[.isl 4 (T.map Tok.row), .int .i64 (n : Nat), .int .i64 (e : Nat)]]) := by rw [← hH0]; exact rdH_at _ _ _ _
  clear hH0
  have hlen := hT.len
  refine con_of 20 [.tmp 2] Tryd.func92 rfl rfl rfl rfl ?_
  refine awp_seq_k fun K hK => ?_
  refine awp_region rfl ?_
  simp only [List.length_map, exV, exL, RR, seval]
  refine hK _ _ ?_; clear hK K
  refine awp_seq ?_
  refine awp_seq_k fun K hK => ?_
  refine awp_region rfl ?_
  simp only [hr0, List.length_map, exV, exL, RR, seval]
  refine awpC_rdo (may_con r0 hT n e hn [41] (by decide)) (by first | exact hr0 | (simp only [hr0, List.length_map, exV, exL, upd_app, RR, seval]; done)) trivial fun M1 hn5x hk5x => ?_
  have hr0 := hn5x; clear hn5x hk5x
  simp only [hr0, List.length_map, exV, exL, RR, seval]
  refine hK _ _ ?_; clear hK K
  refine awp_if _ rfl (fun hc1 => ?_) (fun hc1 => ?_)
  · simp only [decide_eq_true_eq, decide_eq_false_iff_not, Bool.not_eq_true', Bool.not_eq_false', Bool.not_true, Bool.not_false] at hc1
    simp only [if_pos hc1] at hres hr0 ⊢
    refine awp_seq_k fun K hK => ?_
    refine awp_region rfl ?_
    simp only [List.length_map, exV, exL, RR, seval]
    refine hK _ _ ?_; clear hK K
    refine awp_ret ?_; simp only [bodyQ, aresult, ares, List.length_map, exV, exL, RR, seval]
    exact rgives (by first | exact hr0 | (simp only [hr0, List.length_map, exV, exL, upd_app, RR, seval]; done)) hres.symm (Sub.nsl _)
  · simp only [decide_eq_true_eq, decide_eq_false_iff_not, Bool.not_eq_true', Bool.not_eq_false', Bool.not_true, Bool.not_false] at hc1
    simp only [if_neg hc1] at hres hr0 ⊢
    refine awp_skip ?_; try simp only [RR]
    refine awp_seq_k fun K hK => ?_
    refine awp_region rfl ?_
    simp only [hr0, List.length_map, exV, exL, RR, seval]
    refine awpC_rd (hx) (by first | exact hr0 | (simp only [hr0, List.length_map, exV, exL, upd_app, RR, seval]; done)) trivial ?_ ?_
    · intro n7x H7x hbd
      simp only [hbd, PR.bind_bad] at hres
      subst hres
      simp only [thenQ_pan, blockQ_pan, bodyQ_pan, rpost]
    intro a7 m7 M2 ho7 hn7x hk7x
    simp only [ho7, PR.bind_ok] at hres
    have hr0 := hn7x; clear hn7x hk7x
    simp only [hr0, List.length_map, exV, exL, RR, seval]
    refine awpB_own fun b8 hn8 => ?_
    have nb8_r0 : b8 ≠ r0 := fun e => by rw [e] at hn8; simp only [hr0, RR, seval, reduceCtorEq] at hn8
    have nr0_b8 : r0 ≠ b8 := fun e => nb8_r0 e.symm
    simp only [hr0, nb8_r0, nr0_b8, List.length_map, exV, exL, RR, seval]
    refine hK _ _ ?_; clear hK K
    have hm7 := exprP_far ho7
    refine awp_seq ?_
    refine awp_name fun F3 M3 hfr hH => ?_
    have g0 := hfr 0
    have g2 := hfr 2
    have g3 := hfr 3
    have gr0 := hH r0
    have gb8 := hH b8
    try simp only [hr0, nb8_r0, nr0_b8, List.length_map, exV, exL, RR, seval] at g0 g2 g3 gr0 gb8
    have f0 := g0; clear g0
    have f2 := g2; clear g2
    have f3 := g3; clear g3
    have hr0 := gr0; clear gr0
    have hb8 := gb8; clear gb8
    clear hfr hH
    have hown : OwnL 5 (F3 3) ([a7].map Ex.row) M3 := by
      rw [List.map_cons, List.map_nil, Ex.row_eq]
      exact .inr ⟨b8, f3, hb8⟩
    refine awp_block ?_
    refine awp_while [0, 2] (T.length - m7) (fun k fr M => (∃ (m : Nat) (acc : List Ex), k = T.length - m ∧ n < m ∧ m ≤ T.length ∧ acc.length ≤ m ∧ arglP T acc m = res ∧ OwnL 5 (fr 3) (acc.map Ex.row) M ∧ M r0 = some (.rows 3 [[.isl 4 (T.map Tok.row), .int .i64 (m : Nat), .int .i64 (e : Nat)]]))) ⟨m7, [a7], rfl, by omega, by omega, by simp; omega, hres, hown, hr0⟩ ?_
    rintro k F4 M4 ⟨m, acc, rfl, hnm, hm, hal, hres, hown, hr0⟩ agx K0 hK0
    have f0 := (agx 0 rfl).trans f0
    have f2 := (agx 2 rfl).trans f2
    have ag0 := agree.refl [0, 2] F4
    clear agx
    obtain ⟨v3, f3⟩ : ∃ v, F4 3 = v := ⟨_, rfl⟩
    rw [f3] at hown
    refine awp_seq ?_
    refine awp_seq_k fun K hK => ?_
    refine awp_region rfl ?_
    simp only [f0, hr0, nb8_r0, nr0_b8, List.length_map, exV, exL, RR, seval]
    refine awpC_rdo (may_con r0 hT m e hm [44] (by decide)) (by first | exact hr0 | (simp only [f0, f2, f3, hr0, nb8_r0, nr0_b8, List.length_map, exV, exL, upd_app, RR, seval]; done)) trivial fun M5 hn10x hk10x => ?_
    have hown := OwnL.kp hown hr0 (by decide) hk10x
    have hr0 := hn10x; clear hn10x hk10x
    simp only [f0, hr0, nb8_r0, nr0_b8, List.length_map, exV, exL, RR, seval]
    refine hK _ _ ?_; clear hK K
    refine awp_if _ rfl (fun hc => ?_) (fun hc => ?_)
    · have hw0 := hc; clear hc
      simp only [decide_eq_true_eq] at hw0
      rw [arglP_eq, if_pos hw0] at hres
      rw [if_pos hw0] at hr0
      have hlt := peek_lt hw0 (by decide)
      refine awp_skip ?_; try simp only [RR]
      refine awp_block ?_
      refine awp_region rfl ?_
      simp only [f0, f3, hr0, nb8_r0, nr0_b8, List.length_map, exV, exL, RR, seval]
      refine awpC_rd (ih.expr 1 (m + 1) (by decide) (by decide) (by omega) (by omega)) (by first | exact hr0 | (simp only [f0, f2, f3, hr0, nb8_r0, nr0_b8, List.length_map, exV, exL, upd_app, RR, seval]; done)) trivial ?_ ?_
      · intro n13x H13x hbd
        simp only [hbd, PR.bind_bad] at hres
        subst hres
        simp only [thenQ_pan, blockQ_pan, bodyQ_pan, rpost]
      intro a13 m13 M6 ho13 hn13x hk13x
      simp only [ho13, PR.bind_ok] at hres
      have hown := OwnL.kp hown hr0 (by decide) hk13x
      have hr0 := hn13x; clear hn13x hk13x
      simp only [f0, f3, hr0, nb8_r0, nr0_b8, List.length_map, exV, exL, RR, seval]
      refine awpB_sealed ?_
      simp only [f0, f3, hr0, nb8_r0, nr0_b8, List.length_map, exV, exL, RR, seval]
      refine awpA_own hown (by simp only [List.length_map, List.length_cons, List.length_nil]; omega) (fun _ => trivial) fun v5 M7 hown' hk' => ?_
      simp only [f0, f3, hr0, nb8_r0, nr0_b8, List.length_map, exV, exL, RR, seval]
      have gr0 := hk' r0 _ hr0 (by first | exact (hown).nb' hr0 (by decide) | exact ho0 _ _ | assumption | (intro e; simp_all))
      have hr0 := gr0; clear gr0
      have hm13 := exprP_far ho13
      try rw [IntWalk.i64_in _ (by omega)]
      refine hK0 (T.length - m13) _ _ (by omega) ⟨m13, acc ++ [a13], rfl, by omega, by omega, by simp only [List.length_append, List.length_cons, List.length_nil]; omega, hres, by rw [exL_snoc]; exact hown', by first | exact hr0 | (simp only [f0, f2, f3, hr0, nb8_r0, nr0_b8, List.length_map, exV, exL, upd_app, RR, seval]; done)⟩ (by repeat (first | exact ag0 | refine agree.upd rfl ?_))
    · have hw0 := hc; clear hc
      simp only [decide_eq_false_iff_not] at hw0
      rw [arglP_eq, if_neg hw0] at hres
      rw [if_neg hw0] at hr0
      refine awp_exit ?_; simp only [RR, seval]
      refine awp_seq_k fun K hK => ?_
      refine awp_region rfl ?_
      simp only [f0, hr0, nb8_r0, nr0_b8, List.length_map, exV, exL, RR, seval]
      refine awpB_sealed ?_
      simp only [f0, hr0, nb8_r0, nr0_b8, List.length_map, exV, exL, RR, seval]
      refine awpC_rd (must_con r0 hT m e hm [41] (by decide)) (by first | exact hr0 | (simp only [f0, f2, f3, hr0, nb8_r0, nr0_b8, List.length_map, exV, exL, upd_app, RR, seval]; done)) trivial ?_ ?_
      · intro n18x H18x hbd
        simp only [hbd, PR.bind_bad] at hres
        subst hres
        simp only [thenQ_pan, blockQ_pan, bodyQ_pan, rpost]
      intro a18 m18 M8 ho18 hn18x hk18x
      simp only [ho18, PR.bind_ok] at hres
      have hown := OwnL.kp hown hr0 (by decide) hk18x
      have hr0 := hn18x; clear hn18x hk18x
      simp only [f0, hr0, nb8_r0, nr0_b8, List.length_map, exV, exL, RR, seval]
      refine hK _ _ ?_; clear hK K
      refine awp_seq_k fun K hK => ?_
      refine awp_region rfl ?_
      simp only [f3, List.length_map, exV, exL, RR, seval]
      refine hK _ _ ?_; clear hK K
      refine awp_ret ?_; simp only [bodyQ, aresult, ares, f2, List.length_map, exV, exL, RR, seval]
      refine rgivesL (a := acc) hown (.inl (by decide)) (by first | exact hr0 | (simp only [f0, f2, f3, hr0, nb8_r0, nr0_b8, List.length_map, exV, exL, upd_app, RR, seval]; done)) hres.symm ?_
      exact Sub.refl _
theorem exprs_all (r0 : Nat) {T : List Tok} (hT : Sz T) (e : Nat) (k : Nat) : ∀ n, n ≤ T.length → T.length - n ≤ k → atomC r0 T e n ∧ (∀ lo, 1 ≤ lo → lo ≤ 10 → exprC r0 T e lo n) ∧ argsC r0 T e n := by
  induction k using Nat.strongRecOn with
  | _ k ih =>
    intro n hn hk
    have hb : Beh r0 T e n := ⟨fun m h1 h2 => (ih (T.length - m) (by omega) m h2 (Nat.le_refl _)).1, fun lo m l1 l2 h1 h2 => (ih (T.length - m) (by omega) m h2 (Nat.le_refl _)).2.1 lo l1 l2, fun m h1 h2 => (ih (T.length - m) (by omega) m h2 (Nat.le_refl _)).2.2⟩
    have ha := atom_step r0 hT n e hn hb
    have hx := fun lo l1 l2 => expr_step r0 hT lo n e l1 l2 hn ha hb
    exact ⟨ha, hx, args_step r0 hT n e hn (hx 1 (by decide) (by decide)) hb⟩
theorem expr_con (r0 : Nat) {T : List Tok} (hT : Sz T) (n e : Nat) (hn : n ≤ T.length) : RCon 33 [.int .i64 1] r0 T n e exV (exprP T 1 n) := (exprs_all r0 hT e _ n hn (Nat.le_refl _)).2.1 1 (by decide) (by decide)
theorem args_con (r0 : Nat) {T : List Tok} (hT : Sz T) (n e : Nat) (hn : n ≤ T.length) : RCon 92 [] r0 T n e exL (argsP T n) := (exprs_all r0 hT e _ n hn (Nat.le_refl _)).2.2
theorem round_con (r0 : Nat) {T : List Tok} (hT : Sz T) (n e : Nat) (hn : n ≤ T.length) : RCon 111 [] r0 T n e exL (roundP T n) := by
  unfold RCon
  generalize hres : roundP T n = res
  unfold roundP at hres
  generalize hH0 : rdH r0 T n e = H0
  have hr0 : H0 r0 = some (.rows 3 [[.isl 4 (T.map Tok.row), .int .i64 (n : Nat), .int .i64 (e : Nat)]]) := by rw [← hH0]; exact rdH_at _ _ _ _
  clear hH0
  have hlen := hT.len
  refine con_of 14 [.tmp 2] Tryd.func111 rfl rfl rfl rfl ?_
  refine awp_seq_k fun K hK => ?_
  refine awp_region rfl ?_
  simp only [List.length_map, exV, exL, RR, seval]
  refine hK _ _ ?_; clear hK K
  refine awp_seq_k fun K hK => ?_
  refine awp_region rfl ?_
  simp only [hr0, List.length_map, exV, exL, RR, seval]
  refine awpB_sealed ?_
  simp only [hr0, List.length_map, exV, exL, RR, seval]
  refine awpC_rd (must_con r0 hT n e hn [40] (by decide)) (by first | exact hr0 | (simp only [hr0, List.length_map, exV, exL, upd_app, RR, seval]; done)) trivial ?_ ?_
  · intro n6x H6x hbd
    simp only [hbd, PR.bind_bad] at hres
    subst hres
    simp only [thenQ_pan, blockQ_pan, bodyQ_pan, rpost]
  intro a6 m6 M1 ho6 hn6x hk6x
  simp only [ho6, PR.bind_ok] at hres
  have hr0 := hn6x; clear hn6x hk6x
  simp only [hr0, List.length_map, exV, exL, RR, seval]
  refine hK _ _ ?_; clear hK K
  have hm6 := must_ok ho6 (by decide)
  refine awp_seq_k fun K hK => ?_
  refine awp_region rfl ?_
  simp only [hr0, List.length_map, exV, exL, RR, seval]
  refine awpC_rd (expr_con r0 hT m6 e (by omega)) (by first | exact hr0 | (simp only [hr0, List.length_map, exV, exL, upd_app, RR, seval]; done)) trivial ?_ ?_
  · intro n8x H8x hbd
    simp only [hbd, PR.bind_bad] at hres
    subst hres
    simp only [thenQ_pan, blockQ_pan, bodyQ_pan, rpost]
  intro a8 m8 M2 ho8 hn8x hk8x
  simp only [ho8, PR.bind_ok] at hres
  have hr0 := hn8x; clear hn8x hk8x
  simp only [hr0, List.length_map, exV, exL, RR, seval]
  refine awpN_intro fun b3 hn3 => ?_
  have nb3_r0 : b3 ≠ r0 := fun e => by rw [e] at hn3; simp only [hr0, RR, seval, reduceCtorEq] at hn3
  have nr0_b3 : r0 ≠ b3 := fun e => nb3_r0 e.symm
  simp only [hr0, nb3_r0, nr0_b3, List.length_map, exV, exL, RR, seval]
  refine hK _ _ ?_; clear hK K
  have hm8 := exprP_far ho8
  refine awp_seq_k fun K hK => ?_
  refine awp_region rfl ?_
  simp only [hr0, nb3_r0, nr0_b3, List.length_map, exV, exL, RR, seval]
  refine awpB_sealed ?_
  simp only [hr0, nb3_r0, nr0_b3, List.length_map, exV, exL, RR, seval]
  refine awpC_rd (must_con r0 hT m8 e (by omega) [41] (by decide)) (by first | exact hr0 | (simp only [hr0, nb3_r0, nr0_b3, List.length_map, exV, exL, upd_app, RR, seval]; done)) trivial ?_ ?_
  · intro n11x H11x hbd
    simp only [hbd, PR.bind_bad] at hres
    subst hres
    simp only [thenQ_pan, blockQ_pan, bodyQ_pan, rpost]
  intro a11 m11 M3 ho11 hn11x hk11x
  simp only [ho11, PR.bind_ok] at hres
  have gb3 := hk11x b3 _ (by first | exact nb3_r0 | exact blk_ne hb3 hr0 (by decide) | (intro e; subst e; simp_all)) (by first | exact upd_same _ _ _ | (simp only [hr0, nb3_r0, nr0_b3, List.length_map, exV, exL, upd_app, RR, seval]; rfl))
  have hb3 := gb3; clear gb3
  have hr0 := hn11x; clear hn11x hk11x
  simp only [hr0, hb3, nb3_r0, nr0_b3, List.length_map, exV, exL, RR, seval]
  refine hK _ _ ?_; clear hK K
  refine awp_seq_k fun K hK => ?_
  refine awp_region rfl ?_
  simp only [hr0, hb3, nb3_r0, nr0_b3, List.length_map, exV, exL, RR, seval]
  refine awpB_sealed ?_
  simp only [hr0, hb3, nb3_r0, nr0_b3, List.length_map, exV, exL, RR, seval]
  refine hK _ _ ?_; clear hK K
  refine awp_ret ?_; simp only [bodyQ, aresult, ares, List.length_map, exV, exL, RR, seval]
  refine rgives (by first | exact hr0 | (simp only [hr0, hb3, nb3_r0, nr0_b3, List.length_map, exV, exL, upd_app, RR, seval]; done)) hres.symm ?_
  simp only [exL, List.map_cons, List.map_nil, Ex.row_eq]
  exact Sub.refl _
end Go.Proofs.YtlpeikljipknoaaDoor
