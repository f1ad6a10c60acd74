/- Chapter 14: strings.Builder: copyCheck and WriteString, walked: what they leave, and what they keep. Chapter 14: strings.Builder: WriteString, walked. Chapter 14: strings.Builder: String, walked. Chapter 14: strings.Builder in the little logic: what is written, and what it says at last. Chapter 14: strings.Builder's contracts in the little logic. -/
import Derived.Test.YtgcncdjnipfolaaDoorBa
import Derived.Test.YtgcncdjnipfolaaDoorProg
import Derived.BigCall
import Derived.BigGuard
import Derived.Shelf.Strings.Builder1
import Derived.Test.YtgcncdjnipfolaaDoorAl3
import Derived.Shelf.RegionOpen
import Derived.Test.YtgcncdjnipfolaaDoorSy2
set_option linter.unusedSimpArgs false
set_option linter.unusedVariables false
set_option maxRecDepth 10000
namespace Go.Proofs
open Go.Lib Go.RowKit Go.Al
abbrev TB : TypeId := 63
abbrev TQ : TypeId := 61
abbrev TU : TypeId := 5
theorem bd_size : (Tryd.prog.info? TQ).map (·.size) = some 2 := by kernel_rfl
theorem bd_lies : liesAt Tryd.prog Tryd.prog.depth TB (2 / Tryd.prog.cellsOf TB) 0 TQ 1 = true := by kernel_rfl
set_option maxHeartbeats 1000000 in
set_option maxRecDepth 100000 in
theorem copyCheck_used (b : Nat) (w : World) (h0 : w.cell? ⟨b, 0, none⟩ = some (.pointer (some ⟨b, 0, none⟩))) :
    Calls Tryd.prog 77 #[.pointer (some ⟨b, 0, none⟩)] w fun e w' => e = .returned (.tuple #[]) ∧ w' = w := by
  obtain ⟨j, hj, _⟩ := Option.map_eq_some_iff.1 bd_size
  go_enter Tryd.func77, Tryd.ntmps77
  go_wp2
  rw [Lib.run_neq_ptr_same w _ Tryd.underlying58 hj]
  go_wp2
  go_end0
  exact ⟨rfl, rfl⟩
set_option maxHeartbeats 1000000 in
set_option maxRecDepth 100000 in
theorem copyCheck_fresh (b : Nat) (w : World) (h0 : w.cell? ⟨b, 0, none⟩ = some (.pointer none)) (hsh : w.shape? b = some (TB, 2)) (hfz : w.frozen? ⟨b, 0, none⟩ = false) :
    Calls Tryd.prog 77 #[.pointer (some ⟨b, 0, none⟩)] w fun e w' => e = .returned (.tuple #[]) ∧ w' = w.setCell ⟨b, 0, none⟩ (.pointer (some ⟨b, 0, none⟩)) := by
  obtain ⟨j, hj, hjs⟩ := Option.map_eq_some_iff.1 bd_size
  go_enter Tryd.func77, Tryd.ntmps77
  go_wp2
  rw [Lib.run_to_unsafe w ⟨b, 0, none⟩ Tryd.underlying58 Tryd.underlying97 hj (by rw [hjs]; decide) hsh (Nat.zero_lt_succ 1)]
  simp only [Result.andThen]
  rw [Oper.upon_value]
  go_wp2
  rw [run_callFunc_extern Tryd.func83 (by kernel_rfl) (by kernel_rfl) (by kernel_rfl) (e := Extern.AbiNoEscape.same) (by kernel_rfl)]
  rw [Lib.run_noEscape]
  simp only [Result.andThen]
  rw [Oper.upon_value]
  go_wp2
  rw [Lib.run_from_unsafe w ⟨b, 0, none⟩ Tryd.underlying97 Tryd.underlying58 hj hsh bd_lies]
  simp only [Result.andThen]
  rw [Oper.upon_value]
  go_wp2
  go_end0
  exact ⟨rfl, rfl⟩
theorem copyCheck_w (b : Nat) (p v : Value) (w : World) (hb : w.heap[b]? = some (.cells #[p, v] TB (0, 0))) (hp : p = .pointer none ∨ p = .pointer (some ⟨b, 0, none⟩)) :
    Calls Tryd.prog 77 #[.pointer (some ⟨b, 0, none⟩)] w fun e w' => e = .returned (.tuple #[]) ∧ w'.heap[b]? = some (.cells #[.pointer (some ⟨b, 0, none⟩), v] TB (0, 0)) ∧ Ext (fun k => k = b) w w' := by
  have c0 : w.cell? ⟨b, 0, none⟩ = some p := by rw [Lib.cell_of_heap hb]; rfl
  rcases hp with rfl | rfl
  · refine (copyCheck_fresh b w c0 (by simp [World.shape?, hb]) (Lib.frozen_of_heap hb 0)).mono ?_
    rintro e w' ⟨rfl, rfl⟩
    exact ⟨rfl, by simp [World.setCell, Array.getElem?_modify, hb], Ext.setCell w _ _ rfl⟩
  · refine (copyCheck_used b w c0).mono ?_
    rintro e w' ⟨rfl, rfl⟩
    exact ⟨rfl, hb, Ext.refl _ _⟩
end Go.Proofs

namespace Go.Proofs
open Go.Lib Go.RowKit Go.Al
theorem info_byte : (Tryd.prog.info? TU).map (fun i => (i.zero, i.size, i.bytes)) = some (some (.int .u8 0), 1, 1) := by kernel_rfl
theorem wpList_append_text {P : Program} {w : World} {ops : Array Oper} {rest : List Oper} {o : Oper} {a : Act} {Q : Exit → Act → World → Prop} (hgd : o.guard = none) (sl x : Operand) (t u : TypeId)
    (ho : o.op = .call { callee := .builtin .append, args := #[sl, x], argTypes := #[t, u] })
    (e : TypeId) (i : TypeInfo) (ht : P.underlying t = some (.slice e)) (hu : P.underlying u = some .string) (hi : P.info? e = some i) (hz : i.zero = some (.int .u8 0))
    (hsize : i.size = 1) (hby : i.bytes = 1)
    (v : Value) (n : Nat) (xs : List Value) (hs : a.eval sl = v) (hown : w.ownsRow 0 e 1 v n xs) (s : ByteArray) (hx : a.eval x = .string s) (hb : n + s.size ≤ 140737488355328)
    (h : ∀ v' w', w'.ownsRow 0 e 1 v' (n + s.size) (xs ++ strCells s) → w.grownBy w' v.ownBlock → (∀ k sh, w.shape? k = some sh → w'.shape? k = some sh) → (∀ g, v'.ownBlock = some g → v.ownBlock = some g ∨ w.heap.size ≤ g) → (v' = .slice none 0 0 ↔ v = .slice none 0 0 ∧ s.size = 0) → wpList P ops Q rest (a.put o.dst v') w') : wpList P ops Q (o :: rest) a w := by
  refine wpList_plain hgd fun K hK => ?_
  obtain ⟨v', w', hr, h2, h3, h4, h5, h6⟩ := append_text (P := P) w t u o.type e i ht hu hi hz hsize hby v n xs hown s hb
  unfold Oper.wp execOp
  simp only [ho, resolve, invoke, builtin, Sem.run_bind, Sem.run_pure, Result.andThen_ok, List.map_toArray, List.map_cons, List.map_nil, hs, hx, hr]
  exact hK _ _ (h v' w' h2 h3 h4 h5 h6)
theorem ext_grown {M : Nat → Prop} {w w' : World} {r : Option Nat} (h : w.grownBy w' r) (hs : ∀ k sh, w.shape? k = some sh → w'.shape? k = some sh) (hr : ∀ k, r = some k → M k) : Ext M w w' :=
  ⟨h.os, h.tape, h.output, h.size, fun k hk hn => h.block k hk fun e => hn (hr k e.symm), hs⟩
set_option maxHeartbeats 2000000 in
set_option maxRecDepth 100000 in
theorem writeString_w (b : Nat) (p v : Value) (n : Nat) (xs : List Value) (s : ByteArray) (w : World) (hb : w.heap[b]? = some (.cells #[p, v] TB (0, 0))) (hp : p = .pointer none ∨ p = .pointer (some ⟨b, 0, none⟩))
    (hown : w.ownsRow 0 TU 1 v n xs) (hlen : n + s.size ≤ 140737488355328) :
    Calls Tryd.prog 61 #[.pointer (some ⟨b, 0, none⟩), .string s] w fun e w' => e = .returned (.tuple #[.int .i64 s.size, .nilIface]) ∧
      ∃ v', w'.heap[b]? = some (.cells #[.pointer (some ⟨b, 0, none⟩), v'] TB (0, 0)) ∧ w'.ownsRow 0 TU 1 v' (n + s.size) (xs ++ strCells s) ∧
        Ext (fun k => k = b ∨ v.ownBlock = some k) w w' ∧ (∀ g, v'.ownBlock = some g → v.ownBlock = some g ∨ w.heap.size ≤ g) ∧ (v' = .slice none 0 0 ↔ v = .slice none 0 0 ∧ s.size = 0) := by
  obtain ⟨i0, hi, hz0, hz1, hz2⟩ := info_parts info_byte
  have hne : TB ≠ TU := by decide
  have hnb : v.ownBlock ≠ some b := Lib.ownBlock_ne hown hb hne
  go_enter Tryd.func61, Tryd.ntmps61
  go_wp2_with (go_at_call 77; refine (copyCheck_w b p v _ hb hp).mono ?_)
  rintro e w1 ⟨rfl, hb1, he1⟩
  have hown1 : w1.ownsRow 0 TU 1 v n xs := hown.kept (row := some b) ⟨he1.os, he1.tape, he1.output, he1.size, fun k hk hn => he1.keep k hk (fun e => hn (by rw [e]))⟩ (.inr hnb)
  have c0 : w1.cell? ⟨b, 0, none⟩ = some (.pointer (some ⟨b, 0, none⟩)) := by rw [Lib.cell_of_heap hb1]; rfl
  have c1 : w1.cell? ⟨b, 1, none⟩ = some v := by rw [Lib.cell_of_heap hb1]; rfl
  go_wp2_with (at_builtin; refine wpList_append_text rfl _ _ 59 9 rfl TU i0 Tryd.underlying59 Tryd.underlying9 hi hz0 hz1 hz2 _ _ _ rfl hown1 s rfl hlen ?_)
  intro v' w2 hown' hgrow hshp hnew hnil
  have hlt : b < w1.heap.size := (Array.getElem?_eq_some_iff.1 hb1).1
  have hb2 : w2.heap[b]? = some (.cells #[.pointer (some ⟨b, 0, none⟩), v] TB (0, 0)) := by
    rw [hgrow.block b hlt (fun e => hnb e.symm)]
    exact hb1
  have d0 : w2.cell? ⟨b, 0, none⟩ = some (.pointer (some ⟨b, 0, none⟩)) := by rw [Lib.cell_of_heap hb2]; rfl
  have d1 : w2.cell? ⟨b, 1, none⟩ = some v := by rw [Lib.cell_of_heap hb2]; rfl
  have f1 : w2.frozen? ⟨b, 1, none⟩ = false := Lib.frozen_of_heap hb2 1
  obtain ⟨ao, n', cap, rfl⟩ : ∃ ao n' cap, v' = .slice ao n' cap := by
    rcases hown'.2 with ⟨hv, _⟩ | ⟨g, cap, cur, hv, _⟩
    · exact ⟨_, _, _, hv⟩
    · exact ⟨_, _, _, hv⟩
  have hnb' : (Value.slice ao n' cap).ownBlock ≠ some b := Lib.ownBlock_ne hown' hb2 hne
  have hsz := he1.size
  go_wp2
  go_ret2
  refine ⟨rfl, .slice ao n' cap, by simp [World.setCell, Array.getElem?_modify, hb2], ?_, ?_, ?_, by simpa using hnil⟩
  · exact hown'.kept (row := some b) ⟨rfl, rfl, rfl, by simp [World.setCell], fun k _ hk => Below.heap_setCell _ _ _ _ (fun e => hk (by simp [e]))⟩ (.inr hnb')
  · exact ((he1.mono fun _ _ h => .inl h).trans (ext_grown hgrow (fun k sh => hshp k sh.1 sh.2) fun k h => .inr h)).trans (Ext.setCell w2 _ _ (.inl rfl))
  · intro g hg
    rcases hnew g hg with h | h
    · exact .inl h
    · exact .inr (by omega)
end Go.Proofs

namespace Go.Proofs
open Go.Lib Go.RowKit Go.Al
theorem bd_cells : Tryd.prog.cellsOf TU = 1 := by kernel_rfl
set_option maxHeartbeats 1000000 in
set_option maxRecDepth 100000 in
theorem string_w (b g cap : Nat) (p : Value) (l : List UInt8) (w : World) (h0 : l ≠ []) (hb : w.heap[b]? = some (.cells #[p, .slice (some ⟨g, 0, none⟩) l.length cap] TB (0, 0)))
    (cur : Array Value) (hg : w.heap[g]? = some (.cells cur TU (0, 0))) (hcs : cur.size = cap) (hnc : l.length ≤ cap) (hcm : cap ≤ maxLen) (hcell : ∀ (j : Nat) (x : UInt8), l[j]? = some x → cur[j]? = some (.int .u8 x.toNat)) :
    Calls Tryd.prog 43 #[.pointer (some ⟨b, 0, none⟩)] w fun e w' => e = .returned (.string ⟨l.toArray⟩) ∧ w' = w.drew.freeze ⟨g, 0, none⟩ l.length := by
  have hl0 : l.length ≠ 0 := by simpa using h0
  have c1 : w.drew.cell? ⟨b, 1, none⟩ = some (.slice (some ⟨g, 0, none⟩) l.length cap) := by
    have : w.drew.heap[b]? = some (.cells #[p, .slice (some ⟨g, 0, none⟩) l.length cap] TB (0, 0)) := hb
    rw [Lib.cell_of_heap this]; rfl
  have hSD : (Builtin.unsafeSliceData_ #[59] 88 #[.slice (some ⟨g, 0, none⟩) l.length cap]).run Tryd.prog w.drew = .ok (.pointer (some ⟨g, 0, none⟩)) w.drew :=
    Lib.run_unsafeSliceData_row _ _ _ _ _ _ (by omega)
  have hg' : w.drew.heap[g]? = some (.cells cur TU (0, 0)) := hg
  have hUS : (Builtin.unsafeString_ #[88, 3] 9 #[.pointer (some ⟨g, 0, none⟩), .int .i64 l.length]).run Tryd.prog w.drew = .ok (.string ⟨l.toArray⟩) (w.drew.freeze ⟨g, 0, none⟩ l.length) := by
    refine Lib.run_unsafeString_row w.drew 88 3 9 TU Tryd.underlying88 bd_cells g cur.size (by simp [World.shape?, hg']) l h0 (by omega) (by unfold maxLen at hcm; omega) ?_
    intro j x hx
    rw [Addr.add_lit, Lib.cell_of_heap hg', Nat.zero_add]
    exact hcell j x hx
  clear hg hg' hcell hcs hcm hnc
  go_enter Tryd.func43, Tryd.ntmps43
  go_wp2
  go_region
  all_goals (go_wp2; go_ret; exact ⟨rfl, rfl⟩)
set_option maxHeartbeats 1000000 in
set_option maxRecDepth 100000 in
theorem string_nil_w (b : Nat) (p : Value) (w : World) (hb : w.heap[b]? = some (.cells #[p, .slice none 0 0] TB (0, 0))) :
    Calls Tryd.prog 43 #[.pointer (some ⟨b, 0, none⟩)] w fun e w' => e = .returned (.string ⟨#[]⟩) ∧ w' = w.drew := by
  have c1 : w.drew.cell? ⟨b, 1, none⟩ = some (.slice none 0 0) := by
    have : w.drew.heap[b]? = some (.cells #[p, .slice none 0 0] TB (0, 0)) := hb
    rw [Lib.cell_of_heap this]; rfl
  have hSD : (Builtin.unsafeSliceData_ #[59] 88 #[.slice none 0 0]).run Tryd.prog w.drew = .ok (.pointer none) w.drew := rfl
  have hUS : ∀ (W : World) (q : Option Addr), (Builtin.unsafeString_ #[88, 3] 9 #[.pointer q, .int .i64 0]).run Tryd.prog W = .ok (.string .empty) W := fun W q => Lib.run_unsafeString_none W _ _ _ q
  go_enter Tryd.func43, Tryd.ntmps43
  go_wp2
  go_region
  all_goals (go_wp2; go_ret; exact ⟨rfl, rfl⟩)
end Go.Proofs

namespace Go.Al
open Go.Proofs Go.Lib Go.RowKit
def BldH (b : Nat) (bs : List UInt8) (H : Hp) : Prop :=
  (bs = [] ∧ H b = some (.bld TB none 0)) ∨ (bs ≠ [] ∧ ∃ g cap, H b = some (.bld TB (some (g, cap)) bs.length) ∧ H g = some (.buf TU bs cap))
def BldM (b : Nat) (bs : List UInt8) (H : Hp) : Prop :=
  (bs = [] ∧ H = upd emp b (some (.bld TB none 0))) ∨ (bs ≠ [] ∧ ∃ g cap, g ≠ b ∧ H = upd (upd emp b (some (.bld TB (some (g, cap)) bs.length))) g (some (.buf TU bs cap)))
def plain : AObj → Prop
  | .rows _ _ => True
  | .amap _ => True
  | _ => False
theorem BldM.h {b : Nat} {bs : List UInt8} {H : Hp} (h : BldM b bs H) : BldH b bs H := by
  rcases h with ⟨e, rfl⟩ | ⟨e, g, cap, hg, rfl⟩
  · exact .inl ⟨e, upd_same _ _ _⟩
  · exact .inr ⟨e, g, cap, by rw [upd_ne _ _ (Ne.symm hg), upd_same], upd_same _ _ _⟩
theorem BldH.ne {b : Nat} {bs : List UInt8} {H : Hp} {g cap : Nat} (h1 : H b = some (.bld TB (some (g, cap)) bs.length)) (h2 : H g = some (.buf TU bs cap)) : g ≠ b := fun e => by
  rw [e, h1] at h2; cases h2
theorem BldH.least {b : Nat} {bs : List UInt8} {H : Hp} (h : BldH b bs H) : ∃ H0, BldM b bs H0 ∧ hsub H0 H ∧ ∀ x o, H x = some o → plain o → H0 x = none := by
  rcases h with ⟨e, h1⟩ | ⟨e, g, cap, h1, h2⟩
  · refine ⟨_, .inl ⟨e, rfl⟩, fun x o hx => ?_, fun x o hx hp => ?_⟩
    · by_cases c : x = b
      · subst c; rw [upd_same] at hx; rw [h1]; exact hx
      · rw [upd_ne _ _ c] at hx; cases hx
    · by_cases c : x = b
      · subst c; rw [h1] at hx; cases hx; exact hp.elim
      · rw [upd_ne _ _ c]; rfl
  · have hg := BldH.ne h1 h2
    refine ⟨_, .inr ⟨e, g, cap, hg, rfl⟩, fun x o hx => ?_, fun x o hx hp => ?_⟩
    · by_cases c : x = g
      · subst c; rw [upd_same] at hx; rw [h2]; exact hx
      · rw [upd_ne _ _ c] at hx
        by_cases c2 : x = b
        · subst c2; rw [upd_same] at hx; rw [h1]; exact hx
        · rw [upd_ne _ _ c2] at hx; cases hx
    · have c : x ≠ g := fun c => by subst c; rw [h2] at hx; cases hx; exact hp
      have c2 : x ≠ b := fun c => by subst c; rw [h1] at hx; cases hx; exact hp
      rw [upd_ne _ _ c, upd_ne _ _ c2]; rfl
theorem BldH.keep {b : Nat} {bs : List UInt8} {H H' : Hp} (h : BldH b bs H) (hk : ∀ x o, H x = some o → ¬ plain o → H' x = some o) : BldH b bs H' := by
  rcases h with ⟨e, h1⟩ | ⟨e, g, cap, h1, h2⟩
  · exact .inl ⟨e, hk _ _ h1 (fun h => h)⟩
  · exact .inr ⟨e, g, cap, hk _ _ h1 (fun h => h), hk _ _ h2 (fun h => h)⟩
theorem BldH.new {b : Nat} {bs : List UInt8} {H : Hp} (h : BldH b bs H) {x : Nat} (hx : H x = none) (o : Option AObj) : BldH b bs (upd H x o) :=
  h.keep fun y o' hy _ => by rw [upd_ne _ _ (fun e => by subst e; rw [hx] at hy; cases hy)]; exact hy
theorem BldH.new2 {b : Nat} {bs : List UInt8} {H : Hp} (h : BldH b bs H) {x : Nat} (hx : H x = none) (o o' : Option AObj) : BldH b bs (upd (upd H x o) x o') :=
  h.keep fun y o2 hy _ => by
    have c : y ≠ x := fun e => by subst e; rw [hx] at hy; cases hy
    rw [upd_ne _ _ c, upd_ne _ _ c]; exact hy
theorem BldH.set {b : Nat} {bs : List UInt8} {H : Hp} (h : BldH b bs H) {x : Nat} {o : AObj} (hx : H x = some o) (hp : plain o) (o' : Option AObj) : BldH b bs (upd H x o') :=
  h.keep fun y o2 hy hn => by rw [upd_ne _ _ (fun e => by subst e; rw [hx] at hy; cases hy; exact hn hp)]; exact hy
def TCon (E : Env) (g : FuncId) (args : List AV) (b : Nat) (bs : List UInt8) (v : AV) (out : List UInt8) : Prop := ∀ H0, BldM b bs H0 → Con E g args H0 (fun ae H' => ae = .ret v ∧ BldM b (bs ++ out) H')
theorem awpC_tape3 {E : Env} {F : Nat → Prop} {ds : List (Option Nat)} {Q : APost} {d : Option Nat} {rest : List Oper} {fr : Fr} {H : Hp} {g : FuncId} {args args' : List AV} {b : Nat} {bs out : List UInt8} {v : AV}
    (hc : TCon E g args' b bs v out) (hb : BldH b bs H) (hs : SubL args args') (hF : ∀ x o, H x = some o → ¬ plain o → F x) (h : ∀ H2, BldH b (bs ++ out) H2 → (∀ x o, H x = some o → plain o → H2 x = some o) → (∀ x o, H2 x = some o → plain o → H x = some o) → awpL E F ds Q rest (putF fr d v) H2) : awpC E F ds Q d rest fr H g args := by
  obtain ⟨H0, hm, hsub', hpl⟩ := hb.least
  refine awpC_con (hc H0 hm) hs hsub' (fun x hx => by
    cases e : H0 x with
    | none => exact absurd e hx
    | some o => exact hF x o (hsub' x o e) fun hp => by rw [hpl x o (hsub' x o e) hp] at e; cases e) fun ae H' ⟨e, hm'⟩ hnew => ?_
  subst e
  have nopl : ∀ x o, H' x = some o → ¬ plain o := fun x o hx hp => by
    rcases hm' with ⟨_, rfl⟩ | ⟨_, g, cap, hg, rfl⟩
    · by_cases c : x = b
      · subst c; rw [upd_same] at hx; cases hx; exact hp
      · rw [upd_ne _ _ c] at hx; cases hx
    · by_cases c : x = g
      · subst c; rw [upd_same] at hx; cases hx; exact hp
      · rw [upd_ne _ _ c] at hx
        by_cases c2 : x = b
        · subst c2; rw [upd_same] at hx; cases hx; exact hp
        · rw [upd_ne _ _ c2] at hx; cases hx
  refine h _ (hm'.h.keep fun x o hx _ => by simp only [hjoin, hx]) (fun x o hx hp => ?_) (fun x o hx hp => ?_)
  · have h0 := hpl x o hx hp
    have h1 : H' x = none := by
      cases e : H' x with
      | none => rfl
      | some o' =>
        rcases hnew x (by rw [e]; simp) with c | c
        · exact absurd h0 c
        · rw [hx] at c; cases c
    simp only [hjoin, h1, h0, Option.isSome_none, Bool.false_eq_true, if_false, hx]
  · unfold hjoin at hx
    split at hx
    · rename_i o' e
      cases hx
      exact absurd hp (nopl _ _ e)
    · split at hx
      · cases hx
      · exact hx
theorem awpC_tape {E : Env} {F : Nat → Prop} {ds : List (Option Nat)} {Q : APost} {d : Option Nat} {rest : List Oper} {fr : Fr} {H : Hp} {g : FuncId} {args args' : List AV} {b : Nat} {bs out : List UInt8} {v : AV}
    (hc : TCon E g args' b bs v out) (hb : BldH b bs H) (hs : SubL args args') (hF : ∀ b, F b) (h : ∀ H2, BldH b (bs ++ out) H2 → (∀ x o, H x = some o → plain o → H2 x = some o) → (∀ x o, H2 x = some o → plain o → H x = some o) → awpL E F ds Q rest (putF fr d v) H2) : awpC E F ds Q d rest fr H g args := by
  exact awpC_tape3 hc hb hs (fun x _ _ _ => hF x) h
theorem awpC_tape4 {E : Env} {F : Nat → Prop} {ds : List (Option Nat)} {Q : APost} {d : Option Nat} {rest : List Oper} {fr : Fr} {H : Hp} {g : FuncId} {args args' : List AV} {b : Nat} {bs out : List UInt8} {v : AV}
    (hb : BldH b bs H) (hc : TCon E g args' b bs v out) (hs : SubL args args') (hF : ∀ x o, H x = some o → ¬ plain o → F x) (h : ∀ H2, BldH b (bs ++ out) H2 → (∀ x o, H x = some o → plain o → H2 x = some o) → (∀ x o, H2 x = some o → plain o → H x = some o) → awpL E F ds Q rest (putF fr d v) H2) : awpC E F ds Q d rest fr H g args :=
  awpC_tape3 hc hb hs hF h
theorem awpC_tape2 {E : Env} {F : Nat → Prop} {ds : List (Option Nat)} {Q : APost} {d : Option Nat} {rest : List Oper} {fr : Fr} {H : Hp} {g : FuncId} {args args' : List AV} {b : Nat} {bs out : List UInt8} {v : AV}
    (hb : BldH b bs H) (hc : TCon E g args' b bs v out) (hs : SubL args args') (hF : ∀ b, F b) (h : ∀ H2, BldH b (bs ++ out) H2 → (∀ x o, H x = some o → plain o → H2 x = some o) → (∀ x o, H2 x = some o → plain o → H x = some o) → awpL E F ds Q rest (putF fr d v) H2) : awpC E F ds Q d rest fr H g args :=
  awpC_tape hc hb hs hF h
theorem BldH.gives {b : Nat} {bs : List UInt8} {H : Hp} {v v' : AV} (h : BldH b bs H) (e : v = v') : Gives (fun ae H' => ae = .ret v' ∧ BldM b bs H') v H := by
  obtain ⟨H0, hm, hs, _⟩ := h.least
  exact ⟨v, H0, Turn.drop hs, by rw [e], hm⟩
theorem awp_bld {E : Env} {N id d : Nat} {ty : TypeId} {pos : String} {af : Array Edge} {T : TypeId} {ti : TI} {Q : APost} {fr : Fr} {H : Hp} (hd : dstOk N ⟨some d, .alloc T, ty, pos, af, none⟩ = true) (ht : tinfo E.P T = some ti) (hz : cellsOf ti.zero = some [.npt, .nsl])
    (h : ∀ b, H b = none → Q .normal (upd fr d (.ptr 2 b 0 0)) (upd H b (some (.bld T none 0)))) : awp E N (.region id #[⟨some d, .alloc T, ty, pos, af, none⟩] false) Q fr H := fun γ a w hs => by
  obtain ⟨h1, h2, S, hst, hf⟩ := hs
  refine wp_region_list (wpList_plain rfl fun K hK => ?_)
  obtain ⟨z, hz', ez⟩ := run_zeroValue ht w
  have hl := cells_rel (VRel_avOf S w z) (by rw [← ez]; exact hz)
  simp only [LRel, VRel] at hl
  obtain ⟨u1, us, e1, rfl, u2, us2, rfl, rfl, rfl⟩ := hl
  have hr : (execOp a.eval ⟨some d, .alloc T, ty, pos, af, none⟩).run E.P w = .ok (.value (.pointer (some ⟨w.heap.size, 0, none⟩))) (w.alloc (.cells #[.pointer none, .slice none 0 0] T)) := by
    have e2 : z.cells = #[.pointer none, .slice none 0 0] := by rw [← Array.toArray_toList (xs := z.cells), e1]
    simp only [execOp, Instr.alloc, Sem.run_bind, hz', Result.andThen_ok, newVar, newRow, run_newObj, Sem.run_pure, e2]
    rfl
  obtain ⟨f1, f2, f3⟩ := hst.alloc (ob := .cells #[.pointer none, .slice none 0 0] T) (o := .bld T none 0) (by simp only [ORel]; exact ⟨_, heap_alloc_new w _, .inl rfl⟩)
  simp only [Oper.wp, hr, Oper.upon_value]
  refine hK _ _ ?_
  exact ⟨_, _, Sim.put (o := ⟨some d, .alloc T, ty, pos, af, none⟩) f3 (hf.keeps f2) h1 h2 hd (v := .ptr 2 w.heap.size 0 0) (by simp only [VRel]), h _ f1⟩
end Go.Al

namespace Go.Al
open Go.Proofs Go.Lib Go.RowKit Go.Proofs.YtgcncdjnipfolaaDoor
theorem byte_cells (bs : List UInt8) (s : List UInt8) : (bs.map fun c => Value.int .u8 (c.toNat : Int)) ++ strCells ⟨s.toArray⟩ = (bs ++ s).map fun c => Value.int .u8 (c.toNat : Int) := by
  rw [List.map_append]; rfl
theorem buf_own {S : Seal} {w : World} {g cap : Nat} {bs : List UInt8} (h : ORel S w g (.buf TU bs cap)) : w.ownsRow 0 TU 1 (.slice (some ⟨g, 0, none⟩) bs.length cap) bs.length (bs.map fun c => Value.int .u8 (c.toNat : Int)) := by
  simp only [ORel] at h
  obtain ⟨cur, h1, h2, h3, h4, h5⟩ := h
  refine ⟨by simp, .inr ⟨g, cap, cur, rfl, Nat.zero_le _, h1, h3, h4, by omega, ?_⟩⟩
  apply List.ext_getElem?
  intro i
  rw [Nat.mul_one, List.getElem?_take, List.getElem?_map]
  split
  · rename_i hi
    obtain ⟨c, hc⟩ : ∃ c, bs[i]? = some c := ⟨_, List.getElem?_eq_getElem hi⟩
    have := h5 i c hc
    rw [Array.getElem?_toList, this, hc]
    rfl
  · rw [List.getElem?_eq_none (by omega)]; rfl
theorem own_buf {S : Seal} {w : World} {v : Value} {bs : List UInt8} (hne : v ≠ .slice none 0 0) (h : w.ownsRow 0 TU 1 v bs.length (bs.map fun c => Value.int .u8 (c.toNat : Int))) : ∃ g cap, v = .slice (some ⟨g, 0, none⟩) bs.length cap ∧ ORel S w g (.buf TU bs cap) := by
  rcases h.2 with ⟨h, _⟩ | ⟨g, cap, cur, rfl, _, h1, h2, h3, h4, h5⟩
  · exact absurd h hne
  · refine ⟨g, cap, rfl, ?_⟩
    simp only [ORel]
    refine ⟨cur, h1, by omega, h2, h3, fun i c hc => ?_⟩
    have hi : i < bs.length := (List.getElem?_eq_some_iff.1 hc).1
    have := congrArg (·[i]?) h5
    simp only [Nat.mul_one, List.getElem?_take, hi, if_true, List.getElem?_map, hc, Option.map_some, Array.getElem?_toList] at this
    exact this
theorem st_bld {γ : Start} {S : Seal} {H : Hp} {w w' : World} (hst : St env γ S H w) {M : Nat → Prop} (hx : Ext M w w') (hM : ∀ k, M k → H k ≠ none) {H' : Hp} (hH : ∀ b o, H' b = some o → ORel S w' b o ∧ (H b ≠ none ∨ w.heap.size ≤ b)) : St env γ S H' w' :=
  hst.step hx (fun k h _ => hM k h) (fun _ h => h) (fun k hk => Nat.lt_of_lt_of_le (hst.lt k hk) hx.size) (fun k hk => .inl hk) fun b o hb => by
    obtain ⟨h1, h2⟩ := hH b o hb
    refine ⟨fun hs => ?_, .inr ⟨h1, h2⟩⟩
    rcases h2 with h2 | h2
    · cases e : H b with
      | none => exact h2 e
      | some o' => exact (hst.obj b o' e).2.1 hs
    · exact Nat.lt_irrefl _ (Nat.lt_of_lt_of_le (hst.lt b hs) h2)
theorem WriteString_con (b : Nat) (bs s : List UInt8) (hl : (bs ++ s).length ≤ 140737488355328) : TCon env 61 [.ptr 2 b 0 0, .str s] b bs (.tup [.int .i64 (s.length : Nat), .nif]) s := by
  intro H0 hm
  refine ⟨⟨_, Tryd.func61, by kernel_rfl, by kernel_rfl⟩, fun w S vs hst ha => ?_⟩
  simp only [LRel, VRel] at ha
  obtain ⟨_, _, rfl, rfl, _, _, rfl, rfl, rfl⟩ := ha
  have hsz : (⟨s.toArray⟩ : ByteArray).size = s.length := rfl
  -- the builder's block, and its buffer
  obtain ⟨p, v, h1, hp, hown, hv0, hvb, hd⟩ : ∃ p v, w.heap[b]? = some (.cells #[p, v] TB (0, 0)) ∧ (p = .pointer none ∨ p = .pointer (some ⟨b, 0, none⟩)) ∧ w.ownsRow 0 TU 1 v bs.length (bs.map fun c => Value.int .u8 (c.toNat : Int)) ∧ (v = .slice none 0 0 ↔ bs = []) ∧ (∀ g, v.ownBlock = some g → H0 g ≠ none) ∧ H0 b ≠ none := by
    rcases hm with ⟨rfl, rfl⟩ | ⟨e, g, cap, hg, rfl⟩
    · have ho := (hst.obj b _ (upd_same _ _ _)).1
      simp only [ORel] at ho
      obtain ⟨p, h1, h2⟩ := ho
      exact ⟨p, _, h1, h2, ⟨rfl, .inl ⟨rfl, rfl⟩⟩, by simp, fun g h => (by simp [Value.ownBlock] at h), by rw [upd_same]; simp⟩
    · have ho := (hst.obj b (.bld TB (some (g, cap)) bs.length) (by rw [upd_ne _ _ (Ne.symm hg), upd_same])).1
      have ho2 := (hst.obj g _ (upd_same _ _ _)).1
      have hw := buf_own ho2
      simp only [ORel] at ho
      obtain ⟨p, h1, h2⟩ := ho
      refine ⟨p, _, h1, h2, hw, by simp [e], fun g' h => ?_, by rw [upd_ne _ _ (Ne.symm hg), upd_same]; simp⟩
      simp only [Value.ownBlock, Option.some.injEq] at h
      subst h
      rw [upd_same]; simp
  have hb := writeString_w b p v bs.length _ ⟨s.toArray⟩ w h1 hp hown (by rw [hsz, ← List.length_append]; exact hl)
  rw [byte_cells, hsz] at hb
  refine hb.mono fun e w' ⟨e1, v', q1, q2, q3, q4, q5⟩ => ?_
  have hM : ∀ k, (k = b ∨ v.ownBlock = some k) → H0 k ≠ none := fun k hk => by
    rcases hk with rfl | hk
    · exact hd
    · exact hvb k hk
  have er : ERel S w' (.ret (.tup [.int .i64 (s.length : Nat), .nif])) e := by
    subst e1
    simp only [ERel, VRel, LRel]
    exact ⟨_, rfl, _, rfl, _, _, rfl, rfl, _, _, rfl, rfl, rfl⟩
  by_cases hn : bs ++ s = []
  · have hv' : v' = .slice none 0 0 := q5.2 ⟨hv0.2 (List.append_eq_nil_iff.1 hn).1, by have := (List.append_eq_nil_iff.1 hn).2; simp [this]⟩
    subst hv'
    refine ⟨_, _, S, st_bld hst q3 hM (H' := upd emp b (some (.bld TB none 0))) fun x o hx => ?_, er, rfl, .inl ⟨hn, rfl⟩⟩
    by_cases c : x = b
    · subst c
      rw [upd_same] at hx; cases hx
      exact ⟨by simp only [ORel]; exact ⟨_, q1, .inr rfl⟩, .inl hd⟩
    · rw [upd_ne _ _ c] at hx; cases hx
  · have hv' : v' ≠ .slice none 0 0 := fun e => by
      obtain ⟨a1, a2⟩ := q5.1 e
      rw [hv0] at a1
      rw [List.length_eq_zero_iff] at a2
      exact hn (by rw [a1, a2]; rfl)
    rw [← List.length_append] at q2
    obtain ⟨g, cap, rfl, ho⟩ := own_buf (S := S) hv' q2
    have hgb : g ≠ b := fun e => Lib.ownBlock_ne q2 q1 (by decide) (by simp [Value.ownBlock, e])
    refine ⟨_, _, S, st_bld hst q3 hM (H' := upd (upd emp b (some (.bld TB (some (g, cap)) (bs ++ s).length))) g (some (.buf TU (bs ++ s) cap))) fun x o hx => ?_, er, rfl, .inr ⟨hn, g, cap, hgb, rfl⟩⟩
    by_cases c : x = g
    · subst c
      rw [upd_same] at hx; cases hx
      refine ⟨ho, ?_⟩
      rcases q4 x rfl with h | h
      · exact .inl (hvb x h)
      · exact .inr h
    · rw [upd_ne _ _ c] at hx
      by_cases c2 : x = b
      · subst c2
        rw [upd_same] at hx; cases hx
        exact ⟨by simp only [ORel]; exact ⟨_, q1, .inr rfl⟩, .inl hd⟩
      · rw [upd_ne _ _ c2] at hx; cases hx
theorem String_con (b : Nat) (bs : List UInt8) (H0 : Hp) (hm : BldM b bs H0) : Con env 43 [.ptr 2 b 0 0] H0 (fun ae H' => ae = .ret (.str bs) ∧ H' = emp) := by
  refine ⟨⟨_, Tryd.func43, by kernel_rfl, by kernel_rfl⟩, fun w S vs hst ha => ?_⟩
  simp only [LRel, VRel] at ha
  obtain ⟨_, _, rfl, rfl, rfl⟩ := ha
  have er : ∀ w' e, e = .returned (.string ⟨bs.toArray⟩) → ERel S w' (.ret (.str bs)) e := fun w' e h => by
    simp only [ERel, VRel]; exact ⟨_, h, rfl⟩
  rcases hm with ⟨rfl, rfl⟩ | ⟨e, g, cap, hg, rfl⟩
  · have ho := (hst.obj b _ (upd_same _ _ _)).1
    simp only [ORel] at ho
    obtain ⟨p, h1, _⟩ := ho
    refine (string_nil_w b p w h1).mono fun e w' ⟨e1, e2⟩ => ⟨_, emp, S, ?_, er w' e e1, rfl, rfl⟩
    subst e2
    exact st_bld hst (M := fun _ => False) (Ext.drew _ w) (fun _ h => h.elim) fun x o hx => by cases hx
  · have ho := (hst.obj b (.bld TB (some (g, cap)) bs.length) (by rw [upd_ne _ _ (Ne.symm hg), upd_same])).1
    have ho2 := (hst.obj g _ (upd_same _ _ _)).1
    simp only [ORel] at ho ho2
    obtain ⟨p, h1, _⟩ := ho
    obtain ⟨cur, h2, h3, h4, h5, h6⟩ := ho2
    refine (string_w b g cap p bs w e h1 cur h2 h3 h4 h5 h6).mono fun e w' ⟨e1, e2⟩ => ⟨_, emp, S, ?_, er w' e e1, rfl, rfl⟩
    subst e2
    refine st_bld hst (M := fun k => k = g) ?_ (fun k h => by subst h; rw [upd_same]; simp) fun x o hx => by cases hx
    refine (Ext.drew _ w).trans ?_
    have hf : ∀ k, k ≠ g → (w.drew.freeze ⟨g, 0, none⟩ bs.length).heap[k]? = w.drew.heap[k]? := fun k hk => by
      unfold World.freeze
      split
      · rfl
      · simp only [Array.getElem?_modify]
        rw [if_neg (Ne.symm hk)]
    refine ⟨?_, ?_, ?_, ?_, fun k _ hk => hf k hk, fun k sh hs => ?_⟩
    · unfold World.freeze; split <;> rfl
    · unfold World.freeze; split <;> rfl
    · unfold World.freeze; split <;> rfl
    · unfold World.freeze; split <;> simp
    · by_cases hk : k = g
      · subst hk
        have h2' : w.drew.heap[k]? = some (.cells cur TU (0, 0)) := h2
        unfold World.freeze
        split
        · exact hs
        · have hs' : w.shape? k = some sh := hs
          simp only [World.shape?, h2] at hs'
          simp only [World.shape?, Array.getElem?_modify, if_true, h2', Option.map_some]
          exact hs'
      · rw [shape_of (hf k hk)]; exact hs
end Go.Al
