/- The little logic: more rules for lists that grow, and for results. -/
import Derived.Test.YtlokndnkpleegaaAl3
set_option linter.unusedSimpArgs false
set_option linter.unusedVariables false
set_option maxRecDepth 10000
namespace Go.Al
theorem pcon_weak {E : Env} {g : FuncId} {args : List AV} {v v' : AV} (h : PCon E g args v) (hs : Sub v v') : PCon E g args v' := by
  refine ⟨h.1, fun w0 S0 vs h1 h2 => ?_⟩
  refine (h.2 w0 S0 vs h1 h2).mono fun e w ⟨ae, H', S', a1, a2, a3, a4⟩ => ?_
  subst a3; subst a4
  simp only [ERel] at a2
  obtain ⟨x, rfl, hx⟩ := a2
  exact ⟨.ret v', _, S', a1, by simp only [ERel]; exact ⟨x, rfl, hs _ _ _ hx⟩, rfl, rfl⟩
theorem frz_isl (b sz : Nat) (l : List (List AV)) (s : Nat) (r : List (List AV)) : frz b sz l (.isl s r) = .isl s r := Eq.trans rfl rfl
theorem frz_int (b sz : Nat) (l : List (List AV)) (k : IntKind) (n : Int) : frz b sz l (.int k n) = .int k n := Eq.trans rfl rfl
theorem frz_str (b sz : Nat) (l : List (List AV)) (s : List UInt8) : frz b sz l (.str s) = .str s := Eq.trans rfl rfl
theorem frz_bool (b sz : Nat) (l : List (List AV)) (s : Bool) : frz b sz l (.bool s) = .bool s := Eq.trans rfl rfl
theorem frz_ptr (b sz : Nat) (l : List (List AV)) (s b1 i j : Nat) : frz b sz l (.ptr s b1 i j) = .ptr s b1 i j := Eq.trans rfl rfl
theorem frz_nsl (b sz : Nat) (l : List (List AV)) : frz b sz l .nsl = .nsl := Eq.trans rfl rfl
theorem frz_self (b sz : Nat) (l : List (List AV)) : frz b sz l (.osl sz b l.length) = .isl sz l := by simp [frz]
/-- a list that is owned -/
def OwnO (sz : Nat) (v : AV) (rows : List (List AV)) (H : Hp) : Prop := ∃ b, v = .osl sz b rows.length ∧ H b = some (.rows sz rows)
section
variable {E : Env} {F : Nat → Prop} {ds : List (Option Nat)} {Q : APost} {d : Option Nat} {rest : List Oper} {fr : Fr} {H : Hp}
theorem awpA_ownO {sz by' : Nat} {v : AV} {rows ys : List (List AV)} (hv : OwnO sz v rows H) (hb : (rows.length + ys.length) * by' ≤ 140737488355328) (hF : ∀ b, v = .osl sz b rows.length → F b)
    (h : ∀ v' H', OwnO sz v' (rows ++ ys) H' → (∀ b o, H b = some o → v ≠ .osl sz b rows.length → H' b = some o) → awpL E F ds Q rest (putF fr d v') H') : awpA E F ds Q d rest fr H (some (sz, by', v, ys)) := by
  obtain ⟨b, rfl, hH⟩ := hv
  simp only [awpA, hH]
  refine ⟨trivial, trivial, trivial, hb, hF b rfl, fun b' hb' => ?_⟩
  refine h _ _ ⟨b', by simp, by simp [upd]⟩ fun b'' o h1 h2 => ?_
  have n1 : b'' ≠ b := fun c => h2 (by rw [c])
  have n2 : b'' ≠ b' := fun c => by
    rcases hb' with e | e
    · exact n1 (c.trans e)
    · rw [← c, h1] at e; cases e
  simp [upd, n1, n2, h1]
theorem awpL_entry (x : Operand) {ty : TypeId} {pos : String} {af : Array Edge} : awpL E F ds Q (⟨d, .entry x, ty, pos, af, none⟩ :: rest) fr H = ((∀ b, atouch (ev E.G fr x) = some b → ¬ F b) ∧ awpL E F ds Q rest (putF fr d (.tup [])) H) := Eq.trans rfl rfl
theorem touch_ptr (sz b i j : Nat) : (∀ x, atouch (.ptr sz b i j) = some x → ¬ F x) = ¬ F b := by
  simp [atouch]
theorem touch_ipt (r : List AV) (j : Nat) : (∀ x, atouch (.ipt r j) = some x → ¬ F x) = True := by
  simp [atouch]
theorem OwnO.upd {sz : Nat} {v : AV} {rows : List (List AV)} (h : OwnO sz v rows H) {b : Nat} (hb : H b = none) (o : Option AObj) : OwnO sz v rows (upd H b o) := by
  obtain ⟨b', rfl, hH⟩ := h
  have hne : b' ≠ b := fun e => by rw [e, hb] at hH; cases hH
  exact ⟨b', rfl, by simp [Go.Al.upd, hne, hH]⟩
theorem OwnO.nb {sz : Nat} {v : AV} {rows : List (List AV)} (h : OwnO sz v rows H) {b : Nat} (hb : H b = none) {n : Nat} : v ≠ .osl sz b n := by
  obtain ⟨b', rfl, hH⟩ := h
  intro e
  cases e
  rw [hb] at hH; cases hH
theorem OwnO.nb' {sz sz' : Nat} {v : AV} {rows r2 : List (List AV)} (h : OwnO sz v rows H) {b : Nat} (hb : H b = some (.rows sz' r2)) (hs : sz' ≠ sz) {n : Nat} : v ≠ .osl sz b n := by
  obtain ⟨b', rfl, hH⟩ := h
  intro e
  cases e
  rw [hb] at hH; cases hH; exact hs rfl
theorem OwnO.own {sz : Nat} {v : AV} {rows : List (List AV)} (h : OwnO sz v rows H) : OwnL sz v rows H := by
  obtain ⟨b, h1, h2⟩ := h; exact .inr ⟨b, h1, h2⟩
theorem OwnL.upd {sz : Nat} {v : AV} {rows : List (List AV)} (h : OwnL sz v rows H) {b : Nat} (hb : H b = none) (o : Option AObj) : OwnL sz v rows (upd H b o) := by
  rcases h with h | ⟨b', rfl, hH⟩
  · exact .inl h
  · have hne : b' ≠ b := fun e => by rw [e, hb] at hH; cases hH
    exact .inr ⟨b', rfl, by simp [Go.Al.upd, hne, hH]⟩
theorem OwnL.nb {sz : Nat} {v : AV} {rows : List (List AV)} (h : OwnL sz v rows H) {b : Nat} (hb : H b = none) {n : Nat} : v ≠ .osl sz b n := by
  rcases h with ⟨rfl, _⟩ | ⟨b', rfl, hH⟩
  · intro e; cases e
  · intro e
    cases e
    rw [hb] at hH; cases hH
theorem OwnL.nb' {sz sz' : Nat} {v : AV} {rows r2 : List (List AV)} (h : OwnL sz v rows H) {b : Nat} (hb : H b = some (.rows sz' r2)) (hs : sz' ≠ sz) {n : Nat} : v ≠ .osl sz b n := by
  rcases h with ⟨rfl, _⟩ | ⟨b', rfl, hH⟩
  · intro e; cases e
  · intro e
    cases e
    rw [hb] at hH; cases hH; exact hs rfl
theorem OwnO.far {sz sz' : Nat} {v : AV} {rows r2 : List (List AV)} (h : OwnO sz v rows H) {b : Nat} (hb : H b = some (.rows sz' r2)) (hs : sz' ≠ sz) (x : Nat) {n : Nat} (hx : v = .osl sz x n) : x ≠ b := fun e => by
  subst e; exact h.nb' hb hs hx
/-- a list that grew, handed back -/
theorem OwnL.gives1 {sz : Nat} {v : AV} {rows : List (List AV)} {v' : AV} (h : OwnL sz v rows H) (e : v' = .isl sz rows) : Gives (fun ae H' => ae = .ret v' ∧ H' = emp) v H := by
  subst e
  rcases h with ⟨rfl, rfl⟩ | ⟨b, rfl, hb⟩
  · exact Gives.turn (Turn.sub (Sub.nsl sz)) (Gives.pure rfl)
  · exact Gives.turn (Turn.freeze hb (FSub.osl b sz rows)) (Gives.pure rfl)
/-- a list that grew, sealed in the midst of a function: slot i holds it. -/
theorem awp_seal {N : Nat} {Q : APost} {c : Code} {sz : Nat} {rows : List (List AV)} {i : Nat} (hv : OwnL sz (fr i) rows H)
    (h : ∀ fr' H', fr' i = .isl sz rows → (∀ j, j ≠ i → fr' j = fr j ∨ (∃ b n, fr j = .osl sz b n)) → (∀ b o, H b = some o → fr i ≠ .osl sz b rows.length → H' b = some o) → (∀ b, H b = none → H' b = none) → awp E N c Q fr' H') : awp E N c Q fr H := by
  rcases hv with ⟨h1, rfl⟩ | ⟨b, h1, hb⟩
  · refine awp_weak (fr' := Go.Al.upd fr i (.isl sz [])) (fun t => ?_) (fun b o h => h) (h _ H (upd_same _ _ _) (fun j hj => .inl (upd_ne _ _ hj)) (fun b o h _ => h) (fun b h => h))
    by_cases e : t = i
    · subst e; rw [upd_same, h1]; exact Sub.nsl sz
    · rw [upd_ne _ _ e]; exact Sub.refl _
  · refine awp_freeze hb (h _ _ ?_ (fun j hj => ?_) (fun b' o h2 h3 => ?_) (fun b' h2 => ?_))
    · rw [h1]; exact frz_self b sz rows
    · cases hf : fr j <;> try exact .inl rfl
      rename_i s' b' n'
      by_cases e : s' = sz
      · subst e; exact .inr ⟨b', n', rfl⟩
      · left
        simp only [frz]
        rw [if_neg (by rintro ⟨_, e2, _⟩; exact e e2)]
    · have : b' ≠ b := fun e => h3 (by rw [h1, e])
      simp only [Go.Al.upd, if_neg this, h2]
    · simp only [Go.Al.upd]
      split
      · rfl
      · exact h2
end
end Go.Al
