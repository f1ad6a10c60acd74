/- The little logic: more rules for lists that grow, and for results. The little logic: functions that are handed all that is owned. The little logic: the rewriting rules and the readings of one operation, all as one. The little logic: regions that draw their order, in two parts: first reads and calls, then what writes. The little logic: what is owned within what is owned: sealed, weakened. The little logic: weaker lists, within sealed lists too. The little logic: loops over what is numbered, with all kept that the loop does not turn. The little logic: a map that is sealed; functions that read a block that they are handed. -/
import Derived.Test.YtnfbbjhdflhmjaaDoorAl3
set_option linter.unusedSimpArgs false
set_option linter.unusedVariables false
set_option maxRecDepth 10000
namespace Go.Al
theorem pcon_weak {E : Env} {g : FuncId} {args : List AV} {v v' : AV} (h : PCon E g args v) (hs : Sub v v') : PCon E g args v' := by
 refine ⟨h.1, fun w0 S0 vs h1 h2 => ?_⟩
 refine (h.2 w0 S0 vs h1 h2).mono fun e w ⟨ae, H', S', a1, a2, a3, a4⟩ => ?_
 subst a3; subst a4
 simp only [ERel] at a2
 obtain ⟨x, rfl, hx⟩ := a2
 exact ⟨.ret v', _, S', a1, by simp only [ERel]; exact ⟨x, rfl, hs _ _ _ hx⟩, rfl, rfl⟩
theorem frz_isl (b sz : Nat) (l : List (List AV)) (s : Nat) (r : List (List AV)) : frz b sz l (.isl s r) = .isl s r := Eq.trans rfl rfl
theorem frz_int (b sz : Nat) (l : List (List AV)) (k : IntKind) (n : Int) : frz b sz l (.int k n) = .int k n := Eq.trans rfl rfl
theorem frz_str (b sz : Nat) (l : List (List AV)) (s : List UInt8) : frz b sz l (.str s) = .str s := Eq.trans rfl rfl
theorem frz_bool (b sz : Nat) (l : List (List AV)) (s : Bool) : frz b sz l (.bool s) = .bool s := Eq.trans rfl rfl
theorem frz_ptr (b sz : Nat) (l : List (List AV)) (s b1 i j : Nat) : frz b sz l (.ptr s b1 i j) = .ptr s b1 i j := Eq.trans rfl rfl
theorem frz_nsl (b sz : Nat) (l : List (List AV)) : frz b sz l .nsl = .nsl := Eq.trans rfl rfl
theorem frz_self (b sz : Nat) (l : List (List AV)) : frz b sz l (.osl sz b l.length) = .isl sz l := by simp [frz]
def OwnO (sz : Nat) (v : AV) (rows : List (List AV)) (H : Hp) : Prop := ∃ b, v = .osl sz b rows.length ∧ H b = some (.rows sz rows)
section
variable {E : Env} {F : Nat → Prop} {ds : List (Option Nat)} {Q : APost} {d : Option Nat} {rest : List Oper} {fr : Fr} {H : Hp}
theorem awpA_ownO {sz by' : Nat} {v : AV} {rows ys : List (List AV)} (hv : OwnO sz v rows H) (hb : (rows.length + ys.length) * by' ≤ 140737488355328) (hF : ∀ b, v = .osl sz b rows.length → F b)
  (h : ∀ v' H', OwnO sz v' (rows ++ ys) H' → (∀ b o, H b = some o → v ≠ .osl sz b rows.length → H' b = some o) → awpL E F ds Q rest (putF fr d v') H') : awpA E F ds Q d rest fr H (some (sz, by', v, ys)) := by
 obtain ⟨b, rfl, hH⟩ := hv
 simp only [awpA, hH]
 refine ⟨trivial, trivial, trivial, hb, hF b rfl, fun b' hb' => ?_⟩
 refine h _ _ ⟨b', by simp, by simp [upd]⟩ fun b'' o h1 h2 => ?_
 have n1 : b'' ≠ b := fun c => h2 (by rw [c])
 have n2 : b'' ≠ b' := fun c => by
  rcases hb' with e | e
  ·exact n1 (c.trans e)
  ·rw [← c, h1] at e; cases e
 simp [upd, n1, n2, h1]
theorem awpL_entry (x : Operand) {ty : TypeId} {pos : String} {af : Array Edge} : awpL E F ds Q (⟨d, .entry x, ty, pos, af, none⟩ :: rest) fr H = ((∀ b, atouch (ev E.G fr x) = some b → ¬ F b) ∧ awpL E F ds Q rest (putF fr d (.tup [])) H) := Eq.trans rfl rfl
theorem touch_ptr (sz b i j : Nat) : (∀ x, atouch (.ptr sz b i j) = some x → ¬ F x) = ¬ F b := by
 simp [atouch]
theorem touch_ipt (r : List AV) (j : Nat) : (∀ x, atouch (.ipt r j) = some x → ¬ F x) = True := by
 simp [atouch]
theorem OwnO.upd {sz : Nat} {v : AV} {rows : List (List AV)} (h : OwnO sz v rows H) {b : Nat} (hb : H b = none) (o : Option AObj) : OwnO sz v rows (upd H b o) := by
 obtain ⟨b', rfl, hH⟩ := h
 have hne : b' ≠ b := fun e => by rw [e, hb] at hH; cases hH
 exact ⟨b', rfl, by simp [Go.Al.upd, hne, hH]⟩
theorem OwnO.nb {sz : Nat} {v : AV} {rows : List (List AV)} (h : OwnO sz v rows H) {b : Nat} (hb : H b = none) {n : Nat} : v ≠ .osl sz b n := by
 obtain ⟨b', rfl, hH⟩ := h
 intro e
 cases e
 rw [hb] at hH; cases hH
theorem OwnO.nb' {sz sz' : Nat} {v : AV} {rows r2 : List (List AV)} (h : OwnO sz v rows H) {b : Nat} (hb : H b = some (.rows sz' r2)) (hs : sz' ≠ sz) {n : Nat} : v ≠ .osl sz b n := by
 obtain ⟨b', rfl, hH⟩ := h
 intro e
 cases e
 rw [hb] at hH; cases hH; exact hs rfl
theorem OwnO.own {sz : Nat} {v : AV} {rows : List (List AV)} (h : OwnO sz v rows H) : OwnL sz v rows H := by
 obtain ⟨b, h1, h2⟩ := h; exact .inr ⟨b, h1, h2⟩
theorem OwnL.upd {sz : Nat} {v : AV} {rows : List (List AV)} (h : OwnL sz v rows H) {b : Nat} (hb : H b = none) (o : Option AObj) : OwnL sz v rows (upd H b o) := by
 rcases h with h | ⟨b', rfl, hH⟩
 ·exact .inl h
 ·have hne : b' ≠ b := fun e => by rw [e, hb] at hH; cases hH
  exact .inr ⟨b', rfl, by simp [Go.Al.upd, hne, hH]⟩
theorem OwnL.nb {sz : Nat} {v : AV} {rows : List (List AV)} (h : OwnL sz v rows H) {b : Nat} (hb : H b = none) {n : Nat} : v ≠ .osl sz b n := by
 rcases h with ⟨rfl, _⟩ | ⟨b', rfl, hH⟩
 ·intro e; cases e
 ·intro e
  cases e
  rw [hb] at hH; cases hH
theorem OwnL.nb' {sz sz' : Nat} {v : AV} {rows r2 : List (List AV)} (h : OwnL sz v rows H) {b : Nat} (hb : H b = some (.rows sz' r2)) (hs : sz' ≠ sz) {n : Nat} : v ≠ .osl sz b n := by
 rcases h with ⟨rfl, _⟩ | ⟨b', rfl, hH⟩
 ·intro e; cases e
 ·intro e
  cases e
  rw [hb] at hH; cases hH; exact hs rfl
theorem OwnO.far {sz sz' : Nat} {v : AV} {rows r2 : List (List AV)} (h : OwnO sz v rows H) {b : Nat} (hb : H b = some (.rows sz' r2)) (hs : sz' ≠ sz) (x : Nat) {n : Nat} (hx : v = .osl sz x n) : x ≠ b := fun e => by
 subst e; exact h.nb' hb hs hx
theorem OwnL.gives1 {sz : Nat} {v : AV} {rows : List (List AV)} {v' : AV} (h : OwnL sz v rows H) (e : v' = .isl sz rows) : Gives (fun ae H' => ae = .ret v' ∧ H' = emp) v H := by
 subst e
 rcases h with ⟨rfl, rfl⟩ | ⟨b, rfl, hb⟩
 ·exact Gives.turn (Turn.sub (Sub.nsl sz)) (Gives.pure rfl)
 ·exact Gives.turn (Turn.freeze hb (FSub.osl b sz rows)) (Gives.pure rfl)
theorem awp_seal {N : Nat} {Q : APost} {c : Code} {sz : Nat} {rows : List (List AV)} {i : Nat} (hv : OwnL sz (fr i) rows H)
  (h : ∀ fr' H', fr' i = .isl sz rows → (∀ j, j ≠ i → fr' j = fr j ∨ (∃ b n, fr j = .osl sz b n)) → (∀ b o, H b = some o → fr i ≠ .osl sz b rows.length → H' b = some o) → (∀ b, H b = none → H' b = none) → awp E N c Q fr' H') : awp E N c Q fr H := by
 rcases hv with ⟨h1, rfl⟩ | ⟨b, h1, hb⟩
 ·refine awp_weak (fr' := Go.Al.upd fr i (.isl sz [])) (fun t => ?_) (fun b o h => h) (h _ H (upd_same _ _ _) (fun j hj => .inl (upd_ne _ _ hj)) (fun b o h _ => h) (fun b h => h))
  by_cases e : t = i
  ·subst e; rw [upd_same, h1]; exact Sub.nsl sz
  ·rw [upd_ne _ _ e]; exact Sub.refl _
 ·refine awp_freeze hb (h _ _ ?_ (fun j hj => ?_) (fun b' o h2 h3 => ?_) (fun b' h2 => ?_))
  ·rw [h1]; exact frz_self b sz rows
  ·cases hf : fr j <;> try exact .inl rfl
   rename_i s' b' n'
   by_cases e : s' = sz
   ·subst e; exact .inr ⟨b', n', rfl⟩
   ·left
    simp only [frz]
    rw [if_neg (by rintro ⟨_, e2, _⟩; exact e e2)]
  ·have : b' ≠ b := fun e => h3 (by rw [h1, e])
   simp only [Go.Al.upd, if_neg this, h2]
  ·simp only [Go.Al.upd]
   split
   ·rfl
   ·exact h2
end
end Go.Al
namespace Go.Al
def keeps (M : Nat → Prop) (H H' : Hp) : Prop := ∀ b o, ¬ M b → H b = some o → H' b = some o
theorem keeps.refl (M : Nat → Prop) (H : Hp) : keeps M H H := fun _ _ _ h => h
theorem keeps.trans {M : Nat → Prop} {H H1 H2 : Hp} (h : keeps M H H1) (h' : keeps M H1 H2) : keeps M H H2 := fun b o hm hb => h' b o hm (h b o hm hb)
theorem keeps.new {M : Nat → Prop} {H H1 : Hp} (h : keeps M H H1) {b : Nat} (hb : H b = none) (o : Option AObj) : keeps M H (upd H1 b o) := fun b' o' hm hb' => by
 have : b' ≠ b := fun e => by rw [e, hb] at hb'; cases hb'
 simp only [upd, if_neg this]; exact h b' o' hm hb'
theorem keeps.set {M : Nat → Prop} {H H1 : Hp} (h : keeps M H H1) {b : Nat} (hb : M b) (o : Option AObj) : keeps M H (upd H1 b o) := fun b' o' hm hb' => by
 have : b' ≠ b := fun e => hm (e ▸ hb)
 simp only [upd, if_neg this]; exact h b' o' hm hb'
theorem keeps.mono {M M' : Nat → Prop} {H H1 : Hp} (h : keeps M H H1) (hm : ∀ b, M b → M' b) : keeps M' H H1 := fun b o hb h1 => h b o (fun c => hb (hm b c)) h1
theorem hjoin_self (H' H : Hp) : hjoin H' H H = H' := by
 funext b
 unfold hjoin
 cases h : H' b with
 | some o => rfl
 | none =>
   cases h2 : H b with
   | some o => simp
   | none => simp []
theorem awpC_whole {E : Env} {F : Nat → Prop} {ds : List (Option Nat)} {Q : APost} {d : Option Nat} {rest : List Oper} {fr : Fr} {H : Hp} {g : FuncId} {args args' : List AV} {R : AV → Hp → Prop}
  (hc : Con E g args' H (fun ae H' => ∃ v, ae = .ret v ∧ R v H')) (hs : SubL args args') (hF : ∀ b, F b) (h : ∀ v H', R v H' → awpL E F ds Q rest (putF fr d v) H') : awpC E F ds Q d rest fr H g args := by
 refine awpC_con hc hs (fun b o h => h) (fun b _ => hF b) fun ae H' ⟨v, e, hr⟩ _ => ?_
 subst e
 rw [hjoin_self]
 exact h v H' hr
theorem awpC_makes {E : Env} {F : Nat → Prop} {ds : List (Option Nat)} {Q : APost} {d : Option Nat} {rest : List Oper} {fr : Fr} {H : Hp} {g : FuncId} {args args' : List AV} {R : AV → Hp → Prop}
  (hc : Con E g args' emp (fun ae H' => ∃ v, ae = .ret v ∧ R v H')) (hs : SubL args args')
  (h : ∀ v H' H2, R v H' → keeps (fun _ => False) H H2 → (∀ b o, H' b = some o → H2 b = some o ∧ H b = none) → awpL E F ds Q rest (putF fr d v) H2) : awpC E F ds Q d rest fr H g args := by
 refine awpC_con hc hs (hsub_emp H) (fun b hb => absurd rfl hb) fun ae H' ⟨v, e, hr⟩ hnew => ?_
 subst e
 have fresh : ∀ b o, H' b = some o → H b = none := fun b o hb => by
  rcases hnew b (by rw [hb]; simp) with h | h
  ·exact absurd rfl h
  ·exact h
 refine h v H' _ hr (fun b o _ hb => ?_) (fun b o hb => ⟨?_, fresh b o hb⟩)
 ·unfold hjoin
  cases h2 : H' b with
  | some o' => have := fresh b o' h2; rw [hb] at this; cases this
  | none => simp [emp, hb]
 ·simp only [hjoin, hb]
theorem Gives.whole {R : AV → Hp → Prop} {v : AV} {H : Hp} (h : R v H) : Gives (fun ae H' => ∃ v, ae = .ret v ∧ R v H') v H :=
 Gives.self ⟨v, rfl, h⟩
def apart (v w : AV) : Prop := ∀ b s n s' n', v = .osl s b n → w ≠ .osl s' b n'
theorem apart.nsl (w : AV) : apart .nsl w := fun _ _ _ _ _ h => by cases h
theorem apart.symm {v w : AV} (h : apart v w) : apart w v := fun b s n s' n' h1 h2 => h b s' n' s n h2 h1
theorem awpA_grow {E : Env} {F : Nat → Prop} {ds : List (Option Nat)} {Q : APost} {d : Option Nat} {rest : List Oper} {fr : Fr} {H : Hp} {sz by' : Nat} {v : AV} {rows ys : List (List AV)} (hv : OwnL sz v rows H) (hb : (rows.length + ys.length) * by' ≤ 140737488355328) (hF : ∀ b, F b)
  (h : ∀ v' H', OwnL sz v' (rows ++ ys) H' → (∀ b o, H b = some o → v ≠ .osl sz b rows.length → H' b = some o) → (∀ w, apart v w → (∀ s b n, w = .osl s b n → H b ≠ none) → apart v' w) → awpL E F ds Q rest (putF fr d v') H') : awpA E F ds Q d rest fr H (some (sz, by', v, ys)) := by
 rcases hv with ⟨rfl, rfl⟩ | ⟨b, rfl, hH⟩
 ·simp only [List.nil_append, List.length_nil, Nat.zero_add] at h hb
  refine ⟨hb, fun e => h _ _ (.inl ⟨rfl, e⟩) (fun _ _ hb _ => hb) (fun w _ _ => apart.nsl w), fun e b hbn => h _ _ (.inr ⟨b, rfl, by simp [upd]⟩) (fun b' o hb' _ => ?_) fun w _ hw => ?_⟩
  ·have : b' ≠ b := fun c => by rw [c, hbn] at hb'; cases hb'
   simp [upd, this, hb']
  ·intro b1 s n s' n' h1 h2
   cases h1
   exact hw s' _ n' h2 hbn
 ·simp only [awpA, hH]
  refine ⟨trivial, trivial, trivial, hb, hF b, fun b' hb' => ?_⟩
  refine h _ _ (.inr ⟨b', by simp, by simp [upd]⟩) (fun b'' o h1 h2 => ?_) fun w ha hw => ?_
  ·have n1 : b'' ≠ b := fun c => h2 (by rw [c])
   have n2 : b'' ≠ b' := fun c => by
    rcases hb' with e | e
    ·exact n1 (c.trans e)
    ·rw [← c, h1] at e; cases e
   simp [upd, n1, n2, h1]
  ·intro b1 s n s' n' h1 h2
   cases h1
   rcases hb' with e | e
   ·exact ha b _ _ s' n' rfl (by rw [h2, e])
   ·exact hw s' _ n' h2 e
theorem OwnL.there {sz : Nat} {v : AV} {rows : List (List AV)} {H : Hp} (h : OwnL sz v rows H) : ∀ s b n, v = .osl s b n → H b ≠ none := fun s b n e => by
 rcases h with ⟨rfl, _⟩ | ⟨b', rfl, hb⟩
 ·cases e
 ·cases e; rw [hb]; simp
theorem OwnL.keep {sz sz' : Nat} {v w : AV} {rows r2 : List (List AV)} {H H' : Hp} (h : OwnL sz v rows H) (ha : apart w v) (hk : ∀ b o, H b = some o → w ≠ .osl sz' b r2.length → H' b = some o) : OwnL sz v rows H' := by
 rcases h with h | ⟨b, rfl, hb⟩
 ·exact .inl h
 ·exact .inr ⟨b, rfl, hk b _ hb fun e => ha b sz' r2.length sz rows.length e rfl⟩
theorem awp_seal2 {E : Env} {N : Nat} {Q : APost} {c : Code} {fr : Fr} {H : Hp} {sz : Nat} {rows : List (List AV)} {i : Nat} (hv : OwnL sz (fr i) rows H)
  (h : ∀ fr' H', fr' i = .isl sz rows → (∀ j, j ≠ i → apart (fr i) (fr j) → fr' j = fr j) → (∀ b o, H b = some o → fr i ≠ .osl sz b rows.length → H' b = some o) → awp E N c Q fr' H') : awp E N c Q fr H := by
 rcases hv with ⟨h1, rfl⟩ | ⟨b, h1, hb⟩
 ·refine awp_weak (fr' := upd fr i (.isl sz [])) (fun t => ?_) (fun b o h => h) (h _ H (upd_same _ _ _) (fun j hj _ => upd_ne _ _ hj) (fun b o h _ => h))
  by_cases e : t = i
  ·subst e; rw [upd_same, h1]; exact Sub.nsl sz
  ·rw [upd_ne _ _ e]; exact Sub.refl _
 ·refine awp_freeze hb (h _ _ ?_ (fun j hj ha => ?_) (fun b' o h2 h3 => ?_))
  ·rw [h1]; exact frz_self b sz rows
  ·cases hf : fr j <;> try rfl
   rename_i s' b' n'
   simp only [frz]
   rw [if_neg]
   rintro ⟨rfl, _, _⟩
   exact ha b' _ _ s' n' h1 hf
  ·have : b' ≠ b := fun e => h3 (by rw [h1, e])
   simp only [upd, if_neg this, h2]
theorem apart_int (v : AV) (k : IntKind) (n : Int) : apart v (.int k n) := fun _ _ _ _ _ _ h => by cases h
theorem apart_ptr (v : AV) (s b i j : Nat) : apart v (.ptr s b i j) := fun _ _ _ _ _ _ h => by cases h
theorem apart_isl (v : AV) (s : Nat) (l : List (List AV)) : apart v (.isl s l) := fun _ _ _ _ _ _ h => by cases h
theorem apart_str (v : AV) (s : List UInt8) : apart v (.str s) := fun _ _ _ _ _ _ h => by cases h
theorem apart_bool (v : AV) (b : Bool) : apart v (.bool b) := fun _ _ _ _ _ _ h => by cases h
theorem apart_bool' (v : AV) : apart v .nsl := fun _ _ _ _ _ _ h => by cases h
theorem apart_undef (v : AV) : apart v .undef := fun _ _ _ _ _ _ h => by cases h
theorem apart_tup (v : AV) (l : List AV) : apart v (.tup l) := fun _ _ _ _ _ _ h => by cases h
theorem apart_mp (v : AV) (b : Nat) : apart v (.mp b) := fun _ _ _ _ _ _ h => by cases h
def off (v : AV) (b : Nat) : Prop := ∀ s n, v ≠ .osl s b n
def MCon (E : Env) (g : FuncId) (args : List AV) (sz : Nat) (rows : List (List AV)) : Prop := Con E g args emp (fun ae H' => ∃ v, ae = .ret v ∧ OwnL sz v rows H')
theorem MCon.pure {E : Env} {g : FuncId} {args : List AV} {sz : Nat} {rows : List (List AV)} (h : MCon E g args sz rows) : PCon E g args (.isl sz rows) := by
 refine ⟨h.1, fun w0 S0 vs h1 h2 => ?_⟩
 refine (h.2 w0 S0 vs h1 h2).mono fun e w ⟨ae, H', S', a1, a2, v, a3, a4⟩ => ?_
 subst a3
 simp only [ERel] at a2
 obtain ⟨x, rfl, hx⟩ := a2
 obtain ⟨v', H2, ht, e1, e2⟩ := a4.gives1 (v' := .isl sz rows) rfl
 obtain ⟨S2, _, s2, r2⟩ := ht _ _ _ _ _ a1 hx
 cases e1
 subst e2
 exact ⟨.ret _, _, S2, s2, by simp only [ERel]; exact ⟨x, rfl, r2⟩, rfl, rfl⟩
theorem awpC_own {E : Env} {F : Nat → Prop} {ds : List (Option Nat)} {Q : APost} {d : Option Nat} {rest : List Oper} {fr : Fr} {H : Hp} {g : FuncId} {args : List AV} {sz : Nat} {rows : List (List AV)}
  (hc : MCon E g args sz rows) (h : ∀ v H2, OwnL sz v rows H2 → (∀ b o, H b = some o → H2 b = some o) → (∀ b o, H b = some o → off v b) → awpL E F ds Q rest (putF fr d v) H2) : awpC E F ds Q d rest fr H g args := by
 refine awpC_makes hc (SubL.refl _) fun v H' H2 hR hk hn => ?_
 refine h v H2 ?_ (fun b o hb => hk b o (fun h => h) hb) (fun b o hb s n e => ?_)
 ·rcases hR with hR | ⟨b, e, hb⟩
  ·exact .inl hR
  ·exact .inr ⟨b, e, (hn b _ hb).1⟩
 ·rcases hR with ⟨e2, _⟩ | ⟨b', e2, hb'⟩
  ·rw [e2] at e; cases e
  ·rw [e2] at e
   cases e
   rw [(hn b _ hb').2] at hb
   cases hb
theorem MCon.gives {sz : Nat} {v : AV} {rows : List (List AV)} {H : Hp} (h : OwnL sz v rows H) : Gives (fun ae H' => ∃ v, ae = .ret v ∧ OwnL sz v rows H') v H := Gives.whole h
end Go.Al
namespace Go.Al
def aun (op : UnOp) (v : AV) : Option AV := match op, v with
 | .not, .bool b => some (.bool (!b))
 | .neg, .int k n => some (.int k (k.wrap (0 - n)))
 | _, _ => none
theorem awpL_lit (E : Env) (F : Nat → Prop) (ds : List (Option Nat)) (Q : APost) (d : Option Nat) (ty : TypeId) (pos : String) (af : Array Edge) (rest : List Oper) (fr : Fr) (H : Hp) (c : Call) :
  awpL E F ds Q (⟨d, .go c, ty, pos, af, none⟩ :: rest) fr H = awpQ E F ds Q d rest fr H (asl E fr c) := Eq.trans rfl rfl
theorem asl_one (E : Env) (fr : Fr) (f : Callee) (l : List Operand) (t : TypeId) : asl E fr ⟨f, l.toArray, #[t]⟩ = (alit E fr t l.length (densL 0 l).toArray).map fun p => .isl p.1 p.2 := by simp [asl]
theorem aq_unOp (E : Env) (H : Hp) (fr : Fr) (op : UnOp) (t : TypeId) (x : Operand) : aq E H fr (.unOp op t x) = aun op (ev E.G fr x) := Eq.trans rfl rfl
theorem aun_not (b : Bool) : aun .not (.bool b) = some (.bool (!b)) := Eq.trans rfl rfl
theorem aun_neg (k : IntKind) (n : Int) : aun .neg (.int k n) = some (.int k (k.wrap (0 - n))) := Eq.trans rfl rfl
theorem upd_app {α : Type} (f : Nat → α) (i j : Nat) (v : α) : upd f i v j = if j = i then v else f j := Eq.trans rfl rfl
theorem thenQ_ret (K : Fr → Hp → Prop) (Q : APost) (fr : Fr) (H : Hp) : thenQ K Q .ret fr H = Q .ret fr H := Eq.trans rfl rfl
theorem thenQ_exit (K : Fr → Hp → Prop) (Q : APost) (id : Nat) (fr : Fr) (H : Hp) : thenQ K Q (.exit id) fr H = Q (.exit id) fr H := Eq.trans rfl rfl
theorem blockQ_normal (id : Nat) (Q : APost) (fr : Fr) (H : Hp) : blockQ id Q .normal fr H = Q .normal fr H := Eq.trans rfl rfl
theorem blockQ_ret (id : Nat) (Q : APost) (fr : Fr) (H : Hp) : blockQ id Q .ret fr H = Q .ret fr H := Eq.trans rfl rfl
theorem blockQ_exit (id id' : Nat) (Q : APost) (fr : Fr) (H : Hp) : blockQ id Q (.exit id') fr H = if id' = id then Q .normal fr H else Q (.exit id') fr H := Eq.trans rfl rfl
theorem AX : type_of% (And.intro AL <| And.intro @aq.eq_1 <| And.intro @aq.eq_2 <| And.intro @aq.eq_3 <| And.intro @aq.eq_4 <| And.intro @aq.eq_5 <| And.intro @aq.eq_6 <| And.intro @aq_unOp <| And.intro @aun_not <| And.intro @aun_neg <| And.intro @aq.eq_10 <| And.intro @aq.eq_11 <| And.intro @aq.eq_12 <| And.intro @aq.eq_13 <| And.intro @aq.eq_14 <| And.intro @aq.eq_15 <| And.intro @aq.eq_16 <| And.intro @aq.eq_17 <| And.intro @aq.eq_18 <| And.intro @aq.eq_19 <| And.intro @aq.eq_20 <| And.intro @aq.eq_21 <| And.intro @aq.eq_22 <| And.intro @aq.eq_23 <| And.intro @aint.eq_1 <| And.intro @aint.eq_2 <| And.intro @aint.eq_3 <| And.intro @aint.eq_4 <| And.intro @aint.eq_5 <| And.intro @aint.eq_6 <| And.intro @aint.eq_7 <| And.intro @aint.eq_8 <| And.intro @aint.eq_9 <| And.intro @aint.eq_10 <| And.intro @aint.eq_11 <| And.intro @aint.eq_12 <| And.intro @aint.eq_13 <| And.intro @aint.eq_14 <| And.intro @aint.eq_15 <| And.intro @aint.eq_16 <| And.intro @aint.eq_17 <| And.intro @astr.eq_1 <| And.intro @astr.eq_2 <| And.intro @astr.eq_3 <| And.intro @astr.eq_4 <| And.intro @astr.eq_5 <| And.intro @astr.eq_6 <| And.intro @astr.eq_7 <| And.intro @astr.eq_8 <| And.intro @aWant.eq_1 <| And.intro @aWant.eq_2 <| And.intro @isPtr.eq_1 <| And.intro @isPtr.eq_2 <| And.intro @isPtr.eq_3 <| And.intro @abnd.eq_1 <| And.intro @ahi.eq_1 <| And.intro @ahi.eq_2 <| And.intro @ahi.eq_3 <| And.intro @alo.eq_1 <| And.intro @alo.eq_2 <| And.intro @alo.eq_3 <| And.intro @aload.eq_1 <| And.intro @aload.eq_2 <| And.intro @aload.eq_3 <| And.intro @rd.eq_1 <| And.intro @newObj.eq_1 <| And.intro @newObj.eq_2 <| And.intro @newObj.eq_3 <| And.intro @newObj.eq_4 <| And.intro @newObj.eq_5 <| And.intro @alit.eq_1 <| And.intro @aparts.eq_1 <| And.intro @aparts.eq_2 <| And.intro @astore.eq_1 <| And.intro @amapset.eq_1 <| And.intro @cellsOf.eq_1 <| And.intro @cellsOf.eq_2 <| And.intro @cellsOf.eq_3 <| And.intro @ev.eq_1 <| And.intro @ev.eq_2 <| And.intro @ev.eq_3 <| And.intro @ev.eq_4 <| And.intro @avOf.eq_1 <| And.intro @avOf.eq_2 <| And.intro @av1.eq_1 <| And.intro @av1.eq_2 <| And.intro @av1.eq_3 <| And.intro @av1.eq_4 <| And.intro @av1.eq_5 <| And.intro @av1.eq_6 <| And.intro @av1.eq_7 <| And.intro @av1.eq_8 <| And.intro @av1.eq_9 <| And.intro @putF.eq_1 <| And.intro @putF.eq_2 <| And.intro @upd_app <| And.intro @argF.eq_1 <| And.intro @TK.agg.eq_1 <| And.intro @TK.agg.eq_2 <| And.intro @TK.agg.eq_3 <| And.intro @aapp.eq_1 <| And.intro @asrc.eq_1 <| And.intro @asrc.eq_2 <| And.intro @asrc.eq_3 <| And.intro @asrc.eq_4 <| And.intro @one.eq_1 <| And.intro @one.eq_2 <| And.intro @one.eq_3 <| And.intro @one.eq_4 <| And.intro @awpL_lit <| And.intro @asl_one <| And.intro @densL.eq_1 <| And.intro @densL.eq_2 <| And.intro @abytes.eq_1 <| And.intro @abytes.eq_2 <| And.intro @bytesL.eq_1 <| And.intro @bytesL.eq_2 <| And.intro @byteOf.eq_1 <| And.intro @aq.abuild.eq_1 <| And.intro @aq.abuild.eq_2 <| And.intro @if_true.{1} <| And.intro @if_false.{1} <| And.intro @if_true.{1} <| And.intro @awpL_entry <| And.intro @touch_ptr <| And.intro @touch_ipt <| And.intro @thenQ_normal <| And.intro thenQ_ret <| And.intro thenQ_exit <| And.intro blockQ_normal <| And.intro blockQ_ret <| And.intro blockQ_exit trivial) := And.intro AL <| And.intro @aq.eq_1 <| And.intro @aq.eq_2 <| And.intro @aq.eq_3 <| And.intro @aq.eq_4 <| And.intro @aq.eq_5 <| And.intro @aq.eq_6 <| And.intro @aq_unOp <| And.intro @aun_not <| And.intro @aun_neg <| And.intro @aq.eq_10 <| And.intro @aq.eq_11 <| And.intro @aq.eq_12 <| And.intro @aq.eq_13 <| And.intro @aq.eq_14 <| And.intro @aq.eq_15 <| And.intro @aq.eq_16 <| And.intro @aq.eq_17 <| And.intro @aq.eq_18 <| And.intro @aq.eq_19 <| And.intro @aq.eq_20 <| And.intro @aq.eq_21 <| And.intro @aq.eq_22 <| And.intro @aq.eq_23 <| And.intro @aint.eq_1 <| And.intro @aint.eq_2 <| And.intro @aint.eq_3 <| And.intro @aint.eq_4 <| And.intro @aint.eq_5 <| And.intro @aint.eq_6 <| And.intro @aint.eq_7 <| And.intro @aint.eq_8 <| And.intro @aint.eq_9 <| And.intro @aint.eq_10 <| And.intro @aint.eq_11 <| And.intro @aint.eq_12 <| And.intro @aint.eq_13 <| And.intro @aint.eq_14 <| And.intro @aint.eq_15 <| And.intro @aint.eq_16 <| And.intro @aint.eq_17 <| And.intro @astr.eq_1 <| And.intro @astr.eq_2 <| And.intro @astr.eq_3 <| And.intro @astr.eq_4 <| And.intro @astr.eq_5 <| And.intro @astr.eq_6 <| And.intro @astr.eq_7 <| And.intro @astr.eq_8 <| And.intro @aWant.eq_1 <| And.intro @aWant.eq_2 <| And.intro @isPtr.eq_1 <| And.intro @isPtr.eq_2 <| And.intro @isPtr.eq_3 <| And.intro @abnd.eq_1 <| And.intro @ahi.eq_1 <| And.intro @ahi.eq_2 <| And.intro @ahi.eq_3 <| And.intro @alo.eq_1 <| And.intro @alo.eq_2 <| And.intro @alo.eq_3 <| And.intro @aload.eq_1 <| And.intro @aload.eq_2 <| And.intro @aload.eq_3 <| And.intro @rd.eq_1 <| And.intro @newObj.eq_1 <| And.intro @newObj.eq_2 <| And.intro @newObj.eq_3 <| And.intro @newObj.eq_4 <| And.intro @newObj.eq_5 <| And.intro @alit.eq_1 <| And.intro @aparts.eq_1 <| And.intro @aparts.eq_2 <| And.intro @astore.eq_1 <| And.intro @amapset.eq_1 <| And.intro @cellsOf.eq_1 <| And.intro @cellsOf.eq_2 <| And.intro @cellsOf.eq_3 <| And.intro @ev.eq_1 <| And.intro @ev.eq_2 <| And.intro @ev.eq_3 <| And.intro @ev.eq_4 <| And.intro @avOf.eq_1 <| And.intro @avOf.eq_2 <| And.intro @av1.eq_1 <| And.intro @av1.eq_2 <| And.intro @av1.eq_3 <| And.intro @av1.eq_4 <| And.intro @av1.eq_5 <| And.intro @av1.eq_6 <| And.intro @av1.eq_7 <| And.intro @av1.eq_8 <| And.intro @av1.eq_9 <| And.intro @putF.eq_1 <| And.intro @putF.eq_2 <| And.intro @upd_app <| And.intro @argF.eq_1 <| And.intro @TK.agg.eq_1 <| And.intro @TK.agg.eq_2 <| And.intro @TK.agg.eq_3 <| And.intro @aapp.eq_1 <| And.intro @asrc.eq_1 <| And.intro @asrc.eq_2 <| And.intro @asrc.eq_3 <| And.intro @asrc.eq_4 <| And.intro @one.eq_1 <| And.intro @one.eq_2 <| And.intro @one.eq_3 <| And.intro @one.eq_4 <| And.intro @awpL_lit <| And.intro @asl_one <| And.intro @densL.eq_1 <| And.intro @densL.eq_2 <| And.intro @abytes.eq_1 <| And.intro @abytes.eq_2 <| And.intro @bytesL.eq_1 <| And.intro @bytesL.eq_2 <| And.intro @byteOf.eq_1 <| And.intro @aq.abuild.eq_1 <| And.intro @aq.abuild.eq_2 <| And.intro @if_true.{1} <| And.intro @if_false.{1} <| And.intro @if_true.{1} <| And.intro @awpL_entry <| And.intro @touch_ptr <| And.intro @touch_ipt <| And.intro @thenQ_normal <| And.intro thenQ_ret <| And.intro thenQ_exit <| And.intro blockQ_normal <| And.intro blockQ_ret <| And.intro blockQ_exit trivial
end Go.Al
namespace Go.Al
def AAnyG (E : Env) (G : Nat → Nat → Prop) (ops : Array Oper) (Q : APost) : Nat → Array Bool → Fr → Hp → Prop
 | 0, L, fr, H => Region.ready .any ops L = [] ∧ Q .normal fr H
 | fuel + 1, L, fr, H => (Region.ready .any ops L = [] → Q .normal fr H) ∧
   ∀ i ∈ Region.ready .any ops L, ∀ o, ops[i]? = some o → aop E (G i) (ops.toList.map (·.dst)) o fr H (AAnyG E G ops Q fuel (L.setIfInBounds i true)) (fun v H' => Q (.pan v) frU H')
def denseB (len : Nat) (ps : Array (Nat × Operand)) : Bool := ps.toList.map (·.1) == List.range len
theorem dens_of : ∀ (l : List (Nat × Operand)) (k : Nat), l.map (·.1) = List.range' k l.length → densL k (l.map (·.2)) = l
 | [], _, _ => rfl
 | (i, x) :: l, k, h => by
   simp only [List.map_cons, List.length_cons, List.range'_succ, List.cons.injEq] at h
   simp only [List.map_cons, densL, h.1, dens_of l (k + 1) h.2]
theorem dense_spec {len : Nat} {ps : Array (Nat × Operand)} (h : denseB len ps = true) : ps.size = len ∧ (densL 0 (ps.toList.map (·.2))).toArray = ps := by
 simp only [denseB, beq_iff_eq] at h
 have hl : ps.size = len := by have := congrArg List.length h; simpa using this
 refine ⟨hl, ?_⟩
 rw [dens_of ps.toList 0 (by rw [h, List.range_eq_range', Array.length_toList, hl])]
def calmF (f : Nat) (o : Op) : Bool := if f = 2 then (match o with | .buildSlice _ len ps => denseB len ps | _ => false) else calm o && (f != 3 || (markOf o).isNone)
def Pv (E : Env) (H : Hp) (fr : Fr) (o : Op) (f : Nat) : Option AV := if f = 2 then (match o with | .buildSlice t len ps => (alit E fr t len ps).map fun p => .isl p.1 p.2 | _ => none) else aq E H fr o
def Yf (E : Env) (F : Nat → Prop) (ds : List (Option Nat)) (f : Nat) (o : Oper) (v : AV) (fr : Fr) (H : Hp) : Prop :=
 (aWant ds fr o.guard = some false ∧ v = .tup []) ∨
 (aWant ds fr o.guard = some true ∧ Pv E H fr o.op f = some v ∧ (f = 0 → ∀ x, markOf o.op = some x → ∀ b, atouch (ev E.G fr x) = some b → ¬ F b))
section
variable {E : Env} {F : Nat → Prop} {G : Nat → Nat → Prop} {ops : Array Oper} {Q : APost} {fr : Fr} {H : Hp}
theorem AAnyG_sound {γ : Start} {N : Nat} (hd : ops.toList.all (dstOk N) = true) : ∀ (fuel : Nat) (L : Array Bool) (fr : Fr) (H : Hp) (a : Act) (w : World), Sim E γ N fr H a w → AAnyG E G ops Q fuel L fr H → wpAny E.P .any ops (lift E γ N Q) fuel L a w
 | 0, _, fr, H, a, w, hs, h => ⟨h.1, fr, H, hs, h.2⟩
 | fuel + 1, L, fr, H, a, w, hs, h => by
   refine ⟨fun e => ⟨fr, H, hs, h.1 e⟩, fun i hi => ?_⟩
   obtain ⟨_, o, ho, _⟩ := mem_ready.1 hi
   unfold wpOp
   simp only [ho]
   have hdo : dstOk N o = true := by
    rw [List.all_eq_true] at hd
    exact hd o (Array.mem_toList_iff.2 (Array.mem_of_getElem? ho))
   have h1 := hs.1
   exact aop_sound hs hdo (h.2 i hi o ho) (fun fr' H' a' w' hs' hK => AAnyG_sound hd fuel _ fr' H' a' w' hs' hK) (fun v v' S' H' w' hst hv hK => ⟨h1, v, v', S', H', rfl, hst, hv, hK⟩)
theorem Yf.step {f : Nat} {oi oj : Oper} {v u : AV} {H' : Hp} (hci : calmF f oi.op = true) (hap : ∀ d, oj.dst = some d → d ∉ oi.looksAt ops) (hy : Yf E F (ops.toList.map (·.dst)) f oi v fr H) (hag : f = 0 → Agree F H H') (hcm : f ≠ 0 → f ≠ 2 → f ≠ 3 → H' = H) :
  Yf E F (ops.toList.map (·.dst)) f oi v (putF fr oj.dst u) H' := by
 unfold Yf at *
 rw [aWant_put hap]
 rcases hy with hy | ⟨h1, h2, h3⟩
 ·exact .inl hy
 refine .inr ⟨h1, ?_, ?_⟩
 ·by_cases e2 : f = 2
  ·subst e2
   simp only [Pv, if_true] at h2 ⊢
   obtain ⟨dst, op, ty, pos, af, g⟩ := oi
   cases op <;> simp only [reduceCtorEq] at h2 ⊢
   rename_i t len ps
   have hc := ops_put (E := E) (fr := fr) (v := u) hap
   simp only [Op.operands] at hc
   rw [← h2]
   have key : ∀ size, aparts E (putF fr oj.dst u) size 0 ps.toList = aparts E fr size 0 ps.toList := fun size => aparts_congr ps.toList 0 fun p hp => hc p.2 (by
    simp only [List.mem_toArray, List.mem_map]; exact ⟨p, hp, rfl⟩)
   simp only [alit, key]
  ·simp only [Pv, if_neg e2] at h2 ⊢
   simp only [calmF, if_neg e2, Bool.and_eq_true] at hci
   rw [aq_congr (ops_put hap)]
   by_cases e0 : f = 0
   ·exact aq_stable hci.1 h2 fun x hx b hb hne => hag e0 b hne (h3 e0 x hx b hb)
   ·by_cases e3 : f = 3
    ·refine aq_stable hci.1 h2 fun x hx => ?_
     have := hci.2
     rw [e3, hx] at this
     simp at this
    ·rw [hcm e0 e2 e3]; exact h2
 ·intro e0 x hx b hb
  rw [ops_put hap x (mark_mem hx)] at hb
  exact h3 e0 x hx b hb
theorem aop_putG {f : Nat} {F' : Nat → Prop} {oi oj : Oper} {v : AV} {K : Fr → Hp → Prop} {Kp : AV → Hp → Prop} (hap : oi.apart ops oj = true) (hci : calmF f oi.op = true) (hcm : f ≠ 0 → f ≠ 2 → f ≠ 3 → calm oj.op = true) (hF : f = 0 → F' = F) (hy : Yf E F (ops.toList.map (·.dst)) f oi v fr H)
  (h : aop E F' (ops.toList.map (·.dst)) oj (putF fr oi.dst v) H K Kp) : aop E F' (ops.toList.map (·.dst)) oj fr H (fun fr' H' => Yf E F (ops.toList.map (·.dst)) f oi v fr' H' ∧ K (putF fr' oi.dst v) H') Kp := by
 obtain ⟨h1, h2, h3⟩ := Oper.apart_spec hap
 unfold aop at *
 rw [aWant_put h1] at h
 split at h
 ·rename_i hw
  rw [astep_congr (ops_put h1)] at h
  by_cases hf : f ≠ 0 ∧ f ≠ 2 ∧ f ≠ 3
  ·rw [astep_calm (hcm hf.1 hf.2.1 hf.2.2)] at h ⊢
   split at h <;> try (exact h.elim)
   rename_i u hu
   refine ⟨hy.step hci h3 (fun _ => Agree.refl) fun _ _ _ => rfl, ?_⟩
   rw [← put_comm h2]; exact h
  ·refine astep_mono (fun u H' hag hK => ⟨hy.step hci h3 (fun e => by rw [← hF e]; exact hag) (fun a b c => absurd ⟨a, b, c⟩ hf), ?_⟩) (fun _ _ h => h) h
   rw [← put_comm h2]; exact hK
 ·exact ⟨hy.step hci h3 (fun _ => Agree.refl) fun _ _ _ => rfl, by rw [← put_comm h2]; exact h⟩
 ·exact h
theorem Yf.aop {f : Nat} {F' : Nat → Prop} {o : Oper} {v : AV} {K : Fr → Hp → Prop} {Kp : AV → Hp → Prop} (hc : calmF f o.op = true) (hy : Yf E F (ops.toList.map (·.dst)) f o v fr H) (h : K (putF fr o.dst v) H) : Al.aop E F' (ops.toList.map (·.dst)) o fr H K Kp := by
 unfold Al.aop
 rcases hy with ⟨h1, rfl⟩ | ⟨h1, h2, _⟩
 ·rw [h1]; exact h
 ·rw [h1]
  by_cases e2 : f = 2
  ·subst e2
   simp only [Pv, if_true] at h2
   obtain ⟨dst, op, ty, pos, af, g⟩ := o
   cases op <;> simp only [reduceCtorEq] at h2
   rw [Option.map_eq_some_iff] at h2
   obtain ⟨p, hp, rfl⟩ := h2
   simp only [astep, hp]
   exact .inl h
  ·simp only [Pv, if_neg e2] at h2
   simp only [calmF, if_neg e2, Bool.and_eq_true] at hc
   simp only
   rw [astep_calm hc.1, h2]; exact h
theorem AAnyG_first {i : Nat} {oi : Oper} {v : AV} {f : Nat} (hi : ops[i]? = some oi) (hci : calmF f oi.op = true) (W : Nat → Bool) (hW : ∀ j oj, ops[j]? = some oj → W j = true → ∃ e ∈ oj.after, Region.binds .any e = true ∧ (e.on = i ∨ W e.on = true)) :
  ∀ (fuel : Nat) (L : Array Bool) (fr : Fr) (H : Hp),
    (∀ j oj, ops[j]? = some oj → j ≠ i → L.getD j true = false → W j = false → oi.apart ops oj = true ∧ (f ≠ 0 → f ≠ 2 → f ≠ 3 → calm oj.op = true) ∧ (f = 0 → G j = F)) →
    (∀ j, W j = true → L.getD j false = false) → i ∈ Region.ready .any ops L → Yf E F (ops.toList.map (·.dst)) f oi v fr H →
    AAnyG E G ops Q fuel (L.setIfInBounds i true) (putF fr oi.dst v) H → AAnyG E G ops Q (fuel + 1) L fr H := by
 have first : ∀ {fuel : Nat} {L : Array Bool} {fr : Fr} {H : Hp} {j : Nat} {o : Oper}, ops[j]? = some o → j = i → Yf E F (ops.toList.map (·.dst)) f oi v fr H → AAnyG E G ops Q fuel (L.setIfInBounds i true) (putF fr oi.dst v) H →
   Al.aop E (G j) (ops.toList.map (·.dst)) o fr H (AAnyG E G ops Q fuel (L.setIfInBounds j true)) (fun v H' => Q (.pan v) frU H') := fun {fuel L fr H j o} ho e hy h => by
  subst e
  rw [hi] at ho
  cases ho
  exact hy.aop hci h
 intro fuel
 induction fuel with
 | zero =>
   intro L fr H _ _ hr hy h
   refine ⟨fun e => (by rw [e] at hr; cases hr), fun j hj o ho => ?_⟩
   by_cases hji : j = i
   ·exact first ho hji hy h
   ·have := ready_mono hj hji
    rw [h.1] at this
    cases this
 | succ fuel ih =>
   intro L fr H hfree hun hr hy h
   refine ⟨fun e => (by rw [e] at hr; cases hr), fun j hj oj hoj => ?_⟩
   by_cases hji : j = i
   ·exact first hoj hji hy h
   ·obtain ⟨hjun, oj', hoj', hall⟩ := mem_ready.1 hj
    rw [hoj] at hoj'
    cases hoj'
    have hi0 : L.getD i false = false := by
     have h0 := (mem_ready.1 hr).1
     rcases Nat.lt_or_ge i L.size with h' | h'
     ·simp [h'] at h0 ⊢; exact h0
     ·simp [Array.getElem?_eq_none h']
    have hWj : W j = false := by
     cases e : W j with
     | false => rfl
     | true =>
       obtain ⟨ed, he, hb, hor⟩ := hW j oj hoj e
       have h1 := hall ed he hb
       rcases hor with h2 | h2
       ·rw [h2, hi0] at h1; cases h1
       ·rw [hun _ h2] at h1; cases h1
    obtain ⟨hap, hcm, hG⟩ := hfree j oj hoj hji hjun hWj
    have h2 := aop_putG hap hci hcm hG hy (h.2 j (ready_mono hj hji) oj hoj)
    refine aop_mono (fun fr' H' h3 => ih (L.setIfInBounds j true) fr' H' (fun k ok hk hki hku hkW => hfree k ok hk hki ?_ hkW) (fun k hk => ?_) (ready_mono hr (Ne.symm hji)) h3.1 ?_) h2
    ·by_cases hjk : j = k
     ·subst hjk; exact hjun
     ·rw [getD_set_ne true hjk] at hku; exact hku
    ·have hne : j ≠ k := fun e => by subst e; rw [hWj] at hk; cases hk
     rw [getD_set_ne false hne]; exact hun k hk
    ·rw [Array.setIfInBounds_comm _ _ hji]
     exact h3.2
def chkFreeT (ops : Array Oper) (T : List Nat) (i : Nat) (oi : Oper) (f : Nat) (ws : List Nat) (L : Array Bool) : Bool :=
 (List.range ops.size).all fun j => j == i || L.getD j true || ws.contains j || match ops[j]? with | some oj => oi.apart ops oj && (f == 0 || f == 2 || f == 3 || calm oj.op) && (f != 0 || !T.contains j) | none => true
def chkT (ops : Array Oper) (T : List Nat) : Array Bool → List (Nat × Nat) → Bool
 | _, [] => true
 | L, (i, f) :: r => (match ops[i]? with
   | none => false
   | some o => !T.contains i && if calmF f o.op then (Region.ready .any ops L).contains i && chkW ops i (waiters ops i) L && chkFreeT ops T i o f (waiters ops i) L else f != 2 && Region.ready .any ops L == [i]) && chkT ops T (L.setIfInBounds i true) r
def doneL (L : Array Bool) : List (Nat × Nat) → Array Bool
 | [] => L
 | (i, _) :: r => doneL (L.setIfInBounds i true) r
def emitF (ops : List Oper) : List (Nat × Nat) → List Oper
 | [] => []
 | (i, f) :: r => match ops[i]? with
   | none => []
   | some o => match f with
     | 0 => match markOf o.op with
       | some x => ⟨none, .entry x, o.type, o.pos, o.after, o.guard⟩ :: o :: emitF ops r
       | none => o :: emitF ops r
     | 2 => match o.op with
       | .buildSlice t _ ps => ⟨o.dst, .go ⟨.value (.func 0), (ps.toList.map (·.2)).toArray, #[t]⟩, o.type, o.pos, o.after, o.guard⟩ :: emitF ops r
       | _ => []
     | _ => o :: emitF ops r
theorem AAnyG_plan {T : List Nat} {m N : Nat} (hG : ∀ j, T.contains j = false → G j = F) (hd : ops.toList.all (dstOk N) = true) : ∀ (plan : List (Nat × Nat)) (L : Array Bool) (fr : Fr) (H : Hp), chkT ops T L plan = true →
  awpL E F (ops.toList.map (·.dst)) (thenQ (fun fr' H' => AAnyG E G ops Q m (doneL L plan) fr' H') Q) (emitF ops.toList plan) fr H → AAnyG E G ops Q (plan.length + m) L fr H
 | [], L, fr, H, hc, h => by
   simp only [emitF, doneL, List.length_nil, Nat.zero_add] at h ⊢
   exact h
 | (i, f) :: r, L, fr, H, hc, h => by
   simp only [chkT, Bool.and_eq_true] at hc
   obtain ⟨hc, hr⟩ := hc
   simp only [doneL] at h
   rw [show ((i, f) :: r).length + m = (r.length + m) + 1 by simp only [List.length_cons]; omega]
   cases ho : ops[i]? with
   | none => rw [ho] at hc; simp at hc
   | some o =>
     simp only [ho, Bool.and_eq_true, Bool.not_eq_true'] at hc
     obtain ⟨hT, hc⟩ := hc
     have hdo : dstOk N o = true := by
      rw [List.all_eq_true] at hd
      exact hd o (Array.mem_toList_iff.2 (Array.mem_of_getElem? ho))
     have ho2 : ops.toList[i]? = some o := by simpa using ho
     simp only [emitF, ho2] at h
     split at hc
     ·rename_i hcalm
      simp only [Bool.and_eq_true] at hc
      obtain ⟨⟨h1, h2⟩, h3⟩ := hc
      have go : ∀ v, Yf E F (ops.toList.map (·.dst)) f o v fr H → awpL E F (ops.toList.map (·.dst)) (thenQ (fun fr' H' => AAnyG E G ops Q m (doneL (L.setIfInBounds i true) r) fr' H') Q) (emitF ops.toList r) (putF fr o.dst v) H → AAnyG E G ops Q (r.length + m + 1) L fr H := fun v hy hrest => by
       refine AAnyG_first (F := F) ho hcalm (fun j => (waiters ops i).contains j) (fun j oj hoj hj => ?_) (r.length + m) L fr H (fun j oj hoj hji hju hjW => ?_) (fun j hj => ?_) (by simpa using h1) hy (AAnyG_plan hG hd r _ _ _ hr hrest)
       ·simp only [chkW, List.all_eq_true] at h2
        have := h2 j (by simpa using hj)
        simp only [hoj, Bool.and_eq_true] at this
        obtain ⟨ed, he, hb⟩ := Array.any_eq_true'.1 this.2
        simp only [Bool.and_eq_true, Bool.or_eq_true, beq_iff_eq] at hb
        exact ⟨ed, he, hb.1, hb.2⟩
       ·simp only [chkFreeT, List.all_eq_true, List.mem_range] at h3
        have := h3 j (Array.getElem?_eq_some_iff.1 hoj).1
        simp only [hoj, hju, hjW, Bool.or_eq_true, beq_iff_eq, hji, Bool.false_eq_true, or_false, false_or, Bool.and_eq_true, Bool.not_eq_true', bne_iff_ne] at this
        refine ⟨this.1.1, fun e e' e'' => ?_, fun e => hG j ?_⟩
        ·rcases this.1.2 with ((h | h) | h) | h
         ·exact absurd h e
         ·exact absurd h e'
         ·exact absurd h e''
         ·exact h
        ·rcases this.2 with h | h
         ·exact absurd e h
         ·exact h
       ·simp only [chkW, List.all_eq_true] at h2
        have := h2 j (by simpa using hj)
        simp only [Bool.and_eq_true, Bool.not_eq_true'] at this
        exact this.1
      by_cases e0 : f = 0
      ·subst e0
       have hcalm' : calm o.op = true := by simpa [calmF] using hcalm
       have pv : ∀ fr, Pv E H fr o.op 0 = aq E H fr o.op := fun fr => by simp [Pv]
       simp only at h
       split at h
       ·rename_i x hx
        simp only [awpL] at h
        split at h
        ·rename_i hw
         obtain ⟨hm, h⟩ := h
         obtain ⟨v, hv, hrest⟩ := calm_cons (fr := fr) hdo _ hcalm' h
         exact go v (hv.imp id fun ⟨a, b⟩ => ⟨a, by rw [pv]; exact b, fun _ y hy => by rw [hx] at hy; cases hy; exact hm⟩) hrest
        ·rename_i hw
         obtain ⟨v, hv, hrest⟩ := calm_cons (fr := fr) hdo _ hcalm' h
         exact go v (hv.imp id fun ⟨a, b⟩ => by rw [hw] at a; cases a) hrest
        ·exact h.elim
       ·rename_i hx
        obtain ⟨v, hv, hrest⟩ := calm_cons hdo _ hcalm' h
        exact go v (hv.imp id fun ⟨a, b⟩ => ⟨a, by rw [pv]; exact b, fun _ y hy => by rw [hx] at hy; cases hy⟩) hrest
      ·by_cases e2 : f = 2
       ·subst e2
        obtain ⟨dst, op, ty, pos, af, g⟩ := o
        simp only [calmF, if_true] at hcalm
        cases op <;> simp only [Bool.false_eq_true] at hcalm
        rename_i t len ps
        obtain ⟨d1, d2⟩ := dense_spec hcalm
        simp only [awpL] at h
        split at h
        ·rename_i hw
         split at h
         ·rename_i v hv
          refine go v (.inr ⟨hw, ?_, fun e => absurd e (by decide)⟩) h
          simp only [Pv, if_true]
          rw [← hv]
          simp only [asl, d2]
          rw [show ((ps.toList.map (·.2)).toArray).size = len by simpa using d1]
         ·exact h.elim
        ·rename_i hw
         exact go _ (.inl ⟨hw, rfl⟩) h
        ·exact h.elim
       ·have hcalm' : calm o.op = true := by simp only [calmF, if_neg e2, Bool.and_eq_true] at hcalm; exact hcalm.1
        have h' : awpL E F (ops.toList.map (·.dst)) (thenQ (fun fr' H' => AAnyG E G ops Q m (doneL (L.setIfInBounds i true) r) fr' H') Q) (o :: emitF ops.toList r) fr H := by
         split at h
         ·exact absurd rfl e0
         ·exact absurd rfl e2
         ·exact h
        obtain ⟨v, hv, hrest⟩ := calm_cons hdo _ hcalm' h'
        exact go v (hv.imp id fun ⟨a, b⟩ => ⟨a, by simp only [Pv, if_neg e2]; exact b, fun e => absurd e e0⟩) hrest
     ·rename_i hcalm
      simp only [Bool.and_eq_true, bne_iff_ne, beq_iff_eq] at hc
      obtain ⟨e2, hc⟩ := hc
      have h' : awpL E F (ops.toList.map (·.dst)) (thenQ (fun fr' H' => AAnyG E G ops Q m (doneL (L.setIfInBounds i true) r) fr' H') Q) (o :: emitF ops.toList r) fr H := by
       split at h
       ·split at h
        ·rename_i x hx
         exfalso
         simp only [calmF] at hcalm
         cases e : o.op <;> rw [e] at hx hcalm <;> simp [markOf, calm] at hx hcalm
        ·exact h
       ·exact absurd rfl e2
       ·exact h
      rw [awpL_cons hdo] at h'
      refine ⟨fun e => (by rw [hc] at e; cases e), fun j hj oj hoj => ?_⟩
      rw [hc] at hj
      simp only [List.mem_singleton] at hj
      subst hj
      rw [ho] at hoj
      cases hoj
      rw [hG j hT]
      exact aop_mono (fun fr' H' hK => AAnyG_plan hG hd r _ fr' H' hr hK) h'
theorem doneL_size : ∀ (p : List (Nat × Nat)) (L : Array Bool), (doneL L p).size = L.size
 | [], L => rfl
 | (i, c) :: r, L => by rw [doneL, doneL_size r]; simp
theorem awpL_mono {ds : List (Option Nat)} {Q Q' : APost} (hQ : ∀ e fr H, Q e fr H → Q' e fr H) : ∀ (l : List Oper) (fr : Fr) (H : Hp), awpL E F ds Q l fr H → awpL E F ds Q' l fr H
 | [], fr, H, h => hQ _ _ _ h
 | o :: r, fr, H, h => by
   have key : ∀ fr H, aop E F ds o fr H (awpL E F ds Q r) (fun v H' => Q (.pan v) frU H') → aop E F ds o fr H (awpL E F ds Q' r) (fun v H' => Q' (.pan v) frU H') := fun fr H h => by
    unfold aop at *
    split at h
    ·exact astep_mono (fun _ _ _ h => awpL_mono hQ r _ _ h) (fun _ _ h => hQ _ _ _ h) h
    ·exact awpL_mono hQ r _ _ h
    ·exact h
   unfold awpL at h ⊢
   split at h
   ·split at h
    ·exact ⟨h.1, awpL_mono hQ r _ _ h.2⟩
    ·exact awpL_mono hQ r _ _ h
    ·exact h
   ·split at h
    ·split at h
     ·exact awpL_mono hQ r _ _ h
     ·exact h
    ·exact awpL_mono hQ r _ _ h
    ·exact h
   ·exact key _ _ h
def chkDraw2 (N : Nat) (l : List Oper) (plan plan2 : List (Nat × Nat)) : Bool :=
 l.all (dstOk N) && plan.length + plan2.length == l.length && chkT l.toArray (plan2.map (·.1)) (Array.replicate l.length false) plan && chkT l.toArray [] (doneL (Array.replicate l.length false) plan) (plan2.map fun p => (p.1, if p.2 = 2 then 2 else 1)) && Region.ready .any l.toArray (doneL (doneL (Array.replicate l.length false) plan) (plan2.map fun p => (p.1, if p.2 = 2 then 2 else 1))) == [] && (List.range l.length).all fun j => (doneL (Array.replicate l.length false) plan).getD j true || (plan2.map (·.1)).contains j
theorem awp_region_draw2 (F : Nat → Prop) (plan plan2 : List (Nat × Nat)) {N id : Nat} {l l1 l2 : List Oper} (hm : E.P.follows .mixedOrders = true) (hc : chkDraw2 N l plan plan2 = true) (hl : emitF l plan = l1) (hl2 : emitF l (plan2.map fun p => (p.1, if p.2 = 2 then 2 else 1)) = l2)
  (h : awpL E F (l.map (·.dst)) (thenQ (fun fr' H' => awpL E (fun _ => True) (l.map (·.dst)) Q l2 fr' H') Q) l1 fr H) : awp E N (.region id l.toArray true) Q fr H := fun γ a w hs => by
 subst hl; subst hl2
 simp only [chkDraw2, Bool.and_eq_true, beq_iff_eq] at hc
 obtain ⟨⟨⟨⟨⟨hd, hlen⟩, hc1⟩, hc2⟩, hc3⟩, hc4⟩ := hc
 have hd' : l.toArray.toList.all (dstOk N) = true := by simpa using hd
 refine wp_region_any hm (AAnyG_sound (G := fun j => if (plan2.map (·.1)).contains j then fun _ => True else F) hd' _ _ fr H a _ hs.drew ?_)
 have key : ∀ fr' H', awpL E (fun _ => True) (l.map (·.dst)) Q (emitF l (plan2.map fun p => (p.1, if p.2 = 2 then 2 else 1))) fr' H' → AAnyG E (fun j => if (plan2.map (·.1)).contains j then fun _ => True else F) l.toArray Q plan2.length (doneL (Array.replicate l.length false) plan) fr' H' := fun fr' H' h' => by
  have mono : ∀ (n : Nat) (L : Array Bool) fr H, AAnyG E (fun _ _ => True) l.toArray Q n L fr H → (∀ j, L.getD j true = false → (plan2.map (·.1)).contains j = true) → AAnyG E (fun j => if (plan2.map (·.1)).contains j then fun _ => True else F) l.toArray Q n L fr H := by
   intro n
   induction n with
   | zero => intro L fr H h _; exact h
   | succ n ih =>
     intro L fr H h hT
     refine ⟨h.1, fun i hi o ho => ?_⟩
     have hun := (mem_ready.1 hi).1
     show aop E (if (plan2.map (·.1)).contains i = true then fun _ => True else F) _ _ _ _ _ _
     rw [if_pos (hT i hun)]
     refine aop_mono (fun fr' H' h3 => ih _ _ _ h3 fun j hj => ?_) (h.2 i hi o ho)
     by_cases e : i = j
     ·subst e; exact hT i hun
     ·rw [getD_set_ne true e] at hj; exact hT j hj
  refine mono _ _ _ _ ?_ ?_
  ·have := AAnyG_plan (E := E) (F := fun _ => True) (G := fun _ _ => True) (Q := Q) (ops := l.toArray) (N := N) (m := 0) (fun _ _ => rfl) hd' (plan2.map fun p => (p.1, if p.2 = 2 then 2 else 1)) _ fr' H' hc2 (by
    refine awpL_mono (Q := Q) ?_ _ _ _ (by simpa using h')
    intro e fr'' H'' he
    cases e <;> first | exact ⟨hc3, he⟩ | exact he)
   simpa using this
  ·intro j hj
   have hs : (doneL (Array.replicate l.length false) plan).size = l.length := by rw [doneL_size, Array.size_replicate]
   have hjl : j < l.length := by
    rcases Nat.lt_or_ge j l.length with h | h
    ·exact h
    ·rw [Array.getD_eq_getD_getElem?, Array.getElem?_eq_none (by omega)] at hj; cases hj
   have := List.all_eq_true.1 hc4 j (List.mem_range.2 hjl)
   rw [hj, Bool.false_or] at this
   exact this
 have := AAnyG_plan (E := E) (F := F) (G := fun j => if (plan2.map (·.1)).contains j then fun _ => True else F) (Q := Q) (ops := l.toArray) (N := N) (m := plan2.length) (T := plan2.map (·.1)) (fun j hj => by rw [hj]; rfl) hd' plan _ fr H hc1 (by
  refine awpL_mono (Q := thenQ (fun fr' H' => awpL E (fun _ => True) (l.map (·.dst)) Q (emitF l (plan2.map fun p => (p.1, if p.2 = 2 then 2 else 1))) fr' H') Q) ?_ _ _ _ (by simpa using h)
  intro e fr'' H'' he
  cases e <;> first | exact key _ _ he | exact he)
 rw [hlen] at this
 simpa using this
end
end Go.Al
namespace Go.Al
section
variable {S S' : Seal} {w : World}
theorem RowRel.sub : ∀ {row row' : List AV} {b off : Nat}, RowRel S w b off row → row'.length = row.length → (∀ (j : Nat) x x' u, row[j]? = some x → row'[j]? = some x' → VRel S w x u → VRel S' w x' u) → RowRel S' w b off row'
 | [], [], b, off, _, _, _ => by simp only [RowRel]
 | x :: row, y :: row', b, off, h, hl, hs => by
   simp only [RowRel] at *
   obtain ⟨⟨u, h1, h2⟩, h3⟩ := h
   exact ⟨⟨u, h1, hs 0 x y u rfl rfl h2⟩, RowRel.sub h3 (by simpa using hl) fun j a c v ha hc => hs (j + 1) a c v (by simpa using ha) (by simpa using hc)⟩
 | [], _ :: _, _, _, _, hl, _ => by simp at hl
 | _ :: _, [], _, _, _, hl, _ => by simp at hl
theorem RowsRel.sub {sz : Nat} : ∀ {l l' : List (List AV)} {b off : Nat}, RowsRel S w b off sz l → l'.length = l.length → (∀ (i : Nat) r r', l[i]? = some r → l'[i]? = some r' → r'.length = r.length ∧ ∀ (j : Nat) x x' u, r[j]? = some x → r'[j]? = some x' → VRel S w x u → VRel S' w x' u) → RowsRel S' w b off sz l'
 | [], [], b, off, _, _, _ => by simp only [RowsRel]
 | r :: l, r' :: l', b, off, h, hl, hs => by
   simp only [RowsRel] at *
   obtain ⟨h1, h2, h3⟩ := h
   obtain ⟨g1, g2⟩ := hs 0 r r' rfl rfl
   exact ⟨by omega, RowRel.sub h2 g1 g2, RowsRel.sub h3 (by simpa using hl) fun i a c ha hc => hs (i + 1) a c (by simpa using ha) (by simpa using hc)⟩
 | [], _ :: _, _, _, _, hl, _ => by simp at hl
 | _ :: _, [], _, _, _, hl, _ => by simp at hl
end
def frzO (b sz : Nat) (l : List (List AV)) : AObj → AObj
 | .rows s r => .rows s (r.map fun x => x.map (frz b sz l))
 | .amap es => .amap es
 | .bld ty g n => .bld ty g n
 | .buf ty bs cap => .buf ty bs cap
section
variable {E : Env} {N : Nat} {Q : APost} {c : Code} {fr : Fr} {H : Hp}
theorem awp_freezeAll {b sz : Nat} {l : List (List AV)} (hb : H b = some (.rows sz l)) (h : awp E N c Q (fun t => frz b sz l (fr t)) (fun x => if x = b then none else (H x).map (frzO b sz l))) : awp E N c Q fr H := fun γ a w ⟨g1, g2, S, hst, hf⟩ => by
 have hk : Keeps S (fun k => S k ∨ k = b) w w := ⟨fun _ _ => rfl, fun _ _ h => h, fun _ h => .inl h⟩
 have ho := (hst.obj b _ hb).1
 have hlt := ho.lt
 simp only [ORel] at ho
 obtain ⟨cs, e, _, _, hr⟩ := ho
 have hr' := RowsRel.mono hk l b 0 sz rfl hr
 have hv : ∀ x u, VRel S w x u → VRel (fun k => S k ∨ k = b) w (frz b sz l x) u := fun x u hx => frz_sub b sz l x _ w _ (.inr rfl) hr' (VRel.mono hk _ _ hx)
 refine h γ a w ⟨g1, g2, _, ?_, fun t => hv _ _ (hf t)⟩
 refine hst.step (Ext.refl (fun _ => False) w) (fun _ h => h.elim) (fun _ h => .inl h) (fun k hk => ?_) (fun k hk => ?_) fun b' o hb' => ?_
 ·rcases hk with hk | hk
  ·exact hst.lt k hk
  ·exact hk ▸ hlt
 ·rcases hk with hk | hk
  ·exact .inl hk
  ·exact .inr (.inl (by rw [hk, hb]; simp))
 ·split at hb'
  ·cases hb'
  ·rename_i hne
   rw [Option.map_eq_some_iff] at hb'
   obtain ⟨o0, ho0, rfl⟩ := hb'
   have hobj := hst.obj b' o0 ho0
   refine ⟨fun hs => ?_, .inr ⟨?_, .inl (by rw [ho0]; simp)⟩⟩
   ·rcases hs with hs | hs
    ·exact hobj.2.1 hs
    ·exact hne hs
   ·cases o0 with
    | rows s r =>
      have h1 := hobj.1
      simp only [ORel, frzO] at *
      obtain ⟨cs', e', h2, h3, h4⟩ := h1
      refine ⟨cs', e', h2, by rw [List.length_map]; exact h3, RowsRel.sub h4 (by simp) fun i x x' hx hx' => ?_⟩
      rw [List.getElem?_map, hx] at hx'
      cases hx'
      refine ⟨by simp, fun j y y' u hy hy' hyu => ?_⟩
      rw [List.getElem?_map, hy] at hy'
      cases hy'
      exact hv _ _ hyu
    | amap es =>
      have h1 := hobj.1
      simp only [ORel, frzO] at *
      obtain ⟨mes, clock, h2, h3⟩ := h1
      exact ⟨mes, clock, h2, EsRel.mono hk es _ h3⟩
    | bld ty g n => exact hobj.1
    | buf ty bs cap => exact hobj.1
theorem awp_weakRows {b sz : Nat} {l l' : List (List AV)} (hb : H b = some (.rows sz l)) (hl : l'.length = l.length) (hs : ∀ (i : Nat) r r', l[i]? = some r → l'[i]? = some r' → r'.length = r.length ∧ ∀ (j : Nat) x x', r[j]? = some x → r'[j]? = some x' → Sub x x')
  (h : awp E N c Q fr (upd H b (some (.rows sz l')))) : awp E N c Q fr H := fun γ a w ⟨g1, g2, S, hst, hf⟩ => by
 refine h γ a w ⟨g1, g2, S, ?_, hf⟩
 refine hst.step (Ext.refl (fun _ => False) w) (fun _ h => h.elim) (fun _ h => h) hst.lt (fun k hk => .inl hk) fun b' o hb' => ?_
 by_cases e : b' = b
 ·subst e
  rw [upd_same] at hb'
  cases hb'
  have hobj := hst.obj b' _ hb
  refine ⟨hobj.2.1, .inr ⟨?_, .inl (by rw [hb]; simp)⟩⟩
  have h1 := hobj.1
  simp only [ORel] at *
  obtain ⟨cs', e', h2, h3, h4⟩ := h1
  refine ⟨cs', e', h2, by rw [hl]; exact h3, RowsRel.sub h4 hl fun i r r' hr hr' => ?_⟩
  obtain ⟨q1, q2⟩ := hs i r r' hr hr'
  exact ⟨q1, fun j x x' u hx hx' hxu => q2 j x x' hx hx' S w u hxu⟩
 ·rw [upd_ne _ _ e] at hb'
  exact ⟨(hst.obj b' o hb').2.1, .inl ⟨hb', fun h => h⟩⟩
end
end Go.Al
namespace Go.Al
inductive SubR : List AV → List AV → Prop
 | nil : SubR [] []
 | cons {x y : AV} {xs ys : List AV} : Sub x y → SubR xs ys → SubR (x :: xs) (y :: ys)
inductive SubRs : List (List AV) → List (List AV) → Prop
 | nil : SubRs [] []
 | cons {x y : List AV} {xs ys : List (List AV)} : SubR x y → SubRs xs ys → SubRs (x :: xs) (y :: ys)
theorem SubR.len {x y : List AV} (h : SubR x y) : y.length = x.length := by
 induction h with
 | nil => rfl
 | cons _ _ ih => simp [ih]
theorem SubRs.len {x y : List (List AV)} (h : SubRs x y) : y.length = x.length := by
 induction h with
 | nil => rfl
 | cons _ _ ih => simp [ih]
theorem SubR.list {x y : List AV} (h : SubR x y) : SubL x y := by
 induction h with
 | nil => exact SubL.refl _
 | cons h _ ih => exact SubL.cons h ih
theorem SubR.row {S : Seal} {w : World} {x y : List AV} (h : SubR x y) : ∀ {b off : Nat}, RowRel S w b off x → RowRel S w b off y := by
 induction h with
 | nil => intro b off h; exact h
 | cons h _ ih =>
   intro b off hr
   simp only [RowRel] at *
   obtain ⟨⟨u, h1, h2⟩, h3⟩ := hr
   exact ⟨⟨u, h1, h _ _ _ h2⟩, ih h3⟩
theorem SubRs.rows {S : Seal} {w : World} {sz : Nat} {x y : List (List AV)} (h : SubRs x y) : ∀ {b off : Nat}, RowsRel S w b off sz x → RowsRel S w b off sz y := by
 induction h with
 | nil => intro b off h; exact h
 | cons h _ ih =>
   intro b off hr
   simp only [RowsRel] at *
   obtain ⟨h1, h2, h3⟩ := hr
   exact ⟨h.len.trans h1, h.row h2, ih h3⟩
theorem Sub.isl {sz : Nat} {x y : List (List AV)} (h : SubRs x y) : Sub (.isl sz x) (.isl sz y) := by
 intro S w v hv
 simp only [VRel] at *
 obtain ⟨oa, cap, e, h1, h2, h3⟩ := hv
 have hl := h.len
 refine ⟨oa, cap, by rw [hl]; exact e, by rw [hl]; exact h1, h2, ?_⟩
 rcases h3 with h3 | ⟨b, off, e2, hb, hr⟩
 ·subst h3; cases h; exact .inl rfl
 ·exact .inr ⟨b, off, e2, hb, h.rows hr⟩
theorem Sub.aggR {x y : List AV} (h : SubR x y) : Sub (.agg x) (.agg y) := Sub.agg h.list
end Go.Al
namespace Go.Al
section
variable {E : Env} {N : Nat} {Q : APost} {fr : Fr} {H : Hp} {c : Code}
def agree (l : List Nat) (f g : Fr) : Prop := ∀ t, l.elem t = true → g t = f t
theorem agree.refl (l : List Nat) (f : Fr) : agree l f f := fun _ _ => rfl
theorem agree.nil (f g : Fr) : agree [] f g := fun _ h => by cases h
theorem agree.cons {l : List Nat} {f g : Fr} {t : Nat} (h : g t = f t) (ha : agree l f g) : agree (t :: l) f g := fun i hi => by
 by_cases e : i = t
 ·rw [e]; exact h
 ·refine ha i ?_
  have h1 : i ∈ t :: l := by simpa using hi
  have h2 := (List.mem_cons.1 h1).resolve_left e
  simpa using h2
theorem agree.upd {l : List Nat} {f g : Fr} {i : Nat} {v : AV} (h : l.elem i = false) (ha : agree l f g) : agree l f (upd g i v) := fun t ht => by
 have : t ≠ i := fun e => by rw [e, h] at ht; cases ht
 rw [upd_ne _ _ this]; exact ha t ht
theorem agree.same {l : List Nat} {f g k : Fr} (h : ∀ t, k t = g t) (ha : agree l f g) : agree l f k := fun t ht => (h t).trans (ha t ht)
theorem agree.sub {l l2 : List Nat} {f g k : Fr} (h : agree l2 g k) (hs : l.all l2.elem = true) (ha : agree l f g) : agree l f k := fun t ht =>
 (h t (List.all_eq_true.1 hs t (by simpa using ht))).trans (ha t ht)
theorem awp_name (h : ∀ fr' H', (∀ t, fr' t = fr t) → (∀ b, H' b = H b) → awp E N c Q fr' H') : awp E N c Q fr H := h fr H (fun _ => rfl) (fun _ => rfl)
theorem awp_cutP (M : Fr → Hp → Prop) (h1 : ∀ K : Fr → Hp → Prop, (∀ fr H, M fr H → K fr H) → awp E N c (thenQ K Q) fr H) (h2 : ∀ fr H, M fr H → Q .normal fr H) : awp E N c Q fr H :=
 awp_mono (h1 M fun _ _ h => h) fun e fr H hq => by cases e <;> first | exact h2 _ _ hq | exact hq
theorem awp_each (m : List Nat) (n : Nat) (I : Nat → Fr → Hp → Prop) (h0 : I 0 fr H)
  (round : ∀ (k : Nat) fr' H', k ≤ n → I k fr' H' → agree m fr fr' → ∀ K : Fr → Hp → Prop, (∀ fr'' H'', k < n → I (k + 1) fr'' H'' → agree m fr' fr'' → K fr'' H'') → awp E N c (thenQ K Q) fr' H') : awp E N (.loop c) Q fr H := by
 refine awp_loopK (fun mm fr' H' => ∃ k, mm = n - k ∧ k ≤ n ∧ I k fr' H' ∧ agree m fr fr') n ⟨0, rfl, Nat.zero_le _, h0, agree.refl _ _⟩ ?_
 rintro mm fr' H' ⟨k, rfl, hk, hI, ha⟩ K hK
 exact round k fr' H' hk hI ha K fun fr'' H'' hlt hI' ha' => hK (n - (k + 1)) fr'' H'' (by omega) ⟨k + 1, rfl, hlt, hI', fun t ht => (ha' t ht).trans (ha t ht)⟩
theorem awp_while (m : List Nat) (n : Nat) (I : Nat → Fr → Hp → Prop) (h0 : I n fr H)
  (round : ∀ (k : Nat) fr' H', I k fr' H' → agree m fr fr' → ∀ K : Fr → Hp → Prop, (∀ k' fr'' H'', k' < k → I k' fr'' H'' → agree m fr' fr'' → K fr'' H'') → awp E N c (thenQ K Q) fr' H') : awp E N (.loop c) Q fr H := by
 refine awp_loopK (fun mm fr' H' => I mm fr' H' ∧ agree m fr fr') n ⟨h0, agree.refl _ _⟩ ?_
 rintro k fr' H' ⟨hI, ha⟩ K hK
 exact round k fr' H' hI ha K fun k' fr'' H'' hlt hI' ha' => hK k' fr'' H'' hlt ⟨hI', fun t ht => (ha' t ht).trans (ha t ht)⟩
theorem frz_osl (b sz : Nat) (l : List (List AV)) (sz' b' n : Nat) : frz b sz l (.osl sz' b' n) = if b' = b ∧ sz' = sz ∧ n = l.length then .isl sz l else .osl sz' b' n := Eq.trans rfl rfl
theorem off.frz {v : AV} {b : Nat} (h : off v b) (sz : Nat) (l : List (List AV)) : frz b sz l v = v := by
 cases v <;> try rfl
 rename_i s' b' n
 rw [frz_osl, if_neg]
 rintro ⟨rfl, _, _⟩
 exact h _ _ rfl
theorem OwnL.same {sz : Nat} {v : AV} {rows : List (List AV)} {H H' : Hp} (h : OwnL sz v rows H) (hH : ∀ b, H' b = H b) : OwnL sz v rows H' := by
 rcases h with h | ⟨b, e, hb⟩
 ·exact .inl h
 ·exact .inr ⟨b, e, (hH b).trans hb⟩
theorem OwnL.off {sz : Nat} {v : AV} {rows : List (List AV)} {H : Hp} (h : OwnL sz v rows H) {b : Nat} (ho : off v b) (o : Option AObj) : OwnL sz v rows (Al.upd H b o) := by
 rcases h with h | ⟨b', e, hb⟩
 ·exact .inl h
 ·refine .inr ⟨b', e, ?_⟩
  have : b' ≠ b := fun c => ho _ _ (by rw [e, c])
  rw [upd_ne _ _ this]; exact hb
theorem OwnL.new {sz : Nat} {v : AV} {rows : List (List AV)} {H : Hp} (h : OwnL sz v rows H) {b : Nat} (hb : H b = none) : Al.off v b := fun s n e => h.there s b n e hb
theorem touch_mp (F : Nat → Prop) (b : Nat) : (∀ x, atouch (.mp b) = some x → ¬ F x) = ¬ F b := by
 refine propext ⟨fun h => h b rfl, fun h x hx => by cases hx; exact h⟩
theorem touch_imp (F : Nat → Prop) (ks vs : List AV) : (∀ x, atouch (.imp ks vs) = some x → ¬ F x) = True := propext ⟨fun _ => trivial, fun _ _ h => by cases h⟩
theorem touch_nmp (F : Nat → Prop) : (∀ x, atouch .nmp = some x → ¬ F x) = True := propext ⟨fun _ => trivial, fun _ _ h => by cases h⟩
theorem awpA_osl {F : Nat → Prop} {ds : List (Option Nat)} {d : Option Nat} {rest : List Oper} {b sz by' len : Nat} {l ys : List (List AV)} (hH : H b = some (.rows sz l)) (hl : len = l.length) (hb : (l.length + ys.length) * by' ≤ 140737488355328) (hF : F b)
  (h : ∀ b', (b' = b ∨ H b' = none) → awpL E F ds Q rest (putF fr d (.osl sz b' (l.length + ys.length))) (Al.upd (Al.upd H b none) b' (some (.rows sz (l ++ ys))))) : awpA E F ds Q d rest fr H (some (sz, by', .osl sz b len, ys)) := by
 subst hl
 simp only [awpA, hH]
 exact ⟨trivial, trivial, trivial, hb, hF, h⟩
theorem frzO_rows (b sz : Nat) (l : List (List AV)) (sz' : Nat) (r : List (List AV)) : frzO b sz l (.rows sz' r) = .rows sz' (r.map fun x => x.map (frz b sz l)) := Eq.trans rfl rfl
theorem fresh_ne {b b' : Nat} {o : AObj} (h : H b = none) (h' : H b' = some o) : b ≠ b' := fun e => by rw [e, h'] at h; cases h
end
theorem EM : type_of% (And.intro @touch_mp (And.intro @touch_imp (And.intro @touch_nmp (And.intro (@ne_eq Nat) (And.intro not_true_eq_false (And.intro @and_false (And.intro @false_and not_false_eq_true))))))) := ⟨@touch_mp, @touch_imp, @touch_nmp, @ne_eq Nat, not_true_eq_false, @and_false, @false_and, not_false_eq_true⟩
end Go.Al
namespace Go.Al
def smap (m : Nat) (es : List (AV × AV)) : AV → AV
 | .mp b => if b = m then .imp (es.map (·.1)) (es.map (·.2)) else .mp b
 | v => v
def smapO (m : Nat) (es : List (AV × AV)) : AObj → AObj
 | .rows s r => .rows s (r.map fun x => x.map (smap m es))
 | o => o
theorem EsRel.lists {S : Seal} {w : World} : ∀ {es : List (AV × AV)} {ms : List MapEntry}, EsRel S w es ms → LRel S w (es.map (·.1)) (ms.map fun e => e.key) ∧ LRel S w (es.map (·.2)) (ms.map fun e => e.val)
 | [], ms, h => by
   simp only [EsRel] at h
   subst h
   simp [LRel]
 | (k, v) :: es, ms, h => by
   simp only [EsRel] at h
   obtain ⟨e, es', rfl, h1, h2, h3⟩ := h
   obtain ⟨q1, q2⟩ := EsRel.lists h3
   simp only [List.map_cons, LRel]
   exact ⟨⟨_, _, rfl, h1, q1⟩, ⟨_, _, rfl, h2, q2⟩⟩
section
variable {E : Env} {N : Nat} {Q : APost} {c : Code} {fr : Fr} {H : Hp}
theorem awp_sealMap {m : Nat} {es : List (AV × AV)} (hb : H m = some (.amap es)) (h : awp E N c Q (fun t => smap m es (fr t)) (fun x => if x = m then none else (H x).map (smapO m es))) : awp E N c Q fr H := fun γ a w ⟨g1, g2, S, hst, hf⟩ => by
 have hk : Keeps S (fun k => S k ∨ k = m) w w := ⟨fun _ _ => rfl, fun _ _ h => h, fun _ h => .inl h⟩
 have ho := (hst.obj m _ hb).1
 have hlt := ho.lt
 simp only [ORel] at ho
 obtain ⟨mes, clock, hm, he⟩ := ho
 have he' := (EsRel.mono hk es _ he).lists
 have hv : ∀ x u, VRel S w x u → VRel (fun k => S k ∨ k = m) w (smap m es x) u := fun x u hx => by
  have h1 := VRel.mono hk _ _ hx
  cases x <;> try exact h1
  rename_i b
  simp only [smap]
  split
  ·rename_i e
   subst e
   simp only [VRel] at h1 ⊢
   exact ⟨b, h1, .inr rfl, mes, clock, hm, he'.1, he'.2⟩
  ·exact h1
 refine h γ a w ⟨g1, g2, _, ?_, fun t => hv _ _ (hf t)⟩
 refine hst.step (Ext.refl (fun _ => False) w) (fun _ h => h.elim) (fun _ h => .inl h) (fun k hk => ?_) (fun k hk => ?_) fun b' o hb' => ?_
 ·rcases hk with hk | hk
  ·exact hst.lt k hk
  ·exact hk ▸ hlt
 ·rcases hk with hk | hk
  ·exact .inl hk
  ·exact .inr (.inl (by rw [hk, hb]; simp))
 ·split at hb'
  ·cases hb'
  ·rename_i hne
   rw [Option.map_eq_some_iff] at hb'
   obtain ⟨o0, ho0, rfl⟩ := hb'
   have hobj := hst.obj b' o0 ho0
   refine ⟨fun hs => ?_, .inr ⟨?_, .inl (by rw [ho0]; simp)⟩⟩
   ·rcases hs with hs | hs
    ·exact hobj.2.1 hs
    ·exact hne hs
   ·cases o0 with
    | rows s r =>
      have h1 := hobj.1
      simp only [ORel, smapO] at *
      obtain ⟨cs', e', h2, h3, h4⟩ := h1
      refine ⟨cs', e', h2, by rw [List.length_map]; exact h3, RowsRel.sub h4 (by simp) fun i x x' hx hx' => ?_⟩
      rw [List.getElem?_map, hx] at hx'
      cases hx'
      refine ⟨by simp, fun j y y' u hy hy' hyu => ?_⟩
      rw [List.getElem?_map, hy] at hy'
      cases hy'
      exact hv _ _ hyu
    | amap es2 =>
      have h1 := hobj.1
      simp only [ORel, smapO] at *
      obtain ⟨mes2, clock2, h2, h3⟩ := h1
      exact ⟨mes2, clock2, h2, EsRel.mono hk es2 _ h3⟩
    | bld ty g n => exact hobj.1
    | buf ty bs cap => exact hobj.1
theorem smap_mp (m : Nat) (es : List (AV × AV)) : smap m es (.mp m) = .imp (es.map (·.1)) (es.map (·.2)) := by simp [smap]
theorem smap_isl (m : Nat) (es : List (AV × AV)) (s : Nat) (r : List (List AV)) : smap m es (.isl s r) = .isl s r := Eq.trans rfl rfl
theorem smap_int (m : Nat) (es : List (AV × AV)) (k : IntKind) (n : Int) : smap m es (.int k n) = .int k n := Eq.trans rfl rfl
theorem smap_str (m : Nat) (es : List (AV × AV)) (s : List UInt8) : smap m es (.str s) = .str s := Eq.trans rfl rfl
theorem smap_bool (m : Nat) (es : List (AV × AV)) (s : Bool) : smap m es (.bool s) = .bool s := Eq.trans rfl rfl
theorem smap_ptr (m : Nat) (es : List (AV × AV)) (s b i j : Nat) : smap m es (.ptr s b i j) = .ptr s b i j := Eq.trans rfl rfl
theorem smap_nsl (m : Nat) (es : List (AV × AV)) : smap m es .nsl = .nsl := Eq.trans rfl rfl
theorem smap_nfn (m : Nat) (es : List (AV × AV)) : smap m es .nfn = .nfn := Eq.trans rfl rfl
theorem smap_npt (m : Nat) (es : List (AV × AV)) : smap m es .npt = .npt := Eq.trans rfl rfl
theorem smap_osl (m : Nat) (es : List (AV × AV)) (s b n : Nat) : smap m es (.osl s b n) = .osl s b n := Eq.trans rfl rfl
theorem smap_fn (m : Nat) (es : List (AV × AV)) (f : Fn) (x y : List AV) : smap m es (.fn f x y) = .fn f x y := Eq.trans rfl rfl
theorem smap_imp (m : Nat) (es : List (AV × AV)) (x y : List AV) : smap m es (.imp x y) = .imp x y := Eq.trans rfl rfl
theorem smapO_rows (m : Nat) (es : List (AV × AV)) (sz : Nat) (r : List (List AV)) : smapO m es (.rows sz r) = .rows sz (r.map fun x => x.map (smap m es)) := Eq.trans rfl rfl
theorem smapO_map (m : Nat) (es r : List (AV × AV)) : smapO m es (.amap r) = .amap r := Eq.trans rfl rfl
theorem SM : type_of% (And.intro smap_mp <| And.intro smap_isl <| And.intro smap_int <| And.intro smap_str <| And.intro smap_bool <| And.intro smap_ptr <| And.intro smap_nsl <| And.intro smap_nfn <| And.intro smap_npt <| And.intro smap_osl <| And.intro smap_fn <| And.intro smap_imp <| And.intro smapO_rows smapO_map) := And.intro smap_mp <| And.intro smap_isl <| And.intro smap_int <| And.intro smap_str <| And.intro smap_bool <| And.intro smap_ptr <| And.intro smap_nsl <| And.intro smap_nfn <| And.intro smap_npt <| And.intro smap_osl <| And.intro smap_fn <| And.intro smap_imp <| And.intro smapO_rows smapO_map
theorem zip_pairs (es : List (AV × AV)) : (es.map (·.1)).zip (es.map (·.2)) = es := by
 induction es with
 | nil => rfl
 | cons p es ih => simp [ih]
def H1 (b : Nat) (o : AObj) : Hp := Al.upd emp b (some o)
theorem H1_same (b : Nat) (o : AObj) : H1 b o b = some o := upd_same _ _ _
theorem hsub_H1 {b : Nat} {o : AObj} (h : H b = some o) : hsub (H1 b o) H := fun b' o' h' => by
 unfold H1 at h'
 by_cases e : b' = b
 ·subst e
  rw [upd_same] at h'
  cases h'
  exact h
 ·rw [upd_ne _ _ e] at h'; cases h'
def QCon (E : Env) (g : FuncId) (args : List AV) (H0 : Hp) (v : AV) : Prop := Con E g args H0 (fun ae H' => ae = .ret v ∧ H' = H0)
theorem Gives.q {v v' : AV} {H0 : Hp} (h : v = v') (hs : hsub H0 H) : Gives (fun ae H' => ae = .ret v' ∧ H' = H0) v H :=
 ⟨v, H0, Turn.drop hs, by rw [h], rfl⟩
theorem hjoin_sub {H0 : Hp} (hs : hsub H0 H) : hjoin H0 H0 H = H := by
 funext b
 unfold hjoin
 cases h : H0 b with
 | some o => simp only; exact (hs b o h).symm
 | none => simp
end
section
variable {E : Env} {F : Nat → Prop} {ds : List (Option Nat)} {Q : APost} {d : Option Nat} {rest : List Oper} {fr : Fr} {H : Hp} {g : FuncId} {args : List AV} {v : AV}
theorem awpC_q {H0 : Hp} (hc : QCon E g args H0 v) (hs : hsub H0 H) (hF : ∀ b, H0 b ≠ none → F b) (h : awpL E F ds Q rest (putF fr d v) H) : awpC E F ds Q d rest fr H g args := by
 refine awpC_con hc (SubL.refl _) hs hF fun ae H' ⟨e1, e2⟩ _ => ?_
 subst e1; subst e2
 simp only
 rw [hjoin_sub hs]
 exact h
theorem awpC_q1 {b : Nat} {o : AObj} (hc : QCon E g args (H1 b o) v) (hb : H b = some o) (hF : ∀ x, F x) (h : awpL E F ds Q rest (putF fr d v) H) : awpC E F ds Q d rest fr H g args :=
 awpC_q hc (hsub_H1 hb) (fun x _ => hF x) h
end
end Go.Al
