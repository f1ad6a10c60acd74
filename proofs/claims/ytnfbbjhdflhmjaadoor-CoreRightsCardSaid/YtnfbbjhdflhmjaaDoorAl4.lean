/- The little logic: more rules for lists that grow, and for results. The little logic: functions that are handed all that is owned. The little logic: the rewriting rules and the readings of one operation, all as one. The little logic: regions that draw their order, in two parts: first reads and calls, then what writes. The little logic: what is owned within what is owned: sealed, weakened. The little logic: weaker lists, within sealed lists too. The little logic: loops over what is numbered, with all kept that the loop does not turn. The little logic: a map that is sealed; functions that read a block that they are handed. -/
import Derived.Test.YtnfbbjhdflhmjaaDoorAl3
set_option linter.unusedSimpArgs false
set_option linter.unusedVariables false
set_option maxRecDepth 10000
namespace Go.Al
theorem Na {E : fC} {g : FuncId} {args : List AV} {v v' : AV} (h : dG E g args v) (hs : lG v v') : dG E g args v' := by
 refine ⟨h.1, fun w0 S0 vs h1 h2 => ?_⟩
 refine (h.2 w0 S0 vs h1 h2).mono fun e w ⟨ae, H', S', a1, a2, a3, a4⟩ => ?_
 subst a3; subst a4
 simp only [mV] at a2
 obtain ⟨x, rfl, hx⟩ := a2
 exact ⟨.ret v', _, S', a1, by simp only [mV]; exact ⟨x, rfl, hs _ _ _ hx⟩, rfl, rfl⟩
theorem I3 (b sz : Nat) (l : List (List AV)) (s : Nat) (r : List (List AV)) : frz b sz l (.isl s r) = .isl s r := Eq.trans rfl rfl
theorem Ui (b sz : Nat) (l : List (List AV)) (k : IntKind) (n : Int) : frz b sz l (.int k n) = .int k n := Eq.trans rfl rfl
theorem I0 (b sz : Nat) (l : List (List AV)) (s : List UInt8) : frz b sz l (.str s) = .str s := Eq.trans rfl rfl
theorem B5 (b sz : Nat) (l : List (List AV)) (s : Bool) : frz b sz l (.bool s) = .bool s := Eq.trans rfl rfl
theorem I1 (b sz : Nat) (l : List (List AV)) (s b1 i j : Nat) : frz b sz l (.ptr s b1 i j) = .ptr s b1 i j := Eq.trans rfl rfl
theorem I2 (b sz : Nat) (l : List (List AV)) : frz b sz l .nsl = .nsl := Eq.trans rfl rfl
theorem sI (b sz : Nat) (l : List (List AV)) : frz b sz l (.osl sz b l.length) = .isl sz l := by simp [frz]
def tV (sz : Nat) (v : AV) (rows : List (List AV)) (H : Hp) : Prop := ∃ b, v = .osl sz b rows.length ∧ H b = some (.rows sz rows)
section
variable {E : fC} {F : Nat → Prop} {ds : List (Option Nat)} {Q : dN} {d : Option Nat} {rest : List Oper} {fr : Fr} {H : Hp}
theorem Yv {sz by' : Nat} {v : AV} {rows ys : List (List AV)} (hv : tV sz v rows H) (hb : (rows.length + ys.length) * by' ≤ 140737488355328) (hF : ∀ b, v = .osl sz b rows.length → F b)
  (h : ∀ v' H', tV sz v' (rows ++ ys) H' → (∀ b o, H b = some o → v ≠ .osl sz b rows.length → H' b = some o) → cK E F ds Q rest (dP fr d v') H') : yE E F ds Q d rest fr H (some (sz, by', v, ys)) := by
 obtain ⟨b, rfl, hH⟩ := hv
 simp only [yE, hH]
 refine ⟨trivial, trivial, trivial, hb, hF b rfl, fun b' hb' => ?_⟩
 refine h _ _ ⟨b', by simp, by simp [upd]⟩ fun b'' o h1 h2 => ?_
 have n1 : b'' ≠ b := fun c => h2 (by rw [c])
 have n2 : b'' ≠ b' := fun c => by
  rcases hb' with e | e
  ·exact n1 (c.trans e)
  rw [← c, h1] at e; cases e
 simp [upd, n1, n2, h1]
theorem xY (x : Operand) {ty : TypeId} {pos : String} {af : Array Edge} : cK E F ds Q (⟨d, .entry x, ty, pos, af, none⟩ :: rest) fr H = ((∀ b, iC (ev E.G fr x) = some b → ¬ F b) ∧ cK E F ds Q rest (dP fr d (.tup [])) H) := Eq.trans rfl rfl
theorem zS (sz b i j : Nat) : (∀ x, iC (.ptr sz b i j) = some x → ¬ F x) = ¬ F b := by
 simp [iC]
theorem zU (r : List AV) (j : Nat) : (∀ x, iC (.ipt r j) = some x → ¬ F x) = True := by
 simp [iC]
theorem tV.upd {sz : Nat} {v : AV} {rows : List (List AV)} (h : tV sz v rows H) {b : Nat} (hb : H b = none) (o : Option eR) : tV sz v rows (upd H b o) := by
 obtain ⟨b', rfl, hH⟩ := h
 have hne : b' ≠ b := fun e => by rw [e, hb] at hH; cases hH
 exact ⟨b', rfl, by simp [Go.Al.upd, hne, hH]⟩
theorem tV.nb {sz : Nat} {v : AV} {rows : List (List AV)} (h : tV sz v rows H) {b : Nat} (hb : H b = none) {n : Nat} : v ≠ .osl sz b n := by
 obtain ⟨b', rfl, hH⟩ := h
 intro e
 cases e
 rw [hb] at hH; cases hH
theorem tV.nb' {sz sz' : Nat} {v : AV} {rows r2 : List (List AV)} (h : tV sz v rows H) {b : Nat} (hb : H b = some (.rows sz' r2)) (hs : sz' ≠ sz) {n : Nat} : v ≠ .osl sz b n := by
 obtain ⟨b', rfl, hH⟩ := h
 intro e
 cases e
 rw [hb] at hH; cases hH; exact hs rfl
theorem tV.own {sz : Nat} {v : AV} {rows : List (List AV)} (h : tV sz v rows H) : dW sz v rows H := by
 obtain ⟨b, h1, h2⟩ := h; exact .inr ⟨b, h1, h2⟩
theorem dW.upd {sz : Nat} {v : AV} {rows : List (List AV)} (h : dW sz v rows H) {b : Nat} (hb : H b = none) (o : Option eR) : dW sz v rows (upd H b o) := by
 rcases h with h | ⟨b', rfl, hH⟩
 ·exact .inl h
 have hne : b' ≠ b := fun e => by rw [e, hb] at hH; cases hH
 exact .inr ⟨b', rfl, by simp [Go.Al.upd, hne, hH]⟩
theorem dW.nb {sz : Nat} {v : AV} {rows : List (List AV)} (h : dW sz v rows H) {b : Nat} (hb : H b = none) {n : Nat} : v ≠ .osl sz b n := by
 rcases h with ⟨rfl, _⟩ | ⟨b', rfl, hH⟩
 ·intro e; cases e
 intro e
 cases e
 rw [hb] at hH; cases hH
theorem dW.nb' {sz sz' : Nat} {v : AV} {rows r2 : List (List AV)} (h : dW sz v rows H) {b : Nat} (hb : H b = some (.rows sz' r2)) (hs : sz' ≠ sz) {n : Nat} : v ≠ .osl sz b n := by
 rcases h with ⟨rfl, _⟩ | ⟨b', rfl, hH⟩
 ·intro e; cases e
 intro e
 cases e
 rw [hb] at hH; cases hH; exact hs rfl
theorem tV.far {sz sz' : Nat} {v : AV} {rows r2 : List (List AV)} (h : tV sz v rows H) {b : Nat} (hb : H b = some (.rows sz' r2)) (hs : sz' ≠ sz) (x : Nat) {n : Nat} (hx : v = .osl sz x n) : x ≠ b := fun e => by
 subst e; exact h.nb' hb hs hx
theorem dW.gives1 {sz : Nat} {v : AV} {rows : List (List AV)} {v' : AV} (h : dW sz v rows H) (e : v' = .isl sz rows) : aU (fun ae H' => ae = .ret v' ∧ H' = qF) v H := by
 subst e
 rcases h with ⟨rfl, rfl⟩ | ⟨b, rfl, hb⟩
 ·exact aU.turn (jW.sub (lG.nsl sz)) (aU.pure rfl)
 exact aU.turn (jW.freeze hb (lZ.osl b sz rows)) (aU.pure rfl)
theorem E2 {N : Nat} {Q : dN} {c : Code} {sz : Nat} {rows : List (List AV)} {i : Nat} (hv : dW sz (fr i) rows H)
  (h : ∀ fr' H', fr' i = .isl sz rows → (∀ j, j ≠ i → fr' j = fr j ∨ (∃ b n, fr j = .osl sz b n)) → (∀ b o, H b = some o → fr i ≠ .osl sz b rows.length → H' b = some o) → (∀ b, H b = none → H' b = none) → gO E N c Q fr' H') : gO E N c Q fr H := by
 rcases hv with ⟨h1, rfl⟩ | ⟨b, h1, hb⟩
 ·refine Gt (fr' := Go.Al.upd fr i (.isl sz [])) (fun t => ?_) (fun b o h => h) (h _ H (bR _ _ _) (fun j hj => .inl (cG _ _ hj)) (fun b o h _ => h) (fun b h => h))
  by_cases e : t = i
  ·subst e; rw [bR, h1]; exact lG.nsl sz
  rw [cG _ _ e]; exact lG.refl _
 refine xO hb (h _ _ ?_ (fun j hj => ?_) (fun b' o h2 h3 => ?_) (fun b' h2 => ?_))
 ·rw [h1]; exact sI b sz rows
 ·cases hf : fr j <;> try exact .inl rfl
  rename_i s' b' n'
  by_cases e : s' = sz
  ·subst e; exact .inr ⟨b', n', rfl⟩
  left
  simp only [frz]
  rw [if_neg (by rintro ⟨_, e2, _⟩; exact e e2)]
 ·have : b' ≠ b := fun e => h3 (by rw [h1, e])
  simp only [Go.Al.upd, if_neg this, h2]
 simp only [Go.Al.upd]
 split
 ·rfl
 exact h2
end
end Go.Al
namespace Go.Al
def keeps (M : Nat → Prop) (H H' : Hp) : Prop := ∀ b o, ¬ M b → H b = some o → H' b = some o
theorem keeps.refl (M : Nat → Prop) (H : Hp) : keeps M H H := fun _ _ _ h => h
theorem keeps.trans {M : Nat → Prop} {H H1 H2 : Hp} (h : keeps M H H1) (h' : keeps M H1 H2) : keeps M H H2 := fun b o hm hb => h' b o hm (h b o hm hb)
theorem keeps.new {M : Nat → Prop} {H H1 : Hp} (h : keeps M H H1) {b : Nat} (hb : H b = none) (o : Option eR) : keeps M H (upd H1 b o) := fun b' o' hm hb' => by
 have : b' ≠ b := fun e => by rw [e, hb] at hb'; cases hb'
 simp only [upd, if_neg this]; exact h b' o' hm hb'
theorem keeps.set {M : Nat → Prop} {H H1 : Hp} (h : keeps M H H1) {b : Nat} (hb : M b) (o : Option eR) : keeps M H (upd H1 b o) := fun b' o' hm hb' => by
 have : b' ≠ b := fun e => hm (e ▸ hb)
 simp only [upd, if_neg this]; exact h b' o' hm hb'
theorem keeps.mono {M M' : Nat → Prop} {H H1 : Hp} (h : keeps M H H1) (hm : ∀ b, M b → M' b) : keeps M' H H1 := fun b o hb h1 => h b o (fun c => hb (hm b c)) h1
theorem wO (H' H : Hp) : gZ H' H H = H' := by
 funext b
 unfold gZ
 cases h : H' b with
 | some o => rfl
 | none =>
   cases h2 : H b with
   | some o => simp
   | none => simp []
theorem dV {E : fC} {F : Nat → Prop} {ds : List (Option Nat)} {Q : dN} {d : Option Nat} {rest : List Oper} {fr : Fr} {H : Hp} {g : FuncId} {args args' : List AV} {R : AV → Hp → Prop}
  (hc : jN E g args' H (fun ae H' => ∃ v, ae = .ret v ∧ R v H')) (hs : eQ args args') (hF : ∀ b, F b) (h : ∀ v H', R v H' → cK E F ds Q rest (dP fr d v) H') : pJ E F ds Q d rest fr H g args := by
 refine mT hc hs (fun b o h => h) (fun b _ => hF b) fun ae H' ⟨v, e, hr⟩ _ => ?_
 subst e
 rw [wO]
 exact h v H' hr
theorem nX {E : fC} {F : Nat → Prop} {ds : List (Option Nat)} {Q : dN} {d : Option Nat} {rest : List Oper} {fr : Fr} {H : Hp} {g : FuncId} {args args' : List AV} {R : AV → Hp → Prop}
  (hc : jN E g args' qF (fun ae H' => ∃ v, ae = .ret v ∧ R v H')) (hs : eQ args args')
  (h : ∀ v H' H2, R v H' → keeps (fun _ => False) H H2 → (∀ b o, H' b = some o → H2 b = some o ∧ H b = none) → cK E F ds Q rest (dP fr d v) H2) : pJ E F ds Q d rest fr H g args := by
 refine mT hc hs (oY H) (fun b hb => absurd rfl hb) fun ae H' ⟨v, e, hr⟩ hnew => ?_
 subst e
 have fresh : ∀ b o, H' b = some o → H b = none := fun b o hb => by
  rcases hnew b (by rw [hb]; simp) with h | h
  ·exact absurd rfl h
  exact h
 refine h v H' _ hr (fun b o _ hb => ?_) (fun b o hb => ⟨?_, fresh b o hb⟩)
 ·unfold gZ
  cases h2 : H' b with
  | some o' => have := fresh b o' h2; rw [hb] at this; cases this
  | none => simp [qF, hb]
 simp only [gZ, hb]
theorem aU.whole {R : AV → Hp → Prop} {v : AV} {H : Hp} (h : R v H) : aU (fun ae H' => ∃ v, ae = .ret v ∧ R v H') v H :=
 aU.self ⟨v, rfl, h⟩
def apart (v w : AV) : Prop := ∀ b s n s' n', v = .osl s b n → w ≠ .osl s' b n'
theorem apart.nsl (w : AV) : apart .nsl w := fun _ _ _ _ _ h => by cases h
theorem apart.symm {v w : AV} (h : apart v w) : apart w v := fun b s n s' n' h1 h2 => h b s' n' s n h2 h1
theorem Yw {E : fC} {F : Nat → Prop} {ds : List (Option Nat)} {Q : dN} {d : Option Nat} {rest : List Oper} {fr : Fr} {H : Hp} {sz by' : Nat} {v : AV} {rows ys : List (List AV)} (hv : dW sz v rows H) (hb : (rows.length + ys.length) * by' ≤ 140737488355328) (hF : ∀ b, F b)
  (h : ∀ v' H', dW sz v' (rows ++ ys) H' → (∀ b o, H b = some o → v ≠ .osl sz b rows.length → H' b = some o) → (∀ w, apart v w → (∀ s b n, w = .osl s b n → H b ≠ none) → apart v' w) → cK E F ds Q rest (dP fr d v') H') : yE E F ds Q d rest fr H (some (sz, by', v, ys)) := by
 rcases hv with ⟨rfl, rfl⟩ | ⟨b, rfl, hH⟩
 ·simp only [List.nil_append, List.length_nil, Nat.zero_add] at h hb
  refine ⟨hb, fun e => h _ _ (.inl ⟨rfl, e⟩) (fun _ _ hb _ => hb) (fun w _ _ => apart.nsl w), fun e b hbn => h _ _ (.inr ⟨b, rfl, by simp [upd]⟩) (fun b' o hb' _ => ?_) fun w _ hw => ?_⟩
  ·have : b' ≠ b := fun c => by rw [c, hbn] at hb'; cases hb'
   simp [upd, this, hb']
  intro b1 s n s' n' h1 h2
  cases h1
  exact hw s' _ n' h2 hbn
 simp only [yE, hH]
 refine ⟨trivial, trivial, trivial, hb, hF b, fun b' hb' => ?_⟩
 refine h _ _ (.inr ⟨b', by simp, by simp [upd]⟩) (fun b'' o h1 h2 => ?_) fun w ha hw => ?_
 ·have n1 : b'' ≠ b := fun c => h2 (by rw [c])
  have n2 : b'' ≠ b' := fun c => by
   rcases hb' with e | e
   ·exact n1 (c.trans e)
   rw [← c, h1] at e; cases e
  simp [upd, n1, n2, h1]
 intro b1 s n s' n' h1 h2
 cases h1
 rcases hb' with e | e
 ·exact ha b _ _ s' n' rfl (by rw [h2, e])
 exact hw s' _ n' h2 e
theorem dW.there {sz : Nat} {v : AV} {rows : List (List AV)} {H : Hp} (h : dW sz v rows H) : ∀ s b n, v = .osl s b n → H b ≠ none := fun s b n e => by
 rcases h with ⟨rfl, _⟩ | ⟨b', rfl, hb⟩
 ·cases e
 cases e; rw [hb]; simp
theorem dW.keep {sz sz' : Nat} {v w : AV} {rows r2 : List (List AV)} {H H' : Hp} (h : dW sz v rows H) (ha : apart w v) (hk : ∀ b o, H b = some o → w ≠ .osl sz' b r2.length → H' b = some o) : dW sz v rows H' := by
 rcases h with h | ⟨b, rfl, hb⟩
 ·exact .inl h
 exact .inr ⟨b, rfl, hk b _ hb fun e => ha b sz' r2.length sz rows.length e rfl⟩
theorem Yr {E : fC} {N : Nat} {Q : dN} {c : Code} {fr : Fr} {H : Hp} {sz : Nat} {rows : List (List AV)} {i : Nat} (hv : dW sz (fr i) rows H)
  (h : ∀ fr' H', fr' i = .isl sz rows → (∀ j, j ≠ i → apart (fr i) (fr j) → fr' j = fr j) → (∀ b o, H b = some o → fr i ≠ .osl sz b rows.length → H' b = some o) → gO E N c Q fr' H') : gO E N c Q fr H := by
 rcases hv with ⟨h1, rfl⟩ | ⟨b, h1, hb⟩
 ·refine Gt (fr' := upd fr i (.isl sz [])) (fun t => ?_) (fun b o h => h) (h _ H (bR _ _ _) (fun j hj _ => cG _ _ hj) (fun b o h _ => h))
  by_cases e : t = i
  ·subst e; rw [bR, h1]; exact lG.nsl sz
  rw [cG _ _ e]; exact lG.refl _
 refine xO hb (h _ _ ?_ (fun j hj ha => ?_) (fun b' o h2 h3 => ?_))
 ·rw [h1]; exact sI b sz rows
 ·cases hf : fr j <;> try rfl
  rename_i s' b' n'
  simp only [frz]
  rw [if_neg]
  rintro ⟨rfl, _, _⟩
  exact ha b' _ _ s' n' h1 hf
 have : b' ≠ b := fun e => h3 (by rw [h1, e])
 simp only [upd, if_neg this, h2]
theorem Zb (v : AV) (k : IntKind) (n : Int) : apart v (.int k n) := fun _ _ _ _ _ _ h => by cases h
theorem Yz (v : AV) (s b i j : Nat) : apart v (.ptr s b i j) := fun _ _ _ _ _ _ h => by cases h
theorem Za (v : AV) (s : Nat) (l : List (List AV)) : apart v (.isl s l) := fun _ _ _ _ _ _ h => by cases h
theorem Yy (v : AV) (s : List UInt8) : apart v (.str s) := fun _ _ _ _ _ _ h => by cases h
theorem Ya (v : AV) (b : Bool) : apart v (.bool b) := fun _ _ _ _ _ _ h => by cases h
theorem Wx (v : AV) : apart v .nsl := fun _ _ _ _ _ _ h => by cases h
theorem Ww (v : AV) : apart v .undef := fun _ _ _ _ _ _ h => by cases h
theorem Yx (v : AV) (l : List AV) : apart v (.tup l) := fun _ _ _ _ _ _ h => by cases h
theorem E8 (v : AV) (b : Nat) : apart v (.mp b) := fun _ _ _ _ _ _ h => by cases h
def off (v : AV) (b : Nat) : Prop := ∀ s n, v ≠ .osl s b n
def Ov (E : fC) (g : FuncId) (args : List AV) (sz : Nat) (rows : List (List AV)) : Prop := jN E g args qF (fun ae H' => ∃ v, ae = .ret v ∧ dW sz v rows H')
theorem Ov.pure {E : fC} {g : FuncId} {args : List AV} {sz : Nat} {rows : List (List AV)} (h : Ov E g args sz rows) : dG E g args (.isl sz rows) := by
 refine ⟨h.1, fun w0 S0 vs h1 h2 => ?_⟩
 refine (h.2 w0 S0 vs h1 h2).mono fun e w ⟨ae, H', S', a1, a2, v, a3, a4⟩ => ?_
 subst a3
 simp only [mV] at a2
 obtain ⟨x, rfl, hx⟩ := a2
 obtain ⟨v', H2, ht, e1, e2⟩ := a4.gives1 (v' := .isl sz rows) rfl
 obtain ⟨S2, _, s2, r2⟩ := ht _ _ _ _ _ a1 hx
 cases e1
 subst e2
 exact ⟨.ret _, _, S2, s2, by simp only [mV]; exact ⟨x, rfl, r2⟩, rfl, rfl⟩
theorem Su {E : fC} {F : Nat → Prop} {ds : List (Option Nat)} {Q : dN} {d : Option Nat} {rest : List Oper} {fr : Fr} {H : Hp} {g : FuncId} {args : List AV} {sz : Nat} {rows : List (List AV)}
  (hc : Ov E g args sz rows) (h : ∀ v H2, dW sz v rows H2 → (∀ b o, H b = some o → H2 b = some o) → (∀ b o, H b = some o → off v b) → cK E F ds Q rest (dP fr d v) H2) : pJ E F ds Q d rest fr H g args := by
 refine nX hc (eQ.refl _) fun v H' H2 hR hk hn => ?_
 refine h v H2 ?_ (fun b o hb => hk b o (fun h => h) hb) (fun b o hb s n e => ?_)
 ·rcases hR with hR | ⟨b, e, hb⟩
  ·exact .inl hR
  exact .inr ⟨b, e, (hn b _ hb).1⟩
 rcases hR with ⟨e2, _⟩ | ⟨b', e2, hb'⟩
 ·rw [e2] at e; cases e
 rw [e2] at e
 cases e
 rw [(hn b _ hb').2] at hb
 cases hb
theorem Ov.gives {sz : Nat} {v : AV} {rows : List (List AV)} {H : Hp} (h : dW sz v rows H) : aU (fun ae H' => ∃ v, ae = .ret v ∧ dW sz v rows H') v H := aU.whole h
end Go.Al
namespace Go.Al
def L5 (op : UnOp) (v : AV) : Option AV := match op, v with
 | .not, .bool b => some (.bool (!b))
 | .neg, .int k n => some (.int k (k.wrap (0 - n)))
 | _, _ => none
theorem Ha (E : fC) (F : Nat → Prop) (ds : List (Option Nat)) (Q : dN) (d : Option Nat) (ty : TypeId) (pos : String) (af : Array Edge) (rest : List Oper) (fr : Fr) (H : Hp) (c : Call) :
  cK E F ds Q (⟨d, .go c, ty, pos, af, none⟩ :: rest) fr H = lK E F ds Q d rest fr H (E7 E fr c) := Eq.trans rfl rfl
theorem Mi (E : fC) (fr : Fr) (f : Callee) (l : List Operand) (t : TypeId) : E7 E fr ⟨f, l.toArray, #[t]⟩ = (zL E fr t l.length (qP 0 l).toArray).map fun p => .isl p.1 p.2 := by simp [E7]
theorem Mj (E : fC) (H : Hp) (fr : Fr) (op : UnOp) (t : TypeId) (x : Operand) : aq E H fr (.unOp op t x) = L5 op (ev E.G fr x) := Eq.trans rfl rfl
theorem Mg (b : Bool) : L5 .not (.bool b) = some (.bool (!b)) := Eq.trans rfl rfl
theorem Mh (k : IntKind) (n : Int) : L5 .neg (.int k n) = some (.int k (k.wrap (0 - n))) := Eq.trans rfl rfl
theorem aG {α : Type} (f : Nat → α) (i j : Nat) (v : α) : upd f i v j = if j = i then v else f j := Eq.trans rfl rfl
theorem zX (K : Fr → Hp → Prop) (Q : dN) (fr : Fr) (H : Hp) : bJ K Q .ret fr H = Q .ret fr H := Eq.trans rfl rfl
theorem vL (K : Fr → Hp → Prop) (Q : dN) (id : Nat) (fr : Fr) (H : Hp) : bJ K Q (.exit id) fr H = Q (.exit id) fr H := Eq.trans rfl rfl
theorem qS (id : Nat) (Q : dN) (fr : Fr) (H : Hp) : bL id Q .normal fr H = Q .normal fr H := Eq.trans rfl rfl
theorem xL (id : Nat) (Q : dN) (fr : Fr) (H : Hp) : bL id Q .ret fr H = Q .ret fr H := Eq.trans rfl rfl
theorem uK (id id' : Nat) (Q : dN) (fr : Fr) (H : Hp) : bL id Q (.exit id') fr H = if id' = id then Q .normal fr H else Q (.exit id') fr H := Eq.trans rfl rfl
theorem AX : type_of% (And.intro AL <| And.intro @aq.eq_1 <| And.intro @aq.eq_2 <| And.intro @aq.eq_3 <| And.intro @aq.eq_4 <| And.intro @aq.eq_5 <| And.intro @aq.eq_6 <| And.intro @Mj <| And.intro @Mg <| And.intro @Mh <| And.intro @aq.eq_10 <| And.intro @aq.eq_11 <| And.intro @aq.eq_12 <| And.intro @aq.eq_13 <| And.intro @aq.eq_14 <| And.intro @aq.eq_15 <| And.intro @aq.eq_16 <| And.intro @aq.eq_17 <| And.intro @aq.eq_18 <| And.intro @aq.eq_19 <| And.intro @aq.eq_20 <| And.intro @aq.eq_21 <| And.intro @aq.eq_22 <| And.intro @aq.eq_23 <| And.intro @gJ.eq_1 <| And.intro @gJ.eq_2 <| And.intro @gJ.eq_3 <| And.intro @gJ.eq_4 <| And.intro @gJ.eq_5 <| And.intro @gJ.eq_6 <| And.intro @gJ.eq_7 <| And.intro @gJ.eq_8 <| And.intro @gJ.eq_9 <| And.intro @gJ.eq_10 <| And.intro @gJ.eq_11 <| And.intro @gJ.eq_12 <| And.intro @gJ.eq_13 <| And.intro @gJ.eq_14 <| And.intro @gJ.eq_15 <| And.intro @gJ.eq_16 <| And.intro @gJ.eq_17 <| And.intro @nY.eq_1 <| And.intro @nY.eq_2 <| And.intro @nY.eq_3 <| And.intro @nY.eq_4 <| And.intro @nY.eq_5 <| And.intro @nY.eq_6 <| And.intro @nY.eq_7 <| And.intro @nY.eq_8 <| And.intro @fY.eq_1 <| And.intro @fY.eq_2 <| And.intro @uD.eq_1 <| And.intro @uD.eq_2 <| And.intro @uD.eq_3 <| And.intro @Hn.eq_1 <| And.intro @Va.eq_1 <| And.intro @Va.eq_2 <| And.intro @Va.eq_3 <| And.intro @Uz.eq_1 <| And.intro @Uz.eq_2 <| And.intro @Uz.eq_3 <| And.intro @oI.eq_1 <| And.intro @oI.eq_2 <| And.intro @oI.eq_3 <| And.intro @rd.eq_1 <| And.intro @fA.eq_1 <| And.intro @fA.eq_2 <| And.intro @fA.eq_3 <| And.intro @fA.eq_4 <| And.intro @fA.eq_5 <| And.intro @zL.eq_1 <| And.intro @iL.eq_1 <| And.intro @iL.eq_2 <| And.intro @pK.eq_1 <| And.intro @jM.eq_1 <| And.intro @cellsOf.eq_1 <| And.intro @cellsOf.eq_2 <| And.intro @cellsOf.eq_3 <| And.intro @ev.eq_1 <| And.intro @ev.eq_2 <| And.intro @ev.eq_3 <| And.intro @ev.eq_4 <| And.intro @vB.eq_1 <| And.intro @vB.eq_2 <| And.intro @yF.eq_1 <| And.intro @yF.eq_2 <| And.intro @yF.eq_3 <| And.intro @yF.eq_4 <| And.intro @yF.eq_5 <| And.intro @yF.eq_6 <| And.intro @yF.eq_7 <| And.intro @yF.eq_8 <| And.intro @yF.eq_9 <| And.intro @dP.eq_1 <| And.intro @dP.eq_2 <| And.intro @aG <| And.intro @yH.eq_1 <| And.intro @TK.agg.eq_1 <| And.intro @TK.agg.eq_2 <| And.intro @TK.agg.eq_3 <| And.intro @Ct.eq_1 <| And.intro @tP.eq_1 <| And.intro @tP.eq_2 <| And.intro @tP.eq_3 <| And.intro @tP.eq_4 <| And.intro @one.eq_1 <| And.intro @one.eq_2 <| And.intro @one.eq_3 <| And.intro @one.eq_4 <| And.intro @Ha <| And.intro @Mi <| And.intro @qP.eq_1 <| And.intro @qP.eq_2 <| And.intro @tT.eq_1 <| And.intro @tT.eq_2 <| And.intro @jK.eq_1 <| And.intro @jK.eq_2 <| And.intro @xK.eq_1 <| And.intro @aq.abuild.eq_1 <| And.intro @aq.abuild.eq_2 <| And.intro @if_true.{1} <| And.intro @if_false.{1} <| And.intro @if_true.{1} <| And.intro @xY <| And.intro @zS <| And.intro @zU <| And.intro @eM <| And.intro zX <| And.intro vL <| And.intro qS <| And.intro xL <| And.intro uK trivial) := And.intro AL <| And.intro @aq.eq_1 <| And.intro @aq.eq_2 <| And.intro @aq.eq_3 <| And.intro @aq.eq_4 <| And.intro @aq.eq_5 <| And.intro @aq.eq_6 <| And.intro @Mj <| And.intro @Mg <| And.intro @Mh <| And.intro @aq.eq_10 <| And.intro @aq.eq_11 <| And.intro @aq.eq_12 <| And.intro @aq.eq_13 <| And.intro @aq.eq_14 <| And.intro @aq.eq_15 <| And.intro @aq.eq_16 <| And.intro @aq.eq_17 <| And.intro @aq.eq_18 <| And.intro @aq.eq_19 <| And.intro @aq.eq_20 <| And.intro @aq.eq_21 <| And.intro @aq.eq_22 <| And.intro @aq.eq_23 <| And.intro @gJ.eq_1 <| And.intro @gJ.eq_2 <| And.intro @gJ.eq_3 <| And.intro @gJ.eq_4 <| And.intro @gJ.eq_5 <| And.intro @gJ.eq_6 <| And.intro @gJ.eq_7 <| And.intro @gJ.eq_8 <| And.intro @gJ.eq_9 <| And.intro @gJ.eq_10 <| And.intro @gJ.eq_11 <| And.intro @gJ.eq_12 <| And.intro @gJ.eq_13 <| And.intro @gJ.eq_14 <| And.intro @gJ.eq_15 <| And.intro @gJ.eq_16 <| And.intro @gJ.eq_17 <| And.intro @nY.eq_1 <| And.intro @nY.eq_2 <| And.intro @nY.eq_3 <| And.intro @nY.eq_4 <| And.intro @nY.eq_5 <| And.intro @nY.eq_6 <| And.intro @nY.eq_7 <| And.intro @nY.eq_8 <| And.intro @fY.eq_1 <| And.intro @fY.eq_2 <| And.intro @uD.eq_1 <| And.intro @uD.eq_2 <| And.intro @uD.eq_3 <| And.intro @Hn.eq_1 <| And.intro @Va.eq_1 <| And.intro @Va.eq_2 <| And.intro @Va.eq_3 <| And.intro @Uz.eq_1 <| And.intro @Uz.eq_2 <| And.intro @Uz.eq_3 <| And.intro @oI.eq_1 <| And.intro @oI.eq_2 <| And.intro @oI.eq_3 <| And.intro @rd.eq_1 <| And.intro @fA.eq_1 <| And.intro @fA.eq_2 <| And.intro @fA.eq_3 <| And.intro @fA.eq_4 <| And.intro @fA.eq_5 <| And.intro @zL.eq_1 <| And.intro @iL.eq_1 <| And.intro @iL.eq_2 <| And.intro @pK.eq_1 <| And.intro @jM.eq_1 <| And.intro @cellsOf.eq_1 <| And.intro @cellsOf.eq_2 <| And.intro @cellsOf.eq_3 <| And.intro @ev.eq_1 <| And.intro @ev.eq_2 <| And.intro @ev.eq_3 <| And.intro @ev.eq_4 <| And.intro @vB.eq_1 <| And.intro @vB.eq_2 <| And.intro @yF.eq_1 <| And.intro @yF.eq_2 <| And.intro @yF.eq_3 <| And.intro @yF.eq_4 <| And.intro @yF.eq_5 <| And.intro @yF.eq_6 <| And.intro @yF.eq_7 <| And.intro @yF.eq_8 <| And.intro @yF.eq_9 <| And.intro @dP.eq_1 <| And.intro @dP.eq_2 <| And.intro @aG <| And.intro @yH.eq_1 <| And.intro @TK.agg.eq_1 <| And.intro @TK.agg.eq_2 <| And.intro @TK.agg.eq_3 <| And.intro @Ct.eq_1 <| And.intro @tP.eq_1 <| And.intro @tP.eq_2 <| And.intro @tP.eq_3 <| And.intro @tP.eq_4 <| And.intro @one.eq_1 <| And.intro @one.eq_2 <| And.intro @one.eq_3 <| And.intro @one.eq_4 <| And.intro @Ha <| And.intro @Mi <| And.intro @qP.eq_1 <| And.intro @qP.eq_2 <| And.intro @tT.eq_1 <| And.intro @tT.eq_2 <| And.intro @jK.eq_1 <| And.intro @jK.eq_2 <| And.intro @xK.eq_1 <| And.intro @aq.abuild.eq_1 <| And.intro @aq.abuild.eq_2 <| And.intro @if_true.{1} <| And.intro @if_false.{1} <| And.intro @if_true.{1} <| And.intro @xY <| And.intro @zS <| And.intro @zU <| And.intro @eM <| And.intro zX <| And.intro vL <| And.intro qS <| And.intro xL <| And.intro uK trivial
end Go.Al
namespace Go.Al
def hJ (E : fC) (G : Nat → Nat → Prop) (ops : Array Oper) (Q : dN) : Nat → Array Bool → Fr → Hp → Prop
 | 0, L, fr, H => Region.ready .any ops L = [] ∧ Q .normal fr H
 | fuel + 1, L, fr, H => (Region.ready .any ops L = [] → Q .normal fr H) ∧
   ∀ i ∈ Region.ready .any ops L, ∀ o, ops[i]? = some o → aop E (G i) (ops.toList.map (·.dst)) o fr H (hJ E G ops Q fuel (L.setIfInBounds i true)) (fun v H' => Q (.pan v) Fy H')
def Jn (len : Nat) (ps : Array (Nat × Operand)) : Bool := ps.toList.map (·.1) == List.range len
theorem Lt : ∀ (l : List (Nat × Operand)) (k : Nat), l.map (·.1) = List.range' k l.length → qP k (l.map (·.2)) = l
 | [], _, _ => rfl
 | (i, x) :: l, k, h => by
   simp only [List.map_cons, bX, List.range'_succ, List.cons.injEq] at h
   simp only [List.map_cons, qP, h.1, Lt l (k + 1) h.2]
theorem Jm {len : Nat} {ps : Array (Nat × Operand)} (h : Jn len ps = true) : ps.size = len ∧ (qP 0 (ps.toList.map (·.2))).toArray = ps := by
 simp only [Jn, beq_iff_eq] at h
 have hl : ps.size = len := by have := congrArg List.length h; simpa using this
 refine ⟨hl, ?_⟩
 rw [Lt ps.toList 0 (by rw [h, List.range_eq_range', Array.length_toList, hl])]
def pC (f : Nat) (o : Op) : Bool := if f = 2 then (match o with | .buildSlice _ len ps => Jn len ps | _ => false) else lJ o && (f != 3 || (dJ o).isNone)
def Pv (E : fC) (H : Hp) (fr : Fr) (o : Op) (f : Nat) : Option AV := if f = 2 then (match o with | .buildSlice t len ps => (zL E fr t len ps).map fun p => .isl p.1 p.2 | _ => none) else aq E H fr o
def Yf (E : fC) (F : Nat → Prop) (ds : List (Option Nat)) (f : Nat) (o : Oper) (v : AV) (fr : Fr) (H : Hp) : Prop :=
 (fY ds fr o.guard = some false ∧ v = .tup []) ∨
 (fY ds fr o.guard = some true ∧ Pv E H fr o.op f = some v ∧ (f = 0 → ∀ x, dJ o.op = some x → ∀ b, iC (ev E.G fr x) = some b → ¬ F b))
section
variable {E : fC} {F : Nat → Prop} {G : Nat → Nat → Prop} {ops : Array Oper} {Q : dN} {fr : Fr} {H : Hp}
theorem pN {γ : fK} {N : Nat} (hd : ops.toList.all (fT N) = true) : ∀ (fuel : Nat) (L : Array Bool) (fr : Fr) (H : Hp) (a : Act) (w : World), yT E γ N fr H a w → hJ E G ops Q fuel L fr H → wpAny E.P .any ops (lI E γ N Q) fuel L a w
 | 0, _, fr, H, a, w, hs, h => ⟨h.1, fr, H, hs, h.2⟩
 | fuel + 1, L, fr, H, a, w, hs, h => by
   refine ⟨fun e => ⟨fr, H, hs, h.1 e⟩, fun i hi => ?_⟩
   obtain ⟨_, o, ho, _⟩ := mem_ready.1 hi
   unfold wpOp
   simp only [ho]
   have hdo : fT N o = true := by
    rw [List.all_eq_true] at hd
    exact hd o (Array.mem_toList_iff.2 (Array.mem_of_getElem? ho))
   have h1 := hs.1
   exact tR hs hdo (h.2 i hi o ho) (fun fr' H' a' w' hs' hK => pN hd fuel _ fr' H' a' w' hs' hK) (fun v v' S' H' w' hst hv hK => ⟨h1, v, v', S', H', rfl, hst, hv, hK⟩)
theorem Yf.step {f : Nat} {oi oj : Oper} {v u : AV} {H' : Hp} (hci : pC f oi.op = true) (hap : ∀ d, oj.dst = some d → d ∉ oi.looksAt ops) (hy : Yf E F (ops.toList.map (·.dst)) f oi v fr H) (hag : f = 0 → oJ F H H') (hcm : f ≠ 0 → f ≠ 2 → f ≠ 3 → H' = H) :
  Yf E F (ops.toList.map (·.dst)) f oi v (dP fr oj.dst u) H' := by
 unfold Yf at *
 rw [qJ hap]
 rcases hy with hy | ⟨h1, h2, h3⟩
 ·exact .inl hy
 refine .inr ⟨h1, ?_, ?_⟩
 ·by_cases e2 : f = 2
  ·subst e2
   simp only [Pv, if_true] at h2 ⊢
   obtain ⟨dst, op, ty, pos, af, g⟩ := oi
   cases op <;> simp only [reduceCtorEq] at h2 ⊢
   rename_i t len ps
   have hc := nM (E := E) (fr := fr) (v := u) hap
   simp only [Op.operands] at hc
   rw [← h2]
   have key : ∀ size, iL E (dP fr oj.dst u) size 0 ps.toList = iL E fr size 0 ps.toList := fun size => oA ps.toList 0 fun p hp => hc p.2 (by
    simp only [List.mem_toArray, List.mem_map]; exact ⟨p, hp, rfl⟩)
   simp only [zL, key]
  simp only [Pv, if_neg e2] at h2 ⊢
  simp only [pC, if_neg e2, aX] at hci
  rw [yI (nM hap)]
  by_cases e0 : f = 0
  ·exact tQ hci.1 h2 fun x hx b hb hne => hag e0 b hne (h3 e0 x hx b hb)
  by_cases e3 : f = 3
  ·refine tQ hci.1 h2 fun x hx => ?_
   have := hci.2
   rw [e3, hx] at this
   simp at this
  rw [hcm e0 e2 e3]; exact h2
 intro e0 x hx b hb
 rw [nM hap x (Eu hx)] at hb
 exact h3 e0 x hx b hb
theorem Sy {f : Nat} {F' : Nat → Prop} {oi oj : Oper} {v : AV} {K : Fr → Hp → Prop} {Kp : AV → Hp → Prop} (hap : oi.apart ops oj = true) (hci : pC f oi.op = true) (hcm : f ≠ 0 → f ≠ 2 → f ≠ 3 → lJ oj.op = true) (hF : f = 0 → F' = F) (hy : Yf E F (ops.toList.map (·.dst)) f oi v fr H)
  (h : aop E F' (ops.toList.map (·.dst)) oj (dP fr oi.dst v) H K Kp) : aop E F' (ops.toList.map (·.dst)) oj fr H (fun fr' H' => Yf E F (ops.toList.map (·.dst)) f oi v fr' H' ∧ K (dP fr' oi.dst v) H') Kp := by
 obtain ⟨h1, h2, h3⟩ := Oper.apart_spec hap
 unfold aop at *
 rw [qJ h1] at h
 split at h
 ·rename_i hw
  rw [uQ (nM h1)] at h
  by_cases hf : f ≠ 0 ∧ f ≠ 2 ∧ f ≠ 3
  ·rw [lB (hcm hf.1 hf.2.1 hf.2.2)] at h ⊢
   split at h <;> try (exact h.elim)
   rename_i u hu
   refine ⟨hy.step hci h3 (fun _ => oJ.refl) fun _ _ _ => rfl, ?_⟩
   rw [← mK h2]; exact h
  refine nZ (fun u H' hag hK => ⟨hy.step hci h3 (fun e => by rw [← hF e]; exact hag) (fun a b c => absurd ⟨a, b, c⟩ hf), ?_⟩) (fun _ _ h => h) h
  rw [← mK h2]; exact hK
 ·exact ⟨hy.step hci h3 (fun _ => oJ.refl) fun _ _ _ => rfl, by rw [← mK h2]; exact h⟩
 exact h
theorem Yf.aop {f : Nat} {F' : Nat → Prop} {o : Oper} {v : AV} {K : Fr → Hp → Prop} {Kp : AV → Hp → Prop} (hc : pC f o.op = true) (hy : Yf E F (ops.toList.map (·.dst)) f o v fr H) (h : K (dP fr o.dst v) H) : Al.aop E F' (ops.toList.map (·.dst)) o fr H K Kp := by
 unfold Al.aop
 rcases hy with ⟨h1, rfl⟩ | ⟨h1, h2, _⟩
 ·rw [h1]; exact h
 rw [h1]
 by_cases e2 : f = 2
 ·subst e2
  simp only [Pv, if_true] at h2
  obtain ⟨dst, op, ty, pos, af, g⟩ := o
  cases op <;> simp only [reduceCtorEq] at h2
  rw [aZ] at h2
  obtain ⟨p, hp, rfl⟩ := h2
  simp only [fU, hp]
  exact .inl h
 simp only [Pv, if_neg e2] at h2
 simp only [pC, if_neg e2, aX] at hc
 simp only
 rw [lB hc.1, h2]; exact h
theorem Hs {i : Nat} {oi : Oper} {v : AV} {f : Nat} (hi : ops[i]? = some oi) (hci : pC f oi.op = true) (W : Nat → Bool) (hW : ∀ j oj, ops[j]? = some oj → W j = true → ∃ e ∈ oj.after, Region.binds .any e = true ∧ (e.on = i ∨ W e.on = true)) :
  ∀ (fuel : Nat) (L : Array Bool) (fr : Fr) (H : Hp),
    (∀ j oj, ops[j]? = some oj → j ≠ i → L.getD j true = false → W j = false → oi.apart ops oj = true ∧ (f ≠ 0 → f ≠ 2 → f ≠ 3 → lJ oj.op = true) ∧ (f = 0 → G j = F)) →
    (∀ j, W j = true → L.getD j false = false) → i ∈ Region.ready .any ops L → Yf E F (ops.toList.map (·.dst)) f oi v fr H →
    hJ E G ops Q fuel (L.setIfInBounds i true) (dP fr oi.dst v) H → hJ E G ops Q (fuel + 1) L fr H := by
 have first : ∀ {fuel : Nat} {L : Array Bool} {fr : Fr} {H : Hp} {j : Nat} {o : Oper}, ops[j]? = some o → j = i → Yf E F (ops.toList.map (·.dst)) f oi v fr H → hJ E G ops Q fuel (L.setIfInBounds i true) (dP fr oi.dst v) H →
   Al.aop E (G j) (ops.toList.map (·.dst)) o fr H (hJ E G ops Q fuel (L.setIfInBounds j true)) (fun v H' => Q (.pan v) Fy H') := fun {fuel L fr H j o} ho e hy h => by
  subst e
  rw [hi] at ho
  cases ho
  exact hy.aop hci h
 intro fuel
 induction fuel with
 | zero =>
   intro L fr H _ _ hr hy h
   refine ⟨fun e => (by rw [e] at hr; cases hr), fun j hj o ho => ?_⟩
   by_cases hji : j = i
   ·exact first ho hji hy h
   have := ready_mono hj hji
   rw [h.1] at this
   cases this
 | succ fuel ih =>
   intro L fr H hfree hun hr hy h
   refine ⟨fun e => (by rw [e] at hr; cases hr), fun j hj oj hoj => ?_⟩
   by_cases hji : j = i
   ·exact first hoj hji hy h
   obtain ⟨hjun, oj', hoj', hall⟩ := mem_ready.1 hj
   rw [hoj] at hoj'
   cases hoj'
   have hi0 : L.getD i false = false := by
    have h0 := (mem_ready.1 hr).1
    rcases Nat.lt_or_ge i L.size with h' | h'
    ·simp [h'] at h0 ⊢; exact h0
    simp [Array.getElem?_eq_none h']
   have hWj : W j = false := by
    cases e : W j with
    | false => rfl
    | true =>
      obtain ⟨ed, he, hb, hor⟩ := hW j oj hoj e
      have h1 := hall ed he hb
      rcases hor with h2 | h2
      ·rw [h2, hi0] at h1; cases h1
      rw [hun _ h2] at h1; cases h1
   obtain ⟨hap, hcm, hG⟩ := hfree j oj hoj hji hjun hWj
   have h2 := Sy hap hci hcm hG hy (h.2 j (ready_mono hj hji) oj hoj)
   refine pL (fun fr' H' h3 => ih (L.setIfInBounds j true) fr' H' (fun k ok hk hki hku hkW => hfree k ok hk hki ?_ hkW) (fun k hk => ?_) (ready_mono hr (Ne.symm hji)) h3.1 ?_) h2
   ·by_cases hjk : j = k
    ·subst hjk; exact hjun
    rw [getD_set_ne true hjk] at hku; exact hku
   ·have hne : j ≠ k := fun e => by subst e; rw [hWj] at hk; cases hk
    rw [getD_set_ne false hne]; exact hun k hk
   rw [Array.setIfInBounds_comm _ _ hji]
   exact h3.2
def Gl (ops : Array Oper) (T : List Nat) (i : Nat) (oi : Oper) (f : Nat) (ws : List Nat) (L : Array Bool) : Bool :=
 (List.range ops.size).all fun j => j == i || L.getD j true || ws.contains j || match ops[j]? with | some oj => oi.apart ops oj && (f == 0 || f == 2 || f == 3 || lJ oj.op) && (f != 0 || !T.contains j) | none => true
def Oe (ops : Array Oper) (T : List Nat) : Array Bool → List (Nat × Nat) → Bool
 | _, [] => true
 | L, (i, f) :: r => (match ops[i]? with
   | none => false
   | some o => !T.contains i && if pC f o.op then (Region.ready .any ops L).contains i && Od ops i (pO ops i) L && Gl ops T i o f (pO ops i) L else f != 2 && Region.ready .any ops L == [i]) && Oe ops T (L.setIfInBounds i true) r
def kD (L : Array Bool) : List (Nat × Nat) → Array Bool
 | [] => L
 | (i, _) :: r => kD (L.setIfInBounds i true) r
def bW (ops : List Oper) : List (Nat × Nat) → List Oper
 | [] => []
 | (i, f) :: r => match ops[i]? with
   | none => []
   | some o => match f with
     | 0 => match dJ o.op with
       | some x => ⟨none, .entry x, o.type, o.pos, o.after, o.guard⟩ :: o :: bW ops r
       | none => o :: bW ops r
     | 2 => match o.op with
       | .buildSlice t _ ps => ⟨o.dst, .go ⟨.value (.func 0), (ps.toList.map (·.2)).toArray, #[t]⟩, o.type, o.pos, o.after, o.guard⟩ :: bW ops r
       | _ => []
     | _ => o :: bW ops r
theorem lE {T : List Nat} {m N : Nat} (hG : ∀ j, T.contains j = false → G j = F) (hd : ops.toList.all (fT N) = true) : ∀ (plan : List (Nat × Nat)) (L : Array Bool) (fr : Fr) (H : Hp), Oe ops T L plan = true →
  cK E F (ops.toList.map (·.dst)) (bJ (fun fr' H' => hJ E G ops Q m (kD L plan) fr' H') Q) (bW ops.toList plan) fr H → hJ E G ops Q (plan.length + m) L fr H
 | [], L, fr, H, hc, h => by
   simp only [bW, kD, List.length_nil, Nat.zero_add] at h ⊢
   exact h
 | (i, f) :: r, L, fr, H, hc, h => by
   simp only [Oe, aX] at hc
   obtain ⟨hc, hr⟩ := hc
   simp only [kD] at h
   rw [show ((i, f) :: r).length + m = (r.length + m) + 1 by simp only [bX]; omega]
   cases ho : ops[i]? with
   | none => rw [ho] at hc; simp at hc
   | some o =>
     simp only [ho, aX, Bool.not_eq_true'] at hc
     obtain ⟨hT, hc⟩ := hc
     have hdo : fT N o = true := by
      rw [List.all_eq_true] at hd
      exact hd o (Array.mem_toList_iff.2 (Array.mem_of_getElem? ho))
     have ho2 : ops.toList[i]? = some o := by simpa using ho
     simp only [bW, ho2] at h
     split at hc
     ·rename_i hcalm
      simp only [aX] at hc
      obtain ⟨⟨h1, h2⟩, h3⟩ := hc
      have go : ∀ v, Yf E F (ops.toList.map (·.dst)) f o v fr H → cK E F (ops.toList.map (·.dst)) (bJ (fun fr' H' => hJ E G ops Q m (kD (L.setIfInBounds i true) r) fr' H') Q) (bW ops.toList r) (dP fr o.dst v) H → hJ E G ops Q (r.length + m + 1) L fr H := fun v hy hrest => by
       refine Hs (F := F) ho hcalm (fun j => (pO ops i).contains j) (fun j oj hoj hj => ?_) (r.length + m) L fr H (fun j oj hoj hji hju hjW => ?_) (fun j hj => ?_) (by simpa using h1) hy (lE hG hd r _ _ _ hr hrest)
       ·simp only [Od, List.all_eq_true] at h2
        have := h2 j (by simpa using hj)
        simp only [hoj, aX] at this
        obtain ⟨ed, he, hb⟩ := Array.any_eq_true'.1 this.2
        simp only [aX, Bool.or_eq_true, beq_iff_eq] at hb
        exact ⟨ed, he, hb.1, hb.2⟩
       ·simp only [Gl, List.all_eq_true, List.mem_range] at h3
        have := h3 j (Array.getElem?_eq_some_iff.1 hoj).1
        simp only [hoj, hju, hjW, Bool.or_eq_true, beq_iff_eq, hji, Bool.false_eq_true, or_false, false_or, aX, Bool.not_eq_true', bne_iff_ne] at this
        refine ⟨this.1.1, fun e e' e'' => ?_, fun e => hG j ?_⟩
        ·rcases this.1.2 with ((h | h) | h) | h
         ·exact absurd h e
         ·exact absurd h e'
         ·exact absurd h e''
         exact h
        rcases this.2 with h | h
        ·exact absurd e h
        exact h
       simp only [Od, List.all_eq_true] at h2
       have := h2 j (by simpa using hj)
       simp only [aX, Bool.not_eq_true'] at this
       exact this.1
      by_cases e0 : f = 0
      ·subst e0
       have hcalm' : lJ o.op = true := by simpa [pC] using hcalm
       have pv : ∀ fr, Pv E H fr o.op 0 = aq E H fr o.op := fun fr => by simp [Pv]
       simp only at h
       split at h
       ·rename_i x hx
        simp only [cK] at h
        split at h
        ·rename_i hw
         obtain ⟨hm, h⟩ := h
         obtain ⟨v, hv, hrest⟩ := iR (fr := fr) hdo _ hcalm' h
         exact go v (hv.imp id fun ⟨a, b⟩ => ⟨a, by rw [pv]; exact b, fun _ y hy => by rw [hx] at hy; cases hy; exact hm⟩) hrest
        ·rename_i hw
         obtain ⟨v, hv, hrest⟩ := iR (fr := fr) hdo _ hcalm' h
         exact go v (hv.imp id fun ⟨a, b⟩ => by rw [hw] at a; cases a) hrest
        exact h.elim
       rename_i hx
       obtain ⟨v, hv, hrest⟩ := iR hdo _ hcalm' h
       exact go v (hv.imp id fun ⟨a, b⟩ => ⟨a, by rw [pv]; exact b, fun _ y hy => by rw [hx] at hy; cases hy⟩) hrest
      by_cases e2 : f = 2
      ·subst e2
       obtain ⟨dst, op, ty, pos, af, g⟩ := o
       simp only [pC, if_true] at hcalm
       cases op <;> simp only [Bool.false_eq_true] at hcalm
       rename_i t len ps
       obtain ⟨d1, d2⟩ := Jm hcalm
       simp only [cK] at h
       split at h
       ·rename_i hw
        split at h
        ·rename_i v hv
         refine go v (.inr ⟨hw, ?_, fun e => absurd e (by decide)⟩) h
         simp only [Pv, if_true]
         rw [← hv]
         simp only [E7, d2]
         rw [show ((ps.toList.map (·.2)).toArray).size = len by simpa using d1]
        exact h.elim
       ·rename_i hw
        exact go _ (.inl ⟨hw, rfl⟩) h
       exact h.elim
      have hcalm' : lJ o.op = true := by simp only [pC, if_neg e2, aX] at hcalm; exact hcalm.1
      have h' : cK E F (ops.toList.map (·.dst)) (bJ (fun fr' H' => hJ E G ops Q m (kD (L.setIfInBounds i true) r) fr' H') Q) (o :: bW ops.toList r) fr H := by
       split at h
       ·exact absurd rfl e0
       ·exact absurd rfl e2
       exact h
      obtain ⟨v, hv, hrest⟩ := iR hdo _ hcalm' h'
      exact go v (hv.imp id fun ⟨a, b⟩ => ⟨a, by simp only [Pv, if_neg e2]; exact b, fun e => absurd e e0⟩) hrest
     rename_i hcalm
     simp only [aX, bne_iff_ne, beq_iff_eq] at hc
     obtain ⟨e2, hc⟩ := hc
     have h' : cK E F (ops.toList.map (·.dst)) (bJ (fun fr' H' => hJ E G ops Q m (kD (L.setIfInBounds i true) r) fr' H') Q) (o :: bW ops.toList r) fr H := by
      split at h
      ·split at h
       ·rename_i x hx
        exfalso
        simp only [pC] at hcalm
        cases e : o.op <;> rw [e] at hx hcalm <;> simp [dJ, lJ] at hx hcalm
       exact h
      ·exact absurd rfl e2
      exact h
     rw [mR hdo] at h'
     refine ⟨fun e => (by rw [hc] at e; cases e), fun j hj oj hoj => ?_⟩
     rw [hc] at hj
     simp only [List.mem_singleton] at hj
     subst hj
     rw [ho] at hoj
     cases hoj
     rw [hG j hT]
     exact pL (fun fr' H' hK => lE hG hd r _ fr' H' hr hK) h'
theorem wZ : ∀ (p : List (Nat × Nat)) (L : Array Bool), (kD L p).size = L.size
 | [], L => rfl
 | (i, c) :: r, L => by rw [kD, wZ r]; simp
theorem iT {ds : List (Option Nat)} {Q Q' : dN} (hQ : ∀ e fr H, Q e fr H → Q' e fr H) : ∀ (l : List Oper) (fr : Fr) (H : Hp), cK E F ds Q l fr H → cK E F ds Q' l fr H
 | [], fr, H, h => hQ _ _ _ h
 | o :: r, fr, H, h => by
   have key : ∀ fr H, aop E F ds o fr H (cK E F ds Q r) (fun v H' => Q (.pan v) Fy H') → aop E F ds o fr H (cK E F ds Q' r) (fun v H' => Q' (.pan v) Fy H') := fun fr H h => by
    unfold aop at *
    split at h
    ·exact nZ (fun _ _ _ h => iT hQ r _ _ h) (fun _ _ h => hQ _ _ _ h) h
    ·exact iT hQ r _ _ h
    exact h
   unfold cK at h ⊢
   split at h
   ·split at h
    ·exact ⟨h.1, iT hQ r _ _ h.2⟩
    ·exact iT hQ r _ _ h
    exact h
   ·split at h
    ·split at h
     ·exact iT hQ r _ _ h
     exact h
    ·exact iT hQ r _ _ h
    exact h
   exact key _ _ h
def Gm (N : Nat) (l : List Oper) (plan plan2 : List (Nat × Nat)) : Bool :=
 l.all (fT N) && plan.length + plan2.length == l.length && Oe l.toArray (plan2.map (·.1)) (Array.replicate l.length false) plan && Oe l.toArray [] (kD (Array.replicate l.length false) plan) (plan2.map fun p => (p.1, if p.2 = 2 then 2 else 1)) && Region.ready .any l.toArray (kD (kD (Array.replicate l.length false) plan) (plan2.map fun p => (p.1, if p.2 = 2 then 2 else 1))) == [] && (List.range l.length).all fun j => (kD (Array.replicate l.length false) plan).getD j true || (plan2.map (·.1)).contains j
theorem bC (F : Nat → Prop) (plan plan2 : List (Nat × Nat)) {N id : Nat} {l l1 l2 : List Oper} (hm : E.P.follows .mixedOrders = true) (hc : Gm N l plan plan2 = true) (hl : bW l plan = l1) (hl2 : bW l (plan2.map fun p => (p.1, if p.2 = 2 then 2 else 1)) = l2)
  (h : cK E F (l.map (·.dst)) (bJ (fun fr' H' => cK E (fun _ => True) (l.map (·.dst)) Q l2 fr' H') Q) l1 fr H) : gO E N (.region id l.toArray true) Q fr H := fun γ a w hs => by
 subst hl; subst hl2
 simp only [Gm, aX, beq_iff_eq] at hc
 obtain ⟨⟨⟨⟨⟨hd, hlen⟩, hc1⟩, hc2⟩, hc3⟩, hc4⟩ := hc
 have hd' : l.toArray.toList.all (fT N) = true := by simpa using hd
 refine wp_region_any hm (pN (G := fun j => if (plan2.map (·.1)).contains j then fun _ => True else F) hd' _ _ fr H a _ hs.drew ?_)
 have key : ∀ fr' H', cK E (fun _ => True) (l.map (·.dst)) Q (bW l (plan2.map fun p => (p.1, if p.2 = 2 then 2 else 1))) fr' H' → hJ E (fun j => if (plan2.map (·.1)).contains j then fun _ => True else F) l.toArray Q plan2.length (kD (Array.replicate l.length false) plan) fr' H' := fun fr' H' h' => by
  have mono : ∀ (n : Nat) (L : Array Bool) fr H, hJ E (fun _ _ => True) l.toArray Q n L fr H → (∀ j, L.getD j true = false → (plan2.map (·.1)).contains j = true) → hJ E (fun j => if (plan2.map (·.1)).contains j then fun _ => True else F) l.toArray Q n L fr H := by
   intro n
   induction n with
   | zero => intro L fr H h _; exact h
   | succ n ih =>
     intro L fr H h hT
     refine ⟨h.1, fun i hi o ho => ?_⟩
     have hun := (mem_ready.1 hi).1
     show aop E (if (plan2.map (·.1)).contains i = true then fun _ => True else F) _ _ _ _ _ _
     rw [if_pos (hT i hun)]
     refine pL (fun fr' H' h3 => ih _ _ _ h3 fun j hj => ?_) (h.2 i hi o ho)
     by_cases e : i = j
     ·subst e; exact hT i hun
     rw [getD_set_ne true e] at hj; exact hT j hj
  refine mono _ _ _ _ ?_ ?_
  ·have := lE (E := E) (F := fun _ => True) (G := fun _ _ => True) (Q := Q) (ops := l.toArray) (N := N) (m := 0) (fun _ _ => rfl) hd' (plan2.map fun p => (p.1, if p.2 = 2 then 2 else 1)) _ fr' H' hc2 (by
    refine iT (Q := Q) ?_ _ _ _ (by simpa using h')
    intro e fr'' H'' he
    cases e <;> first | exact ⟨hc3, he⟩ | exact he)
   simpa using this
  intro j hj
  have hs : (kD (Array.replicate l.length false) plan).size = l.length := by rw [wZ, Array.size_replicate]
  have hjl : j < l.length := by
   rcases Nat.lt_or_ge j l.length with h | h
   ·exact h
   rw [Array.getD_eq_getD_getElem?, Array.getElem?_eq_none (by omega)] at hj; cases hj
  have := List.all_eq_true.1 hc4 j (List.mem_range.2 hjl)
  rw [hj, Bool.false_or] at this
  exact this
 have := lE (E := E) (F := F) (G := fun j => if (plan2.map (·.1)).contains j then fun _ => True else F) (Q := Q) (ops := l.toArray) (N := N) (m := plan2.length) (T := plan2.map (·.1)) (fun j hj => by rw [hj]; rfl) hd' plan _ fr H hc1 (by
  refine iT (Q := bJ (fun fr' H' => cK E (fun _ => True) (l.map (·.dst)) Q (bW l (plan2.map fun p => (p.1, if p.2 = 2 then 2 else 1))) fr' H') Q) ?_ _ _ _ (by simpa using h)
  intro e fr'' H'' he
  cases e <;> first | exact key _ _ he | exact he)
 rw [hlen] at this
 simpa using this
end
end Go.Al
namespace Go.Al
section
variable {S S' : dS} {w : World}
theorem cT.sub : ∀ {row row' : List AV} {b off : Nat}, cT S w b off row → row'.length = row.length → (∀ (j : Nat) x x' u, row[j]? = some x → row'[j]? = some x' → bI S w x u → bI S' w x' u) → cT S' w b off row'
 | [], [], b, off, _, _, _ => by simp only [cT]
 | x :: row, y :: row', b, off, h, hl, hs => by
   simp only [cT] at *
   obtain ⟨⟨u, h1, h2⟩, h3⟩ := h
   exact ⟨⟨u, h1, hs 0 x y u rfl rfl h2⟩, cT.sub h3 (by simpa using hl) fun j a c v ha hc => hs (j + 1) a c v (by simpa using ha) (by simpa using hc)⟩
 | [], _ :: _, _, _, _, hl, _ => by simp at hl
 | _ :: _, [], _, _, _, hl, _ => by simp at hl
theorem bV.sub {sz : Nat} : ∀ {l l' : List (List AV)} {b off : Nat}, bV S w b off sz l → l'.length = l.length → (∀ (i : Nat) r r', l[i]? = some r → l'[i]? = some r' → r'.length = r.length ∧ ∀ (j : Nat) x x' u, r[j]? = some x → r'[j]? = some x' → bI S w x u → bI S' w x' u) → bV S' w b off sz l'
 | [], [], b, off, _, _, _ => by simp only [bV]
 | r :: l, r' :: l', b, off, h, hl, hs => by
   simp only [bV] at *
   obtain ⟨h1, h2, h3⟩ := h
   obtain ⟨g1, g2⟩ := hs 0 r r' rfl rfl
   exact ⟨by omega, cT.sub h2 g1 g2, bV.sub h3 (by simpa using hl) fun i a c ha hc => hs (i + 1) a c (by simpa using ha) (by simpa using hc)⟩
 | [], _ :: _, _, _, _, hl, _ => by simp at hl
 | _ :: _, [], _, _, _, hl, _ => by simp at hl
end
def Fx (b sz : Nat) (l : List (List AV)) : eR → eR
 | .rows s r => .rows s (r.map fun x => x.map (frz b sz l))
 | .amap es => .amap es
 | .bld ty g n => .bld ty g n
 | .buf ty bs cap => .buf ty bs cap
section
variable {E : fC} {N : Nat} {Q : dN} {c : Code} {fr : Fr} {H : Hp}
theorem lV {b sz : Nat} {l : List (List AV)} (hb : H b = some (.rows sz l)) (h : gO E N c Q (fun t => frz b sz l (fr t)) (fun x => if x = b then none else (H x).map (Fx b sz l))) : gO E N c Q fr H := fun γ a w ⟨g1, g2, S, hst, hf⟩ => by
 have hk : eA S (fun k => S k ∨ k = b) w w := ⟨fun _ _ => rfl, fun _ _ h => h, fun _ h => .inl h⟩
 have ho := (hst.obj b _ hb).1
 have hlt := ho.lt
 simp only [gP] at ho
 obtain ⟨cs, e, _, _, hr⟩ := ho
 have hr' := bV.mono hk l b 0 sz rfl hr
 have hv : ∀ x u, bI S w x u → bI (fun k => S k ∨ k = b) w (frz b sz l x) u := fun x u hx => Lo b sz l x _ w _ (.inr rfl) hr' (bI.mono hk _ _ hx)
 refine h γ a w ⟨g1, g2, _, ?_, fun t => hv _ _ (hf t)⟩
 refine hst.step (kC.refl (fun _ => False) w) (fun _ h => h.elim) (fun _ h => .inl h) (fun k hk => ?_) (fun k hk => ?_) fun b' o hb' => ?_
 ·rcases hk with hk | hk
  ·exact hst.lt k hk
  exact hk ▸ hlt
 ·rcases hk with hk | hk
  ·exact .inl hk
  exact .inr (.inl (by rw [hk, hb]; simp))
 split at hb'
 ·cases hb'
 rename_i hne
 rw [aZ] at hb'
 obtain ⟨o0, ho0, rfl⟩ := hb'
 have hobj := hst.obj b' o0 ho0
 refine ⟨fun hs => ?_, .inr ⟨?_, .inl (by rw [ho0]; simp)⟩⟩
 ·rcases hs with hs | hs
  ·exact hobj.2.1 hs
  exact hne hs
 cases o0 with
 | rows s r =>
   have h1 := hobj.1
   simp only [gP, Fx] at *
   obtain ⟨cs', e', h2, h3, h4⟩ := h1
   refine ⟨cs', e', h2, by rw [aD]; exact h3, bV.sub h4 (by simp) fun i x x' hx hx' => ?_⟩
   rw [cD, hx] at hx'
   cases hx'
   refine ⟨by simp, fun j y y' u hy hy' hyu => ?_⟩
   rw [cD, hy] at hy'
   cases hy'
   exact hv _ _ hyu
 | amap es =>
   have h1 := hobj.1
   simp only [gP, Fx] at *
   obtain ⟨mes, clock, h2, h3⟩ := h1
   exact ⟨mes, clock, h2, dK.mono hk es _ h3⟩
 | bld ty g n => exact hobj.1
 | buf ty bs cap => exact hobj.1
theorem Cp {b sz : Nat} {l l' : List (List AV)} (hb : H b = some (.rows sz l)) (hl : l'.length = l.length) (hs : ∀ (i : Nat) r r', l[i]? = some r → l'[i]? = some r' → r'.length = r.length ∧ ∀ (j : Nat) x x', r[j]? = some x → r'[j]? = some x' → lG x x')
  (h : gO E N c Q fr (upd H b (some (.rows sz l')))) : gO E N c Q fr H := fun γ a w ⟨g1, g2, S, hst, hf⟩ => by
 refine h γ a w ⟨g1, g2, S, ?_, hf⟩
 refine hst.step (kC.refl (fun _ => False) w) (fun _ h => h.elim) (fun _ h => h) hst.lt (fun k hk => .inl hk) fun b' o hb' => ?_
 by_cases e : b' = b
 ·subst e
  rw [bR] at hb'
  cases hb'
  have hobj := hst.obj b' _ hb
  refine ⟨hobj.2.1, .inr ⟨?_, .inl (by rw [hb]; simp)⟩⟩
  have h1 := hobj.1
  simp only [gP] at *
  obtain ⟨cs', e', h2, h3, h4⟩ := h1
  refine ⟨cs', e', h2, by rw [hl]; exact h3, bV.sub h4 hl fun i r r' hr hr' => ?_⟩
  obtain ⟨q1, q2⟩ := hs i r r' hr hr'
  exact ⟨q1, fun j x x' u hx hx' hxu => q2 j x x' hx hx' S w u hxu⟩
 rw [cG _ _ e] at hb'
 exact ⟨(hst.obj b' o hb').2.1, .inl ⟨hb', fun h => h⟩⟩
end
end Go.Al
namespace Go.Al
inductive iX : List AV → List AV → Prop
 | nil : iX [] []
 | cons {x y : AV} {xs ys : List AV} : lG x y → iX xs ys → iX (x :: xs) (y :: ys)
inductive qW : List (List AV) → List (List AV) → Prop
 | nil : qW [] []
 | cons {x y : List AV} {xs ys : List (List AV)} : iX x y → qW xs ys → qW (x :: xs) (y :: ys)
theorem iX.len {x y : List AV} (h : iX x y) : y.length = x.length := by
 induction h with
 | nil => rfl
 | cons _ _ ih => simp [ih]
theorem qW.len {x y : List (List AV)} (h : qW x y) : y.length = x.length := by
 induction h with
 | nil => rfl
 | cons _ _ ih => simp [ih]
theorem iX.list {x y : List AV} (h : iX x y) : eQ x y := by
 induction h with
 | nil => exact eQ.refl _
 | cons h _ ih => exact eQ.cons h ih
theorem iX.row {S : dS} {w : World} {x y : List AV} (h : iX x y) : ∀ {b off : Nat}, cT S w b off x → cT S w b off y := by
 induction h with
 | nil => intro b off h; exact h
 | cons h _ ih =>
   intro b off hr
   simp only [cT] at *
   obtain ⟨⟨u, h1, h2⟩, h3⟩ := hr
   exact ⟨⟨u, h1, h _ _ _ h2⟩, ih h3⟩
theorem qW.rows {S : dS} {w : World} {sz : Nat} {x y : List (List AV)} (h : qW x y) : ∀ {b off : Nat}, bV S w b off sz x → bV S w b off sz y := by
 induction h with
 | nil => intro b off h; exact h
 | cons h _ ih =>
   intro b off hr
   simp only [bV] at *
   obtain ⟨h1, h2, h3⟩ := hr
   exact ⟨h.len.trans h1, h.row h2, ih h3⟩
theorem lG.isl {sz : Nat} {x y : List (List AV)} (h : qW x y) : lG (.isl sz x) (.isl sz y) := by
 intro S w v hv
 simp only [bI] at *
 obtain ⟨oa, cap, e, h1, h2, h3⟩ := hv
 have hl := h.len
 refine ⟨oa, cap, by rw [hl]; exact e, by rw [hl]; exact h1, h2, ?_⟩
 rcases h3 with h3 | ⟨b, off, e2, hb, hr⟩
 ·subst h3; cases h; exact .inl rfl
 exact .inr ⟨b, off, e2, hb, h.rows hr⟩
theorem lG.aggR {x y : List AV} (h : iX x y) : lG (.agg x) (.agg y) := lG.agg h.list
end Go.Al
namespace Go.Al
section
variable {E : fC} {N : Nat} {Q : dN} {fr : Fr} {H : Hp} {c : Code}
def aW (l : List Nat) (f g : Fr) : Prop := ∀ t, l.elem t = true → g t = f t
theorem aW.refl (l : List Nat) (f : Fr) : aW l f f := fun _ _ => rfl
theorem aW.nil (f g : Fr) : aW [] f g := fun _ h => by cases h
theorem aW.cons {l : List Nat} {f g : Fr} {t : Nat} (h : g t = f t) (ha : aW l f g) : aW (t :: l) f g := fun i hi => by
 by_cases e : i = t
 ·rw [e]; exact h
 refine ha i ?_
 have h1 : i ∈ t :: l := by simpa using hi
 have h2 := (List.mem_cons.1 h1).resolve_left e
 simpa using h2
theorem aW.upd {l : List Nat} {f g : Fr} {i : Nat} {v : AV} (h : l.elem i = false) (ha : aW l f g) : aW l f (upd g i v) := fun t ht => by
 have : t ≠ i := fun e => by rw [e, h] at ht; cases ht
 rw [cG _ _ this]; exact ha t ht
theorem aW.same {l : List Nat} {f g k : Fr} (h : ∀ t, k t = g t) (ha : aW l f g) : aW l f k := fun t ht => (h t).trans (ha t ht)
theorem aW.sub {l l2 : List Nat} {f g k : Fr} (h : aW l2 g k) (hs : l.all l2.elem = true) (ha : aW l f g) : aW l f k := fun t ht =>
 (h t (List.all_eq_true.1 hs t (by simpa using ht))).trans (ha t ht)
theorem bG (h : ∀ fr' H', (∀ t, fr' t = fr t) → (∀ b, H' b = H b) → gO E N c Q fr' H') : gO E N c Q fr H := h fr H (fun _ => rfl) (fun _ => rfl)
theorem dH (M : Fr → Hp → Prop) (h1 : ∀ K : Fr → Hp → Prop, (∀ fr H, M fr H → K fr H) → gO E N c (bJ K Q) fr H) (h2 : ∀ fr H, M fr H → Q .normal fr H) : gO E N c Q fr H :=
 Gu (h1 M fun _ _ h => h) fun e fr H hq => by cases e <;> first | exact h2 _ _ hq | exact hq
theorem bY (m : List Nat) (n : Nat) (I : Nat → Fr → Hp → Prop) (h0 : I 0 fr H)
  (round : ∀ (k : Nat) fr' H', k ≤ n → I k fr' H' → aW m fr fr' → ∀ K : Fr → Hp → Prop, (∀ fr'' H'', k < n → I (k + 1) fr'' H'' → aW m fr' fr'' → K fr'' H'') → gO E N c (bJ K Q) fr' H') : gO E N (.loop c) Q fr H := by
 refine gB (fun mm fr' H' => ∃ k, mm = n - k ∧ k ≤ n ∧ I k fr' H' ∧ aW m fr fr') n ⟨0, rfl, Nat.zero_le _, h0, aW.refl _ _⟩ ?_
 rintro mm fr' H' ⟨k, rfl, hk, hI, ha⟩ K hK
 exact round k fr' H' hk hI ha K fun fr'' H'' hlt hI' ha' => hK (n - (k + 1)) fr'' H'' (by omega) ⟨k + 1, rfl, hlt, hI', fun t ht => (ha' t ht).trans (ha t ht)⟩
theorem iS (m : List Nat) (n : Nat) (I : Nat → Fr → Hp → Prop) (h0 : I n fr H)
  (round : ∀ (k : Nat) fr' H', I k fr' H' → aW m fr fr' → ∀ K : Fr → Hp → Prop, (∀ k' fr'' H'', k' < k → I k' fr'' H'' → aW m fr' fr'' → K fr'' H'') → gO E N c (bJ K Q) fr' H') : gO E N (.loop c) Q fr H := by
 refine gB (fun mm fr' H' => I mm fr' H' ∧ aW m fr fr') n ⟨h0, aW.refl _ _⟩ ?_
 rintro k fr' H' ⟨hI, ha⟩ K hK
 exact round k fr' H' hI ha K fun k' fr'' H'' hlt hI' ha' => hK k' fr'' H'' hlt ⟨hI', fun t ht => (ha' t ht).trans (ha t ht)⟩
theorem Cc (b sz : Nat) (l : List (List AV)) (sz' b' n : Nat) : frz b sz l (.osl sz' b' n) = if b' = b ∧ sz' = sz ∧ n = l.length then .isl sz l else .osl sz' b' n := Eq.trans rfl rfl
theorem off.frz {v : AV} {b : Nat} (h : off v b) (sz : Nat) (l : List (List AV)) : frz b sz l v = v := by
 cases v <;> try rfl
 rename_i s' b' n
 rw [Cc, if_neg]
 rintro ⟨rfl, _, _⟩
 exact h _ _ rfl
theorem dW.same {sz : Nat} {v : AV} {rows : List (List AV)} {H H' : Hp} (h : dW sz v rows H) (hH : ∀ b, H' b = H b) : dW sz v rows H' := by
 rcases h with h | ⟨b, e, hb⟩
 ·exact .inl h
 exact .inr ⟨b, e, (hH b).trans hb⟩
theorem dW.off {sz : Nat} {v : AV} {rows : List (List AV)} {H : Hp} (h : dW sz v rows H) {b : Nat} (ho : off v b) (o : Option eR) : dW sz v rows (Al.upd H b o) := by
 rcases h with h | ⟨b', e, hb⟩
 ·exact .inl h
 refine .inr ⟨b', e, ?_⟩
 have : b' ≠ b := fun c => ho _ _ (by rw [e, c])
 rw [cG _ _ this]; exact hb
theorem dW.new {sz : Nat} {v : AV} {rows : List (List AV)} {H : Hp} (h : dW sz v rows H) {b : Nat} (hb : H b = none) : Al.off v b := fun s n e => h.there s b n e hb
theorem Dc (F : Nat → Prop) (b : Nat) : (∀ x, iC (.mp b) = some x → ¬ F x) = ¬ F b := by
 refine propext ⟨fun h => h b rfl, fun h x hx => by cases hx; exact h⟩
theorem zV (F : Nat → Prop) (ks vs : List AV) : (∀ x, iC (.imp ks vs) = some x → ¬ F x) = True := propext ⟨fun _ => trivial, fun _ _ h => by cases h⟩
theorem zT (F : Nat → Prop) : (∀ x, iC .nmp = some x → ¬ F x) = True := propext ⟨fun _ => trivial, fun _ _ h => by cases h⟩
theorem E6 {F : Nat → Prop} {ds : List (Option Nat)} {d : Option Nat} {rest : List Oper} {b sz by' len : Nat} {l ys : List (List AV)} (hH : H b = some (.rows sz l)) (hl : len = l.length) (hb : (l.length + ys.length) * by' ≤ 140737488355328) (hF : F b)
  (h : ∀ b', (b' = b ∨ H b' = none) → cK E F ds Q rest (dP fr d (.osl sz b' (l.length + ys.length))) (Al.upd (Al.upd H b none) b' (some (.rows sz (l ++ ys))))) : yE E F ds Q d rest fr H (some (sz, by', .osl sz b len, ys)) := by
 subst hl
 simp only [yE, hH]
 exact ⟨trivial, trivial, trivial, hb, hF, h⟩
theorem qC (b sz : Nat) (l : List (List AV)) (sz' : Nat) (r : List (List AV)) : Fx b sz l (.rows sz' r) = .rows sz' (r.map fun x => x.map (frz b sz l)) := Eq.trans rfl rfl
theorem B7 {b b' : Nat} {o : eR} (h : H b = none) (h' : H b' = some o) : b ≠ b' := fun e => by rw [e, h'] at h; cases h
end
theorem EM : type_of% (And.intro @Dc (And.intro @zV (And.intro @zT (And.intro (@ne_eq Nat) (And.intro not_true_eq_false (And.intro @and_false (And.intro @false_and not_false_eq_true))))))) := ⟨@Dc, @zV, @zT, @ne_eq Nat, not_true_eq_false, @and_false, @false_and, not_false_eq_true⟩
end Go.Al
namespace Go.Al
def mZ (m : Nat) (es : List (AV × AV)) : AV → AV
 | .mp b => if b = m then .imp (es.map (·.1)) (es.map (·.2)) else .mp b
 | v => v
def Ac (m : Nat) (es : List (AV × AV)) : eR → eR
 | .rows s r => .rows s (r.map fun x => x.map (mZ m es))
 | o => o
theorem dK.lists {S : dS} {w : World} : ∀ {es : List (AV × AV)} {ms : List MapEntry}, dK S w es ms → bQ S w (es.map (·.1)) (ms.map fun e => e.key) ∧ bQ S w (es.map (·.2)) (ms.map fun e => e.val)
 | [], ms, h => by
   simp only [dK] at h
   subst h
   simp [bQ]
 | (k, v) :: es, ms, h => by
   simp only [dK] at h
   obtain ⟨e, es', rfl, h1, h2, h3⟩ := h
   obtain ⟨q1, q2⟩ := dK.lists h3
   simp only [List.map_cons, bQ]
   exact ⟨⟨_, _, rfl, h1, q1⟩, ⟨_, _, rfl, h2, q2⟩⟩
section
variable {E : fC} {N : Nat} {Q : dN} {c : Code} {fr : Fr} {H : Hp}
theorem pE {m : Nat} {es : List (AV × AV)} (hb : H m = some (.amap es)) (h : gO E N c Q (fun t => mZ m es (fr t)) (fun x => if x = m then none else (H x).map (Ac m es))) : gO E N c Q fr H := fun γ a w ⟨g1, g2, S, hst, hf⟩ => by
 have hk : eA S (fun k => S k ∨ k = m) w w := ⟨fun _ _ => rfl, fun _ _ h => h, fun _ h => .inl h⟩
 have ho := (hst.obj m _ hb).1
 have hlt := ho.lt
 simp only [gP] at ho
 obtain ⟨mes, clock, hm, he⟩ := ho
 have he' := (dK.mono hk es _ he).lists
 have hv : ∀ x u, bI S w x u → bI (fun k => S k ∨ k = m) w (mZ m es x) u := fun x u hx => by
  have h1 := bI.mono hk _ _ hx
  cases x <;> try exact h1
  rename_i b
  simp only [mZ]
  split
  ·rename_i e
   subst e
   simp only [bI] at h1 ⊢
   exact ⟨b, h1, .inr rfl, mes, clock, hm, he'.1, he'.2⟩
  exact h1
 refine h γ a w ⟨g1, g2, _, ?_, fun t => hv _ _ (hf t)⟩
 refine hst.step (kC.refl (fun _ => False) w) (fun _ h => h.elim) (fun _ h => .inl h) (fun k hk => ?_) (fun k hk => ?_) fun b' o hb' => ?_
 ·rcases hk with hk | hk
  ·exact hst.lt k hk
  exact hk ▸ hlt
 ·rcases hk with hk | hk
  ·exact .inl hk
  exact .inr (.inl (by rw [hk, hb]; simp))
 split at hb'
 ·cases hb'
 rename_i hne
 rw [aZ] at hb'
 obtain ⟨o0, ho0, rfl⟩ := hb'
 have hobj := hst.obj b' o0 ho0
 refine ⟨fun hs => ?_, .inr ⟨?_, .inl (by rw [ho0]; simp)⟩⟩
 ·rcases hs with hs | hs
  ·exact hobj.2.1 hs
  exact hne hs
 cases o0 with
 | rows s r =>
   have h1 := hobj.1
   simp only [gP, Ac] at *
   obtain ⟨cs', e', h2, h3, h4⟩ := h1
   refine ⟨cs', e', h2, by rw [aD]; exact h3, bV.sub h4 (by simp) fun i x x' hx hx' => ?_⟩
   rw [cD, hx] at hx'
   cases hx'
   refine ⟨by simp, fun j y y' u hy hy' hyu => ?_⟩
   rw [cD, hy] at hy'
   cases hy'
   exact hv _ _ hyu
 | amap es2 =>
   have h1 := hobj.1
   simp only [gP, Ac] at *
   obtain ⟨mes2, clock2, h2, h3⟩ := h1
   exact ⟨mes2, clock2, h2, dK.mono hk es2 _ h3⟩
 | bld ty g n => exact hobj.1
 | buf ty bs cap => exact hobj.1
theorem Kv (m : Nat) (es : List (AV × AV)) : mZ m es (.mp m) = .imp (es.map (·.1)) (es.map (·.2)) := by simp [mZ]
theorem Dx (m : Nat) (es : List (AV × AV)) (s : Nat) (r : List (List AV)) : mZ m es (.isl s r) = .isl s r := Eq.trans rfl rfl
theorem Dy (m : Nat) (es : List (AV × AV)) (k : IntKind) (n : Int) : mZ m es (.int k n) = .int k n := Eq.trans rfl rfl
theorem Dr (m : Nat) (es : List (AV × AV)) (s : List UInt8) : mZ m es (.str s) = .str s := Eq.trans rfl rfl
theorem Aa (m : Nat) (es : List (AV × AV)) (s : Bool) : mZ m es (.bool s) = .bool s := Eq.trans rfl rfl
theorem Ds (m : Nat) (es : List (AV × AV)) (s b i j : Nat) : mZ m es (.ptr s b i j) = .ptr s b i j := Eq.trans rfl rfl
theorem Du (m : Nat) (es : List (AV × AV)) : mZ m es .nsl = .nsl := Eq.trans rfl rfl
theorem Dw (m : Nat) (es : List (AV × AV)) : mZ m es .nfn = .nfn := Eq.trans rfl rfl
theorem Dv (m : Nat) (es : List (AV × AV)) : mZ m es .npt = .npt := Eq.trans rfl rfl
theorem Dt (m : Nat) (es : List (AV × AV)) (s b n : Nat) : mZ m es (.osl s b n) = .osl s b n := Eq.trans rfl rfl
theorem Kw (m : Nat) (es : List (AV × AV)) (f : Fn) (x y : List AV) : mZ m es (.fn f x y) = .fn f x y := Eq.trans rfl rfl
theorem Dz (m : Nat) (es : List (AV × AV)) (x y : List AV) : mZ m es (.imp x y) = .imp x y := Eq.trans rfl rfl
theorem rA (m : Nat) (es : List (AV × AV)) (sz : Nat) (r : List (List AV)) : Ac m es (.rows sz r) = .rows sz (r.map fun x => x.map (mZ m es)) := Eq.trans rfl rfl
theorem Ab (m : Nat) (es r : List (AV × AV)) : Ac m es (.amap r) = .amap r := Eq.trans rfl rfl
theorem SM : type_of% (And.intro Kv <| And.intro Dx <| And.intro Dy <| And.intro Dr <| And.intro Aa <| And.intro Ds <| And.intro Du <| And.intro Dw <| And.intro Dv <| And.intro Dt <| And.intro Kw <| And.intro Dz <| And.intro rA Ab) := And.intro Kv <| And.intro Dx <| And.intro Dy <| And.intro Dr <| And.intro Aa <| And.intro Ds <| And.intro Du <| And.intro Dw <| And.intro Dv <| And.intro Dt <| And.intro Kw <| And.intro Dz <| And.intro rA Ab
theorem cA (es : List (AV × AV)) : (es.map (·.1)).zip (es.map (·.2)) = es := by
 induction es with
 | nil => rfl
 | cons p es ih => simp [ih]
def H1 (b : Nat) (o : eR) : Hp := Al.upd qF b (some o)
theorem gY (b : Nat) (o : eR) : H1 b o b = some o := bR _ _ _
theorem dU {b : Nat} {o : eR} (h : H b = some o) : oM (H1 b o) H := fun b' o' h' => by
 unfold H1 at h'
 by_cases e : b' = b
 ·subst e
  rw [bR] at h'
  cases h'
  exact h
 rw [cG _ _ e] at h'; cases h'
def tU (E : fC) (g : FuncId) (args : List AV) (H0 : Hp) (v : AV) : Prop := jN E g args H0 (fun ae H' => ae = .ret v ∧ H' = H0)
theorem aU.q {v v' : AV} {H0 : Hp} (h : v = v') (hs : oM H0 H) : aU (fun ae H' => ae = .ret v' ∧ H' = H0) v H :=
 ⟨v, H0, jW.drop hs, by rw [h], rfl⟩
theorem Nt {H0 : Hp} (hs : oM H0 H) : gZ H0 H0 H = H := by
 funext b
 unfold gZ
 cases h : H0 b with
 | some o => simp only; exact (hs b o h).symm
 | none => simp
end
section
variable {E : fC} {F : Nat → Prop} {ds : List (Option Nat)} {Q : dN} {d : Option Nat} {rest : List Oper} {fr : Fr} {H : Hp} {g : FuncId} {args : List AV} {v : AV}
theorem Xx {H0 : Hp} (hc : tU E g args H0 v) (hs : oM H0 H) (hF : ∀ b, H0 b ≠ none → F b) (h : cK E F ds Q rest (dP fr d v) H) : pJ E F ds Q d rest fr H g args := by
 refine mT hc (eQ.refl _) hs hF fun ae H' ⟨e1, e2⟩ _ => ?_
 subst e1; subst e2
 simp only
 rw [Nt hs]
 exact h
theorem eS {b : Nat} {o : eR} (hc : tU E g args (H1 b o) v) (hb : H b = some o) (hF : ∀ x, F x) (h : cK E F ds Q rest (dP fr d v) H) : pJ E F ds Q d rest fr H g args :=
 Xx hc (dU hb) (fun x _ => hF x) h
end
end Go.Al
