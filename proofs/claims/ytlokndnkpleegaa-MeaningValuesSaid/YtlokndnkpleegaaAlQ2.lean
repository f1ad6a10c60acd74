/- The little logic: regions that draw their order, in two parts: first reads and calls, then what writes. -/
import Derived.Test.YtlokndnkpleegaaAl3
set_option linter.unusedSimpArgs false
set_option linter.unusedVariables false
set_option maxRecDepth 10000
namespace Go.Al
/-- in whatever order, operation j touching blocks of G j alone -/
def AAnyG (E : Env) (G : Nat → Nat → Prop) (ops : Array Oper) (Q : APost) : Nat → Array Bool → Fr → Hp → Prop
  | 0, L, fr, H => Region.ready .any ops L = [] ∧ Q .normal fr H
  | fuel + 1, L, fr, H => (Region.ready .any ops L = [] → Q .normal fr H) ∧
    ∀ i ∈ Region.ready .any ops L, ∀ o, ops[i]? = some o → aop E (G i) (ops.toList.map (·.dst)) o fr H (AAnyG E G ops Q fuel (L.setIfInBounds i true)) (fun v H' => Q (.pan v) frU H')
/-- the parts of a literal, numbered in their order -/
def denseB (len : Nat) (ps : Array (Nat × Operand)) : Bool := ps.toList.map (·.1) == List.range len
theorem dens_of : ∀ (l : List (Nat × Operand)) (k : Nat), l.map (·.1) = List.range' k l.length → densL k (l.map (·.2)) = l
  | [], _, _ => rfl
  | (i, x) :: l, k, h => by
    simp only [List.map_cons, List.length_cons, List.range'_succ, List.cons.injEq] at h
    simp only [List.map_cons, densL, h.1, dens_of l (k + 1) h.2]
theorem dense_spec {len : Nat} {ps : Array (Nat × Operand)} (h : denseB len ps = true) : ps.size = len ∧ (densL 0 (ps.toList.map (·.2))).toArray = ps := by
  simp only [denseB, beq_iff_eq] at h
  have hl : ps.size = len := by have := congrArg List.length h; simpa using this
  refine ⟨hl, ?_⟩
  rw [dens_of ps.toList 0 (by rw [h, List.range_eq_range', Array.length_toList, hl])]
/-- reads, and literals that are sealed at once (2) -/
def calmF (f : Nat) (o : Op) : Bool := if f = 2 then (match o with | .buildSlice _ len ps => denseB len ps | _ => false) else calm o && (f != 3 || (markOf o).isNone)
def Pv (E : Env) (H : Hp) (fr : Fr) (o : Op) (f : Nat) : Option AV := if f = 2 then (match o with | .buildSlice t len ps => (alit E fr t len ps).map fun p => .isl p.1 p.2 | _ => none) else aq E H fr o
/-- what an operation's value is, however the others go -/
def Yf (E : Env) (F : Nat → Prop) (ds : List (Option Nat)) (f : Nat) (o : Oper) (v : AV) (fr : Fr) (H : Hp) : Prop :=
  (aWant ds fr o.guard = some false ∧ v = .tup []) ∨
  (aWant ds fr o.guard = some true ∧ Pv E H fr o.op f = some v ∧ (f = 0 → ∀ x, markOf o.op = some x → ∀ b, atouch (ev E.G fr x) = some b → ¬ F b))
section
variable {E : Env} {F : Nat → Prop} {G : Nat → Nat → Prop} {ops : Array Oper} {Q : APost} {fr : Fr} {H : Hp}
theorem AAnyG_sound {γ : Start} {N : Nat} (hd : ops.toList.all (dstOk N) = true) : ∀ (fuel : Nat) (L : Array Bool) (fr : Fr) (H : Hp) (a : Act) (w : World), Sim E γ N fr H a w → AAnyG E G ops Q fuel L fr H → wpAny E.P .any ops (lift E γ N Q) fuel L a w
  | 0, _, fr, H, a, w, hs, h => ⟨h.1, fr, H, hs, h.2⟩
  | fuel + 1, L, fr, H, a, w, hs, h => by
    refine ⟨fun e => ⟨fr, H, hs, h.1 e⟩, fun i hi => ?_⟩
    obtain ⟨_, o, ho, _⟩ := mem_ready.1 hi
    unfold wpOp
    simp only [ho]
    have hdo : dstOk N o = true := by
      rw [List.all_eq_true] at hd
      exact hd o (Array.mem_toList_iff.2 (Array.mem_of_getElem? ho))
    have h1 := hs.1
    exact aop_sound hs hdo (h.2 i hi o ho) (fun fr' H' a' w' hs' hK => AAnyG_sound hd fuel _ fr' H' a' w' hs' hK) (fun v v' S' H' w' hst hv hK => ⟨h1, v, v', S', H', rfl, hst, hv, hK⟩)
theorem Yf.step {f : Nat} {oi oj : Oper} {v u : AV} {H' : Hp} (hci : calmF f oi.op = true) (hap : ∀ d, oj.dst = some d → d ∉ oi.looksAt ops) (hy : Yf E F (ops.toList.map (·.dst)) f oi v fr H) (hag : f = 0 → Agree F H H') (hcm : f ≠ 0 → f ≠ 2 → f ≠ 3 → H' = H) :
    Yf E F (ops.toList.map (·.dst)) f oi v (putF fr oj.dst u) H' := by
  unfold Yf at *
  rw [aWant_put hap]
  rcases hy with hy | ⟨h1, h2, h3⟩
  · exact .inl hy
  refine .inr ⟨h1, ?_, ?_⟩
  · by_cases e2 : f = 2
    · subst e2
      simp only [Pv, if_true] at h2 ⊢
      obtain ⟨dst, op, ty, pos, af, g⟩ := oi
      cases op <;> simp only [reduceCtorEq] at h2 ⊢
      rename_i t len ps
      have hc := ops_put (E := E) (fr := fr) (v := u) hap
      simp only [Op.operands] at hc
      rw [← h2]
      have key : ∀ size, aparts E (putF fr oj.dst u) size 0 ps.toList = aparts E fr size 0 ps.toList := fun size => aparts_congr ps.toList 0 fun p hp => hc p.2 (by
        simp only [List.mem_toArray, List.mem_map]; exact ⟨p, hp, rfl⟩)
      simp only [alit, key]
    · simp only [Pv, if_neg e2] at h2 ⊢
      simp only [calmF, if_neg e2, Bool.and_eq_true] at hci
      rw [aq_congr (ops_put hap)]
      by_cases e0 : f = 0
      · exact aq_stable hci.1 h2 fun x hx b hb hne => hag e0 b hne (h3 e0 x hx b hb)
      · by_cases e3 : f = 3
        · refine aq_stable hci.1 h2 fun x hx => ?_
          have := hci.2
          rw [e3, hx] at this
          simp at this
        · rw [hcm e0 e2 e3]; exact h2
  · intro e0 x hx b hb
    rw [ops_put hap x (mark_mem hx)] at hb
    exact h3 e0 x hx b hb
theorem aop_putG {f : Nat} {F' : Nat → Prop} {oi oj : Oper} {v : AV} {K : Fr → Hp → Prop} {Kp : AV → Hp → Prop} (hap : oi.apart ops oj = true) (hci : calmF f oi.op = true) (hcm : f ≠ 0 → f ≠ 2 → f ≠ 3 → calm oj.op = true) (hF : f = 0 → F' = F) (hy : Yf E F (ops.toList.map (·.dst)) f oi v fr H)
    (h : aop E F' (ops.toList.map (·.dst)) oj (putF fr oi.dst v) H K Kp) : aop E F' (ops.toList.map (·.dst)) oj fr H (fun fr' H' => Yf E F (ops.toList.map (·.dst)) f oi v fr' H' ∧ K (putF fr' oi.dst v) H') Kp := by
  obtain ⟨h1, h2, h3⟩ := Oper.apart_spec hap
  unfold aop at *
  rw [aWant_put h1] at h
  split at h
  · rename_i hw
    rw [astep_congr (ops_put h1)] at h
    by_cases hf : f ≠ 0 ∧ f ≠ 2 ∧ f ≠ 3
    · rw [astep_calm (hcm hf.1 hf.2.1 hf.2.2)] at h ⊢
      split at h <;> try (exact h.elim)
      rename_i u hu
      refine ⟨hy.step hci h3 (fun _ => Agree.refl) fun _ _ _ => rfl, ?_⟩
      rw [← put_comm h2]; exact h
    · refine astep_mono (fun u H' hag hK => ⟨hy.step hci h3 (fun e => by rw [← hF e]; exact hag) (fun a b c => absurd ⟨a, b, c⟩ hf), ?_⟩) (fun _ _ h => h) h
      rw [← put_comm h2]; exact hK
  · exact ⟨hy.step hci h3 (fun _ => Agree.refl) fun _ _ _ => rfl, by rw [← put_comm h2]; exact h⟩
  · exact h
theorem Yf.aop {f : Nat} {F' : Nat → Prop} {o : Oper} {v : AV} {K : Fr → Hp → Prop} {Kp : AV → Hp → Prop} (hc : calmF f o.op = true) (hy : Yf E F (ops.toList.map (·.dst)) f o v fr H) (h : K (putF fr o.dst v) H) : Al.aop E F' (ops.toList.map (·.dst)) o fr H K Kp := by
  unfold Al.aop
  rcases hy with ⟨h1, rfl⟩ | ⟨h1, h2, _⟩
  · rw [h1]; exact h
  · rw [h1]
    by_cases e2 : f = 2
    · subst e2
      simp only [Pv, if_true] at h2
      obtain ⟨dst, op, ty, pos, af, g⟩ := o
      cases op <;> simp only [reduceCtorEq] at h2
      rw [Option.map_eq_some_iff] at h2
      obtain ⟨p, hp, rfl⟩ := h2
      simp only [astep, hp]
      exact .inl h
    · simp only [Pv, if_neg e2] at h2
      simp only [calmF, if_neg e2, Bool.and_eq_true] at hc
      simp only
      rw [astep_calm hc.1, h2]; exact h
theorem AAnyG_first {i : Nat} {oi : Oper} {v : AV} {f : Nat} (hi : ops[i]? = some oi) (hci : calmF f oi.op = true) (W : Nat → Bool) (hW : ∀ j oj, ops[j]? = some oj → W j = true → ∃ e ∈ oj.after, Region.binds .any e = true ∧ (e.on = i ∨ W e.on = true)) :
    ∀ (fuel : Nat) (L : Array Bool) (fr : Fr) (H : Hp),
      (∀ j oj, ops[j]? = some oj → j ≠ i → L.getD j true = false → W j = false → oi.apart ops oj = true ∧ (f ≠ 0 → f ≠ 2 → f ≠ 3 → calm oj.op = true) ∧ (f = 0 → G j = F)) →
      (∀ j, W j = true → L.getD j false = false) → i ∈ Region.ready .any ops L → Yf E F (ops.toList.map (·.dst)) f oi v fr H →
      AAnyG E G ops Q fuel (L.setIfInBounds i true) (putF fr oi.dst v) H → AAnyG E G ops Q (fuel + 1) L fr H := by
  have first : ∀ {fuel : Nat} {L : Array Bool} {fr : Fr} {H : Hp} {j : Nat} {o : Oper}, ops[j]? = some o → j = i → Yf E F (ops.toList.map (·.dst)) f oi v fr H → AAnyG E G ops Q fuel (L.setIfInBounds i true) (putF fr oi.dst v) H →
      Al.aop E (G j) (ops.toList.map (·.dst)) o fr H (AAnyG E G ops Q fuel (L.setIfInBounds j true)) (fun v H' => Q (.pan v) frU H') := fun {fuel L fr H j o} ho e hy h => by
    subst e
    rw [hi] at ho
    cases ho
    exact hy.aop hci h
  intro fuel
  induction fuel with
  | zero =>
    intro L fr H _ _ hr hy h
    refine ⟨fun e => (by rw [e] at hr; cases hr), fun j hj o ho => ?_⟩
    by_cases hji : j = i
    · exact first ho hji hy h
    · have := ready_mono hj hji
      rw [h.1] at this
      cases this
  | succ fuel ih =>
    intro L fr H hfree hun hr hy h
    refine ⟨fun e => (by rw [e] at hr; cases hr), fun j hj oj hoj => ?_⟩
    by_cases hji : j = i
    · exact first hoj hji hy h
    · obtain ⟨hjun, oj', hoj', hall⟩ := mem_ready.1 hj
      rw [hoj] at hoj'
      cases hoj'
      have hi0 : L.getD i false = false := by
        have h0 := (mem_ready.1 hr).1
        rcases Nat.lt_or_ge i L.size with h' | h'
        · simp [h'] at h0 ⊢; exact h0
        · simp [Array.getElem?_eq_none h']
      have hWj : W j = false := by
        cases e : W j with
        | false => rfl
        | true =>
          obtain ⟨ed, he, hb, hor⟩ := hW j oj hoj e
          have h1 := hall ed he hb
          rcases hor with h2 | h2
          · rw [h2, hi0] at h1; cases h1
          · rw [hun _ h2] at h1; cases h1
      obtain ⟨hap, hcm, hG⟩ := hfree j oj hoj hji hjun hWj
      have h2 := aop_putG hap hci hcm hG hy (h.2 j (ready_mono hj hji) oj hoj)
      refine aop_mono (fun fr' H' h3 => ih (L.setIfInBounds j true) fr' H' (fun k ok hk hki hku hkW => hfree k ok hk hki ?_ hkW) (fun k hk => ?_) (ready_mono hr (Ne.symm hji)) h3.1 ?_) h2
      · by_cases hjk : j = k
        · subst hjk; exact hjun
        · rw [getD_set_ne true hjk] at hku; exact hku
      · have hne : j ≠ k := fun e => by subst e; rw [hWj] at hk; cases hk
        rw [getD_set_ne false hne]; exact hun k hk
      · rw [Array.setIfInBounds_comm _ _ hji]
        exact h3.2
/-- the plan of the first part; T: the operations of the second part; 0: a marked read, 1: a read, 2: a sealed literal, 3: an operation that reads no memory -/
def chkFreeT (ops : Array Oper) (T : List Nat) (i : Nat) (oi : Oper) (f : Nat) (ws : List Nat) (L : Array Bool) : Bool :=
  (List.range ops.size).all fun j => j == i || L.getD j true || ws.contains j || match ops[j]? with | some oj => oi.apart ops oj && (f == 0 || f == 2 || f == 3 || calm oj.op) && (f != 0 || !T.contains j) | none => true
def chkT (ops : Array Oper) (T : List Nat) : Array Bool → List (Nat × Nat) → Bool
  | _, [] => true
  | L, (i, f) :: r => (match ops[i]? with
    | none => false
    | some o => !T.contains i && if calmF f o.op then (Region.ready .any ops L).contains i && chkW ops i (waiters ops i) L && chkFreeT ops T i o f (waiters ops i) L else f != 2 && Region.ready .any ops L == [i]) && chkT ops T (L.setIfInBounds i true) r
def doneL (L : Array Bool) : List (Nat × Nat) → Array Bool
  | [] => L
  | (i, _) :: r => doneL (L.setIfInBounds i true) r
/-- the operations in the plan's order, with their marks -/
def emitF (ops : List Oper) : List (Nat × Nat) → List Oper
  | [] => []
  | (i, f) :: r => match ops[i]? with
    | none => []
    | some o => match f with
      | 0 => match markOf o.op with
        | some x => ⟨none, .entry x, o.type, o.pos, o.after, o.guard⟩ :: o :: emitF ops r
        | none => o :: emitF ops r
      | 2 => match o.op with
        | .buildSlice t _ ps => ⟨o.dst, .go ⟨.value (.func 0), (ps.toList.map (·.2)).toArray, #[t]⟩, o.type, o.pos, o.after, o.guard⟩ :: emitF ops r
        | _ => []
      | _ => o :: emitF ops r
theorem AAnyG_plan {T : List Nat} {m N : Nat} (hG : ∀ j, T.contains j = false → G j = F) (hd : ops.toList.all (dstOk N) = true) : ∀ (plan : List (Nat × Nat)) (L : Array Bool) (fr : Fr) (H : Hp), chkT ops T L plan = true →
    awpL E F (ops.toList.map (·.dst)) (thenQ (fun fr' H' => AAnyG E G ops Q m (doneL L plan) fr' H') Q) (emitF ops.toList plan) fr H → AAnyG E G ops Q (plan.length + m) L fr H
  | [], L, fr, H, hc, h => by
    simp only [emitF, doneL, List.length_nil, Nat.zero_add] at h ⊢
    exact h
  | (i, f) :: r, L, fr, H, hc, h => by
    simp only [chkT, Bool.and_eq_true] at hc
    obtain ⟨hc, hr⟩ := hc
    simp only [doneL] at h
    rw [show ((i, f) :: r).length + m = (r.length + m) + 1 by simp only [List.length_cons]; omega]
    cases ho : ops[i]? with
    | none => rw [ho] at hc; simp at hc
    | some o =>
      simp only [ho, Bool.and_eq_true, Bool.not_eq_true'] at hc
      obtain ⟨hT, hc⟩ := hc
      have hdo : dstOk N o = true := by
        rw [List.all_eq_true] at hd
        exact hd o (Array.mem_toList_iff.2 (Array.mem_of_getElem? ho))
      have ho2 : ops.toList[i]? = some o := by simpa using ho
      simp only [emitF, ho2] at h
      split at hc
      · rename_i hcalm
        simp only [Bool.and_eq_true] at hc
        obtain ⟨⟨h1, h2⟩, h3⟩ := hc
        have go : ∀ v, Yf E F (ops.toList.map (·.dst)) f o v fr H → awpL E F (ops.toList.map (·.dst)) (thenQ (fun fr' H' => AAnyG E G ops Q m (doneL (L.setIfInBounds i true) r) fr' H') Q) (emitF ops.toList r) (putF fr o.dst v) H → AAnyG E G ops Q (r.length + m + 1) L fr H := fun v hy hrest => by
          refine AAnyG_first (F := F) ho hcalm (fun j => (waiters ops i).contains j) (fun j oj hoj hj => ?_) (r.length + m) L fr H (fun j oj hoj hji hju hjW => ?_) (fun j hj => ?_) (by simpa using h1) hy (AAnyG_plan hG hd r _ _ _ hr hrest)
          · simp only [chkW, List.all_eq_true] at h2
            have := h2 j (by simpa using hj)
            simp only [hoj, Bool.and_eq_true] at this
            obtain ⟨ed, he, hb⟩ := Array.any_eq_true'.1 this.2
            simp only [Bool.and_eq_true, Bool.or_eq_true, beq_iff_eq] at hb
            exact ⟨ed, he, hb.1, hb.2⟩
          · simp only [chkFreeT, List.all_eq_true, List.mem_range] at h3
            have := h3 j (Array.getElem?_eq_some_iff.1 hoj).1
            simp only [hoj, hju, hjW, Bool.or_eq_true, beq_iff_eq, hji, Bool.false_eq_true, or_false, false_or, Bool.and_eq_true, Bool.not_eq_true', bne_iff_ne] at this
            refine ⟨this.1.1, fun e e' e'' => ?_, fun e => hG j ?_⟩
            · rcases this.1.2 with ((h | h) | h) | h
              · exact absurd h e
              · exact absurd h e'
              · exact absurd h e''
              · exact h
            · rcases this.2 with h | h
              · exact absurd e h
              · exact h
          · simp only [chkW, List.all_eq_true] at h2
            have := h2 j (by simpa using hj)
            simp only [Bool.and_eq_true, Bool.not_eq_true'] at this
            exact this.1
        by_cases e0 : f = 0
        · subst e0
          have hcalm' : calm o.op = true := by simpa [calmF] using hcalm
          have pv : ∀ fr, Pv E H fr o.op 0 = aq E H fr o.op := fun fr => by simp [Pv]
          simp only at h
          split at h
          · rename_i x hx
            simp only [awpL] at h
            split at h
            · rename_i hw
              obtain ⟨hm, h⟩ := h
              obtain ⟨v, hv, hrest⟩ := calm_cons (fr := fr) hdo _ hcalm' h
              exact go v (hv.imp id fun ⟨a, b⟩ => ⟨a, by rw [pv]; exact b, fun _ y hy => by rw [hx] at hy; cases hy; exact hm⟩) hrest
            · rename_i hw
              obtain ⟨v, hv, hrest⟩ := calm_cons (fr := fr) hdo _ hcalm' h
              exact go v (hv.imp id fun ⟨a, b⟩ => by rw [hw] at a; cases a) hrest
            · exact h.elim
          · rename_i hx
            obtain ⟨v, hv, hrest⟩ := calm_cons hdo _ hcalm' h
            exact go v (hv.imp id fun ⟨a, b⟩ => ⟨a, by rw [pv]; exact b, fun _ y hy => by rw [hx] at hy; cases hy⟩) hrest
        · by_cases e2 : f = 2
          · subst e2
            obtain ⟨dst, op, ty, pos, af, g⟩ := o
            simp only [calmF, if_true] at hcalm
            cases op <;> simp only [Bool.false_eq_true] at hcalm
            rename_i t len ps
            obtain ⟨d1, d2⟩ := dense_spec hcalm
            simp only [awpL] at h
            split at h
            · rename_i hw
              split at h
              · rename_i v hv
                refine go v (.inr ⟨hw, ?_, fun e => absurd e (by decide)⟩) h
                simp only [Pv, if_true]
                rw [← hv]
                simp only [asl, d2]
                rw [show ((ps.toList.map (·.2)).toArray).size = len by simpa using d1]
              · exact h.elim
            · rename_i hw
              exact go _ (.inl ⟨hw, rfl⟩) h
            · exact h.elim
          · have hcalm' : calm o.op = true := by simp only [calmF, if_neg e2, Bool.and_eq_true] at hcalm; exact hcalm.1
            have h' : awpL E F (ops.toList.map (·.dst)) (thenQ (fun fr' H' => AAnyG E G ops Q m (doneL (L.setIfInBounds i true) r) fr' H') Q) (o :: emitF ops.toList r) fr H := by
              split at h
              · exact absurd rfl e0
              · exact absurd rfl e2
              · exact h
            obtain ⟨v, hv, hrest⟩ := calm_cons hdo _ hcalm' h'
            exact go v (hv.imp id fun ⟨a, b⟩ => ⟨a, by simp only [Pv, if_neg e2]; exact b, fun e => absurd e e0⟩) hrest
      · rename_i hcalm
        simp only [Bool.and_eq_true, bne_iff_ne, beq_iff_eq] at hc
        obtain ⟨e2, hc⟩ := hc
        have h' : awpL E F (ops.toList.map (·.dst)) (thenQ (fun fr' H' => AAnyG E G ops Q m (doneL (L.setIfInBounds i true) r) fr' H') Q) (o :: emitF ops.toList r) fr H := by
          split at h
          · split at h
            · rename_i x hx
              exfalso
              simp only [calmF] at hcalm
              cases e : o.op <;> rw [e] at hx hcalm <;> simp [markOf, calm] at hx hcalm
            · exact h
          · exact absurd rfl e2
          · exact h
        rw [awpL_cons hdo] at h'
        refine ⟨fun e => (by rw [hc] at e; cases e), fun j hj oj hoj => ?_⟩
        rw [hc] at hj
        simp only [List.mem_singleton] at hj
        subst hj
        rw [ho] at hoj
        cases hoj
        rw [hG j hT]
        exact aop_mono (fun fr' H' hK => AAnyG_plan hG hd r _ fr' H' hr hK) h'
theorem doneL_size : ∀ (p : List (Nat × Nat)) (L : Array Bool), (doneL L p).size = L.size
  | [], L => rfl
  | (i, c) :: r, L => by rw [doneL, doneL_size r]; simp
theorem awpL_mono {ds : List (Option Nat)} {Q Q' : APost} (hQ : ∀ e fr H, Q e fr H → Q' e fr H) : ∀ (l : List Oper) (fr : Fr) (H : Hp), awpL E F ds Q l fr H → awpL E F ds Q' l fr H
  | [], fr, H, h => hQ _ _ _ h
  | o :: r, fr, H, h => by
    have key : ∀ fr H, aop E F ds o fr H (awpL E F ds Q r) (fun v H' => Q (.pan v) frU H') → aop E F ds o fr H (awpL E F ds Q' r) (fun v H' => Q' (.pan v) frU H') := fun fr H h => by
      unfold aop at *
      split at h
      · exact astep_mono (fun _ _ _ h => awpL_mono hQ r _ _ h) (fun _ _ h => hQ _ _ _ h) h
      · exact awpL_mono hQ r _ _ h
      · exact h
    unfold awpL at h ⊢
    split at h
    · split at h
      · exact ⟨h.1, awpL_mono hQ r _ _ h.2⟩
      · exact awpL_mono hQ r _ _ h
      · exact h
    · split at h
      · split at h
        · exact awpL_mono hQ r _ _ h
        · exact h
      · exact awpL_mono hQ r _ _ h
      · exact h
    · exact key _ _ h
def chkDraw2 (N : Nat) (l : List Oper) (plan plan2 : List (Nat × Nat)) : Bool :=
  l.all (dstOk N) && plan.length + plan2.length == l.length && chkT l.toArray (plan2.map (·.1)) (Array.replicate l.length false) plan && chkT l.toArray [] (doneL (Array.replicate l.length false) plan) (plan2.map fun p => (p.1, if p.2 = 2 then 2 else 1)) && Region.ready .any l.toArray (doneL (doneL (Array.replicate l.length false) plan) (plan2.map fun p => (p.1, if p.2 = 2 then 2 else 1))) == [] && (List.range l.length).all fun j => (doneL (Array.replicate l.length false) plan).getD j true || (plan2.map (·.1)).contains j
/-- A REGION THAT DRAWS ITS ORDER, by two plans, one behind the other; only in the second one is what lies outside F written. -/
theorem awp_region_draw2 (F : Nat → Prop) (plan plan2 : List (Nat × Nat)) {N id : Nat} {l l1 l2 : List Oper} (hm : E.P.follows .mixedOrders = true) (hc : chkDraw2 N l plan plan2 = true) (hl : emitF l plan = l1) (hl2 : emitF l (plan2.map fun p => (p.1, if p.2 = 2 then 2 else 1)) = l2)
    (h : awpL E F (l.map (·.dst)) (thenQ (fun fr' H' => awpL E (fun _ => True) (l.map (·.dst)) Q l2 fr' H') Q) l1 fr H) : awp E N (.region id l.toArray true) Q fr H := fun γ a w hs => by
  subst hl; subst hl2
  simp only [chkDraw2, Bool.and_eq_true, beq_iff_eq] at hc
  obtain ⟨⟨⟨⟨⟨hd, hlen⟩, hc1⟩, hc2⟩, hc3⟩, hc4⟩ := hc
  have hd' : l.toArray.toList.all (dstOk N) = true := by simpa using hd
  refine wp_region_any hm (AAnyG_sound (G := fun j => if (plan2.map (·.1)).contains j then fun _ => True else F) hd' _ _ fr H a _ hs.drew ?_)
  have key : ∀ fr' H', awpL E (fun _ => True) (l.map (·.dst)) Q (emitF l (plan2.map fun p => (p.1, if p.2 = 2 then 2 else 1))) fr' H' → AAnyG E (fun j => if (plan2.map (·.1)).contains j then fun _ => True else F) l.toArray Q plan2.length (doneL (Array.replicate l.length false) plan) fr' H' := fun fr' H' h' => by
    have mono : ∀ (n : Nat) (L : Array Bool) fr H, AAnyG E (fun _ _ => True) l.toArray Q n L fr H → (∀ j, L.getD j true = false → (plan2.map (·.1)).contains j = true) → AAnyG E (fun j => if (plan2.map (·.1)).contains j then fun _ => True else F) l.toArray Q n L fr H := by
      intro n
      induction n with
      | zero => intro L fr H h _; exact h
      | succ n ih =>
        intro L fr H h hT
        refine ⟨h.1, fun i hi o ho => ?_⟩
        have hun := (mem_ready.1 hi).1
        show aop E (if (plan2.map (·.1)).contains i = true then fun _ => True else F) _ _ _ _ _ _
        rw [if_pos (hT i hun)]
        refine aop_mono (fun fr' H' h3 => ih _ _ _ h3 fun j hj => ?_) (h.2 i hi o ho)
        by_cases e : i = j
        · subst e; exact hT i hun
        · rw [getD_set_ne true e] at hj; exact hT j hj
    refine mono _ _ _ _ ?_ ?_
    · have := AAnyG_plan (E := E) (F := fun _ => True) (G := fun _ _ => True) (Q := Q) (ops := l.toArray) (N := N) (m := 0) (fun _ _ => rfl) hd' (plan2.map fun p => (p.1, if p.2 = 2 then 2 else 1)) _ fr' H' hc2 (by
        refine awpL_mono (Q := Q) ?_ _ _ _ (by simpa using h')
        intro e fr'' H'' he
        cases e <;> first | exact ⟨hc3, he⟩ | exact he)
      simpa using this
    · intro j hj
      have hs : (doneL (Array.replicate l.length false) plan).size = l.length := by rw [doneL_size, Array.size_replicate]
      have hjl : j < l.length := by
        rcases Nat.lt_or_ge j l.length with h | h
        · exact h
        · rw [Array.getD_eq_getD_getElem?, Array.getElem?_eq_none (by omega)] at hj; cases hj
      have := List.all_eq_true.1 hc4 j (List.mem_range.2 hjl)
      rw [hj, Bool.false_or] at this
      exact this
  have := AAnyG_plan (E := E) (F := F) (G := fun j => if (plan2.map (·.1)).contains j then fun _ => True else F) (Q := Q) (ops := l.toArray) (N := N) (m := plan2.length) (T := plan2.map (·.1)) (fun j hj => by rw [hj]; rfl) hd' plan _ fr H hc1 (by
    refine awpL_mono (Q := thenQ (fun fr' H' => awpL E (fun _ => True) (l.map (·.dst)) Q (emitF l (plan2.map fun p => (p.1, if p.2 = 2 then 2 else 1))) fr' H') Q) ?_ _ _ _ (by simpa using h)
    intro e fr'' H'' he
    cases e <;> first | exact key _ _ he | exact he)
  rw [hlen] at this
  simpa using this
end
end Go.Al
