/- The little logic, seventeenth part: regions that draw their order. -/
import Derived.Test.YtcfapbmjaiipjaaDoorAlP
set_option linter.unusedSimpArgs false
set_option linter.unusedVariables false
namespace Go.Al

/-- what an operation's value is, however the others go -/
def Yl (E : Env) (F : Nat → Prop) (ds : List (Option Nat)) (cm : Bool) (o : Oper) (v : AV) (fr : Fr) (H : Hp) : Prop :=
  (aWant ds fr o.guard = some false ∧ v = .tup []) ∨
  (aWant ds fr o.guard = some true ∧ aq E H fr o.op = some v ∧ (cm = true ∨ ∀ x, markOf o.op = some x → ∀ b, atouch (ev E.G fr x) = some b → ¬ F b))
/-- in whatever order -/
def AAny (E : Env) (F : Nat → Prop) (ops : Array Oper) (Q : APost) : Nat → Array Bool → Fr → Hp → Prop
  | 0, L, fr, H => Region.ready .any ops L = [] ∧ Q .normal fr H
  | fuel + 1, L, fr, H => (Region.ready .any ops L = [] → Q .normal fr H) ∧
    ∀ i ∈ Region.ready .any ops L, ∀ o, ops[i]? = some o → aop E F (ops.toList.map (·.dst)) o fr H (AAny E F ops Q fuel (L.setIfInBounds i true)) (fun v H' => Q (.pan v) frU H')
section
variable {E : Env} {F : Nat → Prop} {ops : Array Oper} {Q : APost} {fr : Fr} {H : Hp}

theorem AAny_sound {γ : Start} {N : Nat} (hd : ops.toList.all (dstOk N) = true) : ∀ (fuel : Nat) (L : Array Bool) (fr : Fr) (H : Hp) (a : Act) (w : World), Sim E γ N fr H a w → AAny E F ops Q fuel L fr H → wpAny E.P .any ops (lift E γ N Q) fuel L a w
  | 0, _, fr, H, a, w, hs, h => ⟨h.1, fr, H, hs, h.2⟩
  | fuel + 1, L, fr, H, a, w, hs, h => by
    refine ⟨fun e => ⟨fr, H, hs, h.1 e⟩, fun i hi => ?_⟩
    obtain ⟨_, o, ho, _⟩ := mem_ready.1 hi
    unfold wpOp
    simp only [ho]
    have hdo : dstOk N o = true := by
      rw [List.all_eq_true] at hd
      exact hd o (Array.mem_toList_iff.2 (Array.mem_of_getElem? ho))
    have h1 := hs.1
    exact aop_sound hs hdo (h.2 i hi o ho) (fun fr' H' a' w' hs' hK => AAny_sound hd fuel _ fr' H' a' w' hs' hK) (fun v v' S' H' w' hst hv hK => ⟨h1, v, v', S', H', rfl, hst, hv, hK⟩)

theorem ev_put {d : Option Nat} {v : AV} {x : Operand} (h : ∀ i, d = some i → x ≠ .tmp i) : ev E.G (putF fr d v) x = ev E.G fr x := by
  cases d with
  | none => rfl
  | some i =>
    cases x with
    | tmp t => 
      have : t ≠ i := fun e => h i rfl (by rw [e])
      simp [ev, putF, upd, this]
    | _ => rfl
theorem ops_put {o : Oper} {d : Option Nat} {v : AV} (h : ∀ i, d = some i → i ∉ o.looksAt ops) : ∀ x ∈ o.op.operands, ev E.G (putF fr d v) x = ev E.G fr x := fun x hx => ev_put fun i hi e => h i hi (by
  subst e
  exact List.mem_append_left _ (List.mem_filterMap.2 ⟨.tmp i, by simpa using hx, rfl⟩))
theorem aWant_put {o : Oper} {d : Option Nat} {v : AV} (h : ∀ i, d = some i → i ∉ o.looksAt ops) : aWant (ops.toList.map (·.dst)) (putF fr d v) o.guard = aWant (ops.toList.map (·.dst)) fr o.guard := by
  cases hg : o.guard with
  | none => rfl
  | some g =>
    obtain ⟨j, want⟩ := g
    simp only [aWant]
    split <;> try rfl
    rename_i t ht
    have hne : ∀ i, d = some i → t ≠ i := fun i hi e => h i hi (by
      refine List.mem_append_right _ ?_
      rw [hg]
      rw [List.getElem?_map, Option.map_eq_some_iff] at ht
      obtain ⟨o', ho, e2⟩ := ht
      have ho2 : ops[j]? = some o' := by simpa using ho
      simp only [ho2, Option.bind_some, e2]
      simp [e])
    have : putF fr d v t = fr t := by
      cases d with
      | none => rfl
      | some i => simp [putF, upd, hne i rfl]
    rw [this]
theorem put_comm {d e : Option Nat} {v u : AV} (h : ∀ i, d = some i → e ≠ some i) : putF (putF fr d v) e u = putF (putF fr e u) d v := by
  cases d with
  | none => rfl
  | some i =>
    cases e with
    | none => rfl
    | some j => exact upd_comm _ _ _ fun c => h i rfl (by rw [c])
theorem mark_mem {o : Op} {x : Operand} (h : markOf o = some x) : x ∈ o.operands := by
  cases o <;> simp only [markOf] at h <;> first | (cases h; done) | skip
  all_goals cases h; simp [Op.operands]
theorem aq_stable {o : Op} {H' : Hp} {v : AV} (hc : calm o = true) (h : aq E H fr o = some v) (hag : ∀ x, markOf o = some x → ∀ b, atouch (ev E.G fr x) = some b → H b ≠ none → H' b = H b) : aq E H' fr o = some v := by
  cases o <;> simp only [calm, Bool.false_eq_true] at hc <;> try exact h
  case load t x =>
    simp only [aq, Option.bind_eq_some_iff] at h ⊢
    obtain ⟨ti, h1, h2⟩ := h
    refine ⟨ti, h1, ?_⟩
    have := hag x rfl
    cases e : ev E.G fr x <;> rw [e] at h2 this <;> simp only [aload] at h2 ⊢ <;> try (exact h2)
    rename_i sz b i j
    rw [this b rfl (fun c => by rw [c] at h2; cases h2)]
    exact h2
  case lookup t x k ok =>
    have := hag x rfl
    simp only [aq] at h ⊢
    cases e : ev E.G fr x <;> rw [e] at h this <;> try (exact h)
    rename_i b
    by_cases hb : H b = none
    · simp only [hb] at h
      exfalso
      repeat' (split at h <;> try (cases h; done))
      all_goals simp_all
    · have e3 := this b rfl hb
      simp only [e3]; exact h
  case slice t x lo hi m => cases m <;> simp at hc; exact h
  case call c =>
    obtain ⟨f, args, ts⟩ := c
    cases f with
    | invoke => simp at hc
    | value => simp at hc
    | builtin b => cases b <;> simp at hc <;> exact h
theorem Agree.refl : Agree F H H := fun _ _ _ => rfl
theorem Yl.step {cm : Bool} {oi oj : Oper} {v u : AV} {H' : Hp} (hci : calm oi.op = true) (hap : ∀ d, oj.dst = some d → d ∉ oi.looksAt ops) (hy : Yl E F (ops.toList.map (·.dst)) cm oi v fr H) (hag : Agree F H H') (hcm : cm = true → H' = H) :
    Yl E F (ops.toList.map (·.dst)) cm oi v (putF fr oj.dst u) H' := by
  unfold Yl at *
  rw [aWant_put hap]
  rcases hy with hy | ⟨h1, h2, h3⟩
  · exact .inl hy
  refine .inr ⟨h1, ?_, ?_⟩
  · rw [aq_congr (ops_put hap)]
    cases cm with
    | true => rw [hcm rfl]; exact h2
    | false => exact aq_stable hci h2 fun x hx b hb hne => hag b hne (by simpa using h3 |>.resolve_left (by simp) x hx b hb)
  · refine h3.imp id fun h3 x hx b hb => ?_
    rw [ops_put hap x (mark_mem hx)] at hb
    exact h3 x hx b hb
theorem aop_put {cm : Bool} {oi oj : Oper} {v : AV} {K : Fr → Hp → Prop} {Kp : AV → Hp → Prop} (hap : oi.apart ops oj = true) (hci : calm oi.op = true) (hcm : cm = true → calm oj.op = true) (hy : Yl E F (ops.toList.map (·.dst)) cm oi v fr H)
    (h : aop E F (ops.toList.map (·.dst)) oj (putF fr oi.dst v) H K Kp) : aop E F (ops.toList.map (·.dst)) oj fr H (fun fr' H' => Yl E F (ops.toList.map (·.dst)) cm oi v fr' H' ∧ K (putF fr' oi.dst v) H') Kp := by
  obtain ⟨h1, h2, h3⟩ := Oper.apart_spec hap
  unfold aop at *
  rw [aWant_put h1] at h
  split at h
  · rename_i hw
    rw [astep_congr (ops_put h1)] at h
    cases cm with
    | true =>
      rw [astep_calm (hcm rfl)] at h ⊢
      split at h <;> try (exact h.elim)
      rename_i u hu
      refine ⟨hy.step hci h3 Agree.refl fun _ => rfl, ?_⟩
      rw [← put_comm h2]; exact h
    | false =>
      refine astep_mono (fun u H' hag hK => ⟨hy.step hci h3 hag (by simp), ?_⟩) (fun _ _ h => h) h
      rw [← put_comm h2]; exact hK
  · exact ⟨hy.step hci h3 Agree.refl fun _ => rfl, by rw [← put_comm h2]; exact h⟩
  · exact h
theorem aop_mono {ds : List (Option Nat)} {o : Oper} {K K' : Fr → Hp → Prop} {Kp : AV → Hp → Prop} (hk : ∀ fr H, K fr H → K' fr H) (h : aop E F ds o fr H K Kp) : aop E F ds o fr H K' Kp := by
  unfold aop at *
  split at h
  · exact astep_mono (fun _ _ _ h => hk _ _ h) (fun _ _ h => h) h
  · exact hk _ _ h
  · exact h
theorem Yl.aop {cm : Bool} {o : Oper} {v : AV} {K : Fr → Hp → Prop} {Kp : AV → Hp → Prop} (hc : calm o.op = true) (hy : Yl E F (ops.toList.map (·.dst)) cm o v fr H) (h : K (putF fr o.dst v) H) : Al.aop E F (ops.toList.map (·.dst)) o fr H K Kp := by
  unfold Al.aop
  rcases hy with ⟨h1, rfl⟩ | ⟨h1, h2, _⟩
  · rw [h1]; exact h
  · rw [h1, astep_calm hc, h2]; exact h

theorem AAny_first {i : Nat} {oi : Oper} {v : AV} {cm : Bool} (hi : ops[i]? = some oi) (hci : calm oi.op = true) (W : Nat → Bool) (hW : ∀ j oj, ops[j]? = some oj → W j = true → ∃ e ∈ oj.after, Region.binds .any e = true ∧ (e.on = i ∨ W e.on = true)) :
    ∀ (fuel : Nat) (L : Array Bool) (fr : Fr) (H : Hp),
      (∀ j oj, ops[j]? = some oj → j ≠ i → L.getD j true = false → W j = false → oi.apart ops oj = true ∧ (cm = true → calm oj.op = true)) →
      (∀ j, W j = true → L.getD j false = false) → i ∈ Region.ready .any ops L → Yl E F (ops.toList.map (·.dst)) cm oi v fr H →
      AAny E F ops Q fuel (L.setIfInBounds i true) (putF fr oi.dst v) H → AAny E F ops Q (fuel + 1) L fr H := by
  have first : ∀ {fuel : Nat} {L : Array Bool} {fr : Fr} {H : Hp} {j : Nat} {o : Oper}, ops[j]? = some o → j = i → Yl E F (ops.toList.map (·.dst)) cm oi v fr H → AAny E F ops Q fuel (L.setIfInBounds i true) (putF fr oi.dst v) H →
      Al.aop E F (ops.toList.map (·.dst)) o fr H (AAny E F ops Q fuel (L.setIfInBounds j true)) (fun v H' => Q (.pan v) frU H') := fun {fuel L fr H j o} ho e hy h => by
    subst e
    rw [hi] at ho
    cases ho
    exact hy.aop hci h
  intro fuel
  induction fuel with
  | zero =>
    intro L fr H _ _ hr hy h
    refine ⟨fun e => (by rw [e] at hr; cases hr), fun j hj o ho => ?_⟩
    by_cases hji : j = i
    · exact first ho hji hy h
    · have := ready_mono hj hji
      rw [h.1] at this
      cases this
  | succ fuel ih =>
    intro L fr H hfree hun hr hy h
    refine ⟨fun e => (by rw [e] at hr; cases hr), fun j hj oj hoj => ?_⟩
    by_cases hji : j = i
    · exact first hoj hji hy h
    · obtain ⟨hjun, oj', hoj', hall⟩ := mem_ready.1 hj
      rw [hoj] at hoj'
      cases hoj'
      have hi0 : L.getD i false = false := by
        have h0 := (mem_ready.1 hr).1
        rcases Nat.lt_or_ge i L.size with h' | h'
        · simp [h'] at h0 ⊢; exact h0
        · simp [Array.getElem?_eq_none h']
      have hWj : W j = false := by
        cases e : W j with
        | false => rfl
        | true =>
          obtain ⟨ed, he, hb, hor⟩ := hW j oj hoj e
          have h1 := hall ed he hb
          rcases hor with h2 | h2
          · rw [h2, hi0] at h1; cases h1
          · rw [hun _ h2] at h1; cases h1
      obtain ⟨hap, hcm⟩ := hfree j oj hoj hji hjun hWj
      have h2 := aop_put hap hci hcm hy (h.2 j (ready_mono hj hji) oj hoj)
      refine aop_mono (fun fr' H' h3 => ih (L.setIfInBounds j true) fr' H' (fun k ok hk hki hku hkW => hfree k ok hk hki ?_ hkW) (fun k hk => ?_) (ready_mono hr (Ne.symm hji)) h3.1 ?_) h2
      · by_cases hjk : j = k
        · subst hjk; exact hjun
        · rw [getD_set_ne true hjk] at hku; exact hku
      · have hne : j ≠ k := fun e => by subst e; rw [hWj] at hk; cases hk
        rw [getD_set_ne false hne]; exact hun k hk
      · rw [Array.setIfInBounds_comm _ _ hji]
        exact h3.2

/-! ### the plan: in which order -/
/-- who waits on operation i, be it through others -/
def waiters (ops : Array Oper) (i : Nat) : List Nat := (List.range ops.size).foldl (fun acc j => if (match ops[j]? with | some o => o.after.any (fun e => Region.binds .any e && (e.on == i || acc.contains e.on)) | none => false) then j :: acc else acc) []
def chkW (ops : Array Oper) (i : Nat) (ws : List Nat) (L : Array Bool) : Bool :=
  ws.all fun j => !L.getD j false && match ops[j]? with | some o => o.after.any (fun e => Region.binds .any e && (e.on == i || ws.contains e.on)) | none => true
def chkFree (ops : Array Oper) (i : Nat) (oi : Oper) (cm : Bool) (ws : List Nat) (L : Array Bool) : Bool :=
  (List.range ops.size).all fun j => j == i || L.getD j true || ws.contains j || match ops[j]? with | some oj => oi.apart ops oj && (!cm || calm oj.op) | none => true
def chkD (ops : Array Oper) : Array Bool → List (Nat × Bool) → Bool
  | L, [] => Region.ready .any ops L == []
  | L, (i, cm) :: r => (match ops[i]? with
    | none => false
    | some o => if calm o.op then (Region.ready .any ops L).contains i && chkW ops i (waiters ops i) L && chkFree ops i o cm (waiters ops i) L else Region.ready .any ops L == [i]) && chkD ops (L.setIfInBounds i true) r
/-- the operations in the plan's order, with their marks -/
def emit (ops : List Oper) : List (Nat × Bool) → List Oper
  | [] => []
  | (i, cm) :: r => match ops[i]? with
    | none => []
    | some o => if cm then o :: emit ops r else match markOf o.op with
      | some x => ⟨none, .entry x, o.type, o.pos, o.after, o.guard⟩ :: o :: emit ops r
      | none => o :: emit ops r
theorem calm_cons {N : Nat} {ds : List (Option Nat)} {o : Oper} (hd : dstOk N o = true) (rest : List Oper) {fr : Fr} {H : Hp} (hc : calm o.op = true) (h : awpL E F ds Q (o :: rest) fr H) :
    ∃ v, ((aWant ds fr o.guard = some false ∧ v = .tup []) ∨ (aWant ds fr o.guard = some true ∧ aq E H fr o.op = some v)) ∧ awpL E F ds Q rest (putF fr o.dst v) H := by
  rw [awpL_cons hd] at h
  unfold aop at h
  split at h
  · rename_i hw
    rw [astep_calm hc] at h
    split at h <;> try (exact h.elim)
    rename_i v hv
    exact ⟨v, .inr ⟨hw, hv⟩, h⟩
  · rename_i hw
    exact ⟨_, .inl ⟨hw, rfl⟩, h⟩
  · exact h.elim
theorem AAny_plan {N : Nat} (hd : ops.toList.all (dstOk N) = true) : ∀ (plan : List (Nat × Bool)) (L : Array Bool) (fr : Fr) (H : Hp), chkD ops L plan = true → awpL E F (ops.toList.map (·.dst)) Q (emit ops.toList plan) fr H → AAny E F ops Q plan.length L fr H
  | [], L, fr, H, hc, h => by
    simp only [chkD, beq_iff_eq] at hc
    exact ⟨hc, h⟩
  | (i, cm) :: r, L, fr, H, hc, h => by
    simp only [chkD, Bool.and_eq_true] at hc
    obtain ⟨hc, hr⟩ := hc
    cases ho : ops[i]? with
    | none => rw [ho] at hc; simp at hc
    | some o =>
      simp only [ho] at hc
      have hdo : dstOk N o = true := by
        rw [List.all_eq_true] at hd
        exact hd o (Array.mem_toList_iff.2 (Array.mem_of_getElem? ho))
      have ho2 : ops.toList[i]? = some o := by simpa using ho
      simp only [emit, ho2] at h
      split at hc
      · rename_i hcalm
        simp only [Bool.and_eq_true] at hc
        obtain ⟨⟨h1, h2⟩, h3⟩ := hc
        have go : ∀ v, Yl E F (ops.toList.map (·.dst)) cm o v fr H → awpL E F (ops.toList.map (·.dst)) Q (emit ops.toList r) (putF fr o.dst v) H → AAny E F ops Q (r.length + 1) L fr H := fun v hy hrest => by
          refine AAny_first ho hcalm (fun j => (waiters ops i).contains j) (fun j oj hoj hj => ?_) r.length L fr H (fun j oj hoj hji hju hjW => ?_) (fun j hj => ?_) (by simpa using h1) hy (AAny_plan hd r _ _ _ hr hrest)
          · simp only [chkW, List.all_eq_true] at h2
            have := h2 j (by simpa using hj)
            simp only [hoj, Bool.and_eq_true] at this
            obtain ⟨ed, he, hb⟩ := Array.any_eq_true'.1 this.2
            simp only [Bool.and_eq_true, Bool.or_eq_true, beq_iff_eq] at hb
            exact ⟨ed, he, hb.1, hb.2⟩
          · simp only [chkFree, List.all_eq_true, List.mem_range] at h3
            have := h3 j (Array.getElem?_eq_some_iff.1 hoj).1
            simp only [hoj, hju, hjW, Bool.or_eq_true, beq_iff_eq, hji, Bool.false_eq_true, or_false, false_or, Bool.and_eq_true, Bool.not_eq_true'] at this
            refine ⟨this.1, fun e => ?_⟩
            rcases this.2 with h | h
            · rw [e] at h; cases h
            · exact h
          · simp only [chkW, List.all_eq_true] at h2
            have := h2 j (by simpa using hj)
            simp only [Bool.and_eq_true, Bool.not_eq_true'] at this
            exact this.1
        cases cm with
        | true =>
          simp only [if_true] at h
          obtain ⟨v, hv, hrest⟩ := calm_cons hdo _ hcalm h
          exact go v (hv.imp id fun ⟨a, b⟩ => ⟨a, b, .inl rfl⟩) hrest
        | false =>
          simp only [Bool.false_eq_true, if_false] at h
          split at h
          · rename_i x hx
            simp only [awpL] at h
            split at h
            · rename_i hw
              obtain ⟨hm, h⟩ := h
              obtain ⟨v, hv, hrest⟩ := calm_cons (fr := fr) hdo _ hcalm h
              exact go v (hv.imp id fun ⟨a, b⟩ => ⟨a, b, .inr fun y hy => by rw [hx] at hy; cases hy; exact hm⟩) hrest
            · rename_i hw
              obtain ⟨v, hv, hrest⟩ := calm_cons (fr := fr) hdo _ hcalm h
              exact go v (hv.imp id fun ⟨a, b⟩ => by rw [hw] at a; cases a) hrest
            · exact h.elim
          · rename_i hx
            obtain ⟨v, hv, hrest⟩ := calm_cons hdo _ hcalm h
            exact go v (hv.imp id fun ⟨a, b⟩ => ⟨a, b, .inr fun y hy => by rw [hx] at hy; cases hy⟩) hrest
      · rename_i hcalm
        simp only [beq_iff_eq] at hc
        have h' : awpL E F (ops.toList.map (·.dst)) Q (o :: emit ops.toList r) fr H := by
          split at h
          · exact h
          · split at h
            · rename_i x hx
              exfalso
              cases e : o.op <;> rw [e] at hx hcalm <;> simp [markOf, calm] at hx hcalm
            · exact h
        rw [awpL_cons hdo] at h'
        show AAny E F ops Q (r.length + 1) L fr H
        refine ⟨fun e => (by rw [hc] at e; cases e), fun j hj oj hoj => ?_⟩
        rw [hc] at hj
        simp only [List.mem_singleton] at hj
        subst hj
        rw [ho] at hoj
        cases hoj
        exact aop_mono (fun fr' H' hK => AAny_plan hd r _ fr' H' hr hK) h'
/-- does the plan hold? -/
def chkDraw (N : Nat) (l : List Oper) (plan : List (Nat × Bool)) : Bool := l.all (dstOk N) && plan.length == l.length && chkD l.toArray (Array.replicate l.length false) plan
theorem Sim.drew {γ : Start} {N : Nat} {a : Act} {w : World} (hs : Sim E γ N fr H a w) : Sim E γ N fr H a { w with drawn := w.drawn + 1 } := by
  obtain ⟨h1, h2, S, hst, hf⟩ := hs
  have hk : Keeps S S w { w with drawn := w.drawn + 1 } := hst.keeps (Ext.drew (fun _ => False) w) (fun _ h => h.elim) (fun _ h => h)
  refine ⟨h1, h2, S, ?_, hf.keeps hk⟩
  exact hst.step (Ext.drew (fun _ => False) w) (fun _ h => h.elim) (fun _ h => h) hst.lt (fun k hk => .inl hk) fun b o hb => ⟨(hst.obj b o hb).2.1, .inl ⟨hb, fun h => h⟩⟩
/-- A REGION THAT DRAWS ITS ORDER, by a plan. F: the owned blocks that its operations may touch. -/
theorem awp_region_draw (F : Nat → Prop) (plan : List (Nat × Bool)) {N id : Nat} {l l' : List Oper} (hm : E.P.follows .mixedOrders = true) (hc : chkDraw N l plan = true) (hl : emit l plan = l') (h : awpL E F (l.map (·.dst)) Q l' fr H) : awp E N (.region id l.toArray true) Q fr H := fun γ a w hs => by
  subst hl
  simp only [chkDraw, Bool.and_eq_true, beq_iff_eq] at hc
  obtain ⟨⟨hd, hlen⟩, hc⟩ := hc
  refine wp_region_any hm (AAny_sound (F := F) (by simpa using hd) _ _ fr H a _ hs.drew ?_)
  have := AAny_plan (E := E) (F := F) (Q := Q) (ops := l.toArray) (N := N) (by simpa using hd) plan _ fr H hc (by simpa using h)
  rw [hlen] at this
  simpa using this
end
end Go.Al
