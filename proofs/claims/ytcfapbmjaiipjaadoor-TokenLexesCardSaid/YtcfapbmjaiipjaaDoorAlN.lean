/- The little logic, fourteenth part: lists of operations, one behind the other; code; entering a function. -/
import Derived.Test.YtcfapbmjaiipjaaDoorAlM
set_option linter.unusedSimpArgs false
set_option linter.unusedVariables false
namespace Go.Al

/-- A frame and a world of the model stand for an abstract frame and what is owned. N: the frame's slots. -/
def Sim (E : Env) (γ : Start) (N : Nat) (fr : Fr) (H : Hp) (a : Act) (w : World) : Prop :=
  a.defers = [] ∧ a.tmps.size = N ∧ ∃ S, St E γ S H w ∧ FRel S w fr a

inductive AExit where
  | normal
  | exit (id : Nat)
  | ret
  | pan (v : AV)
abbrev APost := AExit → Fr → Hp → Prop
def frU : Fr := fun _ => .undef
/-- what an abstract postcondition says of the model's exits -/
def lift (E : Env) (γ : Start) (N : Nat) (Q : APost) : Exit → Act → World → Prop
  | .normal, a, w => ∃ fr H, Sim E γ N fr H a w ∧ Q .normal fr H
  | .exit id, a, w => ∃ fr H, Sim E γ N fr H a w ∧ Q (.exit id) fr H
  | .ret, a, w => ∃ fr H, Sim E γ N fr H a w ∧ Q .ret fr H
  | .panic chain, a, w => a.defers = [] ∧ ∃ v v' S H, chain = [{ v := v', recovered := false }] ∧ St E γ S H w ∧ VRel S w v v' ∧ Q (.pan v) frU H
  | _, _, _ => False

/-- is an operation wanted? (its guard) -/
def aWant (ds : List (Option Nat)) (fr : Fr) (g : Option (Nat × Bool)) : Option Bool :=
  match g with
  | none => some true
  | some (j, want) => match ds[j]? with
    | some (some d) => match fr d with
      | .bool b => some (b == want)
      | .tup _ => some false
      | _ => none
    | _ => none
theorem aWant_sound {S : Seal} {w : World} {fr : Fr} {a : Act} (hf : FRel S w fr a) {ops : Array Oper} {o : Oper} {b : Bool} (h : aWant (ops.toList.map (·.dst)) fr o.guard = some b) : Region.wanted o (yielded ops a.tmps) = b := by
  unfold aWant at h
  unfold Region.wanted
  split at h
  · rename_i hg; rw [hg]; simpa using h
  · rename_i j want hg
    rw [hg]
    split at h <;> first | (cases h; done) | skip
    rename_i d hd
    have hd2 : (ops[j]?).bind (·.dst) = some d := by
      rw [List.getElem?_map, Option.map_eq_some_iff] at hd
      obtain ⟨o', ho, e⟩ := hd
      have : ops[j]? = some o' := by simpa using ho
      rw [this]; exact e
    have ht := hf d
    simp only [yielded, hd2]
    split at h <;> first | (cases h; done) | skip
    · rename_i b' e
      cases h
      rw [e] at ht
      simp only [VRel] at ht
      have hsome : a.tmps[d]? = some (.bool b') := by
        simp only [Array.getD_eq_getD_getElem?] at ht
        cases hh : a.tmps[d]? with
        | none => rw [hh] at ht; simp [Go.undef] at ht
        | some x => rw [hh] at ht; simp at ht; rw [ht]
      simp only [Option.bind_some, hsome]
      cases b' <;> cases want <;> rfl
    · rename_i vs e
      cases h
      rw [e] at ht
      simp only [VRel] at ht
      obtain ⟨us, ht, _⟩ := ht
      have : (a.tmps[d]?) = none ∨ ∃ us', a.tmps[d]? = some (.tuple us') := by
        simp only [Array.getD_eq_getD_getElem?] at ht
        cases hh : a.tmps[d]? with
        | none => exact .inl rfl
        | some x => rw [hh] at ht; simp at ht; exact .inr ⟨_, by rw [ht]⟩
      rcases this with hh | ⟨us', hh⟩ <;> simp [hh]

/-- one operation of a list -/
def aop (E : Env) (okf : Nat → Prop) (ds : List (Option Nat)) (o : Oper) (fr : Fr) (H : Hp) (K : Fr → Hp → Prop) (Kp : AV → Hp → Prop) : Prop :=
  match aWant ds fr o.guard with
  | some true => astep E okf o.op fr H (fun v H' => K (putF fr o.dst v) H') Kp
  | some false => K (putF fr o.dst (.tup [])) H
  | none => False
/-- the owned block that a pointer or a map names -/
def atouch : AV → Option Nat
  | .ptr _ b _ _ => some b
  | .mp b => some b
  | _ => none
/-- Operations one behind the other. An `entry` (a kind that the logic does not take) stands for a mark: what its operand names lies outside F, the blocks that the operations may touch. -/
def awpL (E : Env) (F : Nat → Prop) (ds : List (Option Nat)) (Q : APost) : List Oper → Fr → Hp → Prop
  | [], fr, H => Q .normal fr H
  | o :: rest, fr, H => match o.op with
    | .entry x => match aWant ds fr o.guard with
      | some true => (∀ b, atouch (ev E.G fr x) = some b → ¬ F b) ∧ awpL E F ds Q rest (putF fr o.dst (.tup [])) H
      | some false => awpL E F ds Q rest (putF fr o.dst (.tup [])) H
      | none => False
    | _ => aop E F ds o fr H (awpL E F ds Q rest) (fun v H' => Q (.pan v) frU H')
def dstOk (N : Nat) (o : Oper) : Bool := (match o.op with | .entry _ => false | _ => true) && match o.dst with | some d => decide (d < N) | none => true
theorem awpL_cons {E : Env} {F : Nat → Prop} {ds : List (Option Nat)} {Q : APost} {N : Nat} {o : Oper} (h : dstOk N o = true) (rest : List Oper) (fr : Fr) (H : Hp) :
    awpL E F ds Q (o :: rest) fr H = aop E F ds o fr H (awpL E F ds Q rest) (fun v H' => Q (.pan v) frU H') := by
  obtain ⟨d, op, ty, pos, af, g⟩ := o
  cases op <;> first | rfl | (simp [dstOk] at h; done)

section
variable {E : Env} {γ : Start} {N : Nat} {fr : Fr} {H : Hp} {a : Act} {w : World}
theorem dstOk_lt {o : Oper} (h : dstOk N o = true) {i : Nat} (hi : o.dst = some i) : i < N := by
  simp only [dstOk, hi, Bool.and_eq_true, decide_eq_true_eq] at h; exact h.2
theorem Sim.put {S : Seal} (hst : St E γ S H w) (hf : FRel S w fr a) (h1 : a.defers = []) (h2 : a.tmps.size = N) {o : Oper} (hd : dstOk N o = true) {v : AV} {v' : Value} (hv : VRel S w v v') : Sim E γ N (putF fr o.dst v) H (a.put o.dst v') w := by
  refine ⟨?_, ?_, S, hst, hf.put (fun i hi => ?_) hv⟩
  · cases o.dst <;> exact h1
  · cases o.dst <;> simp [Act.put, h2]
  · rw [h2]; exact dstOk_lt hd hi
theorem aop_sound (hs : Sim E γ N fr H a w) {okf : Nat → Prop} {ops : Array Oper} {o : Oper} (hd : dstOk N o = true) {K : Fr → Hp → Prop} {Kp : AV → Hp → Prop} (h : aop E okf (ops.toList.map (·.dst)) o fr H K Kp)
    {next : Act → World → Prop} {Q : Exit → Act → World → Prop} (hn : ∀ fr' H' a' w', Sim E γ N fr' H' a' w' → K fr' H' → next a' w')
    (hq : ∀ v v' S' H' w', St E γ S' H' w' → VRel S' w' v v' → Kp v H' → Q (.panic [{ v := v', recovered := false }]) a w') :
    if Region.wanted o (yielded ops a.tmps) then o.wp E.P a w next Q ∨ (o.asks E.P a w ∧ LetsOut Q) else next (a.put o.dst Go.undef) w := by
  obtain ⟨h1, h2, S, hst, hf⟩ := hs
  unfold aop at h
  split at h
  · rename_i hw
    rw [if_pos (aWant_sound hf hw)]
    left
    obtain ⟨dst, op, ty, pos, af, g⟩ := o
    refine astep_sound hst hf h (fun v v' H' S' w' hk hs' hv hK => ?_) (fun v v' H' S' w' _ hs' hv hK => hq v v' S' H' w' hs' hv hK)
    exact hn _ _ _ _ (Sim.put (o := ⟨dst, op, ty, pos, af, g⟩) hs' (hf.keeps hk) h1 h2 hd hv) hK
  · rename_i hw
    rw [if_neg (by rw [aWant_sound hf hw]; simp)]
    exact hn _ _ _ _ (Sim.put hst hf h1 h2 hd (by simp only [VRel]; exact ⟨[], rfl, by simp only [LRel]⟩)) h
  · exact h.elim
theorem awpL_sound {F : Nat → Prop} {ops : Array Oper} {Q : APost} : ∀ (l : List Oper) (fr : Fr) (H : Hp) (a : Act) (w : World), l.all (dstOk N) = true → Sim E γ N fr H a w → awpL E F (ops.toList.map (·.dst)) Q l fr H →
    wpList E.P ops (lift E γ N Q) l a w
  | [], fr, H, a, w, _, hs, h => ⟨fr, H, hs, h⟩
  | o :: rest, fr, H, a, w, hd, hs, h => by
    simp only [List.all_cons, Bool.and_eq_true] at hd
    have h1 := hs.1
    rw [awpL_cons hd.1] at h
    refine aop_sound hs hd.1 h (fun fr' H' a' w' hs' hK => awpL_sound rest fr' H' a' w' hd.2 hs' hK) (fun v v' S' H' w' hst hv hK => ?_)
    exact ⟨h1, v, v', S', H', rfl, hst, hv, hK⟩
end

/-! ### code -/
/-- WHAT MUST HOLD AHEAD OF A PIECE OF CODE. -/
def awp (E : Env) (N : Nat) (c : Code) (Q : APost) (fr : Fr) (H : Hp) : Prop :=
  ∀ γ a w, Sim E γ N fr H a w → c.wp E.P (lift E γ N Q) a w
section
variable {E : Env} {N : Nat} {Q Q' : APost} {fr : Fr} {H : Hp}

theorem lift_mono {γ : Start} (h : ∀ e fr H, Q e fr H → Q' e fr H) (e : Exit) (a : Act) (w : World) (hl : lift E γ N Q e a w) : lift E γ N Q' e a w := by
  cases e <;> simp only [lift] at *
  · obtain ⟨fr, H, h1, h2⟩ := hl; exact ⟨fr, H, h1, h _ _ _ h2⟩
  · obtain ⟨fr, H, h1, h2⟩ := hl; exact ⟨fr, H, h1, h _ _ _ h2⟩
  · obtain ⟨fr, H, h1, h2⟩ := hl; exact ⟨fr, H, h1, h _ _ _ h2⟩
  · obtain ⟨hd, v, v', S, H, h1, h2, h3, h4⟩ := hl; exact ⟨hd, v, v', S, H, h1, h2, h3, h _ _ _ h4⟩
theorem awp_mono {c : Code} (h : awp E N c Q fr H) (hq : ∀ e fr H, Q e fr H → Q' e fr H) : awp E N c Q' fr H :=
  fun γ a w hs => wp_mono (h γ a w hs) (lift_mono hq)
theorem awp_skip (h : Q .normal fr H) : awp E N .skip Q fr H := fun _ _ _ hs => wp_skip ⟨fr, H, hs, h⟩
theorem awp_exit {id : Nat} (h : Q (.exit id) fr H) : awp E N (.exit id) Q fr H := fun _ _ _ hs => wp_exit ⟨fr, H, hs, h⟩
theorem awp_ret (h : Q .ret fr H) : awp E N .ret Q fr H := fun _ _ _ hs => wp_ret ⟨fr, H, hs, h⟩
theorem awp_label {l : Nat} (h : Q .normal fr H) : awp E N (.label l) Q fr H := fun _ _ _ hs => wp_label ⟨fr, H, hs, h⟩
/-- the post of the first of two pieces -/
def thenQ (next : Fr → Hp → Prop) (Q : APost) : APost
  | .normal, fr, H => next fr H
  | e, fr, H => Q e fr H
theorem awp_seq {x y : Code} (h : awp E N x (thenQ (awp E N y Q) Q) fr H) : awp E N (.seq x y) Q fr H := fun γ a w hs => by
  refine wp_seq (wp_mono (h γ a w hs) fun e a w hl => ?_)
  cases e <;> simp only [lift, Exit.then, thenQ] at *
  · obtain ⟨fr', H', h1, h2⟩ := hl; exact h2 γ a w h1
  · exact hl
  · exact hl
  · exact hl
/-- the post within a block -/
def blockQ (id : Nat) (Q : APost) : APost
  | .exit id', fr, H => if id' = id then Q .normal fr H else Q (.exit id') fr H
  | e, fr, H => Q e fr H
theorem awp_block {id : Nat} {c : Code} (h : awp E N c (blockQ id Q) fr H) : awp E N (.block id c) Q fr H := fun γ a w hs => by
  refine wp_block (wp_mono (h γ a w hs) fun e a w hl => ?_)
  cases e <;> simp only [lift, Exit.inBlock, blockQ] at *
  · exact hl
  · split
    · rename_i e; simp only [e, if_true] at hl; exact hl
    · rename_i e; simp only [e, if_false] at hl; exact hl
  · exact hl
  · exact hl
theorem awp_cond {c : Operand} {x y : Code} {t : Bool} (hc : ev E.G fr c = .bool t) (h1 : t = true → awp E N x Q fr H) (h2 : t = false → awp E N y Q fr H) : awp E N (.cond c x y) Q fr H := fun γ a w hs => by
  obtain ⟨g1, g2, S, hst, hf⟩ := hs
  have hv := ev_rel hst hf c
  rw [hc] at hv
  simp only [VRel] at hv
  exact wp_cond_split hv (fun ht => h1 ht γ a w ⟨g1, g2, S, hst, hf⟩) (fun ht => h2 ht γ a w ⟨g1, g2, S, hst, hf⟩)
theorem awp_region {id : Nat} {l : List Oper} (hd : l.all (dstOk N) = true) (h : awpL E (fun _ => True) (l.map (·.dst)) Q l fr H) : awp E N (.region id l.toArray false) Q fr H := fun γ a w hs =>
  wp_region_list (by simpa using awpL_sound (ops := l.toArray) l fr H a w hd hs (by simpa using h))
/-- A loop: I n holds at each round's head, n going down. -/
theorem awp_loop {c : Code} (I : Nat → Fr → Hp → Prop) (n : Nat) (h0 : I n fr H) (round : ∀ n fr H, I n fr H → awp E N c (thenQ (fun fr' H' => ∃ m, m < n ∧ I m fr' H') Q) fr H) : awp E N (.loop c) Q fr H := by
  intro γ a w hs b k cs
  have key : ∀ n a w, (∃ fr H, Sim E γ N fr H a w ∧ I n fr H) → ∃ e a' w', lift E γ N Q e a' w' ∧ Arrives E.P (lone (b.at a (.code c :: .inLoop c :: k)) cs w) b k cs e a' w' := by
    intro n
    induction n using Nat.strongRecOn with
    | _ n ih =>
      rintro a w ⟨fr, H, hs, hI⟩
      obtain ⟨e, a₁, w₁, hq, harr⟩ := round n fr H hI γ a w hs b (.inLoop c :: k) cs
      cases e with
      | normal =>
        obtain ⟨fr', H', hs', m, hm, hI'⟩ := hq
        obtain ⟨e₂, a₂, w₂, hq₂, harr₂⟩ := ih m hm a₁ w₁ ⟨fr', H', hs', hI'⟩
        exact ⟨e₂, a₂, w₂, hq₂, .of_steps (Steps.trans harr (.one step_inLoop)) harr₂⟩
      | exit id => exact ⟨_, a₁, w₁, (by simpa only [lift, thenQ] using hq : lift E γ N Q (.exit id) a₁ w₁), .pass (x := .inLoop c) rfl (fun _ _ => .inl (by simp)) harr⟩
      | goto l => exact hq.elim
      | ret => exact ⟨_, a₁, w₁, (by simpa only [lift, thenQ] using hq : lift E γ N Q .ret a₁ w₁), .pass (x := .inLoop c) rfl (fun _ _ => .inl (by simp)) harr⟩
      | panic ch => exact ⟨_, a₁, w₁, (by simpa only [lift, thenQ] using hq : lift E γ N Q (.panic ch) a₁ w₁), .pass (x := .inLoop c) rfl (fun _ _ => .inl (by simp)) harr⟩
      | outgrown => exact hq.elim
  obtain ⟨e, a', w', hq, harr⟩ := key n a w ⟨fr, H, hs, h0⟩
  exact ⟨e, a', w', hq, .of_steps (.one step_loop) harr⟩
/-- A smaller part of memory, a frame of which less is known. -/
theorem awp_weak {c : Code} {fr' : Fr} {H' : Hp} (hf : ∀ t, Sub (fr t) (fr' t)) (hH : hsub H' H) (h : awp E N c Q fr' H') : awp E N c Q fr H := fun γ a w ⟨h1, h2, S, hst, hfr⟩ => by
  refine h γ a w ⟨h1, h2, S, ?_, fun t => hf t _ _ _ (hfr t)⟩
  exact hst.step (Ext.refl (fun _ => False) w) (fun _ h => h.elim) (fun _ h => h) hst.lt (fun k hk => .inl hk) fun b o hb => ⟨(hst.obj b o (hH b o hb)).2.1, .inl ⟨hH b o hb, fun h => h⟩⟩
/-- labels: code in a scope that nobody jumps into -/
theorem awp_scope {c : Code} (h : awp E N c Q fr H) : awp E N (.scope c) Q fr H := fun γ a w hs => by
  refine wp_scope_straight (wp_mono (h γ a w hs) fun e a w hl => ?_)
  cases e <;> first | exact hl | exact hl.elim
end

/-! ### functions -/
/-- the abstract results of a function -/
def ares (P : Program) (fr : Fr) (H : Hp) : List ResultVar → Option (List AV)
  | [] => some []
  | .tmp t :: r => (ares P fr H r).map (fr t :: ·)
  | .cell p t :: r => (tinfo P t).bind fun ti => (aload H ti (fr p)).bind fun v => (ares P fr H r).map (v :: ·)
def aresult (P : Program) (fr : Fr) (H : Hp) (rs : List ResultVar) : Option AV :=
  match ares P fr H rs with
  | some [v] => some v
  | some vs => some (.tup vs)
  | none => none
theorem ares_sound {E : Env} {γ : Start} {S : Seal} {H : Hp} {w : World} {fr : Fr} {a : Act} (hst : St E γ S H w) (hf : FRel S w fr a) : ∀ (rs : List ResultVar) (vs : List AV), ares E.P fr H rs = some vs →
    ∃ us, (rs.mapM (m := Sem) fun | .tmp t => pure (a.tmps.getD t Go.undef) | .cell p t => do loadVar t (← asAddr (a.tmps.getD p Go.undef))).run E.P w = .ok us w ∧ LRel S w vs us
  | [], vs, h => by
    simp only [ares, Option.some.injEq] at h
    subst h
    exact ⟨[], by simp, by simp only [LRel]⟩
  | .tmp t :: r, vs, h => by
    simp only [ares, Option.map_eq_some_iff] at h
    obtain ⟨vs', h, rfl⟩ := h
    obtain ⟨us, h1, h2⟩ := ares_sound hst hf r vs' h
    refine ⟨a.tmps.getD t Go.undef :: us, ?_, by simp only [LRel]; exact ⟨_, _, rfl, hf t, h2⟩⟩
    simp only [List.mapM_cons, Sem.run_bind, Sem.run_pure, Result.andThen_ok, h1]
  | .cell p t :: r, vs, h => by
    simp only [ares, Option.bind_eq_some_iff, Option.map_eq_some_iff] at h
    obtain ⟨ti, hti, v, hv, vs', h, rfl⟩ := h
    obtain ⟨us, h1, h2⟩ := ares_sound hst hf r vs' h
    obtain ⟨v', h3, h4⟩ := aload_sound hst hti (hf p) hv
    refine ⟨v' :: us, ?_, by simp only [LRel]; exact ⟨_, _, rfl, h4, h2⟩⟩
    have h5 : (do loadVar t (← asAddr (a.tmps.getD p Go.undef)) : Sem Value).run E.P w = .ok v' w := by
      have hp := hf p
      cases e : fr p <;> rw [e] at hp hv <;> simp only [aload] at hv <;> try (cases hv; done)
      · simp only [VRel] at hp
        rw [hp] at h3 ⊢
        simpa [Instr.loadAt, Instr.sureAddr, asAddr] using h3
      · simp only [VRel] at hp
        obtain ⟨b, off, e2, _⟩ := hp
        rw [e2] at h3 ⊢
        simpa [Instr.loadAt, Instr.sureAddr, asAddr] using h3
    simp only [List.mapM_cons, Sem.run_bind] at h5 ⊢
    simp only [h5, Result.andThen_ok, h1, Sem.run_pure]
theorem aresult_sound {E : Env} {γ : Start} {S : Seal} {H : Hp} {w : World} {fr : Fr} {a : Act} (hst : St E γ S H w) (hf : FRel S w fr a) {fn : Func} {v : AV} (h : aresult E.P fr H fn.results.toList = some v) :
    ∃ u, (results fn a.tmps).run E.P w = .ok u w ∧ VRel S w v u := by
  unfold aresult at h
  have key : ∀ vs, ares E.P fr H fn.results.toList = some vs → ∃ us : List Value, (results fn a.tmps).run E.P w = .ok (if h : us.toArray.size = 1 then us.toArray[0] else .tuple us.toArray) w ∧ LRel S w vs us := fun vs hv => by
    obtain ⟨us, h1, h2⟩ := ares_sound hst hf _ vs hv
    refine ⟨us, ?_, h2⟩
    unfold results
    rw [Array.mapM_eq_mapM_toList]
    simp only [Sem.run_bind, Sem.run_map, Sem.run_pure]
    exact congrArg (fun r : Result (List Value) => (r.andThen fun a w' => Result.ok a.toArray w').andThen fun a w' => Result.ok (if h : a.size = 1 then a[0] else Value.tuple a) w') h1
  split at h
  · rename_i v' hv
    cases h
    obtain ⟨us, h1, h2⟩ := key _ hv
    simp only [LRel] at h2
    obtain ⟨u, us', rfl, h3, rfl⟩ := h2
    exact ⟨u, by simpa using h1, h3⟩
  · rename_i vs hne hv
    cases h
    obtain ⟨us, h1, h2⟩ := key _ hv
    have hl : ¬ us.toArray.size = 1 := by
      intro e
      have := h2.length
      simp at e
      rw [e] at this
      match vs, this with
      | [v'], _ => exact hne v' rfl
    rw [dif_neg hl] at h1
    exact ⟨_, h1, by simp only [VRel]; exact ⟨us, rfl, h2⟩⟩
  · cases h

/-- What a value and owned memory may be taken for: less memory, a weaker value, or memory that is sealed. -/
def Turn (v : AV) (H : Hp) (v' : AV) (H' : Hp) : Prop := ∀ (E : Env) (γ : Start) (S : Seal) (w : World) (x : Value), St E γ S H w → VRel S w v x → ∃ S', Keeps S S' w w ∧ St E γ S' H' w ∧ VRel S' w v' x
theorem Turn.refl (v : AV) (H : Hp) : Turn v H v H := fun _ _ S _ _ h1 h2 => ⟨S, ⟨fun _ _ => rfl, fun _ _ h => h, fun _ h => h⟩, h1, h2⟩
theorem Turn.trans {v v' v'' : AV} {H H' H'' : Hp} (h : Turn v H v' H') (h' : Turn v' H' v'' H'') : Turn v H v'' H'' := fun E γ S w x h1 h2 => by
  obtain ⟨S1, k1, s1, r1⟩ := h E γ S w x h1 h2
  obtain ⟨S2, k2, s2, r2⟩ := h' E γ S1 w x s1 r1
  exact ⟨S2, ⟨fun _ _ => rfl, fun _ _ h => h, fun _ h => k2.sub _ (k1.sub _ h)⟩, s2, r2⟩
theorem Turn.sub {v v' : AV} {H : Hp} (h : Sub v v') : Turn v H v' H := fun _ _ S _ _ h1 h2 => ⟨S, ⟨fun _ _ => rfl, fun _ _ h => h, fun _ h => h⟩, h1, h _ _ _ h2⟩
theorem Turn.drop {v : AV} {H H' : Hp} (h : hsub H' H) : Turn v H v H' := fun _ _ S w _ h1 h2 =>
  ⟨S, ⟨fun _ _ => rfl, fun _ _ h => h, fun _ h => h⟩, h1.step (Ext.refl (fun _ => False) w) (fun _ h => h.elim) (fun _ h => h) h1.lt (fun k hk => .inl hk) fun b o hb => ⟨(h1.obj b o (h b o hb)).2.1, .inl ⟨h b o hb, fun h => h⟩⟩, h2⟩
/-- what a value is when block b, of these rows, is sealed -/
def FSub (b sz : Nat) (l : List (List AV)) (v v' : AV) : Prop := ∀ (S : Seal) (w : World) (x : Value), S b → RowsRel S w b 0 sz l → VRel S w v x → VRel S w v' x
theorem FSub.refl (b sz : Nat) (l : List (List AV)) (v : AV) : FSub b sz l v v := fun _ _ _ _ _ h => h
theorem FSub.osl (b sz : Nat) (l : List (List AV)) : FSub b sz l (.osl sz b l.length) (.isl sz l) := fun S w x hb hr h => by
  simp only [VRel] at *
  obtain ⟨cap, e, h1, _, h3, h4⟩ := h
  exact ⟨_, cap, h1, h3, h4, .inr ⟨b, 0, rfl, hb, hr⟩⟩
theorem FSub.list {b sz : Nat} {l : List (List AV)} {S : Seal} {w : World} (hb : S b) (hr : RowsRel S w b 0 sz l) : ∀ {vs vs' : List AV} {us : List Value}, vs.length = vs'.length → (∀ (i : Nat) v v', vs[i]? = some v → vs'[i]? = some v' → FSub b sz l v v') → LRel S w vs us → LRel S w vs' us
  | [], [], _, _, _, h => h
  | [], _ :: _, _, hl, _, _ => by simp at hl
  | _ :: _, [], _, hl, _, _ => by simp at hl
  | v :: vs, v' :: vs', us, hl, hf, h => by
    simp only [LRel] at *
    obtain ⟨u, us', rfl, h1, h2⟩ := h
    exact ⟨u, us', rfl, hf 0 v v' rfl rfl S w u hb hr h1, FSub.list hb hr (by simpa using hl) (fun i a c ha hc => hf (i + 1) a c (by simpa using ha) (by simpa using hc)) h2⟩
theorem FSub.cons {b sz : Nat} {l : List (List AV)} {v v' : AV} {vs vs' : List AV} (h : FSub b sz l v v') (h' : FSub b sz l (.tup vs) (.tup vs')) : FSub b sz l (.tup (v :: vs)) (.tup (v' :: vs')) := fun S w x hb hr hx => by
  simp only [VRel, LRel] at hx ⊢
  obtain ⟨us, rfl, u, us', rfl, h1, h2⟩ := hx
  have h3 := h' S w (.tuple us'.toArray) hb hr (by simp only [VRel]; exact ⟨us', rfl, h2⟩)
  simp only [VRel] at h3
  obtain ⟨ws, e, h3⟩ := h3
  have e2 : us' = ws := by simpa using e
  subst e2
  exact ⟨u :: us', rfl, u, us', rfl, h S w u hb hr h1, h3⟩
theorem Turn.freeze {b sz : Nat} {l : List (List AV)} {v v' : AV} {H : Hp} (hb : H b = some (.rows sz l)) (h : FSub b sz l v v') : Turn v H v' (upd H b none) := fun E γ S w x h1 h2 => by
  have hk : Keeps S (fun k => S k ∨ k = b) w w := ⟨fun _ _ => rfl, fun _ _ h => h, fun _ h => .inl h⟩
  have ho := (h1.obj b _ hb).1
  have hlt := ho.lt
  simp only [ORel] at ho
  obtain ⟨cs, e, _, _, hr⟩ := ho
  refine ⟨fun k => S k ∨ k = b, hk, ?_, h _ w x (.inr rfl) (RowsRel.mono hk l b 0 sz rfl hr) (VRel.mono hk _ _ h2)⟩
  refine h1.step (Ext.refl (fun _ => False) w) (fun _ h => h.elim) (fun _ h => .inl h) (fun k hk => ?_) (fun k hk => ?_) fun b' o hb' => ?_
  · rcases hk with hk | hk
    · exact h1.lt k hk
    · exact hk ▸ hlt
  · rcases hk with hk | hk
    · exact .inl hk
    · exact .inr (.inl (by rw [hk, hb]; simp))
  · simp only [upd] at hb'
    split at hb'
    · cases hb'
    · rename_i hne
      refine ⟨fun hs => ?_, .inl ⟨hb', fun h => h⟩⟩
      rcases hs with hs | hs
      · exact (h1.obj b' o hb').2.1 hs
      · exact hne hs

/-- the frame in which a function begins -/
def argF (args : List AV) : Fr := fun t => args.getD t (.tup [])
def Gives (R : AEnd → Hp → Prop) (v : AV) (H : Hp) : Prop := ∃ v' H', Turn v H v' H' ∧ R (.ret v') H'
theorem Gives.self {R : AEnd → Hp → Prop} {v : AV} {H : Hp} (h : R (.ret v) H) : Gives R v H := ⟨v, H, Turn.refl _ _, h⟩
/-- the post of a function's body -/
def bodyQ (P : Program) (rs : List ResultVar) (R : AEnd → Hp → Prop) : APost
  | .normal, fr, H | .ret, fr, H => match aresult P fr H rs with | some v => Gives R v H | none => False
  | .pan v, _, H => R (.pan v) H
  | .exit _, _, _ => False
/-- A FUNCTION's CONTRACT, out of its body. -/
theorem con_of {E : Env} {f : FuncId} {fn : Func} {c : Code} {args : List AV} {H0 : Hp} {R : AEnd → Hp → Prop} (N : Nat) (rs : List ResultVar) (hf : E.P.funcs[f]? = some fn) (hb : fn.body = some c) (hname : (fn.name == "runtime.NumGoroutine") = false) (hN : args.length + (fn.ntmps - args.length) = N) (hrs : fn.results.toList = rs)
    (h : awp E N c (bodyQ E.P rs R) (argF args) H0) : Con E f args H0 R := by
  subst hrs
  refine ⟨⟨fn, hf, hname, by rw [hb]; rfl⟩, fun w0 S0 vs hst hargs => ?_⟩
  have hl := hargs.length
  refine calls_of_wp hf hb ?_
  have hsim : Sim E ⟨w0, dom H0, S0⟩ N (argF args) H0 { tmps := vs.toArray ++ Array.replicate (fn.ntmps - vs.toArray.size) Go.undef, defers := [] } w0 := by
    refine ⟨rfl, by simp [hl, hN], S0, hst, fun t => ?_⟩
    simp only [argF]
    by_cases ht : t < args.length
    · obtain ⟨v, hv, hr⟩ := hargs.get t (List.getElem?_eq_getElem ht)
      have e1 : args.getD t (.tup []) = args[t] := by simp [List.getD, ht]
      have e2 : (vs.toArray ++ Array.replicate (fn.ntmps - vs.toArray.size) Go.undef).getD t Go.undef = v := by
        have hlt : t < vs.length := by omega
        simp only [Array.getD_eq_getD_getElem?]
        rw [Array.getElem?_append_left (by simpa using hlt)]
        simp [hv]
      rw [e1, e2]; exact hr
    · have e1 : args.getD t (.tup []) = .tup [] := by simp [List.getD, List.getElem?_eq_none (Nat.le_of_not_lt ht)]
      have e2 : (vs.toArray ++ Array.replicate (fn.ntmps - vs.toArray.size) Go.undef).getD t Go.undef = Go.undef := by
        simp only [Array.getD_eq_getD_getElem?]
        rw [Array.getElem?_append_right (by simp; omega)]
        simp only [Array.getElem?_replicate]
        split <;> rfl
      rw [e1, e2]
      simp only [VRel]
      exact ⟨[], rfl, by simp only [LRel]⟩
  refine wp_mono (h _ _ _ hsim) fun e a w hl => ?_
  cases e <;> simp only [lift, bodyQ, bodyPost] at hl ⊢
  · obtain ⟨fr, H, ⟨h1, h2, S, hst', hf'⟩, hq⟩ := hl
    refine ⟨h1, ?_⟩
    split at hq <;> try (exact hq.elim)
    rename_i v hv
    obtain ⟨u, r1, r2⟩ := aresult_sound hst' hf' hv
    obtain ⟨v', H', ht, hR⟩ := hq
    obtain ⟨S', _, s1, s2⟩ := ht _ _ _ _ _ hst' r2
    exact ⟨u, r1, _, H', S', s1, by simp only [ERel]; exact ⟨u, rfl, s2⟩, hR⟩
  · obtain ⟨fr, H, _, hq⟩ := hl; exact hq.elim
  · obtain ⟨fr, H, ⟨h1, h2, S, hst', hf'⟩, hq⟩ := hl
    refine ⟨h1, ?_⟩
    split at hq <;> try (exact hq.elim)
    rename_i v hv
    obtain ⟨u, r1, r2⟩ := aresult_sound hst' hf' hv
    obtain ⟨v', H', ht, hR⟩ := hq
    obtain ⟨S', _, s1, s2⟩ := ht _ _ _ _ _ hst' r2
    exact ⟨u, r1, _, H', S', s1, by simp only [ERel]; exact ⟨u, rfl, s2⟩, hR⟩
  · obtain ⟨h1, v, v', S, H, rfl, hst', hv, hR⟩ := hl
    exact ⟨h1, _, H, S, hst', by simp only [ERel]; exact ⟨v', rfl, hv⟩, hR⟩
end Go.Al
