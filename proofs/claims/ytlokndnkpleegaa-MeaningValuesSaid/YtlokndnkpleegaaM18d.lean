/- Chapter 18, in plain Lean: a program whose names are right comes to an end: statements, programs. -/
import Derived.Test.YtlokndnkpleegaaM18c
set_option linter.unusedSimpArgs false
set_option linter.unusedVariables false
set_option maxRecDepth 10000
namespace Go.Al
theorem wfSs_get {cx : Cx} {nv na i : Nat} {rs : Str → Bool × Int} : ∀ {l : List Sm}, wfSs cx nv na i rs l → ∀ {j : Nat} {e : Sm}, l[j]? = some e → wfS cx nv na i rs e ∧ e.sz ≤ szS l
  | [], _, j, e, h => by simp at h
  | x :: l, hw, 0, e, h => by
    simp only [wfSs] at hw
    simp only [List.getElem?_cons_zero, Option.some.injEq] at h
    subst h
    exact ⟨hw.1, by simp only [szS]; omega⟩
  | x :: l, hw, j + 1, e, h => by
    simp only [wfSs] at hw
    simp only [List.getElem?_cons_succ] at h
    have := wfSs_get hw.2 h
    exact ⟨this.1, by simp only [szS]; omega⟩
/-- what is left behind a statement -/
structure Fs (nv na w t : Nat) (r : Option Int × List Int) (s : RS) : Prop where
  f : Fm nv na t s
  w : r.2.length = w
section
variable {cx : Cx} {nv na i : Nat} {f : Cf} (hf : cx.funs[i]? = some f) (hb : ∀ j, j < i → bodyT cx nv na j)
include hf hb
theorem totA : ∀ l : List Ex, wfEs cx nv na i f.res l → ∀ (ow : List Int) (st : RS) (t : Nat), ow.length = f.words → Fm nv na t st → Tot (fun n => evA cx n f.res ow l st) (fun vs s => Fm nv na t s ∧ vs.length = l.length) := by
  intro l
  induction l with
  | nil => intro _ ow st t ho hF; exact Tot.succ (f := fun _ => some (.val [] st)) (Tot.const fun a s e => by cases e; exact ⟨hF, rfl⟩) fun n => by simp only [evA]
  | cons e l ihl =>
    intro hw ow st t ho hF
    simp only [wfEs] at hw
    refine Tot.succ (f := fun n => bindR (evE cx n f.res ow e st) fun v st => bindR (evA cx n f.res ow l st) fun vs st => some (.val (v :: vs) st)) ?_ fun n => by simp only [evA]
    refine Tot.bind (totE hf hb e.sz e (Nat.le_refl _) hw.1 ow st t ho hF) (mE _ _ _ _ _) (fun a s => Mono.bind (mA _ _ _ _ _) fun _ _ => Mono.const _) fun a s h1 => ?_
    refine Tot.bind (ihl hw.2 ow s t ho h1) (mA _ _ _ _ _) (fun _ _ => Mono.const _) fun vs s2 h2 => ?_
    exact Tot.const fun a s e => by cases e; exact ⟨h2.1, by simp [h2.2]⟩
theorem totC (l : List Ex) (wl : wfEs cx nv na i f.res l) {p : Bool × Int} (hc : callOk cx i p l.length) (ow : List Int) (st : RS) (t : Nat) (ho : ow.length = f.words) (hF : Fm nv na t st) : Tot (fun n => evC cx n f.res ow p.2 l st) (fun _ s => Fm nv na t s) := by
  obtain ⟨q1, q2, g, hg, q3⟩ := hc
  refine Tot.succ (f := fun n => evC cx (n + 1) f.res ow p.2 l st) ?_ fun n => rfl
  simp only [evC, if_neg (show ¬ p.2 < 0 by omega), hg, if_neg (show ¬ g.words < l.length by omega)]
  refine Tot.bind (totA hf hb l wl ow st t ho hF) (mA _ _ _ _ _) (fun a s => Mono.bind (Mono.const _) fun _ _ => Mono.bind (mL _ _ _ _ _) fun _ _ => Mono.const _) fun vs s1 h6 => ?_
  refine Tot.bind (P := fun _ s => Fm nv na t s) (Tot.const fun a s e => ?_) (Mono.const _) (fun _ _ => Mono.bind (mL _ _ _ _ _) fun _ _ => Mono.const _) fun _ s2 h7 => ?_
  · unfold tickR at e
    split at e
    · cases e
    · cases e; exact ⟨h6.1.v, h6.1.a, by have := h6.1.t; simp only; omega⟩
  · refine Tot.bind (hb _ (by omega) g hg _ s2 (by simp [h6.2]; omega) h7.v h7.a) (mL _ _ _ _ _) (fun _ _ => Mono.const _) fun r s3 h8 => ?_
    exact Tot.const fun a s e => by cases e; exact h8.trans h7.t
theorem totS (M : Nat) : ∀ N : Nat, (∀ e : Sm, e.sz ≤ N → wfS cx nv na i f.res e → ∀ (ow : List Int) (st : RS), ow.length = f.words → st.vars.length = nv → st.arrs.length = na → cx.fuel - st.ticks ≤ M → Tot (fun n => evS cx n f.res ow e st) (Fs nv na f.words st.ticks)) ∧
    (∀ l : List Sm, szS l < N → wfSs cx nv na i f.res l → ∀ (ow : List Int) (st : RS), ow.length = f.words → st.vars.length = nv → st.arrs.length = na → cx.fuel - st.ticks ≤ M → Tot (fun n => evL cx n f.res ow l st) (Fs nv na f.words st.ticks)) := by
  induction M using Nat.strongRecOn with
  | _ M ihM =>
  intro N
  induction N with
  | zero => exact ⟨fun e he => by have := e.sz_eq; omega, fun l hl => by omega⟩
  | succ N ih =>
    obtain ⟨ihS, ihL⟩ := ih
    have fself : ∀ st : RS, st.vars.length = nv → st.arrs.length = na → Fm nv na st.ticks st := fun st h1 h2 => ⟨h1, h2, Nat.le_refl _⟩
    have one : ∀ e : Sm, e.sz ≤ N + 1 → wfS cx nv na i f.res e → ∀ (ow : List Int) (st : RS), ow.length = f.words → st.vars.length = nv → st.arrs.length = na → cx.fuel - st.ticks ≤ M → Tot (fun n => evS cx n f.res ow e st) (Fs nv na f.words st.ticks) := by
      rintro ⟨k, s, l, t, u⟩ he hw ow st ho hv ha hM
      simp only [wfS] at hw
      obtain ⟨w1, w2, w6, wk, wl, wt, wu⟩ := hw
      simp only [Sm.sz] at he
      have hF := fself st hv ha
      have kid : ∀ {j : Nat} {a : Ex}, l[j]? = some a → ∀ (st : RS) (t : Nat), Fm nv na t st → Tot (fun n => evE cx n f.res ow a st) (fun _ s => Fm nv na t s) := fun {j a} hj st t hF => by
        have := wfEs_get wl hj
        exact totE hf hb a.sz a (Nat.le_refl _) this.1 ow st t ho hF
      have get : ∀ {j : Nat}, j < l.length → ∃ a, l[j]? = some a := fun {j} h => ⟨l[j], List.getElem?_eq_getElem h⟩
      refine Tot.succ (f := fun n => evS cx (n + 1) f.res ow (.mk k s l t u) st) ?_ fun n => rfl
      simp only [evS]
      refine Tot.ite (fun h1 => ?_) fun h1 => Tot.ite (fun h2 => ?_) fun h2 => Tot.ite (fun h3 => ?_) fun h3 => Tot.ite (fun h4 => ?_) fun h4 => Tot.ite (fun h5 => ?_) fun h5 => Tot.ite (fun h6 => ?_) fun h6 => Tot.ite (fun h7 => ?_) fun h7 => Tot.const fun a s e => by cases e; exact ⟨hF, ho⟩
      · obtain ⟨a, ha'⟩ := get (j := 0) (by have := wk (.inl h1); omega)
        simp only [ha']
        refine Tot.bind (kid ha' st st.ticks hF) (mE _ _ _ _ _) (fun _ _ => Mono.const _) fun v s1 h8 => ?_
        obtain ⟨q1, q2, q3⟩ := w1 h1
        unfold setR
        rw [if_pos q1]
        cases hb : (f.res s).1 with
        | true =>
          have := q2 hb f hf
          rw [if_pos rfl, if_pos (by omega)]
          exact Tot.const fun a s e => by cases e; exact ⟨h8, by simp [ho]⟩
        | false =>
          have := q3 hb
          have := h8.v
          rw [if_neg (by simp), if_pos (by omega)]
          exact Tot.const fun a s e => by cases e; exact ⟨⟨by simp [h8.v], h8.a, h8.t⟩, ho⟩
      · obtain ⟨q1, q2, q3⟩ := w2 h2
        obtain ⟨a, ha'⟩ := get (j := 0) (by omega)
        obtain ⟨b, hb'⟩ := get (j := 1) (by omega)
        simp only [ha', hb']
        refine Tot.bind (kid ha' st st.ticks hF) (mE _ _ _ _ _) (fun _ _ => Mono.bind (mE _ _ _ _ _) fun _ _ => Mono.const _) fun x s1 h8 => ?_
        refine Tot.bind (kid hb' s1 st.ticks h8) (mE _ _ _ _ _) (fun _ _ => Mono.const _) fun v s2 h9 => ?_
        rw [if_pos q1]
        have hl : (f.res s).2.toNat < s2.arrs.length := by have := h9.a; omega
        unfold atR
        rw [List.getElem?_eq_getElem hl]
        simp only
        split
        · simp only [bindR]
          exact Tot.const fun a s e => by cases e; exact ⟨⟨h9.v, by simp [storeR, h9.a], h9.t⟩, ho⟩
        · simp only [bindR]
          exact Tot.const fun a s e => by cases e
      · obtain ⟨a, ha'⟩ := get (j := 0) (by have := wk (.inr (.inl h3)); omega)
        simp only [ha']
        refine Tot.bind (kid ha' st st.ticks hF) (mE _ _ _ _ _) (fun _ _ => Mono.const _) fun v s1 h8 => ?_
        unfold putR
        split
        · simp only [bindR]
          exact Tot.const fun a s e => by cases e
        · simp only [bindR]
          exact Tot.const fun a s e => by cases e; exact ⟨⟨h8.v, h8.a, h8.t⟩, ho⟩
      · obtain ⟨a, ha'⟩ := get (j := 0) (by have := wk (.inr (.inr (.inl h4))); omega)
        simp only [ha']
        refine Tot.bind (kid ha' st st.ticks hF) (mE _ _ _ _ _) (fun _ _ => Mono.ite (mL _ _ _ _ _) (mL _ _ _ _ _)) fun v s1 h8 => ?_
        have := h8.t
        have q1 := (wfEs_get wl ha').2
        have q2 := a.sz_eq
        exact Tot.ite (fun _ => (ihL u (by omega) wu ow s1 ho h8.v h8.a (by have := h8.t; omega)).mono fun r s h => ⟨h.f.trans h8.t, h.w⟩) fun _ => (ihL t (by omega) wt ow s1 ho h8.v h8.a (by have := h8.t; omega)).mono fun r s h => ⟨h.f.trans h8.t, h.w⟩
      · obtain ⟨a, ha'⟩ := get (j := 0) (by have := wk (.inr (.inr (.inr h5))); omega)
        simp only [ha']
        refine Tot.succ (f := fun n => evW cx (n + 1) f.res ow a t st) ?_ fun n => rfl
        simp only [evW]
        refine Tot.bind (P := fun _ s => s.vars.length = nv ∧ s.arrs.length = na ∧ st.ticks < s.ticks ∧ cx.fuel - s.ticks < M) (Tot.const fun a s e => ?_) (Mono.const _) (fun _ _ => Mono.bind (mE _ _ _ _ _) fun _ _ => Mono.ite (Mono.const _) (Mono.bind (mL _ _ _ _ _) fun r _ => ?_)) fun _ s1 ⟨g1, g2, g3, g4⟩ => ?_
        · unfold tickR at e
          split at e
          · cases e
          · cases e; exact ⟨hv, ha, by simp, by simp only; omega⟩
        · cases r.1 with
          | some v => exact Mono.const _
          | none => exact mW _ _ _ _ _ _
        refine Tot.bind (kid ha' s1 s1.ticks (fself s1 g1 g2)) (mE _ _ _ _ _) (fun _ _ => Mono.ite (Mono.const _) (Mono.bind (mL _ _ _ _ _) fun r _ => ?_)) fun x s2 h8 => ?_
        · cases r.1 with
          | some v => exact Mono.const _
          | none => exact mW _ _ _ _ _ _
        have h8t := h8.t
        refine Tot.ite (fun _ => Tot.const fun a s e => by cases e; exact ⟨h8.trans (by omega), ho⟩) fun _ => ?_
        refine Tot.bind ((ihM (cx.fuel - s2.ticks) (by omega) (szS t + 1)).2 t (by omega) wt ow s2 ho h8.v h8.a (Nat.le_refl _)) (mL _ _ _ _ _) (fun r _ => ?_) fun r s3 h9 => ?_
        · cases r.1 with
          | some v => exact Mono.const _
          | none => exact mW _ _ _ _ _ _
        have h9t := h9.f.t
        cases hr : r.1 with
        | some v => exact Tot.const fun a s e => by cases e; exact ⟨h9.f.trans (by omega), h9.w⟩
        | none =>
          have hsz : Sm.sz (.mk 5 s [a] t []) ≤ (Sm.mk 5 s [a] t []).sz := Nat.le_refl _
          have := (ihM (cx.fuel - s3.ticks) (by omega) (Sm.mk 5 s [a] t []).sz).1 (.mk 5 s [a] t []) hsz (by
            simp only [wfS, wfEs, wfSs]
            exact ⟨fun e => absurd e (by decide), fun e => absurd e (by decide), fun e => absurd e (by decide), fun _ => by simp, ⟨(wfEs_get wl ha').1, trivial⟩, wt, trivial⟩) r.2 s3 h9.w h9.f.v h9.f.a (Nat.le_refl _)
          obtain ⟨n, o, e1, e2⟩ := this
          cases n with
          | zero => simp [evS] at e1
          | succ n =>
            simp [evS] at e1
            exact ⟨n, o, e1, fun r' s' e => by have := e2 r' s' e; exact ⟨this.f.trans (by omega), this.w⟩⟩
      · refine Tot.bind (totC hf hb l wl (w6 h6) ow st st.ticks ho hF) (mC _ _ _ _ _ _) (fun _ _ => Mono.const _) fun v s1 h8 => ?_
        exact Tot.const fun a s e => by cases e; exact ⟨h8, ho⟩
      · cases hl : l[0]? with
        | none => exact Tot.const fun a s e => by cases e; exact ⟨hF, ho⟩
        | some a =>
          simp only
          refine Tot.bind (kid hl st st.ticks hF) (mE _ _ _ _ _) (fun _ _ => Mono.const _) fun v s1 h8 => ?_
          exact Tot.const fun a s e => by cases e; exact ⟨h8, ho⟩
    refine ⟨one, ?_⟩
    intro l
    induction l with
    | nil =>
      intro _ _ ow st ho hv ha _
      exact Tot.succ (f := fun _ => some (.val (none, ow) st)) (Tot.const fun a s e => by cases e; exact ⟨fself st hv ha, ho⟩) fun n => by simp only [evL]
    | cons e l ihl =>
      intro hs hw ow st ho hv ha hM
      simp only [szS] at hs
      simp only [wfSs] at hw
      refine Tot.succ (f := fun n => evL cx (n + 1) f.res ow (e :: l) st) ?_ fun n => rfl
      simp only [evL]
      refine Tot.bind (one e (by omega) hw.1 ow st ho hv ha hM) (mS _ _ _ _ _) (fun r _ => ?_) fun r s1 h1 => ?_
      · cases r.1 with
        | some v => exact Mono.const _
        | none => exact mL _ _ _ _ _
      have h1t := h1.f.t
      cases hr : r.1 with
      | some v => exact Tot.const fun a s e => by cases e; exact ⟨h1.f, h1.w⟩
      | none =>
        exact (ihl (by omega) hw.2 r.2 s1 h1.w h1.f.v h1.f.a (by omega)).mono fun r s h => ⟨h.f.trans h1.f.t, h.w⟩
end
/-- every function's body ends -/
theorem bodies {cx : Cx} {nv na : Nat} (h : ∀ i f, cx.funs[i]? = some f → wfSs cx nv na i f.res f.body) (j : Nat) : bodyT cx nv na j := by
  induction j using Nat.strongRecOn with
  | _ j ih =>
    intro f hf ow st ho hv ha
    exact ((totS hf ih (cx.fuel - st.ticks) (szS f.body + 1)).2 f.body (by omega) (h j f hf) ow st ho hv ha (Nat.le_refl _)).mono fun r s h => h.f
/-! ### a program's runs -/
def Cx.main (cx : Cx) : Option Cf := cx.funs[cx.funs.length - 1]?
def RS.init (nv : Nat) (sizes : List Nat) : RS := ⟨List.replicate nv 0, sizes.map fun n => List.replicate n 0, 0, [], 0⟩
def endR {α : Type} : Rz α → Int × Str × Nat
  | .val _ s => (1, s.out, s.ticks)
  | .fin e s => (e, s.out, s.ticks)
def runR (cx : Cx) (n nv : Nat) (sizes : List Nat) : Option (Int × Str × Nat) := cx.main.bind fun f => (evL cx n f.res (List.replicate f.words 0) f.body (RS.init nv sizes)).map endR
theorem run_total {cx : Cx} {nv : Nat} {sizes : List Nat} (h0 : cx.funs ≠ []) (h : ∀ i f, cx.funs[i]? = some f → wfSs cx nv sizes.length i f.res f.body) : ∃ n r, runR cx n nv sizes = some r := by
  have hl : cx.funs.length - 1 < cx.funs.length := by
    cases hc : cx.funs with
    | nil => exact absurd hc h0
    | cons a l => simp
  obtain ⟨n, r, hr, _⟩ := bodies h (cx.funs.length - 1) _ (List.getElem?_eq_getElem hl) (List.replicate (cx.funs[cx.funs.length - 1]).words 0) (RS.init nv sizes) (by simp) (by simp [RS.init]) (by simp [RS.init])
  refine ⟨n, endR r, ?_⟩
  simp only [runR, Cx.main, List.getElem?_eq_getElem hl, Option.bind_some]
  rw [show evL cx n _ _ _ _ = some r from hr]
  rfl
theorem run_deep {cx : Cx} {n m nv : Nat} {sizes : List Nat} (hm : n ≤ m) {r} (h : runR cx n nv sizes = some r) : runR cx m nv sizes = some r := by
  unfold runR at *
  cases hc : cx.main with
  | none => rw [hc] at h; cases h
  | some f =>
    rw [hc] at h
    simp only [Option.bind_some, Option.map_eq_some_iff] at h ⊢
    obtain ⟨x, hx, e⟩ := h
    exact ⟨x, evL_deep hm hx, e⟩
theorem run_one {cx : Cx} {n m nv : Nat} {sizes : List Nat} {r r'} (h : runR cx n nv sizes = some r) (h' : runR cx m nv sizes = some r') : r = r' := by
  have a := run_deep (Nat.le_max_left n m) h
  have b := run_deep (Nat.le_max_right n m) h'
  rw [a] at b
  exact Option.some.inj b
end Go.Al
