/- Chapter 18: a sound program has a run. Chapter 18: a sound program is well formed, and its runs end. Chapter 18, the judge's: a program's size; is it small? -/
import Derived.Test.YtlokndnkpleegaaM18r
import Derived.Test.YtlokndnkpleegaaT17e
set_option linter.unusedSimpArgs false
set_option linter.unusedVariables false
set_option maxRecDepth 10000
namespace Go.Al
theorem lookP_app (s : Str) : ∀ A B : List Pl, lookP (A ++ B) s = match lookP A s with | some r => some r | none => lookP B s
  | [], B => rfl
  | t :: A, B => by
    simp only [List.cons_append, lookP]
    split
    · rfl
    · exact lookP_app s A B
theorem lookP_plK (b : Bool) (s : Str) : ∀ (l : List Str) (i : Nat), lookP (plK b i l) s = (placeN l s).map fun k => (b, ((i + k : Nat) : Int))
  | [], _ => rfl
  | x :: l, i => by
    simp only [plK, lookP, placeN]
    by_cases h : s = x
    · subst h; simp
    · rw [if_neg h, if_neg (fun e => h e.symm), lookP_plK b s l (i + 1)]
      cases placeN l s with
      | none => rfl
      | some k => simp only [Option.map_some]; congr 3; omega
theorem placeN_app (s : Str) : ∀ A B : List Str, placeN (A ++ B) s = match placeN A s with | some k => some k | none => (placeN B s).map (· + A.length)
  | [], B => by
    simp only [List.nil_append, placeN, List.length_nil]
    cases placeN B s <;> rfl
  | x :: A, B => by
    simp only [List.cons_append, placeN]
    split
    · rfl
    · rw [placeN_app s A B]
      cases placeN A s with
      | some k => rfl
      | none =>
        cases placeN B s with
        | none => rfl
        | some k => simp only [Option.map_some, List.length_cons]; congr 1
/-- a name looked up, by the judge's finding -/
theorem rs_find {p : Pg} {i : Nat} {f : Fu} (hf : p.funs[i]? = some f) (s : Str) : rsP (outP p) (inP f) s = (decide ((findF p i s).1 = 1), if (findF p i s).1 = 0 then 0 else (findF p i s).2) ∧
    ((findF p i s).1 = 1 → 0 ≤ (findF p i s).2 ∧ (findF p i s).2 < ((f.params.length + f.locs.length : Nat) : Int)) ∧ ((findF p i s).1 = 2 → 0 ≤ (findF p i s).2 ∧ (findF p i s).2 < (p.vars.length : Int)) ∧ ((findF p i s).1 = 3 → 0 ≤ (findF p i s).2 ∧ (findF p i s).2 < (p.arrs.length : Int)) ∧ ((findF p i s).1 = 4 → 0 ≤ (findF p i s).2 ∧ (findF p i s).2 < (p.funs.length : Int)) := by
  have hI : lookP (inP f) s = (placeN (namesL f) s).map fun k => (true, ((0 + k : Nat) : Int)) := lookP_plK true s _ 0
  have hG : lookP (outP p) s = match placeN p.vars s with
    | some k => some (false, (k : Int))
    | none => match placeN (p.arrs.map Ar.name) s with
      | some k => some (false, (k : Int))
      | none => (placeN (p.funs.map Fu.name) s).map (fun k : Nat => ((false, (k : Int)) : Bool × Int)) := by
    rw [outP, lookP_app, lookP_app, lookP_plK, lookP_plK, lookP_plK]
    cases placeN p.vars s <;> cases placeN (p.arrs.map Ar.name) s <;> cases placeN (p.funs.map Fu.name) s <;> simp
  unfold findF rsP
  rw [hI, hG, hf]
  simp only [Option.bind_some]
  rcases Option.eq_none_or_eq_some (placeN (namesL f) s) with h1 | ⟨k, h1⟩
  rotate_left
  · have := (placeN_lt _ _ _ h1).1
    have hl : (namesL f).length = f.params.length + f.locs.length := List.length_append
    simp only [h1, Option.map_some, decide_true, Nat.zero_add]
    refine ⟨by simp, fun _ => ⟨by omega, by omega⟩, fun h => absurd h (by simp), fun h => absurd h (by simp), fun h => absurd h (by simp)⟩
  · simp only [h1, Option.map_none]
    unfold findG globL
    rw [placeN_app, placeN_app]
    rcases Option.eq_none_or_eq_some (placeN p.vars s) with h2 | ⟨k, h2⟩
    rotate_left
    · have := (placeN_lt _ _ _ h2).1
      simp only [h2, if_pos this]
      refine ⟨by simp, fun h => absurd h (by simp), fun _ => ⟨by omega, by omega⟩, fun h => absurd h (by simp), fun h => absurd h (by simp)⟩
    · rcases Option.eq_none_or_eq_some (placeN (p.arrs.map Ar.name) s) with h3 | ⟨k, h3⟩
      rotate_left
      · have hk := (placeN_lt _ _ _ h3).1
        rw [List.length_map] at hk
        simp only [h2, h3, Option.map_some, if_neg (show ¬ (k + p.vars.length < p.vars.length) from by omega), Nat.add_sub_cancel, if_pos hk]
        refine ⟨by simp, fun h => absurd h (by simp), fun h => absurd h (by simp), fun _ => ⟨by omega, by omega⟩, fun h => absurd h (by simp)⟩
      · rcases Option.eq_none_or_eq_some (placeN (p.funs.map Fu.name) s) with h4 | ⟨k, h4⟩
        rotate_left
        · have hk := (placeN_lt _ _ _ h4).1
          rw [List.length_map] at hk
          simp only [h2, h3, h4, Option.map_some, Option.map_none, List.length_append, List.length_map]
          rw [if_neg (show ¬ (k + (p.vars.length + p.arrs.length) < p.vars.length) from by omega), if_neg (show ¬ (k + (p.vars.length + p.arrs.length) - p.vars.length < p.arrs.length) from by omega), show k + (p.vars.length + p.arrs.length) - p.vars.length - p.arrs.length = k from by omega]
          refine ⟨by simp, fun h => absurd h (by simp), fun h => absurd h (by simp), fun h => absurd h (by simp), fun _ => ⟨by omega, by omega⟩⟩
        · simp only [h2, h3, h4, Option.map_none]
          refine ⟨by simp, fun h => absurd h (by simp), fun h => absurd h (by simp), fun h => absurd h (by simp), fun h => absurd h (by simp)⟩
end Go.Al

namespace Go.Proofs.Ytlokndnkpleegaa
open Go.Al
theorem rightX_eq (e : Ex) (level : Int) : rightX e level = (headX e level && kidsX e.kind e.op e.kids.length && rightE e.kids (level + 1)) := rfl
/-- a use's name -/
theorem use_ok {p : Pg} {i : Nat} {f : Fu} {cx : Cx} (hf : p.funs[i]? = some f) (hc : ∀ (j : Nat) (g : Fu), p.funs[j]? = some g → ∃ c, cx.funs[j]? = some c ∧ c.words = g.params.length + g.locs.length) {u : Us} (h1 : okUse p i u = true) (h2 : numU p i u = true) :
    (u.kind = 1 → varOk cx p.vars.length i (rsP (outP p) (inP f) u.name)) ∧ (u.kind = 3 → 0 ≤ (rsP (outP p) (inP f) u.name).2 ∧ (rsP (outP p) (inP f) u.name).2 < (p.arrs.length : Int)) ∧ (u.kind = 4 → ∀ k : Nat, u.num = (k : Int) → callOk cx i (rsP (outP p) (inP f) u.name) k) := by
  obtain ⟨hr, b1, b2, b3, b4⟩ := rs_find hf u.name
  rw [hr]
  simp only [okUse, Bool.not_eq_true', Bool.or_eq_false_iff, Bool.and_eq_false_iff, decide_eq_false_iff_not, Bool.not_eq_false', decide_eq_true_eq] at h1
  obtain ⟨⟨k1, k3⟩, k4⟩ := h1
  refine ⟨fun e => ?_, fun e => ?_, fun e k hk => ?_⟩
  · rcases k1 with (h | h) | h
    · exact absurd e h
    · have := b1 h
      refine ⟨by simp only; rw [if_neg (by omega)]; omega, fun _ c hcc => ?_, fun h' => ?_⟩
      · obtain ⟨c', q1, q2⟩ := hc i f hf
        rw [hcc] at q1
        cases q1
        simp only; rw [if_neg (by omega), q2]; omega
      · simp only [decide_eq_false_iff_not] at h'; exact absurd h h'
    · have := b2 h
      refine ⟨by simp only; rw [if_neg (by omega)]; omega, fun h' => ?_, fun _ => ?_⟩
      · simp only [decide_eq_true_eq] at h'; omega
      · simp only; rw [if_neg (by omega)]; omega
  · rcases k3 with h | h
    · exact absurd e h
    · have := b3 h
      simp only; rw [if_neg (by omega)]; omega
  · rcases k4 with h | ⟨h, h'⟩
    · exact absurd e h
    · have := b4 h
      simp only [numU, e, decide_true, Bool.not_true, Bool.false_or] at h2
      have hlt : (findF p i u.name).2.toNat < p.funs.length := by omega
      rw [List.getElem?_eq_getElem hlt] at h2
      simp only [decide_eq_true_eq] at h2
      obtain ⟨c, q1, q2⟩ := hc _ _ (List.getElem?_eq_getElem hlt)
      refine ⟨by simp only; rw [if_neg (by omega)]; omega, by simp only; rw [if_neg (by omega)]; omega, c, by simp only; rw [if_neg (by omega)]; exact q1, by rw [q2]; omega⟩
theorem wfE_of {p : Pg} {i : Nat} {f : Fu} {cx : Cx} (hf : p.funs[i]? = some f) (hc : ∀ (j : Nat) (g : Fu), p.funs[j]? = some g → ∃ c, cx.funs[j]? = some c ∧ c.words = g.params.length + g.locs.length) (n : Nat) : ∀ (l : List Ex) (level : Int), szE l ≤ n → rightE l level = true → (∀ u ∈ usesE l, okUse p i u = true ∧ numU p i u = true) → wfEs cx p.vars.length p.arrs.length i (rsP (outP p) (inP f)) l := by
  induction n using Nat.strongRecOn with
  | _ n ih =>
    intro l level hn hr hu
    match l, hn, hr, hu with
    | [], _, _, _ => simp only [wfEs]
    | e :: l, hn, hr, hu =>
      rw [rightE_cons, rightX_eq] at hr
      simp only [Bool.and_eq_true] at hr
      obtain ⟨⟨⟨_, hk⟩, hkr⟩, hl⟩ := hr
      have hz := e.sz_eq
      simp only [szE] at hn
      have hul : ∀ u ∈ usesE l, okUse p i u = true ∧ numU p i u = true := fun u h => hu u (by rw [usesE_cons]; simp [h])
      have huk : ∀ u ∈ usesE e.kids, okUse p i u = true ∧ numU p i u = true := fun u h => hu u (by rw [usesE_cons]; simp [h])
      have hux : ∀ u ∈ useX e, okUse p i u = true ∧ numU p i u = true := fun u h => hu u (by rw [usesE_cons]; simp [h])
      have w1 := ih (szE e.kids) (by omega) e.kids (level + 1) (Nat.le_refl _) hkr huk
      have w2 := ih (szE l) (by omega) l level (Nat.le_refl _) hl hul
      obtain ⟨k, o, m, s, kids⟩ := e
      simp only [Ex.kind, Ex.op, Ex.kids, Ex.name, Ex.num, useX] at *
      simp only [wfEs, wfE]
      refine ⟨⟨fun h => ?_, fun h => ?_, fun h => ?_, fun h => ?_, fun n1 n2 n3 n4 n5 n7 => ?_, w1⟩, w2⟩
      · subst h
        obtain ⟨g1, g2⟩ := hux ⟨s, 1, 0⟩ (by simp)
        exact (use_ok hf hc g1 g2).1 rfl
      · subst h
        obtain ⟨g1, g2⟩ := hux ⟨s, 3, 0⟩ (by simp)
        have := (use_ok hf hc g1 g2).2.1 rfl
        exact ⟨this.1, this.2, by simp [kidsX] at hk; omega⟩
      · subst h
        obtain ⟨g1, g2⟩ := hux ⟨s, 4, kids.length⟩ (by simp)
        exact (use_ok hf hc g1 g2).2.2 rfl kids.length rfl
      · subst h
        simp [kidsX] at hk; omega
      · unfold kidsX at hk
        rw [if_neg (by omega), if_neg (by omega), if_neg (by omega)] at hk
        split at hk
        · simp only [Bool.and_eq_true, decide_eq_true_eq] at hk; omega
        · split at hk
          · simp only [decide_eq_true_eq] at hk; omega
          · cases hk
theorem wfS_of {p : Pg} {i : Nat} {f : Fu} {cx : Cx} (hf : p.funs[i]? = some f) (hc : ∀ (j : Nat) (g : Fu), p.funs[j]? = some g → ∃ c, cx.funs[j]? = some c ∧ c.words = g.params.length + g.locs.length) (n : Nat) : ∀ (l : List Sm) (level : Int), szS l ≤ n → rightS l level = true → (∀ u ∈ usesS l, okUse p i u = true ∧ numU p i u = true) → wfSs cx p.vars.length p.arrs.length i (rsP (outP p) (inP f)) l := by
  induction n using Nat.strongRecOn with
  | _ n ih =>
    intro l level hn hr hu
    match l, hn, hr, hu with
    | [], _, _, _ => simp only [wfSs]
    | e :: l, hn, hr, hu =>
      rw [rightS_cons] at hr
      simp only [rightM, Bool.and_eq_true] at hr
      obtain ⟨⟨⟨⟨⟨_, hk⟩, hxr⟩, htr⟩, hur⟩, hl⟩ := hr
      have hz := e.sz_eq
      simp only [szS] at hn
      have hul : ∀ u ∈ usesS l, okUse p i u = true ∧ numU p i u = true := fun u h => hu u (by rw [usesS_cons]; simp [h])
      have hue : ∀ u ∈ usesE e.es, okUse p i u = true ∧ numU p i u = true := fun u h => hu u (by rw [usesS_cons]; simp [h])
      have hut : ∀ u ∈ usesS e.thn, okUse p i u = true ∧ numU p i u = true := fun u h => hu u (by rw [usesS_cons]; simp [h])
      have huu : ∀ u ∈ usesS e.els, okUse p i u = true ∧ numU p i u = true := fun u h => hu u (by rw [usesS_cons]; simp [h])
      have hux : ∀ u ∈ useS e, okUse p i u = true ∧ numU p i u = true := fun u h => hu u (by rw [usesS_cons]; simp [h])
      have w0 := wfE_of hf hc _ e.es (level + 1) (Nat.le_refl _) hxr hue
      have w1 := ih (szS e.thn) (by omega) e.thn (level + 1) (Nat.le_refl _) htr hut
      have w3 := ih (szS e.els) (by omega) e.els (level + 1) (Nat.le_refl _) hur huu
      have w2 := ih (szS l) (by omega) l level (Nat.le_refl _) hl hul
      obtain ⟨k, s, es, t, u⟩ := e
      simp only [Sm.kind, Sm.name, Sm.es, Sm.thn, Sm.els, useS] at *
      simp only [wfSs, wfS]
      refine ⟨⟨fun h => ?_, fun h => ?_, fun h => ?_, fun h => ?_, w0, w1, w3⟩, w2⟩
      · subst h
        obtain ⟨g1, g2⟩ := hux ⟨s, 1, 0⟩ (by simp)
        exact (use_ok hf hc g1 g2).1 rfl
      · subst h
        obtain ⟨g1, g2⟩ := hux ⟨s, 3, 0⟩ (by simp)
        have := (use_ok hf hc g1 g2).2.1 rfl
        exact ⟨this.1, this.2, by simp [fitS] at hk; omega⟩
      · subst h
        obtain ⟨g1, g2⟩ := hux ⟨s, 4, es.length⟩ (by simp)
        exact (use_ok hf hc g1 g2).2.2 rfl es.length rfl
      · unfold fitS at hk
        rw [if_pos h] at hk
        simp only [decide_eq_true_eq] at hk; omega
/-- what a sound program is -/
theorem sound_all {p : Pg} (h : soundT p = 0) : rightP p = true ∧ (globL p).Nodup ∧ namesB p = true ∧ numsB p = true := by
  unfold soundT at h
  by_cases h1 : rightP p = true
  · rw [if_pos h1] at h
    by_cases h2 : checkI p = 0
    · refine ⟨h1, ?_⟩
      unfold checkI at h2
      split at h2
      · rename_i a1
        split at h2
        · rename_i a2
          have a3 := a1
          simp only [namesB, Bool.and_eq_true, decide_eq_true_eq] at a3
          exact ⟨a3.1, a1, a2⟩
        · cases h2
      · cases h2
    · rw [if_neg h2] at h
      exact absurd h h2
  · rw [if_neg h1] at h
    cases h
theorem nums_get (p : Pg) : ∀ (l : List Fu) (i : Nat), numsFrom p i l = true → ∀ (j : Nat) f, l[j]? = some f → (usesS f.body).all (numU p (i + j)) = true
  | [], _, _, _, _, hf => by simp at hf
  | g :: l, i, h, j, f, hf => by
    simp only [numsFrom, Bool.and_eq_true] at h
    cases j with
    | zero => simp at hf; subst hf; exact h.1
    | succ j =>
      have := nums_get p l (i + 1) h.2 j f (by simpa using hf)
      rwa [show i + 1 + j = i + (j + 1) by omega] at this
theorem sound_run {p : Pg} (h : soundT p = 0) (inp : Str) (fu : Int) : ∃ n r, runR (cxP p inp fu) n p.vars.length (p.arrs.map fun a => a.size.toNat) = some r := by
  obtain ⟨hr, hg, hn, hm⟩ := sound_all h
  simp only [rightP, Bool.and_eq_true, decide_eq_true_eq, List.all_eq_true] at hr
  simp only [namesB, Bool.and_eq_true] at hn
  simp only [numsB, Bool.and_eq_true] at hm
  refine run_total (fun e => ?_) fun i c hc => ?_
  · have := congrArg List.length e
    simp only [cxP, List.length_map, List.length_nil] at this
    omega
  · simp only [cxP, List.getElem?_map, Option.map_eq_some_iff] at hc
    obtain ⟨f, hf, rfl⟩ := hc
    have g1 := (namesFrom_get p p.funs 0 hn.2 i f hf).2
    have g2 := nums_get p p.funs 0 hm.1 i f hf
    rw [Nat.zero_add, List.all_eq_true] at g1 g2
    have hrf := hr.2 f (List.mem_of_getElem? hf)
    simp only [rightF, Bool.and_eq_true] at hrf
    rw [List.length_map]
    exact wfS_of hf (fun j g hg' => ⟨cfP (outP p) g, by simp [cxP, List.getElem?_map, hg'], rfl⟩) _ f.body 1 (Nat.le_refl _) hrf.2 fun u hu => ⟨g1 u hu, g2 u hu⟩
theorem sound_ok {p : Pg} (hp : p.few) (h : soundT p = 0) : RunOk p := by
  obtain ⟨hr, hg, hn, hm⟩ := sound_all h
  simp only [rightP, Bool.and_eq_true, decide_eq_true_eq, List.all_eq_true] at hr
  simp only [namesB, Bool.and_eq_true] at hn
  refine ⟨hp.ok, hg, fun f hf => ?_, hp.v, hp.a, hp.f, hr.1.1.1.2, hp.fs, fun a ha => ?_⟩
  · obtain ⟨i, hi⟩ := List.getElem?_of_mem hf
    exact (namesFrom_get p p.funs 0 hn.2 i f hi).1
  · have := hr.1.2 a ha
    simp only [rightA, Bool.and_eq_true, decide_eq_true_eq] at this
    omega
end Go.Proofs.Ytlokndnkpleegaa

namespace Go.Al
def kE : List Ex → Nat
  | [] => 0
  | e :: l => szE e.kids + kE l
def kS : List Sm → Nat
  | [] => 0
  | e :: l => szE e.es + szS e.thn + szS e.els + kS l
theorem kE_sz : ∀ l : List Ex, szE l = l.length + kE l
  | [] => rfl
  | e :: l => by have := kE_sz l; have := e.sz_eq; simp only [szE, kE, List.length_cons]; omega
theorem kS_sz : ∀ l : List Sm, szS l = l.length + kS l
  | [] => rfl
  | e :: l => by have := kS_sz l; have := e.sz_eq; simp only [szS, kS, List.length_cons]; omega
theorem kE_snoc (e : Ex) : ∀ l : List Ex, kE (l ++ [e]) = kE l + szE e.kids
  | [] => by simp [kE]
  | x :: l => by simp only [List.cons_append, kE, kE_snoc e l]; omega
theorem kS_snoc (e : Sm) : ∀ l : List Sm, kS (l ++ [e]) = kS l + (szE e.es + szS e.thn + szS e.els)
  | [] => by simp [kS]
  | x :: l => by simp only [List.cons_append, kS, kS_snoc e l]; omega
theorem kE_take : ∀ (l : List Ex) (k : Nat), kE (l.take k) ≤ kE l
  | [], k => by simp
  | x :: l, 0 => by simp [kE]
  | x :: l, k + 1 => by have := kE_take l k; simp only [List.take_succ_cons, kE]; omega
theorem kS_take : ∀ (l : List Sm) (k : Nat), kS (l.take k) ≤ kS l
  | [], k => by simp
  | x :: l, 0 => by simp [kS]
  | x :: l, k + 1 => by have := kS_take l k; simp only [List.take_succ_cons, kS]; omega
def cntF (f : Fu) : Nat := f.params.length + f.locs.length + szS f.body
def sumF : List Fu → Nat
  | [] => 0
  | f :: l => cntF f + sumF l
theorem sumF_snoc (f : Fu) : ∀ l : List Fu, sumF (l ++ [f]) = sumF l + cntF f
  | [] => by simp [sumF]
  | x :: l => by simp only [List.cons_append, sumF, sumF_snoc f l]; omega
theorem sumF_le (B : Nat) : ∀ l : List Fu, (∀ f ∈ l, cntF f ≤ B) → sumF l ≤ l.length * B
  | [], _ => by simp [sumF]
  | x :: l, h => by
    have := sumF_le B l fun f hf => h f (List.mem_cons_of_mem _ hf)
    have := h x (List.mem_cons_self)
    simp only [sumF, List.length_cons, Nat.succ_mul]; omega
def sizP (p : Pg) : Nat := p.vars.length + p.arrs.length + p.funs.length + sumF p.funs
theorem i64_add {a b : Nat} (h : a + b ≤ 9223372036854775807) : IntKind.wrap .i64 ((a : Int) + (b : Int)) = ((a + b : Nat) : Int) := by rw [IntWalk.i64_in _ (by omega)]; omega
end Go.Al
namespace Go.Proofs.Ytlokndnkpleegaa
open Go.Al
theorem CountExprs_con (n : Nat) : ∀ l : List Ex, szE l ≤ n → n ≤ 1000000000000 → PCon env 62 [.isl 5 (l.map Ex.row)] (.int .i64 ((szE l : Nat) : Int)) := by
  induction n using Nat.strongRecOn with
  | _ n ih =>
    intro l hn hb
    have hz := kE_sz l
    refine con_of 22 [.tmp 2] Try.func62 rfl rfl rfl rfl ?_
    refine awp_seq_k fun K hK => ?_
    refine awp_region rfl ?_
    simp only [List.length_map, RR, seval]
    refine hK _ _ ?_; clear hK K
    refine awp_seq_k fun K hK => ?_
    refine awp_region rfl ?_
    simp only [List.length_map, RR, seval]
    refine hK _ _ ?_; clear hK K
    refine awp_seq ?_
    refine awp_seq_k fun K hK => ?_
    refine awp_region rfl ?_
    simp only [List.length_map, RR, seval]
    refine hK _ _ ?_; clear hK K
    refine awp_name fun F1 M1 hfr hH => ?_
    have g0 := hfr 0
    have g2 := hfr 2
    have g3 := hfr 3
    have g4 := hfr 4
    try simp only [List.length_map, RR, seval] at g0 g2 g3 g4
    have f0 := g0; clear g0
    have f2 := g2; clear g2
    have f3 := g3; clear g3
    have f4 := g4; clear g4
    clear hfr hH
    refine awp_block ?_
    refine awp_each [0, 2] (l.length) (fun k fr M => fr 4 = .int .i64 (k : Nat) ∧ fr 3 = .int .i64 ((l.length + kE (l.take k) : Nat) : Int)) ⟨f4, f3⟩ ?_
    rintro k F2 M2 hk0 ⟨fx, f3⟩ agx K0 hK0
    have f0 := (agx 0 rfl).trans f0
    have f2 := (agx 2 rfl).trans f2
    have f4 := fx; clear fx
    have ag0 := agree.refl [0, 2] F2
    clear agx
    refine awp_seq ?_
    refine awp_seq_k fun K hK => ?_
    refine awp_region rfl ?_
    simp only [f0, f2, f4, f3, List.length_map, RR, seval]
    refine hK _ _ ?_; clear hK K
    refine awp_if _ rfl (fun hc => ?_) (fun hc => ?_)
    · have hlt0 : k < l.length := by have := of_decide_eq_true hc; omega
      clear hc
      have hg := getE (List.getElem?_eq_getElem hlt0)
      have htk : l.take (k + 1) = l.take k ++ [l[k]] := List.take_succ_eq_append_getElem hlt0
      have hsz := szE_mem (List.getElem_mem hlt0)
      have hkt := kE_take l (k + 1)
      generalize l[k] = e at hg htk hsz
      have hez := e.sz_eq
      rw [htk, kE_snoc] at hkt
      have hih := ih (szE e.kids) (by omega) e.kids (Nat.le_refl _) (by omega)
      have hw := i64_add (a := l.length + kE (l.take k)) (b := szE e.kids) (by omega)
      refine awp_skip ?_; try simp only [RR]
      refine awp_seq ?_
      refine awp_block ?_
      refine awp_region rfl ?_
      simp only [f0, f2, f4, f3, List.length_map, hg, hw, RR, seval]
      refine awpC_pure' (hih) ?_
      simp only [f0, f2, f4, f3, List.length_map, hg, hw, RR, seval]
      refine awp_region rfl ?_
      simp only [f4, List.length_map, hg, hw, RR, seval]
      try rw [IntWalk.i64_in _ (by omega)]
      refine hK0 _ _ hlt0 ⟨by first | rfl | (simp only [upd_app, seval]; rfl), by rw [htk, kE_snoc]; first | rfl | (simp only [upd_app, seval]; congr 1; omega)⟩ (by repeat (first | exact ag0 | refine agree.upd rfl ?_))
    · have hkn0 : k = l.length := by have := of_decide_eq_false hc; omega
      clear hc
      rw [hkn0, List.take_length, ← hz] at f3
      refine awp_exit ?_; simp only [RR, seval]
      refine awp_seq_k fun K hK => ?_
      refine awp_region rfl ?_
      simp only [f3, List.length_map, RR, seval]
      refine hK _ _ ?_; clear hK K
      refine awp_ret ?_; simp only [bodyQ, aresult, ares, f2, List.length_map, RR, seval]
      refine Gives.pure ?_
      rfl
theorem CountStmts_con (n : Nat) : ∀ l : List Sm, szS l ≤ n → n ≤ 1000000000000 → PCon env 46 [.isl 5 (l.map Sm.row)] (.int .i64 ((szS l : Nat) : Int)) := by
  induction n using Nat.strongRecOn with
  | _ n ih =>
    intro l hn hb
    have hz := kS_sz l
    refine con_of 36 [.tmp 2] Try.func46 rfl rfl rfl rfl ?_
    refine awp_seq_k fun K hK => ?_
    refine awp_region rfl ?_
    simp only [List.length_map, RR, seval]
    refine hK _ _ ?_; clear hK K
    refine awp_seq_k fun K hK => ?_
    refine awp_region rfl ?_
    simp only [List.length_map, RR, seval]
    refine hK _ _ ?_; clear hK K
    refine awp_seq ?_
    refine awp_seq_k fun K hK => ?_
    refine awp_region rfl ?_
    simp only [List.length_map, RR, seval]
    refine hK _ _ ?_; clear hK K
    refine awp_name fun F1 M1 hfr hH => ?_
    have g0 := hfr 0
    have g2 := hfr 2
    have g3 := hfr 3
    have g4 := hfr 4
    try simp only [List.length_map, RR, seval] at g0 g2 g3 g4
    have f0 := g0; clear g0
    have f2 := g2; clear g2
    have f3 := g3; clear g3
    have f4 := g4; clear g4
    clear hfr hH
    refine awp_block ?_
    refine awp_each [0, 2] (l.length) (fun k fr M => fr 4 = .int .i64 (k : Nat) ∧ fr 3 = .int .i64 ((l.length + kS (l.take k) : Nat) : Int)) ⟨f4, f3⟩ ?_
    rintro k F2 M2 hk0 ⟨fx, f3⟩ agx K0 hK0
    have f0 := (agx 0 rfl).trans f0
    have f2 := (agx 2 rfl).trans f2
    have f4 := fx; clear fx
    have ag0 := agree.refl [0, 2] F2
    clear agx
    refine awp_seq ?_
    refine awp_seq_k fun K hK => ?_
    refine awp_region rfl ?_
    simp only [f0, f2, f4, f3, List.length_map, RR, seval]
    refine hK _ _ ?_; clear hK K
    refine awp_if _ rfl (fun hc => ?_) (fun hc => ?_)
    · have hlt0 : k < l.length := by have := of_decide_eq_true hc; omega
      clear hc
      have hg := getS (List.getElem?_eq_getElem hlt0)
      have htk : l.take (k + 1) = l.take k ++ [l[k]] := List.take_succ_eq_append_getElem hlt0
      have hsz := szS_mem (List.getElem_mem hlt0)
      have hkt := kS_take l (k + 1)
      generalize l[k] = e at hg htk hsz
      have hez := e.sz_eq
      rw [htk, kS_snoc] at hkt
      have hx := CountExprs_con (szE e.es) e.es (Nat.le_refl _) (by omega)
      have ht := ih (szS e.thn) (by omega) e.thn (Nat.le_refl _) (by omega)
      have hu := ih (szS e.els) (by omega) e.els (Nat.le_refl _) (by omega)
      have hw1 := i64_add (a := l.length + kS (l.take k)) (b := szE e.es) (by omega)
      have hw2 := i64_add (a := l.length + kS (l.take k) + szE e.es) (b := szS e.thn) (by omega)
      have hw3 := i64_add (a := l.length + kS (l.take k) + szE e.es + szS e.thn) (b := szS e.els) (by omega)
      refine awp_skip ?_; try simp only [RR]
      refine awp_seq ?_
      refine awp_block ?_
      refine awp_region_draw2 (fun x => True) [(0, 3), (1, 3), (2, 3), (3, 3), (4, 3), (5, 1), (8, 3), (9, 3), (10, 3), (11, 3), (12, 0), (15, 3), (16, 3), (17, 3), (18, 3), (19, 0), (6, 1), (7, 3), (13, 1), (14, 3), (20, 1), (21, 3), (22, 3)] [] draws (by kernel_rfl) rfl rfl ?_
      simp only [emitF, markOf, touch_mp, touch_imp, touch_nmp, ne_eq, not_true_eq_false, and_false, false_and, not_false_eq_true, f0, f2, f4, f3, List.length_map, hg, hw1, hw2, hw3, atouch, reduceCtorEq, false_implies, forall_const, implies_true, true_and, RR, seval]
      refine awpC_pure' (hx) ?_
      simp only [emitF, markOf, touch_mp, touch_imp, touch_nmp, ne_eq, not_true_eq_false, and_false, false_and, not_false_eq_true, f0, f2, f4, f3, List.length_map, hg, hw1, hw2, hw3, atouch, reduceCtorEq, false_implies, forall_const, implies_true, true_and, RR, seval]
      refine awpC_pure' (ht) ?_
      simp only [emitF, markOf, touch_mp, touch_imp, touch_nmp, ne_eq, not_true_eq_false, and_false, false_and, not_false_eq_true, f0, f2, f4, f3, List.length_map, hg, hw1, hw2, hw3, atouch, reduceCtorEq, false_implies, forall_const, implies_true, true_and, RR, seval]
      refine awpC_pure' (hu) ?_
      simp only [emitF, markOf, touch_mp, touch_imp, touch_nmp, ne_eq, not_true_eq_false, and_false, false_and, not_false_eq_true, f0, f2, f4, f3, List.length_map, hg, hw1, hw2, hw3, atouch, reduceCtorEq, false_implies, forall_const, implies_true, true_and, RR, seval]
      refine awp_region rfl ?_
      simp only [f4, List.length_map, hg, hw1, hw2, hw3, atouch, reduceCtorEq, false_implies, forall_const, implies_true, true_and, RR, seval]
      try rw [IntWalk.i64_in _ (by omega)]
      refine hK0 _ _ hlt0 ⟨by first | rfl | (simp only [upd_app, seval]; rfl), by rw [htk, kS_snoc]; first | rfl | (simp only [upd_app, seval]; congr 1; omega)⟩ (by repeat (first | exact ag0 | refine agree.upd rfl ?_))
    · have hkn0 : k = l.length := by have := of_decide_eq_false hc; omega
      clear hc
      rw [hkn0, List.take_length, ← hz] at f3
      refine awp_exit ?_; simp only [RR, seval]
      refine awp_seq_k fun K hK => ?_
      refine awp_region rfl ?_
      simp only [f3, List.length_map, RR, seval]
      refine hK _ _ ?_; clear hK K
      refine awp_ret ?_; simp only [bodyQ, aresult, ares, f2, List.length_map, RR, seval]
      refine Gives.pure ?_
      rfl
theorem Size_con (p : Pg) (hv : p.vars.length ≤ 10000) (ha : p.arrs.length ≤ 10000) (hf : p.funs.length ≤ 10000) (hc : ∀ f ∈ p.funs, cntF f ≤ 10000000) : PCon env 31 [p.av] (.int .i64 ((sizP p : Nat) : Int)) := by
  have hz : sizP p = p.vars.length + p.arrs.length + p.funs.length + sumF p.funs := rfl
  generalize sizP p = res at *
  have hav : p.av = .agg p.row := rfl
  have hrow : p.row = [.isl 1 (p.vars.map strRow), .isl 2 (p.arrs.map Ar.row), .isl 5 (p.funs.map Fu.row)] := rfl
  rw [hav, hrow]
  have hw0 := i64_add (a := p.vars.length) (b := p.arrs.length) (by omega)
  have hw1 := i64_add (a := p.vars.length + p.arrs.length) (b := p.funs.length) (by omega)
  refine con_of 49 [.tmp 2] Try.func31 rfl rfl rfl rfl ?_
  refine awp_seq_k fun K hK => ?_
  refine awp_region rfl ?_
  simp only [List.length_map, hw0, hw1, RR, seval]
  refine awpN_intro fun b1 hn1 => ?_
  simp only [List.length_map, hw0, hw1, RR, seval]
  refine hK _ _ ?_; clear hK K
  refine awp_seq_k fun K hK => ?_
  refine awp_region rfl ?_
  simp only [List.length_map, hw0, hw1, RR, seval]
  refine hK _ _ ?_; clear hK K
  refine awp_seq ?_
  refine awp_seq_k fun K hK => ?_
  refine awp_region rfl ?_
  simp only [List.length_map, hw0, hw1, RR, seval]
  refine hK _ _ ?_; clear hK K
  refine awp_name fun F1 M1 hfr hH => ?_
  have g1 := hfr 1
  have g2 := hfr 2
  have g3 := hfr 3
  have g4 := hfr 4
  have gb1 := hH b1
  try simp only [List.length_map, hw0, hw1, RR, seval] at g1 g2 g3 g4 gb1
  have f1 := g1; clear g1
  have f2 := g2; clear g2
  have f3 := g3; clear g3
  have f4 := g4; clear g4
  have hb1 := gb1; clear gb1
  clear hfr hH
  refine awp_block ?_
  refine awp_each [1, 2] (p.funs.length) (fun k fr M => fr 4 = .int .i64 (k : Nat) ∧ M b1 = M1 b1 ∧ fr 3 = .int .i64 ((p.vars.length + p.arrs.length + p.funs.length + sumF (p.funs.take k) : Nat) : Int)) ⟨f4, rfl, f3⟩ ?_
  rintro k F2 M2 hk0 ⟨fx, gb1, f3⟩ agx K0 hK0
  have f1 := (agx 1 rfl).trans f1
  have f2 := (agx 2 rfl).trans f2
  have f4 := fx; clear fx
  have hb1 := gb1.trans hb1
  have ag0 := agree.refl [1, 2] F2
  have e0_b1 := gb1; clear gb1
  clear agx
  refine awp_seq ?_
  refine awp_seq_k fun K hK => ?_
  refine awp_region rfl ?_
  simp only [f1, f2, f4, f3, hb1, List.length_map, hw0, hw1, RR, seval]
  refine hK _ _ ?_; clear hK K
  refine awp_if _ rfl (fun hc => ?_) (fun hc => ?_)
  · have hlt0 : k < p.funs.length := by have := of_decide_eq_true hc; omega
    clear hc
    have hg := getF (List.getElem?_eq_getElem hlt0)
    have htk : p.funs.take (k + 1) = p.funs.take k ++ [p.funs[k]] := List.take_succ_eq_append_getElem hlt0
    have hsm := sumF_le 10000000 (p.funs.take k) (fun f hf => hc f (List.mem_of_mem_take hf))
    have hsl : (p.funs.take k).length ≤ 10000 := by rw [List.length_take]; omega
    have hcf := hc _ (List.getElem_mem hlt0)
    generalize p.funs[k] = e at hg htk hcf
    have hce : cntF e = e.params.length + e.locs.length + szS e.body := rfl
    have hbd : (p.funs.take k).length * 10000000 ≤ 10000 * 10000000 := Nat.mul_le_mul_right _ hsl
    have hx := CountStmts_con (szS e.body) e.body (Nat.le_refl _) (by omega)
    have hq1 := i64_add (a := p.vars.length + p.arrs.length + p.funs.length + sumF (p.funs.take k)) (b := e.params.length) (by omega)
    have hq2 := i64_add (a := p.vars.length + p.arrs.length + p.funs.length + sumF (p.funs.take k) + e.params.length) (b := e.locs.length) (by omega)
    have hq3 := i64_add (a := p.vars.length + p.arrs.length + p.funs.length + sumF (p.funs.take k) + e.params.length + e.locs.length) (b := szS e.body) (by omega)
    refine awp_skip ?_; try simp only [RR]
    refine awp_seq ?_
    refine awp_block ?_
    refine awp_region_draw2 (fun x => x ≠ b1) [(0, 3), (1, 3), (2, 0), (3, 3), (4, 3), (5, 3), (6, 0), (7, 3), (8, 3), (9, 3), (10, 0), (11, 3), (12, 3), (13, 3), (14, 0), (15, 3), (16, 3), (17, 3), (18, 1), (19, 3), (20, 3), (21, 3), (22, 1), (23, 1), (24, 3), (25, 3)] [] draws (by kernel_rfl) rfl rfl ?_
    simp only [emitF, markOf, touch_mp, touch_imp, touch_nmp, ne_eq, not_true_eq_false, and_false, false_and, not_false_eq_true, f1, f2, f4, f3, hb1, List.length_map, hw0, hw1, hg, hq1, hq2, hq3, RR, seval]
    refine awpC_pure' (hx) ?_
    simp only [emitF, markOf, touch_mp, touch_imp, touch_nmp, ne_eq, not_true_eq_false, and_false, false_and, not_false_eq_true, f1, f2, f4, f3, hb1, List.length_map, hw0, hw1, hg, hq1, hq2, hq3, RR, seval]
    refine awp_region rfl ?_
    simp only [f4, List.length_map, hw0, hw1, hg, hq1, hq2, hq3, RR, seval]
    try rw [IntWalk.i64_in _ (by omega)]
    refine hK0 _ _ hlt0 ⟨by first | rfl | (simp only [upd_app, seval]; rfl), (by first | exact e0_b1 | (simp only [upd_app, seval]; first | done | exact e0_b1)), by rw [htk, sumF_snoc]; first | rfl | (simp only [upd_app, seval]; congr 1; omega)⟩ (by repeat (first | exact ag0 | refine agree.upd rfl ?_))
  · have hkn0 : k = p.funs.length := by have := of_decide_eq_false hc; omega
    clear hc
    rw [hkn0, List.take_length, ← hz] at f3
    refine awp_exit ?_; simp only [RR, seval]
    refine awp_seq_k fun K hK => ?_
    refine awp_region rfl ?_
    simp only [f3, List.length_map, hw0, hw1, RR, seval]
    refine hK _ _ ?_; clear hK K
    refine awp_ret ?_; simp only [bodyQ, aresult, ares, f2, List.length_map, hw0, hw1, RR, seval]
    refine Gives.pure ?_
    rfl
/-- small -/
def smallB (p : Pg) (inp : Str) : Bool := decide (inp.length ≤ 60) && decide (p.vars.length ≤ 20) && decide (p.arrs.length ≤ 10) && decide (soundT p = 0) && decide (sizP p ≤ 120)
/-- what the bulk gives -/
structure Bulk (p : Pg) : Prop where
  ok : p.ok
  fs : ∀ f ∈ p.funs, f.params.length ≤ 1100000 ∧ f.locs.length ≤ 1100000 ∧ szS f.body ≤ 1000000
theorem Bulk.few {p : Pg} (h : Bulk p) (hv : p.vars.length ≤ 20) (ha : p.arrs.length ≤ 10) (hr : rightP p = true) : p.few := by
  simp only [rightP, Bool.and_eq_true, decide_eq_true_eq, List.all_eq_true] at hr
  refine ⟨h.ok, by omega, by omega, by omega, fun f hf => ?_⟩
  have := h.fs f hf
  have h2 := hr.2 f hf
  simp only [rightF, Bool.and_eq_true, decide_eq_true_eq] at h2
  omega
theorem small_few {p : Pg} (hp : Bulk p) {inp : Str} (h : smallB p inp = true) : p.few ∧ soundT p = 0 ∧ inp.length ≤ 60 := by
  simp only [smallB, Bool.and_eq_true, decide_eq_true_eq] at h
  exact ⟨hp.few h.1.1.1.2 h.1.1.2 (sound_all h.1.2).1, h.1.2, h.1.1.1.1⟩
theorem small_con (p : Pg) (hp : Bulk p) (inp : Str) : PCon env 12 [p.av, .str inp] (.bool (smallB p inp)) := by
  have hS := fun h1 h2 => rSound_con' p hp.ok (fun f hf => (hp.fs f hf).1) (hp.few h1 h2)
  have hZ := fun h1 h2 (h3 : soundT p = 0) => Size_con p (by have := (hp.few h1 h2 (sound_all h3).1).v; omega) (by have := (hp.few h1 h2 (sound_all h3).1).a; omega) (hp.few h1 h2 (sound_all h3).1).f (fun f hf => by have := hp.fs f hf; simp only [cntF]; omega)
  have hB : smallB p inp = (decide (inp.length ≤ 60) && decide (p.vars.length ≤ 20) && decide (p.arrs.length ≤ 10) && decide (soundT p = 0) && decide (sizP p ≤ 120)) := rfl
  rw [hB]
  have c1 : decide ((inp.length : Int) ≤ 60) = decide (inp.length ≤ 60) := decide_eq_decide.2 (by omega)
  have c2 : decide ((p.vars.length : Int) ≤ 20) = decide (p.vars.length ≤ 20) := decide_eq_decide.2 (by omega)
  have c3 : decide ((p.arrs.length : Int) ≤ 10) = decide (p.arrs.length ≤ 10) := decide_eq_decide.2 (by omega)
  have c5 : decide ((sizP p : Int) ≤ 120) = decide (sizP p ≤ 120) := decide_eq_decide.2 (by omega)
  have hav : p.av = .agg p.row := rfl
  have hrow : p.row = [.isl 1 (p.vars.map strRow), .isl 2 (p.arrs.map Ar.row), .isl 5 (p.funs.map Fu.row)] := rfl
  rw [hav, hrow] at *
  clear hB hav hrow
  generalize sizP p = z at *
  by_cases g1 : inp.length ≤ 60
  rotate_left
  · have d1 := decide_eq_false g1
    rw [d1] at c1
    rw [d1]
    refine con_of 30 [.tmp 4] Try.func12 rfl rfl rfl rfl ?_
    refine awp_seq_k fun K hK => ?_
    refine awp_region rfl ?_
    simp only [List.length_map, c1, RR, seval]
    refine awpN_intro fun b2 hn2 => ?_
    simp only [List.length_map, c1, RR, seval]
    refine hK _ _ ?_; clear hK K
    refine awp_seq_k fun K hK => ?_
    refine awp_region rfl ?_
    simp only [List.length_map, c1, RR, seval]
    all_goals try ((first | refine awpG_splitN (fun h => ?_) (fun h => ?_) | refine awpG_split (fun h => ?_) (fun h => ?_)) <;> simp only [h, List.length_map, c1, RR, seval])
    all_goals try ((first | refine awpG_splitN (fun h => ?_) (fun h => ?_) | refine awpG_split (fun h => ?_) (fun h => ?_)) <;> simp only [h, List.length_map, c1, RR, seval])
    all_goals try ((first | refine awpG_splitN (fun h => ?_) (fun h => ?_) | refine awpG_split (fun h => ?_) (fun h => ?_)) <;> simp only [h, List.length_map, c1, RR, seval])
    all_goals try ((first | refine awpG_splitN (fun h => ?_) (fun h => ?_) | refine awpG_split (fun h => ?_) (fun h => ?_)) <;> simp only [h, List.length_map, c1, RR, seval])
    all_goals
      refine hK _ _ ?_; clear hK K
      refine awp_ret ?_; simp only [bodyQ, aresult, ares, List.length_map, c1, RR, seval]
      refine Gives.pure ?_
      rfl
  have d1 := decide_eq_true g1
  rw [d1] at c1
  rw [d1]
  by_cases g2 : p.vars.length ≤ 20
  rotate_left
  · have d2 := decide_eq_false g2
    rw [d2] at c2
    rw [d2]
    refine con_of 30 [.tmp 4] Try.func12 rfl rfl rfl rfl ?_
    refine awp_seq_k fun K hK => ?_
    refine awp_region rfl ?_
    simp only [List.length_map, c1, c2, RR, seval]
    refine awpN_intro fun b2 hn2 => ?_
    simp only [List.length_map, c1, c2, RR, seval]
    refine hK _ _ ?_; clear hK K
    refine awp_seq_k fun K hK => ?_
    refine awp_region rfl ?_
    simp only [List.length_map, c1, c2, RR, seval]
    all_goals try ((first | refine awpG_splitN (fun h => ?_) (fun h => ?_) | refine awpG_split (fun h => ?_) (fun h => ?_)) <;> simp only [h, List.length_map, c1, c2, RR, seval])
    all_goals try ((first | refine awpG_splitN (fun h => ?_) (fun h => ?_) | refine awpG_split (fun h => ?_) (fun h => ?_)) <;> simp only [h, List.length_map, c1, c2, RR, seval])
    all_goals try ((first | refine awpG_splitN (fun h => ?_) (fun h => ?_) | refine awpG_split (fun h => ?_) (fun h => ?_)) <;> simp only [h, List.length_map, c1, c2, RR, seval])
    all_goals try ((first | refine awpG_splitN (fun h => ?_) (fun h => ?_) | refine awpG_split (fun h => ?_) (fun h => ?_)) <;> simp only [h, List.length_map, c1, c2, RR, seval])
    all_goals
      refine hK _ _ ?_; clear hK K
      refine awp_ret ?_; simp only [bodyQ, aresult, ares, List.length_map, c1, c2, RR, seval]
      refine Gives.pure ?_
      rfl
  have d2 := decide_eq_true g2
  rw [d2] at c2
  rw [d2]
  by_cases g3 : p.arrs.length ≤ 10
  rotate_left
  · have d3 := decide_eq_false g3
    rw [d3] at c3
    rw [d3]
    refine con_of 30 [.tmp 4] Try.func12 rfl rfl rfl rfl ?_
    refine awp_seq_k fun K hK => ?_
    refine awp_region rfl ?_
    simp only [List.length_map, c1, c2, c3, RR, seval]
    refine awpN_intro fun b2 hn2 => ?_
    simp only [List.length_map, c1, c2, c3, RR, seval]
    refine hK _ _ ?_; clear hK K
    refine awp_seq_k fun K hK => ?_
    refine awp_region rfl ?_
    simp only [List.length_map, c1, c2, c3, RR, seval]
    all_goals try ((first | refine awpG_splitN (fun h => ?_) (fun h => ?_) | refine awpG_split (fun h => ?_) (fun h => ?_)) <;> simp only [h, List.length_map, c1, c2, c3, RR, seval])
    all_goals try ((first | refine awpG_splitN (fun h => ?_) (fun h => ?_) | refine awpG_split (fun h => ?_) (fun h => ?_)) <;> simp only [h, List.length_map, c1, c2, c3, RR, seval])
    all_goals try ((first | refine awpG_splitN (fun h => ?_) (fun h => ?_) | refine awpG_split (fun h => ?_) (fun h => ?_)) <;> simp only [h, List.length_map, c1, c2, c3, RR, seval])
    all_goals try ((first | refine awpG_splitN (fun h => ?_) (fun h => ?_) | refine awpG_split (fun h => ?_) (fun h => ?_)) <;> simp only [h, List.length_map, c1, c2, c3, RR, seval])
    all_goals
      refine hK _ _ ?_; clear hK K
      refine awp_ret ?_; simp only [bodyQ, aresult, ares, List.length_map, c1, c2, c3, RR, seval]
      refine Gives.pure ?_
      rfl
  have d3 := decide_eq_true g3
  rw [d3] at c3
  rw [d3]
  have hS := hS g2 g3
  by_cases g4 : soundT p = 0
  rotate_left
  · have d4 := decide_eq_false g4
    rw [d4]
    refine con_of 30 [.tmp 4] Try.func12 rfl rfl rfl rfl ?_
    refine awp_seq_k fun K hK => ?_
    refine awp_region rfl ?_
    simp only [List.length_map, c1, c2, c3, d4, RR, seval]
    refine awpN_intro fun b2 hn2 => ?_
    simp only [List.length_map, c1, c2, c3, d4, RR, seval]
    refine hK _ _ ?_; clear hK K
    refine awp_seq_k fun K hK => ?_
    refine awp_region rfl ?_
    simp only [List.length_map, c1, c2, c3, d4, RR, seval]
    all_goals try ((first | refine awpG_splitN (fun h => ?_) (fun h => ?_) | refine awpG_split (fun h => ?_) (fun h => ?_)) <;> simp only [h, List.length_map, c1, c2, c3, d4, RR, seval])
    all_goals try ((first | refine awpG_splitN (fun h => ?_) (fun h => ?_) | refine awpG_split (fun h => ?_) (fun h => ?_)) <;> simp only [h, List.length_map, c1, c2, c3, d4, RR, seval])
    all_goals try ((first | refine awpG_splitN (fun h => ?_) (fun h => ?_) | refine awpG_split (fun h => ?_) (fun h => ?_)) <;> simp only [h, List.length_map, c1, c2, c3, d4, RR, seval])
    all_goals try (refine awpC_pure' (hS) ?_; simp only [List.length_map, c1, c2, c3, d4, RR, seval])
    all_goals try ((first | refine awpG_splitN (fun h => ?_) (fun h => ?_) | refine awpG_split (fun h => ?_) (fun h => ?_)) <;> simp only [h, List.length_map, c1, c2, c3, d4, RR, seval])
    all_goals
      refine hK _ _ ?_; clear hK K
      refine awp_ret ?_; simp only [bodyQ, aresult, ares, List.length_map, c1, c2, c3, d4, RR, seval]
      refine Gives.pure ?_
      rfl
  have hZ := hZ g2 g3 g4
  rw [g4] at hS
  rw [g4]
  refine con_of 30 [.tmp 4] Try.func12 rfl rfl rfl rfl ?_
  refine awp_seq_k fun K hK => ?_
  refine awp_region rfl ?_
  simp only [List.length_map, c1, c2, c3, c5, RR, seval]
  refine awpN_intro fun b2 hn2 => ?_
  simp only [List.length_map, c1, c2, c3, c5, RR, seval]
  refine hK _ _ ?_; clear hK K
  refine awp_seq_k fun K hK => ?_
  refine awp_region rfl ?_
  simp only [List.length_map, c1, c2, c3, c5, RR, seval]
  all_goals try ((first | refine awpG_splitN (fun h => ?_) (fun h => ?_) | refine awpG_split (fun h => ?_) (fun h => ?_)) <;> simp only [h, List.length_map, c1, c2, c3, c5, RR, seval])
  all_goals try ((first | refine awpG_splitN (fun h => ?_) (fun h => ?_) | refine awpG_split (fun h => ?_) (fun h => ?_)) <;> simp only [h, List.length_map, c1, c2, c3, c5, RR, seval])
  all_goals try ((first | refine awpG_splitN (fun h => ?_) (fun h => ?_) | refine awpG_split (fun h => ?_) (fun h => ?_)) <;> simp only [h, List.length_map, c1, c2, c3, c5, RR, seval])
  all_goals try (refine awpC_pure' (hS) ?_; simp only [List.length_map, c1, c2, c3, c5, RR, seval])
  all_goals try ((first | refine awpG_splitN (fun h => ?_) (fun h => ?_) | refine awpG_split (fun h => ?_) (fun h => ?_)) <;> simp only [h, List.length_map, c1, c2, c3, c5, RR, seval])
  all_goals try (refine awpC_pure' (hZ) ?_; simp only [List.length_map, c1, c2, c3, c5, RR, seval])
  all_goals
    refine hK _ _ ?_; clear hK K
    refine awp_ret ?_; simp only [bodyQ, aresult, ares, List.length_map, c1, c2, c3, c5, RR, seval]
    refine Gives.pure ?_
    rfl
end Go.Proofs.Ytlokndnkpleegaa
